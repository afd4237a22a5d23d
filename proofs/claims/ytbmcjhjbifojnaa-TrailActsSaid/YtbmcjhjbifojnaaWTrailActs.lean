/- The law TrailActs. -/
import Derived.Test.YtbmcjhjbifojnaaWTrail8
namespace Go.Proofs.Ytbmcjhjbifojnaa
open Av
attribute [local irreducible] awp awpOpers
set_option linter.unusedSimpArgs false
set_option linter.unusedVariables false
set_option maxRecDepth 100000
set_option maxHeartbeats 4000000
theorem law_TrailActs (D : List (List Rg)) (l : List Act10) (hl : D.length ≤ 9223372036854775807) (hll : l.length ≤ 9223372036854775807) (ha : ∀ a ∈ l, 0 ≤ a.1 ∧ a.1 ≤ 255) :
    Ctr Try.prog 3 [eDoms D, eActs l] [] (.bool true) [] := by
  refine call_pure Try.func3 Try.call3 e_law10_TrailActs ?_
  simp +contextual -implicitDefEqProofs (maxSteps := 1000000) only [c_law10_TrailActs, eDoms, eActs, sm, sn, sxx, smp, seval]
  refine callA_rule law10_alive (wkL_refl _) rfl ?_
  simp +contextual -implicitDefEqProofs (maxSteps := 1000000) only [sm, sn, sxx, smp, seval]
  refine callA_rule (law10_Fits D hl) (wkL_refl _) rfl ?_
  cases hf : fitT D
  · simp +contextual -implicitDefEqProofs (maxSteps := 1000000) only [sm, sn, sxx, smp, seval]
  obtain ⟨f1, f2⟩ := fitT_len hf
  have hd : ∀ r ∈ D, r.length ≤ 1000000000000 := fun r hr => by have := f2 r hr; omega
  cases hn : newB D
  · simp +contextual -implicitDefEqProofs (maxSteps := 1000000) only [sm, sn, sxx, smp, seval]
    refine callO_rule (New_none D hd hn) rfl (wkL_refl _) rfl rfl ?_
    simp +contextual -implicitDefEqProofs (maxSteps := 1000000) only [sm, sn, sxx, smp, seval, wkN_nilp]
    refine callA_rule (ref10_Right D (by omega) hd) (wkL_refl _) rfl ?_
    simp +contextual -implicitDefEqProofs (maxSteps := 1000000) only [sm, sn, sxx, smp, seval, hn, beq_self_eq_true]
    refine callA_rule (ref10_New D (by omega)) (wkL_refl _) rfl ?_
    simp +contextual -implicitDefEqProofs (maxSteps := 1000000) only [sm, sn, sxx, smp, seval, eSt_eq]
    refine loop_rule (fun k : Nat => k = 0) (fun _ => tm 162 [(5, .nilp), (7, .int .i64 0)]) (fun _ => []) (fun k => k) 0 rfl ⟨[], by decide, rfl, ?_, ?_⟩ ?_
    · simp +contextual -implicitDefEqProofs (maxSteps := 1000000) only [sm, sn, sxx, smp, seval]
    · simp +contextual -implicitDefEqProofs (maxSteps := 1000000) only [sm, sn, sxx, smp, seval]
    · rintro k rfl
      simp +contextual -implicitDefEqProofs (maxSteps := 1000000) only [sm, sn, sxx, smp, seval]
  obtain ⟨n1, n2⟩ := (newB_iff D).1 hn
  simp +contextual -implicitDefEqProofs (maxSteps := 1000000) only [sm, sn, sxx, smp, seval]
  refine callO_rule (New_ctr D n1 hd n2) rfl (wkL_refl _) rfl (by simp +contextual -implicitDefEqProofs (maxSteps := 1000000) only [sm, sn, sxx, smp, seval, nB_eq]) ?_
  simp +contextual -implicitDefEqProofs (maxSteps := 1000000) only [sm, sn, sxx, smp, seval, nB_eq]
  refine callA_rule (ref10_Right D (by omega) hd) (wkL_refl _) rfl ?_
  simp +contextual -implicitDefEqProofs (maxSteps := 1000000) only [sm, sn, sxx, smp, seval, hn, beq_self_eq_true]
  refine callA_rule (ref10_New D (by omega)) (wkL_refl _) rfl ?_
  simp +contextual -implicitDefEqProofs (maxSteps := 1000000) only [sm, sn, sxx, smp, seval, eSt_eq]
  have hs0 : (List.replicate D.length false).length = D.length := List.length_replicate
  refine loop_rule (fun s : Nat × S10 => s.1 ≤ l.length ∧ s.1 ≤ 700 ∧ OK10 s.1 s.2) (fun s => tm 162 [(1, .list 3 (l.map eAct)), (5, .ptr 5 0 0 0), (6, .ptr 3 5 0 0), (7, .int .i64 s.1)])
    (fun s => sB s.2.d s.2.tr s.2.lv s.2.ks ++ [some (3, [eSt s.2.d s.2.W s.2.F])]) (fun s => l.length - s.1) (0, ⟨D, [], [], [], [], List.replicate D.length false⟩) ⟨Nat.zero_le _, Nat.zero_le _, OK10.start n1 (fun r hr => by have := f2 r hr; omega)⟩ ⟨[0, 1, 3, 4, 2, 5], by decide, rfl, ?_, ?_⟩ ?_
  · have en : encK [] = 0 := rfl
    simp +contextual -implicitDefEqProofs (maxSteps := 1000000) only [sm, sn, sxx, smp, seval, sB_eq, eSt_eq, flatL_Doms, flatL_Bo, flatL_Ent, en]
  · simp +contextual -implicitDefEqProofs (maxSteps := 1000000) only [sm, sn, sxx, smp, seval, sB_eq, eSt_eq, Int.natCast_zero]
  · rintro ⟨i, ⟨d, tr, lv, ks, W, F⟩⟩ ⟨hi, hi7, hok⟩
    simp only at hi hi7 hok
    by_cases hlt : i < l.length
    · by_cases hlt7 : i < 700
      · have hlt' : (i : Int) < (l.length : Int) := by omega
        have hlt7' : (i : Int) < 700 := by omega
        have e2 : IntKind.i64.wrap ((i : Int) + 1) = ((i + 1 : Nat) : Int) := by rw [wrap_i64] <;> omega
        obtain ⟨⟨k, x, V⟩, ha0⟩ : ∃ a, l[i]? = some a := ⟨_, List.getElem?_eq_getElem hlt⟩
        have hk := ha _ (List.mem_of_getElem? ha0)
        simp only at hk
        simp +contextual -implicitDefEqProofs (maxSteps := 1000000) only [sm, sn, sxx, smp, seval, sB_eq, eSt_eq, hlt', hlt7', hlt, ha0, om_Act]
        have hdl0 : d.length ≤ 64 := hok.dl
        have htl0 : tr.length ≤ i := hok.tl
        have hfl0 : F.length = d.length := hok.same.flen
        by_cases k0 : k.tmod 4 = 0
        · by_cases hV : (300 : Int) < (V.length : Int)
          · simp +contextual -implicitDefEqProofs (maxSteps := 1000000) only [sm, sn, sxx, smp, seval, k0, hV]
            refine ⟨(i + 1, ⟨d, tr, lv, ks, W, F⟩), ⟨by omega, by omega, hok.mono (Nat.le_succ i)⟩, by simp only; omega, [0, 1, 2, 3, 4, 5], by decide, rfl, ?_, ?_⟩
            · simp +contextual -implicitDefEqProofs (maxSteps := 1000000) only [sm, sn, sxx, smp, seval, sB_eq, eSt_eq, flatL_Doms, flatL_Bo, flatL_Ent]
            · simp +contextual -implicitDefEqProofs (maxSteps := 1000000) only [sm, sn, sxx, smp, seval, sB_eq, eSt_eq, e2]
          · have hVb : V.length ≤ 1000000000000 := by omega
            simp +contextual -implicitDefEqProofs (maxSteps := 1000000) only [sm, sn, sxx, smp, seval, k0, hV]
            rcases narrow_any hok (by omega) x V hVb with ⟨ok, e, ⟨d', tr', lv', ks', W', F'⟩, hc, hr, hok', -⟩ | ⟨⟨d', tr', lv', ks', W', F'⟩, hc, hr, hok', -, -⟩
            · simp only [NarC, NarR] at hc hr
              refine callM_rule [0, 1, 2, 3, 4] hc (by decide) ?_ ?_ ?_ ?_ ?_ ?_
              · simp +contextual -implicitDefEqProofs (maxSteps := 1000000) only [sm, sn, sxx, smp, seval, sB_eq, eSt_eq, flatL_Doms, flatL_Bo, flatL_Ent, eRgs]
              · simp +contextual -implicitDefEqProofs (maxSteps := 1000000) only [sm, sn, sxx, smp, seval, sB_eq, eSt_eq, flatL_Doms, flatL_Bo, flatL_Ent, eRgs]
              · simp +contextual -implicitDefEqProofs (maxSteps := 1000000) only [sm, sn, sxx, smp, seval, sB_eq, eSt_eq, flatL_Doms, flatL_Bo, flatL_Ent, eRgs]
              · simp +contextual -implicitDefEqProofs (maxSteps := 1000000) only [sm, sn, sxx, smp, seval, sB_eq, eSt_eq, flatL_Doms, flatL_Bo, flatL_Ent, eRgs]
              · simp +contextual -implicitDefEqProofs (maxSteps := 1000000) only [sm, sn, sxx, smp, seval, sB_eq, eSt_eq, flatL_Doms, flatL_Bo, flatL_Ent, eRgs]
              simp +contextual -implicitDefEqProofs (maxSteps := 1000000) only [sm, sn, sxx, smp, seval, sB_eq, eSt_eq, flatL_Doms, flatL_Bo, flatL_Ent]
              refine callA_rule hr (by simp +contextual -implicitDefEqProofs (maxSteps := 1000000) only [sm, sn, sxx, smp, seval, sB_eq, eSt_eq, flatL_Doms, flatL_Bo, flatL_Ent, eRgs]) rfl ?_
              simp +contextual -implicitDefEqProofs (maxSteps := 1000000) only [sm, sn, sxx, smp, seval, sB_eq, eSt_eq, flatL_Doms, flatL_Bo, flatL_Ent, beq_self_eq_true]
              have hrow2 : ∀ r ∈ d', r.length ≤ 1048577 := hok'.row
              have hdl2 : (d').length ≤ 64 := hok'.dl
              have hgl := get_len x hrow2
              have hG := Get_ctr (d') (tr') (lv') (ks') x (fun r hr => by have := hrow2 r hr; omega)
              have hg := law10_get (d') (W') (F') x
              generalize (if 0 ≤ x then List.getD (d') x.toNat [] else []) = G at hgl hG hg
              have hwl : (W').length = (lv').length := hok'.same.wlen
              refine callP_rule [0, 1, 2, 3, 4] (All_ctr (d') (tr') (lv') (ks') (fun r hr => by have := hrow2 r hr; omega) (by omega)) (by decide) ?_ ?_ ?_ ?_ ?_ ?_ ?_
              · simp +contextual -implicitDefEqProofs (maxSteps := 1000000) only [sm, sn, sxx, smp, seval, sB_eq, eSt_eq, flatL_Doms, flatL_Bo, flatL_Ent, eDoms, eRgs]
              · simp +contextual -implicitDefEqProofs (maxSteps := 1000000) only [sm, sn, sxx, smp, seval, sB_eq, eSt_eq, flatL_Doms, flatL_Bo, flatL_Ent, eDoms, eRgs]
              · simp +contextual -implicitDefEqProofs (maxSteps := 1000000) only [sm, sn, sxx, smp, seval, sB_eq, eSt_eq, flatL_Doms, flatL_Bo, flatL_Ent, eDoms, eRgs]
              · simp +contextual -implicitDefEqProofs (maxSteps := 1000000) only [sm, sn, sxx, smp, seval, sB_eq, eSt_eq, flatL_Doms, flatL_Bo, flatL_Ent, eDoms, eRgs]
              · simp +contextual -implicitDefEqProofs (maxSteps := 1000000) only [sm, sn, sxx, smp, seval, sB_eq, eSt_eq, flatL_Doms, flatL_Bo, flatL_Ent, eDoms, eRgs]
              · simp +contextual -implicitDefEqProofs (maxSteps := 1000000) only [sm, sn, sxx, smp, seval, sB_eq, eSt_eq, flatL_Doms, flatL_Bo, flatL_Ent, eDoms, eRgs]
              simp +contextual -implicitDefEqProofs (maxSteps := 1000000) only [sm, sn, sxx, smp, seval, sB_eq, eSt_eq, flatL_Doms, flatL_Bo, flatL_Ent, eDoms]
              refine callA_rule (law08_Doms (d') (d') (by omega) (fun r hr => by have := hrow2 r hr; omega)) (wkL_refl _) rfl ?_
              simp +contextual -implicitDefEqProofs (maxSteps := 1000000) only [sm, sn, sxx, smp, seval, sB_eq, eSt_eq, flatL_Doms, flatL_Bo, flatL_Ent]
              refine callV_rule (Level_ctr (d') (tr') (lv')) ?_ rfl ?_
              · simp +contextual -implicitDefEqProofs (maxSteps := 1000000) only [sm, sn, sxx, smp, seval, sV_eq, flatL_Ent]
              simp +contextual -implicitDefEqProofs (maxSteps := 1000000) only [sm, sn, sxx, smp, seval, sB_eq, eSt_eq, flatL_Doms, flatL_Bo, flatL_Ent, hwl]
              refine callV_rule (Len_ctr (d') (tr') (lv')) ?_ rfl ?_
              · simp +contextual -implicitDefEqProofs (maxSteps := 1000000) only [sm, sn, sxx, smp, seval, sV_eq, flatL_Ent]
              simp +contextual -implicitDefEqProofs (maxSteps := 1000000) only [sm, sn, sxx, smp, seval, sB_eq, eSt_eq, flatL_Doms, flatL_Bo, flatL_Ent]
              refine callP_rule [0, 1, 2, 3, 4] hG (by decide) ?_ ?_ ?_ ?_ ?_ ?_ ?_
              · simp +contextual -implicitDefEqProofs (maxSteps := 1000000) only [sm, sn, sxx, smp, seval, sB_eq, eSt_eq, flatL_Doms, flatL_Bo, flatL_Ent, eRgs]
              · simp +contextual -implicitDefEqProofs (maxSteps := 1000000) only [sm, sn, sxx, smp, seval, sB_eq, eSt_eq, flatL_Doms, flatL_Bo, flatL_Ent, eRgs]
              · simp +contextual -implicitDefEqProofs (maxSteps := 1000000) only [sm, sn, sxx, smp, seval, sB_eq, eSt_eq, flatL_Doms, flatL_Bo, flatL_Ent, eRgs]
              · simp +contextual -implicitDefEqProofs (maxSteps := 1000000) only [sm, sn, sxx, smp, seval, sB_eq, eSt_eq, flatL_Doms, flatL_Bo, flatL_Ent, eRgs]
              · simp +contextual -implicitDefEqProofs (maxSteps := 1000000) only [sm, sn, sxx, smp, seval, sB_eq, eSt_eq, flatL_Doms, flatL_Bo, flatL_Ent, eRgs]
              · simp +contextual -implicitDefEqProofs (maxSteps := 1000000) only [sm, sn, sxx, smp, seval, sB_eq, eSt_eq, flatL_Doms, flatL_Bo, flatL_Ent, eRgs]
              simp +contextual -implicitDefEqProofs (maxSteps := 1000000) only [sm, sn, sxx, smp, seval, sB_eq, eSt_eq, flatL_Doms, flatL_Bo, flatL_Ent, eRgs]
              refine callA_rule hg (by simp +contextual -implicitDefEqProofs (maxSteps := 1000000) only [sm, sn, sxx, smp, seval, sB_eq, eSt_eq, flatL_Doms, flatL_Bo, flatL_Ent, eRgs]) rfl ?_
              simp +contextual -implicitDefEqProofs (maxSteps := 1000000) only [sm, sn, sxx, smp, seval, eRgs]
              refine callA_rule (law08_Ranges _ _ hgl) (wkL_refl _) rfl ?_
              simp +contextual -implicitDefEqProofs (maxSteps := 1000000) only [sm, sn, sxx, smp, seval, sB_eq, eSt_eq, flatL_Doms, flatL_Bo, flatL_Ent, e2]
              refine ⟨(i + 1, ⟨d', tr', lv', ks', W', F'⟩), ⟨by omega, by omega, hok'⟩, by simp only; omega, [0, 1, 2, 3, 4, 5], by decide, rfl, ?_, ?_⟩
              · simp +contextual -implicitDefEqProofs (maxSteps := 1000000) only [sm, sn, sxx, smp, seval, sB_eq, eSt_eq, flatL_Doms, flatL_Bo, flatL_Ent]
              · simp +contextual -implicitDefEqProofs (maxSteps := 1000000) only [sm, sn, sxx, smp, seval, sB_eq, eSt_eq, flatL_Doms, flatL_Bo, flatL_Ent]
            · simp only [NarC, NarR] at hc hr
              refine callM_rule [0, 1, 2, 3, 4] hc (by decide) ?_ ?_ ?_ ?_ ?_ ?_
              · simp +contextual -implicitDefEqProofs (maxSteps := 1000000) only [sm, sn, sxx, smp, seval, sB_eq, eSt_eq, flatL_Doms, flatL_Bo, flatL_Ent, eRgs]
              · simp +contextual -implicitDefEqProofs (maxSteps := 1000000) only [sm, sn, sxx, smp, seval, sB_eq, eSt_eq, flatL_Doms, flatL_Bo, flatL_Ent, eRgs]
              · simp +contextual -implicitDefEqProofs (maxSteps := 1000000) only [sm, sn, sxx, smp, seval, sB_eq, eSt_eq, flatL_Doms, flatL_Bo, flatL_Ent, eRgs]
              · simp +contextual -implicitDefEqProofs (maxSteps := 1000000) only [sm, sn, sxx, smp, seval, sB_eq, eSt_eq, flatL_Doms, flatL_Bo, flatL_Ent, eRgs]
              · simp +contextual -implicitDefEqProofs (maxSteps := 1000000) only [sm, sn, sxx, smp, seval, sB_eq, eSt_eq, flatL_Doms, flatL_Bo, flatL_Ent, eRgs]
              simp +contextual -implicitDefEqProofs (maxSteps := 1000000) only [sm, sn, sxx, smp, seval, sB_eq, eSt_eq, flatL_Doms, flatL_Bo, flatL_Ent]
              refine callA_rule hr (by simp +contextual -implicitDefEqProofs (maxSteps := 1000000) only [sm, sn, sxx, smp, seval, sB_eq, eSt_eq, flatL_Doms, flatL_Bo, flatL_Ent, eRgs]) rfl ?_
              simp +contextual -implicitDefEqProofs (maxSteps := 1000000) only [sm, sn, sxx, smp, seval, sB_eq, eSt_eq, flatL_Doms, flatL_Bo, flatL_Ent, beq_self_eq_true]
              have hrow2 : ∀ r ∈ d', r.length ≤ 1048577 := hok'.row
              have hdl2 : (d').length ≤ 64 := hok'.dl
              have hgl := get_len x hrow2
              have hG := Get_ctr (d') (tr') (lv') (ks') x (fun r hr => by have := hrow2 r hr; omega)
              have hg := law10_get (d') (W') (F') x
              generalize (if 0 ≤ x then List.getD (d') x.toNat [] else []) = G at hgl hG hg
              have hwl : (W').length = (lv').length := hok'.same.wlen
              refine callP_rule [0, 1, 7, 3, 4] (All_ctr (d') (tr') (lv') (ks') (fun r hr => by have := hrow2 r hr; omega) (by omega)) (by decide) ?_ ?_ ?_ ?_ ?_ ?_ ?_
              · simp +contextual -implicitDefEqProofs (maxSteps := 1000000) only [sm, sn, sxx, smp, seval, sB_eq, eSt_eq, flatL_Doms, flatL_Bo, flatL_Ent, eDoms, eRgs]
              · simp +contextual -implicitDefEqProofs (maxSteps := 1000000) only [sm, sn, sxx, smp, seval, sB_eq, eSt_eq, flatL_Doms, flatL_Bo, flatL_Ent, eDoms, eRgs]
              · simp +contextual -implicitDefEqProofs (maxSteps := 1000000) only [sm, sn, sxx, smp, seval, sB_eq, eSt_eq, flatL_Doms, flatL_Bo, flatL_Ent, eDoms, eRgs]
              · simp +contextual -implicitDefEqProofs (maxSteps := 1000000) only [sm, sn, sxx, smp, seval, sB_eq, eSt_eq, flatL_Doms, flatL_Bo, flatL_Ent, eDoms, eRgs]
              · simp +contextual -implicitDefEqProofs (maxSteps := 1000000) only [sm, sn, sxx, smp, seval, sB_eq, eSt_eq, flatL_Doms, flatL_Bo, flatL_Ent, eDoms, eRgs]
              · simp +contextual -implicitDefEqProofs (maxSteps := 1000000) only [sm, sn, sxx, smp, seval, sB_eq, eSt_eq, flatL_Doms, flatL_Bo, flatL_Ent, eDoms, eRgs]
              simp +contextual -implicitDefEqProofs (maxSteps := 1000000) only [sm, sn, sxx, smp, seval, sB_eq, eSt_eq, flatL_Doms, flatL_Bo, flatL_Ent, eDoms]
              refine callA_rule (law08_Doms (d') (d') (by omega) (fun r hr => by have := hrow2 r hr; omega)) (wkL_refl _) rfl ?_
              simp +contextual -implicitDefEqProofs (maxSteps := 1000000) only [sm, sn, sxx, smp, seval, sB_eq, eSt_eq, flatL_Doms, flatL_Bo, flatL_Ent]
              refine callV_rule (Level_ctr (d') (tr') (lv')) ?_ rfl ?_
              · simp +contextual -implicitDefEqProofs (maxSteps := 1000000) only [sm, sn, sxx, smp, seval, sV_eq, flatL_Ent]
              simp +contextual -implicitDefEqProofs (maxSteps := 1000000) only [sm, sn, sxx, smp, seval, sB_eq, eSt_eq, flatL_Doms, flatL_Bo, flatL_Ent, hwl]
              refine callV_rule (Len_ctr (d') (tr') (lv')) ?_ rfl ?_
              · simp +contextual -implicitDefEqProofs (maxSteps := 1000000) only [sm, sn, sxx, smp, seval, sV_eq, flatL_Ent]
              simp +contextual -implicitDefEqProofs (maxSteps := 1000000) only [sm, sn, sxx, smp, seval, sB_eq, eSt_eq, flatL_Doms, flatL_Bo, flatL_Ent]
              refine callP_rule [0, 1, 7, 3, 4] hG (by decide) ?_ ?_ ?_ ?_ ?_ ?_ ?_
              · simp +contextual -implicitDefEqProofs (maxSteps := 1000000) only [sm, sn, sxx, smp, seval, sB_eq, eSt_eq, flatL_Doms, flatL_Bo, flatL_Ent, eRgs]
              · simp +contextual -implicitDefEqProofs (maxSteps := 1000000) only [sm, sn, sxx, smp, seval, sB_eq, eSt_eq, flatL_Doms, flatL_Bo, flatL_Ent, eRgs]
              · simp +contextual -implicitDefEqProofs (maxSteps := 1000000) only [sm, sn, sxx, smp, seval, sB_eq, eSt_eq, flatL_Doms, flatL_Bo, flatL_Ent, eRgs]
              · simp +contextual -implicitDefEqProofs (maxSteps := 1000000) only [sm, sn, sxx, smp, seval, sB_eq, eSt_eq, flatL_Doms, flatL_Bo, flatL_Ent, eRgs]
              · simp +contextual -implicitDefEqProofs (maxSteps := 1000000) only [sm, sn, sxx, smp, seval, sB_eq, eSt_eq, flatL_Doms, flatL_Bo, flatL_Ent, eRgs]
              · simp +contextual -implicitDefEqProofs (maxSteps := 1000000) only [sm, sn, sxx, smp, seval, sB_eq, eSt_eq, flatL_Doms, flatL_Bo, flatL_Ent, eRgs]
              simp +contextual -implicitDefEqProofs (maxSteps := 1000000) only [sm, sn, sxx, smp, seval, sB_eq, eSt_eq, flatL_Doms, flatL_Bo, flatL_Ent, eRgs]
              refine callA_rule hg (by simp +contextual -implicitDefEqProofs (maxSteps := 1000000) only [sm, sn, sxx, smp, seval, sB_eq, eSt_eq, flatL_Doms, flatL_Bo, flatL_Ent, eRgs]) rfl ?_
              simp +contextual -implicitDefEqProofs (maxSteps := 1000000) only [sm, sn, sxx, smp, seval, eRgs]
              refine callA_rule (law08_Ranges _ _ hgl) (wkL_refl _) rfl ?_
              simp +contextual -implicitDefEqProofs (maxSteps := 1000000) only [sm, sn, sxx, smp, seval, sB_eq, eSt_eq, flatL_Doms, flatL_Bo, flatL_Ent, e2]
              refine ⟨(i + 1, ⟨d', tr', lv', ks', W', F'⟩), ⟨by omega, by omega, hok'⟩, by simp only; omega, [0, 1, 7, 3, 4, 5], by decide, rfl, ?_, ?_⟩
              · simp +contextual -implicitDefEqProofs (maxSteps := 1000000) only [sm, sn, sxx, smp, seval, sB_eq, eSt_eq, flatL_Doms, flatL_Bo, flatL_Ent]
              · simp +contextual -implicitDefEqProofs (maxSteps := 1000000) only [sm, sn, sxx, smp, seval, sB_eq, eSt_eq, flatL_Doms, flatL_Bo, flatL_Ent]
        · by_cases k1 : k.tmod 4 = 1
          · by_cases hl5 : lv.length < 512
            · simp +contextual -implicitDefEqProofs (maxSteps := 1000000) only [sm, sn, sxx, smp, seval, k0, k1]
              obtain ⟨hc, hr, hok2⟩ := push_any hok (by omega) hl5
              simp only at hc hr hok2
              replace hok2 := hok2.mono (Nat.le_succ i)
              generalize lv ++ [(tr.length : Int)] = lv' at hc hok2
              generalize W ++ [d] = W' at hr hok2
              refine callA_rule hr (by simp +contextual -implicitDefEqProofs (maxSteps := 1000000) only [sm, sn, sxx, smp, seval, sB_eq, eSt_eq, flatL_Doms, flatL_Bo, flatL_Ent, eRgs]) rfl ?_
              simp +contextual -implicitDefEqProofs (maxSteps := 1000000) only [sm, sn, sxx, smp, seval, sB_eq, eSt_eq, flatL_Doms, flatL_Bo, flatL_Ent, beq_self_eq_true]
              refine callM_rule [0, 1, 2, 3, 4] hc (by decide) ?_ ?_ ?_ ?_ ?_ ?_
              · simp +contextual -implicitDefEqProofs (maxSteps := 1000000) only [sm, sn, sxx, smp, seval, sB_eq, eSt_eq, flatL_Doms, flatL_Bo, flatL_Ent, eRgs]
              · simp +contextual -implicitDefEqProofs (maxSteps := 1000000) only [sm, sn, sxx, smp, seval, sB_eq, eSt_eq, flatL_Doms, flatL_Bo, flatL_Ent, eRgs]
              · simp +contextual -implicitDefEqProofs (maxSteps := 1000000) only [sm, sn, sxx, smp, seval, sB_eq, eSt_eq, flatL_Doms, flatL_Bo, flatL_Ent, eRgs]
              · simp +contextual -implicitDefEqProofs (maxSteps := 1000000) only [sm, sn, sxx, smp, seval, sB_eq, eSt_eq, flatL_Doms, flatL_Bo, flatL_Ent, eRgs]
              · simp +contextual -implicitDefEqProofs (maxSteps := 1000000) only [sm, sn, sxx, smp, seval, sB_eq, eSt_eq, flatL_Doms, flatL_Bo, flatL_Ent, eRgs]
              simp +contextual -implicitDefEqProofs (maxSteps := 1000000) only [sm, sn, sxx, smp, seval, sB_eq, eSt_eq, flatL_Doms, flatL_Bo, flatL_Ent, beq_self_eq_true]
              have hrow2 : ∀ r ∈ d, r.length ≤ 1048577 := hok2.row
              have hdl2 : (d).length ≤ 64 := hok2.dl
              have hgl := get_len x hrow2
              have hG := Get_ctr (d) (tr) (lv') (ks) x (fun r hr => by have := hrow2 r hr; omega)
              have hg := law10_get (d) (W') (F) x
              generalize (if 0 ≤ x then List.getD (d) x.toNat [] else []) = G at hgl hG hg
              have hwl : (W').length = (lv').length := hok2.same.wlen
              refine callP_rule [0, 1, 2, 8, 4] (All_ctr (d) (tr) (lv') (ks) (fun r hr => by have := hrow2 r hr; omega) (by omega)) (by decide) ?_ ?_ ?_ ?_ ?_ ?_ ?_
              · simp +contextual -implicitDefEqProofs (maxSteps := 1000000) only [sm, sn, sxx, smp, seval, sB_eq, eSt_eq, flatL_Doms, flatL_Bo, flatL_Ent, eDoms, eRgs]
              · simp +contextual -implicitDefEqProofs (maxSteps := 1000000) only [sm, sn, sxx, smp, seval, sB_eq, eSt_eq, flatL_Doms, flatL_Bo, flatL_Ent, eDoms, eRgs]
              · simp +contextual -implicitDefEqProofs (maxSteps := 1000000) only [sm, sn, sxx, smp, seval, sB_eq, eSt_eq, flatL_Doms, flatL_Bo, flatL_Ent, eDoms, eRgs]
              · simp +contextual -implicitDefEqProofs (maxSteps := 1000000) only [sm, sn, sxx, smp, seval, sB_eq, eSt_eq, flatL_Doms, flatL_Bo, flatL_Ent, eDoms, eRgs]
              · simp +contextual -implicitDefEqProofs (maxSteps := 1000000) only [sm, sn, sxx, smp, seval, sB_eq, eSt_eq, flatL_Doms, flatL_Bo, flatL_Ent, eDoms, eRgs]
              · simp +contextual -implicitDefEqProofs (maxSteps := 1000000) only [sm, sn, sxx, smp, seval, sB_eq, eSt_eq, flatL_Doms, flatL_Bo, flatL_Ent, eDoms, eRgs]
              simp +contextual -implicitDefEqProofs (maxSteps := 1000000) only [sm, sn, sxx, smp, seval, sB_eq, eSt_eq, flatL_Doms, flatL_Bo, flatL_Ent, eDoms]
              refine callA_rule (law08_Doms (d) (d) (by omega) (fun r hr => by have := hrow2 r hr; omega)) (wkL_refl _) rfl ?_
              simp +contextual -implicitDefEqProofs (maxSteps := 1000000) only [sm, sn, sxx, smp, seval, sB_eq, eSt_eq, flatL_Doms, flatL_Bo, flatL_Ent]
              refine callV_rule (Level_ctr (d) (tr) (lv')) ?_ rfl ?_
              · simp +contextual -implicitDefEqProofs (maxSteps := 1000000) only [sm, sn, sxx, smp, seval, sV_eq, flatL_Ent]
              simp +contextual -implicitDefEqProofs (maxSteps := 1000000) only [sm, sn, sxx, smp, seval, sB_eq, eSt_eq, flatL_Doms, flatL_Bo, flatL_Ent, hwl]
              refine callV_rule (Len_ctr (d) (tr) (lv')) ?_ rfl ?_
              · simp +contextual -implicitDefEqProofs (maxSteps := 1000000) only [sm, sn, sxx, smp, seval, sV_eq, flatL_Ent]
              simp +contextual -implicitDefEqProofs (maxSteps := 1000000) only [sm, sn, sxx, smp, seval, sB_eq, eSt_eq, flatL_Doms, flatL_Bo, flatL_Ent]
              refine callP_rule [0, 1, 2, 8, 4] hG (by decide) ?_ ?_ ?_ ?_ ?_ ?_ ?_
              · simp +contextual -implicitDefEqProofs (maxSteps := 1000000) only [sm, sn, sxx, smp, seval, sB_eq, eSt_eq, flatL_Doms, flatL_Bo, flatL_Ent, eRgs]
              · simp +contextual -implicitDefEqProofs (maxSteps := 1000000) only [sm, sn, sxx, smp, seval, sB_eq, eSt_eq, flatL_Doms, flatL_Bo, flatL_Ent, eRgs]
              · simp +contextual -implicitDefEqProofs (maxSteps := 1000000) only [sm, sn, sxx, smp, seval, sB_eq, eSt_eq, flatL_Doms, flatL_Bo, flatL_Ent, eRgs]
              · simp +contextual -implicitDefEqProofs (maxSteps := 1000000) only [sm, sn, sxx, smp, seval, sB_eq, eSt_eq, flatL_Doms, flatL_Bo, flatL_Ent, eRgs]
              · simp +contextual -implicitDefEqProofs (maxSteps := 1000000) only [sm, sn, sxx, smp, seval, sB_eq, eSt_eq, flatL_Doms, flatL_Bo, flatL_Ent, eRgs]
              · simp +contextual -implicitDefEqProofs (maxSteps := 1000000) only [sm, sn, sxx, smp, seval, sB_eq, eSt_eq, flatL_Doms, flatL_Bo, flatL_Ent, eRgs]
              simp +contextual -implicitDefEqProofs (maxSteps := 1000000) only [sm, sn, sxx, smp, seval, sB_eq, eSt_eq, flatL_Doms, flatL_Bo, flatL_Ent, eRgs]
              refine callA_rule hg (by simp +contextual -implicitDefEqProofs (maxSteps := 1000000) only [sm, sn, sxx, smp, seval, sB_eq, eSt_eq, flatL_Doms, flatL_Bo, flatL_Ent, eRgs]) rfl ?_
              simp +contextual -implicitDefEqProofs (maxSteps := 1000000) only [sm, sn, sxx, smp, seval, eRgs]
              refine callA_rule (law08_Ranges _ _ hgl) (wkL_refl _) rfl ?_
              simp +contextual -implicitDefEqProofs (maxSteps := 1000000) only [sm, sn, sxx, smp, seval, sB_eq, eSt_eq, flatL_Doms, flatL_Bo, flatL_Ent, e2]
              refine ⟨(i + 1, ⟨d, tr, lv', ks, W', F⟩), ⟨by omega, by omega, hok2⟩, by simp only; omega, [0, 1, 2, 8, 4, 5], by decide, rfl, ?_, ?_⟩
              · simp +contextual -implicitDefEqProofs (maxSteps := 1000000) only [sm, sn, sxx, smp, seval, sB_eq, eSt_eq, flatL_Doms, flatL_Bo, flatL_Ent]
              · simp +contextual -implicitDefEqProofs (maxSteps := 1000000) only [sm, sn, sxx, smp, seval, sB_eq, eSt_eq, flatL_Doms, flatL_Bo, flatL_Ent]
            · simp +contextual -implicitDefEqProofs (maxSteps := 1000000) only [sm, sn, sxx, smp, seval, k0, k1]
              refine callA_rule (ref10_Push_big d W F (by have h0 : W.length = lv.length := hok.same.wlen; omega)) (by simp +contextual -implicitDefEqProofs (maxSteps := 1000000) only [sm, sn, sxx, smp, seval, sB_eq, eSt_eq, flatL_Doms, flatL_Bo, flatL_Ent, eRgs]) rfl ?_
              simp +contextual -implicitDefEqProofs (maxSteps := 1000000) only [sm, sn, sxx, smp, seval, sB_eq, eSt_eq, flatL_Doms, flatL_Bo, flatL_Ent, beq_self_eq_true]
              refine callM_rule [0, 1, 2, 3, 4] (Push_big d tr lv ks (by omega)) (by decide) ?_ ?_ ?_ ?_ ?_ ?_
              · simp +contextual -implicitDefEqProofs (maxSteps := 1000000) only [sm, sn, sxx, smp, seval, sB_eq, eSt_eq, flatL_Doms, flatL_Bo, flatL_Ent, eRgs]
              · simp +contextual -implicitDefEqProofs (maxSteps := 1000000) only [sm, sn, sxx, smp, seval, sB_eq, eSt_eq, flatL_Doms, flatL_Bo, flatL_Ent, eRgs]
              · simp +contextual -implicitDefEqProofs (maxSteps := 1000000) only [sm, sn, sxx, smp, seval, sB_eq, eSt_eq, flatL_Doms, flatL_Bo, flatL_Ent, eRgs]
              · simp +contextual -implicitDefEqProofs (maxSteps := 1000000) only [sm, sn, sxx, smp, seval, sB_eq, eSt_eq, flatL_Doms, flatL_Bo, flatL_Ent, eRgs]
              · simp +contextual -implicitDefEqProofs (maxSteps := 1000000) only [sm, sn, sxx, smp, seval, sB_eq, eSt_eq, flatL_Doms, flatL_Bo, flatL_Ent, eRgs]
              simp +contextual -implicitDefEqProofs (maxSteps := 1000000) only [sm, sn, sxx, smp, seval, sB_eq, eSt_eq, flatL_Doms, flatL_Bo, flatL_Ent, beq_self_eq_true]
              have hrow2 : ∀ r ∈ d, r.length ≤ 1048577 := (hok.mono (Nat.le_succ i)).row
              have hdl2 : (d).length ≤ 64 := (hok.mono (Nat.le_succ i)).dl
              have hgl := get_len x hrow2
              have hG := Get_ctr (d) (tr) (lv) (ks) x (fun r hr => by have := hrow2 r hr; omega)
              have hg := law10_get (d) (W) (F) x
              generalize (if 0 ≤ x then List.getD (d) x.toNat [] else []) = G at hgl hG hg
              have hwl : (W).length = (lv).length := (hok.mono (Nat.le_succ i)).same.wlen
              refine callP_rule [0, 1, 2, 3, 4] (All_ctr (d) (tr) (lv) (ks) (fun r hr => by have := hrow2 r hr; omega) (by omega)) (by decide) ?_ ?_ ?_ ?_ ?_ ?_ ?_
              · simp +contextual -implicitDefEqProofs (maxSteps := 1000000) only [sm, sn, sxx, smp, seval, sB_eq, eSt_eq, flatL_Doms, flatL_Bo, flatL_Ent, eDoms, eRgs]
              · simp +contextual -implicitDefEqProofs (maxSteps := 1000000) only [sm, sn, sxx, smp, seval, sB_eq, eSt_eq, flatL_Doms, flatL_Bo, flatL_Ent, eDoms, eRgs]
              · simp +contextual -implicitDefEqProofs (maxSteps := 1000000) only [sm, sn, sxx, smp, seval, sB_eq, eSt_eq, flatL_Doms, flatL_Bo, flatL_Ent, eDoms, eRgs]
              · simp +contextual -implicitDefEqProofs (maxSteps := 1000000) only [sm, sn, sxx, smp, seval, sB_eq, eSt_eq, flatL_Doms, flatL_Bo, flatL_Ent, eDoms, eRgs]
              · simp +contextual -implicitDefEqProofs (maxSteps := 1000000) only [sm, sn, sxx, smp, seval, sB_eq, eSt_eq, flatL_Doms, flatL_Bo, flatL_Ent, eDoms, eRgs]
              · simp +contextual -implicitDefEqProofs (maxSteps := 1000000) only [sm, sn, sxx, smp, seval, sB_eq, eSt_eq, flatL_Doms, flatL_Bo, flatL_Ent, eDoms, eRgs]
              simp +contextual -implicitDefEqProofs (maxSteps := 1000000) only [sm, sn, sxx, smp, seval, sB_eq, eSt_eq, flatL_Doms, flatL_Bo, flatL_Ent, eDoms]
              refine callA_rule (law08_Doms (d) (d) (by omega) (fun r hr => by have := hrow2 r hr; omega)) (wkL_refl _) rfl ?_
              simp +contextual -implicitDefEqProofs (maxSteps := 1000000) only [sm, sn, sxx, smp, seval, sB_eq, eSt_eq, flatL_Doms, flatL_Bo, flatL_Ent]
              refine callV_rule (Level_ctr (d) (tr) (lv)) ?_ rfl ?_
              · simp +contextual -implicitDefEqProofs (maxSteps := 1000000) only [sm, sn, sxx, smp, seval, sV_eq, flatL_Ent]
              simp +contextual -implicitDefEqProofs (maxSteps := 1000000) only [sm, sn, sxx, smp, seval, sB_eq, eSt_eq, flatL_Doms, flatL_Bo, flatL_Ent, hwl]
              refine callV_rule (Len_ctr (d) (tr) (lv)) ?_ rfl ?_
              · simp +contextual -implicitDefEqProofs (maxSteps := 1000000) only [sm, sn, sxx, smp, seval, sV_eq, flatL_Ent]
              simp +contextual -implicitDefEqProofs (maxSteps := 1000000) only [sm, sn, sxx, smp, seval, sB_eq, eSt_eq, flatL_Doms, flatL_Bo, flatL_Ent]
              refine callP_rule [0, 1, 2, 3, 4] hG (by decide) ?_ ?_ ?_ ?_ ?_ ?_ ?_
              · simp +contextual -implicitDefEqProofs (maxSteps := 1000000) only [sm, sn, sxx, smp, seval, sB_eq, eSt_eq, flatL_Doms, flatL_Bo, flatL_Ent, eRgs]
              · simp +contextual -implicitDefEqProofs (maxSteps := 1000000) only [sm, sn, sxx, smp, seval, sB_eq, eSt_eq, flatL_Doms, flatL_Bo, flatL_Ent, eRgs]
              · simp +contextual -implicitDefEqProofs (maxSteps := 1000000) only [sm, sn, sxx, smp, seval, sB_eq, eSt_eq, flatL_Doms, flatL_Bo, flatL_Ent, eRgs]
              · simp +contextual -implicitDefEqProofs (maxSteps := 1000000) only [sm, sn, sxx, smp, seval, sB_eq, eSt_eq, flatL_Doms, flatL_Bo, flatL_Ent, eRgs]
              · simp +contextual -implicitDefEqProofs (maxSteps := 1000000) only [sm, sn, sxx, smp, seval, sB_eq, eSt_eq, flatL_Doms, flatL_Bo, flatL_Ent, eRgs]
              · simp +contextual -implicitDefEqProofs (maxSteps := 1000000) only [sm, sn, sxx, smp, seval, sB_eq, eSt_eq, flatL_Doms, flatL_Bo, flatL_Ent, eRgs]
              simp +contextual -implicitDefEqProofs (maxSteps := 1000000) only [sm, sn, sxx, smp, seval, sB_eq, eSt_eq, flatL_Doms, flatL_Bo, flatL_Ent, eRgs]
              refine callA_rule hg (by simp +contextual -implicitDefEqProofs (maxSteps := 1000000) only [sm, sn, sxx, smp, seval, sB_eq, eSt_eq, flatL_Doms, flatL_Bo, flatL_Ent, eRgs]) rfl ?_
              simp +contextual -implicitDefEqProofs (maxSteps := 1000000) only [sm, sn, sxx, smp, seval, eRgs]
              refine callA_rule (law08_Ranges _ _ hgl) (wkL_refl _) rfl ?_
              simp +contextual -implicitDefEqProofs (maxSteps := 1000000) only [sm, sn, sxx, smp, seval, sB_eq, eSt_eq, flatL_Doms, flatL_Bo, flatL_Ent, e2]
              refine ⟨(i + 1, ⟨d, tr, lv, ks, W, F⟩), ⟨by omega, by omega, (hok.mono (Nat.le_succ i))⟩, by simp only; omega, [0, 1, 2, 3, 4, 5], by decide, rfl, ?_, ?_⟩
              · simp +contextual -implicitDefEqProofs (maxSteps := 1000000) only [sm, sn, sxx, smp, seval, sB_eq, eSt_eq, flatL_Doms, flatL_Bo, flatL_Ent]
              · simp +contextual -implicitDefEqProofs (maxSteps := 1000000) only [sm, sn, sxx, smp, seval, sB_eq, eSt_eq, flatL_Doms, flatL_Bo, flatL_Ent]
          · by_cases k2 : k.tmod 4 = 2
            · simp +contextual -implicitDefEqProofs (maxSteps := 1000000) only [sm, sn, sxx, smp, seval, k0, k1, k2]
              rcases pop_any hok (by omega) with ⟨hlv, hW, hc, hr⟩ | ⟨q, m, E, hq, hE, hc, hr, hok'⟩
              · simp only at hlv hW
                subst hlv; subst hW
                simp only at hc hr
                refine callA_rule hr (by simp +contextual -implicitDefEqProofs (maxSteps := 1000000) only [sm, sn, sxx, smp, seval, sB_eq, eSt_eq, flatL_Doms, flatL_Bo, flatL_Ent, eRgs]) rfl ?_
                simp +contextual -implicitDefEqProofs (maxSteps := 1000000) only [sm, sn, sxx, smp, seval, sB_eq, eSt_eq, flatL_Doms, flatL_Bo, flatL_Ent, beq_self_eq_true]
                refine callM_rule [0, 1, 2, 3, 4] hc (by decide) ?_ ?_ ?_ ?_ ?_ ?_
                · simp +contextual -implicitDefEqProofs (maxSteps := 1000000) only [sm, sn, sxx, smp, seval, sB_eq, eSt_eq, flatL_Doms, flatL_Bo, flatL_Ent, eRgs]
                · simp +contextual -implicitDefEqProofs (maxSteps := 1000000) only [sm, sn, sxx, smp, seval, sB_eq, eSt_eq, flatL_Doms, flatL_Bo, flatL_Ent, eRgs]
                · simp +contextual -implicitDefEqProofs (maxSteps := 1000000) only [sm, sn, sxx, smp, seval, sB_eq, eSt_eq, flatL_Doms, flatL_Bo, flatL_Ent, eRgs]
                · simp +contextual -implicitDefEqProofs (maxSteps := 1000000) only [sm, sn, sxx, smp, seval, sB_eq, eSt_eq, flatL_Doms, flatL_Bo, flatL_Ent, eRgs]
                · simp +contextual -implicitDefEqProofs (maxSteps := 1000000) only [sm, sn, sxx, smp, seval, sB_eq, eSt_eq, flatL_Doms, flatL_Bo, flatL_Ent, eRgs]
                simp +contextual -implicitDefEqProofs (maxSteps := 1000000) only [sm, sn, sxx, smp, seval, sB_eq, eSt_eq, flatL_Doms, flatL_Bo, flatL_Ent, beq_self_eq_true]
                have hrow2 : ∀ r ∈ d, r.length ≤ 1048577 := (hok.mono (Nat.le_succ i)).row
                have hdl2 : (d).length ≤ 64 := (hok.mono (Nat.le_succ i)).dl
                have hgl := get_len x hrow2
                have hG := Get_ctr (d) (tr) ([]) (ks) x (fun r hr => by have := hrow2 r hr; omega)
                have hg := law10_get (d) ([]) (F) x
                generalize (if 0 ≤ x then List.getD (d) x.toNat [] else []) = G at hgl hG hg
                have hwl : ([]).length = ([]).length := (hok.mono (Nat.le_succ i)).same.wlen
                refine callP_rule [0, 1, 2, 3, 4] (All_ctr (d) (tr) ([]) (ks) (fun r hr => by have := hrow2 r hr; omega) (by omega)) (by decide) ?_ ?_ ?_ ?_ ?_ ?_ ?_
                · simp +contextual -implicitDefEqProofs (maxSteps := 1000000) only [sm, sn, sxx, smp, seval, sB_eq, eSt_eq, flatL_Doms, flatL_Bo, flatL_Ent, eDoms, eRgs]
                · simp +contextual -implicitDefEqProofs (maxSteps := 1000000) only [sm, sn, sxx, smp, seval, sB_eq, eSt_eq, flatL_Doms, flatL_Bo, flatL_Ent, eDoms, eRgs]
                · simp +contextual -implicitDefEqProofs (maxSteps := 1000000) only [sm, sn, sxx, smp, seval, sB_eq, eSt_eq, flatL_Doms, flatL_Bo, flatL_Ent, eDoms, eRgs]
                · simp +contextual -implicitDefEqProofs (maxSteps := 1000000) only [sm, sn, sxx, smp, seval, sB_eq, eSt_eq, flatL_Doms, flatL_Bo, flatL_Ent, eDoms, eRgs]
                · simp +contextual -implicitDefEqProofs (maxSteps := 1000000) only [sm, sn, sxx, smp, seval, sB_eq, eSt_eq, flatL_Doms, flatL_Bo, flatL_Ent, eDoms, eRgs]
                · simp +contextual -implicitDefEqProofs (maxSteps := 1000000) only [sm, sn, sxx, smp, seval, sB_eq, eSt_eq, flatL_Doms, flatL_Bo, flatL_Ent, eDoms, eRgs]
                simp +contextual -implicitDefEqProofs (maxSteps := 1000000) only [sm, sn, sxx, smp, seval, sB_eq, eSt_eq, flatL_Doms, flatL_Bo, flatL_Ent, eDoms]
                refine callA_rule (law08_Doms (d) (d) (by omega) (fun r hr => by have := hrow2 r hr; omega)) (wkL_refl _) rfl ?_
                simp +contextual -implicitDefEqProofs (maxSteps := 1000000) only [sm, sn, sxx, smp, seval, sB_eq, eSt_eq, flatL_Doms, flatL_Bo, flatL_Ent]
                refine callV_rule (Level_ctr (d) (tr) ([])) ?_ rfl ?_
                · simp +contextual -implicitDefEqProofs (maxSteps := 1000000) only [sm, sn, sxx, smp, seval, sV_eq, flatL_Ent]
                simp +contextual -implicitDefEqProofs (maxSteps := 1000000) only [sm, sn, sxx, smp, seval, sB_eq, eSt_eq, flatL_Doms, flatL_Bo, flatL_Ent, hwl]
                refine callV_rule (Len_ctr (d) (tr) ([])) ?_ rfl ?_
                · simp +contextual -implicitDefEqProofs (maxSteps := 1000000) only [sm, sn, sxx, smp, seval, sV_eq, flatL_Ent]
                simp +contextual -implicitDefEqProofs (maxSteps := 1000000) only [sm, sn, sxx, smp, seval, sB_eq, eSt_eq, flatL_Doms, flatL_Bo, flatL_Ent]
                refine callP_rule [0, 1, 2, 3, 4] hG (by decide) ?_ ?_ ?_ ?_ ?_ ?_ ?_
                · simp +contextual -implicitDefEqProofs (maxSteps := 1000000) only [sm, sn, sxx, smp, seval, sB_eq, eSt_eq, flatL_Doms, flatL_Bo, flatL_Ent, eRgs]
                · simp +contextual -implicitDefEqProofs (maxSteps := 1000000) only [sm, sn, sxx, smp, seval, sB_eq, eSt_eq, flatL_Doms, flatL_Bo, flatL_Ent, eRgs]
                · simp +contextual -implicitDefEqProofs (maxSteps := 1000000) only [sm, sn, sxx, smp, seval, sB_eq, eSt_eq, flatL_Doms, flatL_Bo, flatL_Ent, eRgs]
                · simp +contextual -implicitDefEqProofs (maxSteps := 1000000) only [sm, sn, sxx, smp, seval, sB_eq, eSt_eq, flatL_Doms, flatL_Bo, flatL_Ent, eRgs]
                · simp +contextual -implicitDefEqProofs (maxSteps := 1000000) only [sm, sn, sxx, smp, seval, sB_eq, eSt_eq, flatL_Doms, flatL_Bo, flatL_Ent, eRgs]
                · simp +contextual -implicitDefEqProofs (maxSteps := 1000000) only [sm, sn, sxx, smp, seval, sB_eq, eSt_eq, flatL_Doms, flatL_Bo, flatL_Ent, eRgs]
                simp +contextual -implicitDefEqProofs (maxSteps := 1000000) only [sm, sn, sxx, smp, seval, sB_eq, eSt_eq, flatL_Doms, flatL_Bo, flatL_Ent, eRgs]
                refine callA_rule hg (by simp +contextual -implicitDefEqProofs (maxSteps := 1000000) only [sm, sn, sxx, smp, seval, sB_eq, eSt_eq, flatL_Doms, flatL_Bo, flatL_Ent, eRgs]) rfl ?_
                simp +contextual -implicitDefEqProofs (maxSteps := 1000000) only [sm, sn, sxx, smp, seval, eRgs]
                refine callA_rule (law08_Ranges _ _ hgl) (wkL_refl _) rfl ?_
                simp +contextual -implicitDefEqProofs (maxSteps := 1000000) only [sm, sn, sxx, smp, seval, sB_eq, eSt_eq, flatL_Doms, flatL_Bo, flatL_Ent, e2]
                refine ⟨(i + 1, ⟨d, tr, [], ks, [], F⟩), ⟨by omega, by omega, (hok.mono (Nat.le_succ i))⟩, by simp only; omega, [0, 1, 2, 3, 4, 5], by decide, rfl, ?_, ?_⟩
                · simp +contextual -implicitDefEqProofs (maxSteps := 1000000) only [sm, sn, sxx, smp, seval, sB_eq, eSt_eq, flatL_Doms, flatL_Bo, flatL_Ent]
                · simp +contextual -implicitDefEqProofs (maxSteps := 1000000) only [sm, sn, sxx, smp, seval, sB_eq, eSt_eq, flatL_Doms, flatL_Bo, flatL_Ent]
              · simp only at hc hr hok'
                replace hok' := hok'.mono (Nat.le_succ i)
                refine callA_rule hr (by simp +contextual -implicitDefEqProofs (maxSteps := 1000000) only [sm, sn, sxx, smp, seval, sB_eq, eSt_eq, flatL_Doms, flatL_Bo, flatL_Ent, eRgs]) rfl ?_
                simp +contextual -implicitDefEqProofs (maxSteps := 1000000) only [sm, sn, sxx, smp, seval, sB_eq, eSt_eq, flatL_Doms, flatL_Bo, flatL_Ent, beq_self_eq_true]
                refine callM_rule [0, 1, 2, 3, 4] hc (by decide) ?_ ?_ ?_ ?_ ?_ ?_
                · simp +contextual -implicitDefEqProofs (maxSteps := 1000000) only [sm, sn, sxx, smp, seval, sB_eq, eSt_eq, flatL_Doms, flatL_Bo, flatL_Ent, eRgs]
                · simp +contextual -implicitDefEqProofs (maxSteps := 1000000) only [sm, sn, sxx, smp, seval, sB_eq, eSt_eq, flatL_Doms, flatL_Bo, flatL_Ent, eRgs]
                · simp +contextual -implicitDefEqProofs (maxSteps := 1000000) only [sm, sn, sxx, smp, seval, sB_eq, eSt_eq, flatL_Doms, flatL_Bo, flatL_Ent, eRgs]
                · simp +contextual -implicitDefEqProofs (maxSteps := 1000000) only [sm, sn, sxx, smp, seval, sB_eq, eSt_eq, flatL_Doms, flatL_Bo, flatL_Ent, eRgs]
                · simp +contextual -implicitDefEqProofs (maxSteps := 1000000) only [sm, sn, sxx, smp, seval, sB_eq, eSt_eq, flatL_Doms, flatL_Bo, flatL_Ent, eRgs]
                simp +contextual -implicitDefEqProofs (maxSteps := 1000000) only [sm, sn, sxx, smp, seval, sB_eq, eSt_eq, flatL_Doms, flatL_Bo, flatL_Ent, beq_self_eq_true]
                have hrow2 : ∀ r ∈ E, r.length ≤ 1048577 := hok'.row
                have hdl2 : (E).length ≤ 64 := hok'.dl
                have hgl := get_len x hrow2
                have hG := Get_ctr (E) ((tr.take m)) ((lv.take q)) ([]) x (fun r hr => by have := hrow2 r hr; omega)
                have hg := law10_get (E) ((W.take q)) ((List.replicate E.length false)) x
                generalize (if 0 ≤ x then List.getD (E) x.toNat [] else []) = G at hgl hG hg
                have hwl : ((W.take q)).length = ((lv.take q)).length := hok'.same.wlen
                refine callP_rule [0, 1, 2, 3, 4] (All_ctr (E) ((tr.take m)) ((lv.take q)) ([]) (fun r hr => by have := hrow2 r hr; omega) (by omega)) (by decide) ?_ ?_ ?_ ?_ ?_ ?_ ?_
                · simp +contextual -implicitDefEqProofs (maxSteps := 1000000) only [sm, sn, sxx, smp, seval, sB_eq, eSt_eq, flatL_Doms, flatL_Bo, flatL_Ent, eDoms, eRgs]
                · simp +contextual -implicitDefEqProofs (maxSteps := 1000000) only [sm, sn, sxx, smp, seval, sB_eq, eSt_eq, flatL_Doms, flatL_Bo, flatL_Ent, eDoms, eRgs]
                · simp +contextual -implicitDefEqProofs (maxSteps := 1000000) only [sm, sn, sxx, smp, seval, sB_eq, eSt_eq, flatL_Doms, flatL_Bo, flatL_Ent, eDoms, eRgs]
                · simp +contextual -implicitDefEqProofs (maxSteps := 1000000) only [sm, sn, sxx, smp, seval, sB_eq, eSt_eq, flatL_Doms, flatL_Bo, flatL_Ent, eDoms, eRgs]
                · simp +contextual -implicitDefEqProofs (maxSteps := 1000000) only [sm, sn, sxx, smp, seval, sB_eq, eSt_eq, flatL_Doms, flatL_Bo, flatL_Ent, eDoms, eRgs]
                · simp +contextual -implicitDefEqProofs (maxSteps := 1000000) only [sm, sn, sxx, smp, seval, sB_eq, eSt_eq, flatL_Doms, flatL_Bo, flatL_Ent, eDoms, eRgs]
                simp +contextual -implicitDefEqProofs (maxSteps := 1000000) only [sm, sn, sxx, smp, seval, sB_eq, eSt_eq, flatL_Doms, flatL_Bo, flatL_Ent, eDoms]
                refine callA_rule (law08_Doms (E) (E) (by omega) (fun r hr => by have := hrow2 r hr; omega)) (wkL_refl _) rfl ?_
                simp +contextual -implicitDefEqProofs (maxSteps := 1000000) only [sm, sn, sxx, smp, seval, sB_eq, eSt_eq, flatL_Doms, flatL_Bo, flatL_Ent]
                refine callV_rule (Level_ctr (E) ((tr.take m)) ((lv.take q))) ?_ rfl ?_
                · simp +contextual -implicitDefEqProofs (maxSteps := 1000000) only [sm, sn, sxx, smp, seval, sV_eq, flatL_Ent]
                simp +contextual -implicitDefEqProofs (maxSteps := 1000000) only [sm, sn, sxx, smp, seval, sB_eq, eSt_eq, flatL_Doms, flatL_Bo, flatL_Ent, hwl]
                refine callV_rule (Len_ctr (E) ((tr.take m)) ((lv.take q))) ?_ rfl ?_
                · simp +contextual -implicitDefEqProofs (maxSteps := 1000000) only [sm, sn, sxx, smp, seval, sV_eq, flatL_Ent]
                simp +contextual -implicitDefEqProofs (maxSteps := 1000000) only [sm, sn, sxx, smp, seval, sB_eq, eSt_eq, flatL_Doms, flatL_Bo, flatL_Ent]
                refine callP_rule [0, 1, 2, 3, 4] hG (by decide) ?_ ?_ ?_ ?_ ?_ ?_ ?_
                · simp +contextual -implicitDefEqProofs (maxSteps := 1000000) only [sm, sn, sxx, smp, seval, sB_eq, eSt_eq, flatL_Doms, flatL_Bo, flatL_Ent, eRgs]
                · simp +contextual -implicitDefEqProofs (maxSteps := 1000000) only [sm, sn, sxx, smp, seval, sB_eq, eSt_eq, flatL_Doms, flatL_Bo, flatL_Ent, eRgs]
                · simp +contextual -implicitDefEqProofs (maxSteps := 1000000) only [sm, sn, sxx, smp, seval, sB_eq, eSt_eq, flatL_Doms, flatL_Bo, flatL_Ent, eRgs]
                · simp +contextual -implicitDefEqProofs (maxSteps := 1000000) only [sm, sn, sxx, smp, seval, sB_eq, eSt_eq, flatL_Doms, flatL_Bo, flatL_Ent, eRgs]
                · simp +contextual -implicitDefEqProofs (maxSteps := 1000000) only [sm, sn, sxx, smp, seval, sB_eq, eSt_eq, flatL_Doms, flatL_Bo, flatL_Ent, eRgs]
                · simp +contextual -implicitDefEqProofs (maxSteps := 1000000) only [sm, sn, sxx, smp, seval, sB_eq, eSt_eq, flatL_Doms, flatL_Bo, flatL_Ent, eRgs]
                simp +contextual -implicitDefEqProofs (maxSteps := 1000000) only [sm, sn, sxx, smp, seval, sB_eq, eSt_eq, flatL_Doms, flatL_Bo, flatL_Ent, eRgs]
                refine callA_rule hg (by simp +contextual -implicitDefEqProofs (maxSteps := 1000000) only [sm, sn, sxx, smp, seval, sB_eq, eSt_eq, flatL_Doms, flatL_Bo, flatL_Ent, eRgs]) rfl ?_
                simp +contextual -implicitDefEqProofs (maxSteps := 1000000) only [sm, sn, sxx, smp, seval, eRgs]
                refine callA_rule (law08_Ranges _ _ hgl) (wkL_refl _) rfl ?_
                simp +contextual -implicitDefEqProofs (maxSteps := 1000000) only [sm, sn, sxx, smp, seval, sB_eq, eSt_eq, flatL_Doms, flatL_Bo, flatL_Ent, e2]
                refine ⟨(i + 1, ⟨E, tr.take m, lv.take q, [], W.take q, List.replicate E.length false⟩), ⟨by omega, by omega, hok'⟩, by simp only; omega, [0, 1, 2, 3, 4, 5], by decide, rfl, ?_, ?_⟩
                · simp +contextual -implicitDefEqProofs (maxSteps := 1000000) only [sm, sn, sxx, smp, seval, sB_eq, eSt_eq, flatL_Doms, flatL_Bo, flatL_Ent]
                · simp +contextual -implicitDefEqProofs (maxSteps := 1000000) only [sm, sn, sxx, smp, seval, sB_eq, eSt_eq, flatL_Doms, flatL_Bo, flatL_Ent]
            · have hkl : (ks.map Int.ofNat).length ≤ 9223372036854775807 := by
                have := hok.same.few
                simp only at this
                rw [List.length_map]; omega
              simp +contextual -implicitDefEqProofs (maxSteps := 1000000) only [sm, sn, sxx, smp, seval, k0, k1, k2]
              obtain ⟨hc, hr, hok2⟩ := chg_any hok
              simp only at hc hr hok2
              replace hok2 := hok2.mono (Nat.le_succ i)
              refine callA_rule hr (by simp +contextual -implicitDefEqProofs (maxSteps := 1000000) only [sm, sn, sxx, smp, seval, sB_eq, eSt_eq, flatL_Doms, flatL_Bo, flatL_Ent, eRgs]) rfl ?_
              simp +contextual -implicitDefEqProofs (maxSteps := 1000000) only [sm, sn, sxx, smp, seval, sB_eq, eSt_eq, flatL_Doms, flatL_Bo, flatL_Ent, beq_self_eq_true]
              refine callM_rule [0, 1, 2, 3, 4] hc (by decide) ?_ ?_ ?_ ?_ ?_ ?_
              · simp +contextual -implicitDefEqProofs (maxSteps := 1000000) only [sm, sn, sxx, smp, seval, sB_eq, eSt_eq, flatL_Doms, flatL_Bo, flatL_Ent, eRgs]
              · simp +contextual -implicitDefEqProofs (maxSteps := 1000000) only [sm, sn, sxx, smp, seval, sB_eq, eSt_eq, flatL_Doms, flatL_Bo, flatL_Ent, eRgs]
              · simp +contextual -implicitDefEqProofs (maxSteps := 1000000) only [sm, sn, sxx, smp, seval, sB_eq, eSt_eq, flatL_Doms, flatL_Bo, flatL_Ent, eRgs]
              · simp +contextual -implicitDefEqProofs (maxSteps := 1000000) only [sm, sn, sxx, smp, seval, sB_eq, eSt_eq, flatL_Doms, flatL_Bo, flatL_Ent, eRgs]
              · simp +contextual -implicitDefEqProofs (maxSteps := 1000000) only [sm, sn, sxx, smp, seval, sB_eq, eSt_eq, flatL_Doms, flatL_Bo, flatL_Ent, eRgs]
              simp +contextual -implicitDefEqProofs (maxSteps := 1000000) only [sm, sn, sxx, smp, seval, sB_eq, eSt_eq, flatL_Doms, flatL_Bo, flatL_Ent]
              refine callA_rule (law10_ints (ks.map Int.ofNat) (ks.map Int.ofNat) hkl) (wkL_refl _) rfl ?_
              simp +contextual -implicitDefEqProofs (maxSteps := 1000000) only [sm, sn, sxx, smp, seval, sB_eq, eSt_eq, flatL_Doms, flatL_Bo, flatL_Ent, decide_true]
              have hrow2 : ∀ r ∈ d, r.length ≤ 1048577 := hok2.row
              have hdl2 : (d).length ≤ 64 := hok2.dl
              have hgl := get_len x hrow2
              have hG := Get_ctr (d) (tr) (lv) ([]) x (fun r hr => by have := hrow2 r hr; omega)
              have hg := law10_get (d) (W) ((List.replicate d.length false)) x
              generalize (if 0 ≤ x then List.getD (d) x.toNat [] else []) = G at hgl hG hg
              have hwl : (W).length = (lv).length := hok2.same.wlen
              refine callP_rule [0, 1, 2, 3, 4] (All_ctr (d) (tr) (lv) ([]) (fun r hr => by have := hrow2 r hr; omega) (by omega)) (by decide) ?_ ?_ ?_ ?_ ?_ ?_ ?_
              · simp +contextual -implicitDefEqProofs (maxSteps := 1000000) only [sm, sn, sxx, smp, seval, sB_eq, eSt_eq, flatL_Doms, flatL_Bo, flatL_Ent, eDoms, eRgs]
              · simp +contextual -implicitDefEqProofs (maxSteps := 1000000) only [sm, sn, sxx, smp, seval, sB_eq, eSt_eq, flatL_Doms, flatL_Bo, flatL_Ent, eDoms, eRgs]
              · simp +contextual -implicitDefEqProofs (maxSteps := 1000000) only [sm, sn, sxx, smp, seval, sB_eq, eSt_eq, flatL_Doms, flatL_Bo, flatL_Ent, eDoms, eRgs]
              · simp +contextual -implicitDefEqProofs (maxSteps := 1000000) only [sm, sn, sxx, smp, seval, sB_eq, eSt_eq, flatL_Doms, flatL_Bo, flatL_Ent, eDoms, eRgs]
              · simp +contextual -implicitDefEqProofs (maxSteps := 1000000) only [sm, sn, sxx, smp, seval, sB_eq, eSt_eq, flatL_Doms, flatL_Bo, flatL_Ent, eDoms, eRgs]
              · simp +contextual -implicitDefEqProofs (maxSteps := 1000000) only [sm, sn, sxx, smp, seval, sB_eq, eSt_eq, flatL_Doms, flatL_Bo, flatL_Ent, eDoms, eRgs]
              simp +contextual -implicitDefEqProofs (maxSteps := 1000000) only [sm, sn, sxx, smp, seval, sB_eq, eSt_eq, flatL_Doms, flatL_Bo, flatL_Ent, eDoms]
              refine callA_rule (law08_Doms (d) (d) (by omega) (fun r hr => by have := hrow2 r hr; omega)) (wkL_refl _) rfl ?_
              simp +contextual -implicitDefEqProofs (maxSteps := 1000000) only [sm, sn, sxx, smp, seval, sB_eq, eSt_eq, flatL_Doms, flatL_Bo, flatL_Ent]
              refine callV_rule (Level_ctr (d) (tr) (lv)) ?_ rfl ?_
              · simp +contextual -implicitDefEqProofs (maxSteps := 1000000) only [sm, sn, sxx, smp, seval, sV_eq, flatL_Ent]
              simp +contextual -implicitDefEqProofs (maxSteps := 1000000) only [sm, sn, sxx, smp, seval, sB_eq, eSt_eq, flatL_Doms, flatL_Bo, flatL_Ent, hwl]
              refine callV_rule (Len_ctr (d) (tr) (lv)) ?_ rfl ?_
              · simp +contextual -implicitDefEqProofs (maxSteps := 1000000) only [sm, sn, sxx, smp, seval, sV_eq, flatL_Ent]
              simp +contextual -implicitDefEqProofs (maxSteps := 1000000) only [sm, sn, sxx, smp, seval, sB_eq, eSt_eq, flatL_Doms, flatL_Bo, flatL_Ent]
              refine callP_rule [0, 1, 2, 3, 4] hG (by decide) ?_ ?_ ?_ ?_ ?_ ?_ ?_
              · simp +contextual -implicitDefEqProofs (maxSteps := 1000000) only [sm, sn, sxx, smp, seval, sB_eq, eSt_eq, flatL_Doms, flatL_Bo, flatL_Ent, eRgs]
              · simp +contextual -implicitDefEqProofs (maxSteps := 1000000) only [sm, sn, sxx, smp, seval, sB_eq, eSt_eq, flatL_Doms, flatL_Bo, flatL_Ent, eRgs]
              · simp +contextual -implicitDefEqProofs (maxSteps := 1000000) only [sm, sn, sxx, smp, seval, sB_eq, eSt_eq, flatL_Doms, flatL_Bo, flatL_Ent, eRgs]
              · simp +contextual -implicitDefEqProofs (maxSteps := 1000000) only [sm, sn, sxx, smp, seval, sB_eq, eSt_eq, flatL_Doms, flatL_Bo, flatL_Ent, eRgs]
              · simp +contextual -implicitDefEqProofs (maxSteps := 1000000) only [sm, sn, sxx, smp, seval, sB_eq, eSt_eq, flatL_Doms, flatL_Bo, flatL_Ent, eRgs]
              · simp +contextual -implicitDefEqProofs (maxSteps := 1000000) only [sm, sn, sxx, smp, seval, sB_eq, eSt_eq, flatL_Doms, flatL_Bo, flatL_Ent, eRgs]
              simp +contextual -implicitDefEqProofs (maxSteps := 1000000) only [sm, sn, sxx, smp, seval, sB_eq, eSt_eq, flatL_Doms, flatL_Bo, flatL_Ent, eRgs]
              refine callA_rule hg (by simp +contextual -implicitDefEqProofs (maxSteps := 1000000) only [sm, sn, sxx, smp, seval, sB_eq, eSt_eq, flatL_Doms, flatL_Bo, flatL_Ent, eRgs]) rfl ?_
              simp +contextual -implicitDefEqProofs (maxSteps := 1000000) only [sm, sn, sxx, smp, seval, eRgs]
              refine callA_rule (law08_Ranges _ _ hgl) (wkL_refl _) rfl ?_
              simp +contextual -implicitDefEqProofs (maxSteps := 1000000) only [sm, sn, sxx, smp, seval, sB_eq, eSt_eq, flatL_Doms, flatL_Bo, flatL_Ent, e2]
              refine ⟨(i + 1, ⟨d, tr, lv, [], W, List.replicate d.length false⟩), ⟨by omega, by omega, hok2⟩, by simp only; omega, [0, 1, 2, 3, 4, 5], by decide, rfl, ?_, ?_⟩
              · simp +contextual -implicitDefEqProofs (maxSteps := 1000000) only [sm, sn, sxx, smp, seval, sB_eq, eSt_eq, flatL_Doms, flatL_Bo, flatL_Ent]
              · simp +contextual -implicitDefEqProofs (maxSteps := 1000000) only [sm, sn, sxx, smp, seval, sB_eq, eSt_eq, flatL_Doms, flatL_Bo, flatL_Ent]
      · have hlt7' : ¬ (i : Int) < 700 := by omega
        have hlt' : (i : Int) < (l.length : Int) := by omega
        simp +contextual -implicitDefEqProofs (maxSteps := 1000000) only [sm, sn, sxx, smp, seval, sB_eq, eSt_eq, hlt', hlt7']
    · have hlt' : ¬ (i : Int) < (l.length : Int) := by omega
      simp +contextual -implicitDefEqProofs (maxSteps := 1000000) only [sm, sn, sxx, smp, seval, sB_eq, eSt_eq, hlt']
end Go.Proofs.Ytbmcjhjbifojnaa
