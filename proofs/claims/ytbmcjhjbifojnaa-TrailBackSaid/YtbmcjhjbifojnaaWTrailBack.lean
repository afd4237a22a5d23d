/- The law TrailBack. -/
import Derived.Test.YtbmcjhjbifojnaaWTrail8
namespace Go.Proofs.Ytbmcjhjbifojnaa
open Av
attribute [local irreducible] awp awpOpers
set_option linter.unusedSimpArgs false
set_option linter.unusedVariables false
set_option maxRecDepth 100000
set_option maxHeartbeats 4000000
theorem Nar.keep {s s' : S10} {x : Int} {V : List Rg} {ok : Bool} {e : Int} (h : Nar s x V ok e s') : s'.W = s.W ∧ s'.lv = s.lv := by
  cases h <;> exact ⟨rfl, rfl⟩
theorem take_push {W : List (List (List Rg))} {d : List (List Rg)} {n : Nat} {X : List (List (List Rg))} (h : W.take n = X) (hn : n ≤ W.length) : (W ++ [d]).take n = X := by
  rw [List.take_append_of_le_length hn]; exact h
theorem take_pop {W : List (List (List Rg))} {n q : Nat} {X : List (List (List Rg))} (h : W.take n = X) (hn : n ≤ q) : (W.take q).take n = X := by
  rw [List.take_take, Nat.min_eq_left hn]; exact h
theorem top_of {W : List (List (List Rg))} {n : Nat} {X : List (List (List Rg))} {E was : List (List Rg)} (h : W.take (n + 1) = X ++ [was]) (hX : X.length = n) (hE : W[n]? = some E) : E = was := by
  have h1 : (W.take (n + 1))[n]? = some E := by rw [List.getElem?_take, if_pos (by omega)]; exact hE
  rw [h, List.getElem?_append_right (by omega), hX, Nat.sub_self] at h1
  simpa using h1.symm
theorem law_TrailBack (D : List (List Rg)) (l m : List Act10) (hl : D.length ≤ 9223372036854775807) (hll : l.length ≤ 9223372036854775807) (hlm : m.length ≤ 9223372036854775807) (ha : ∀ a ∈ l, 0 ≤ a.1 ∧ a.1 ≤ 255) (hm : ∀ a ∈ m, 0 ≤ a.1 ∧ a.1 ≤ 255) :
    Ctr Try.prog 4 [eDoms D, eActs l, eActs m] [] (.bool true) [] := by
  refine call_pure Try.func4 Try.call4 e_law10_TrailBack ?_
  simp +contextual -implicitDefEqProofs (maxSteps := 1000000) only [c_law10_TrailBack, eDoms, eActs, sm, sn, sxx, smp, seval]
  refine callA_rule law10_alive (wkL_refl _) rfl ?_
  simp +contextual -implicitDefEqProofs (maxSteps := 1000000) only [sm, sn, sxx, smp, seval]
  refine callA_rule (law10_Fits D hl) (wkL_refl _) rfl ?_
  cases hf : fitT D
  · simp +contextual -implicitDefEqProofs (maxSteps := 1000000) only [sm, sn, sxx, smp, seval]
  obtain ⟨f1, f2⟩ := fitT_len hf
  have hd : ∀ r ∈ D, r.length ≤ 1000000000000 := fun r hr => by have := f2 r hr; omega
  cases hn : newB D
  · simp +contextual -implicitDefEqProofs (maxSteps := 1000000) only [sm, sn, sxx, smp, seval]
    refine callO_rule (New_none D hd hn) rfl (wkL_refl _) rfl rfl ?_
    simp +contextual -implicitDefEqProofs (maxSteps := 1000000) only [sm, sn, sxx, smp, seval, wkN_nilp]
    refine callA_rule (ref10_Right D (by omega) hd) (wkL_refl _) rfl ?_
    simp +contextual -implicitDefEqProofs (maxSteps := 1000000) only [sm, sn, sxx, smp, seval, hn]
  obtain ⟨n1, n2⟩ := (newB_iff D).1 hn
  simp +contextual -implicitDefEqProofs (maxSteps := 1000000) only [sm, sn, sxx, smp, seval]
  refine callO_rule (New_ctr D n1 hd n2) rfl (wkL_refl _) rfl (by simp +contextual -implicitDefEqProofs (maxSteps := 1000000) only [sm, sn, sxx, smp, seval, nB_eq]) ?_
  simp +contextual -implicitDefEqProofs (maxSteps := 1000000) only [sm, sn, sxx, smp, seval, nB_eq]
  refine loop_rule (fun s : Nat × S10 => s.1 ≤ l.length ∧ s.1 ≤ 60 ∧ OK10 s.1 s.2 ∧ s.2.lv.length ≤ s.1) (fun s => tm 138 [(1, .list 3 (l.map eAct)), (2, .list 3 (m.map eAct)), (7, .ptr 5 0 0 0), (8, .int .i64 s.1)])
    (fun s => sB s.2.d s.2.tr s.2.lv s.2.ks) (fun s => l.length - s.1) (0, ⟨D, [], [], [], [], List.replicate D.length false⟩) ⟨Nat.zero_le _, Nat.zero_le _, OK10.start n1 (fun r hr => by have := f2 r hr; omega), Nat.zero_le _⟩ ⟨[0, 1, 3, 4, 2], by decide, rfl, ?_, ?_⟩ ?_
  · have en : encK [] = 0 := rfl
    simp +contextual -implicitDefEqProofs (maxSteps := 1000000) only [sm, sn, sxx, smp, seval, sB_eq, flatL_Ent, en]
  · simp +contextual -implicitDefEqProofs (maxSteps := 1000000) only [sm, sn, sxx, smp, seval, sB_eq, Int.natCast_zero]
  · rintro ⟨i, ⟨d, tr, lv, ks, W, F⟩⟩ ⟨hi, hi6, hok, hlv⟩
    simp only at hi hi6 hok hlv
    have hdl0 : d.length ≤ 64 := hok.dl
    have hcl : OK10 60 ⟨d, tr, lv, ks, W, F⟩ := hok.mono hi6
    by_cases hlt : i < l.length
    · by_cases hlt6n : 60 ≤ i
      · have hlt' : (i : Int) < (l.length : Int) := by omega
        have hlt6' : ¬ (i : Int) < 60 := by omega
        simp +contextual -implicitDefEqProofs (maxSteps := 1000000) only [sm, sn, sxx, smp, seval, sB_eq, hlt', hlt6']
        have hrow2 : ∀ r ∈ d, r.length ≤ 1048577 := hok.row
        have hwl : W.length = lv.length := hok.same.wlen
        refine callP_rule [0, 1, 2, 3, 4] (All_ctr d tr lv ks (fun r hr => by have := hrow2 r hr; omega) (by omega)) (by decide) ?_ ?_ ?_ ?_ ?_ ?_ ?_
        · simp +contextual -implicitDefEqProofs (maxSteps := 1000000) only [sm, sn, sxx, smp, seval, sB_eq, flatL_Ent, eDoms, eRgs]
        · simp +contextual -implicitDefEqProofs (maxSteps := 1000000) only [sm, sn, sxx, smp, seval, sB_eq, flatL_Ent, eDoms, eRgs]
        · simp +contextual -implicitDefEqProofs (maxSteps := 1000000) only [sm, sn, sxx, smp, seval, sB_eq, flatL_Ent, eDoms, eRgs]
        · simp +contextual -implicitDefEqProofs (maxSteps := 1000000) only [sm, sn, sxx, smp, seval, sB_eq, flatL_Ent, eDoms, eRgs]
        · simp +contextual -implicitDefEqProofs (maxSteps := 1000000) only [sm, sn, sxx, smp, seval, sB_eq, flatL_Ent, eDoms, eRgs]
        · simp +contextual -implicitDefEqProofs (maxSteps := 1000000) only [sm, sn, sxx, smp, seval, sB_eq, flatL_Ent, eDoms, eRgs]
        simp +contextual -implicitDefEqProofs (maxSteps := 1000000) only [sm, sn, sxx, smp, seval, sB_eq, flatL_Ent, eDoms]
        refine callV_rule (Level_ctr d tr lv) ?_ rfl ?_
        · simp +contextual -implicitDefEqProofs (maxSteps := 1000000) only [sm, sn, sxx, smp, seval, sV_eq, flatL_Ent]
        simp +contextual -implicitDefEqProofs (maxSteps := 1000000) only [sm, sn, sxx, smp, seval, sB_eq, flatL_Ent]
        obtain ⟨hc, hr, hok2⟩ := push_any hcl (by omega) (show lv.length < 512 by omega)
        simp only at hc hr hok2
        refine callM_rule [0, 1, 2, 3, 4] hc (by decide) ?_ ?_ ?_ ?_ ?_ ?_
        · simp +contextual -implicitDefEqProofs (maxSteps := 1000000) only [sm, sn, sxx, smp, seval, sB_eq, flatL_Ent, eRgs]
        · simp +contextual -implicitDefEqProofs (maxSteps := 1000000) only [sm, sn, sxx, smp, seval, sB_eq, flatL_Ent, eRgs]
        · simp +contextual -implicitDefEqProofs (maxSteps := 1000000) only [sm, sn, sxx, smp, seval, sB_eq, flatL_Ent, eRgs]
        · simp +contextual -implicitDefEqProofs (maxSteps := 1000000) only [sm, sn, sxx, smp, seval, sB_eq, flatL_Ent, eRgs]
        · simp +contextual -implicitDefEqProofs (maxSteps := 1000000) only [sm, sn, sxx, smp, seval, sB_eq, flatL_Ent, eRgs]
        simp +contextual -implicitDefEqProofs (maxSteps := 1000000) only [sm, sn, sxx, smp, seval, sB_eq, flatL_Ent]
        refine loop_rule (fun s : Nat × S10 => s.1 ≤ m.length ∧ s.1 ≤ 60 ∧ OK10 (60 + s.1) s.2 ∧ s.2.W.take (lv.length + 1) = W ++ [d] ∧ lv.length + 1 ≤ s.2.lv.length ∧ s.2.lv.length ≤ 61 + s.1) (fun s => tm 138 [(2, .list 3 (m.map eAct)), (7, .ptr 5 0 0 0), (10, .list 1 (d.map eRgs)), (11, .int .i64 lv.length), (12, .int .i64 s.1)])
          (fun s => sB s.2.d s.2.tr s.2.lv s.2.ks) (fun s => m.length - s.1) (0, ⟨d, tr, lv ++ [(tr.length : Int)], ks, W ++ [d], F⟩) ⟨Nat.zero_le _, Nat.zero_le _, hok2, List.take_of_length_le (by simp; omega), by simp, by simp; omega⟩ ⟨[0, 1, 2, 5, 4], by decide, rfl, ?_, ?_⟩ ?_
        · simp +contextual -implicitDefEqProofs (maxSteps := 1000000) only [sm, sn, sxx, smp, seval, sB_eq, flatL_Ent]
        · simp +contextual -implicitDefEqProofs (maxSteps := 1000000) only [sm, sn, sxx, smp, seval, sB_eq, Int.natCast_zero]
        · rintro ⟨j, ⟨d2, tr2, lv2, ks2, W2, F2⟩⟩ ⟨hj, hj6, hk2, hW2, hl2, hl2b⟩
          simp only at hj hj6 hk2 hW2 hl2 hl2b
          have hw2 : W2.length = lv2.length := hk2.same.wlen
          have hcl2 : OK10 120 ⟨d2, tr2, lv2, ks2, W2, F2⟩ := hk2.mono (by omega)
          by_cases hjt : j < m.length
          · by_cases hj6n : 60 ≤ j
            · have hjt' : (j : Int) < (m.length : Int) := by omega
              have hj6'' : ¬ (j : Int) < 60 := by omega
              simp +contextual -implicitDefEqProofs (maxSteps := 1000000) only [sm, sn, sxx, smp, seval, sB_eq, hjt', hj6'']
              refine loop_rule (fun s : S10 => OK10 120 s ∧ lv.length ≤ s.lv.length ∧ (lv.length < s.lv.length → s.W.take (lv.length + 1) = W ++ [d]) ∧ (s.lv.length = lv.length → s.d = d ∧ s.ks = [])) (fun s => tm 138 [(7, .ptr 5 0 0 0), (10, .list 1 (d.map eRgs)), (11, .int .i64 lv.length)])
                (fun s => sB s.d s.tr s.lv s.ks) (fun s => s.lv.length) ⟨d2, tr2, lv2, ks2, W2, F2⟩ ⟨hcl2, by simp only; omega, fun _ => hW2, fun h => by simp only at h; omega⟩ ⟨[0, 1, 2, 3, 4], by decide, rfl, ?_, ?_⟩ ?_
              · simp +contextual -implicitDefEqProofs (maxSteps := 1000000) only [sm, sn, sxx, smp, seval, sB_eq, flatL_Ent]
              · simp +contextual -implicitDefEqProofs (maxSteps := 1000000) only [sm, sn, sxx, smp, seval, sB_eq, flatL_Ent]
              · rintro ⟨d3, tr3, lv3, ks3, W3, F3⟩ ⟨hk3, h31, h32, h33⟩
                simp only at hk3 h31 h32 h33
                have hrow3 : ∀ r ∈ d3, r.length ≤ 1048577 := hk3.row
                have hdl3 : d3.length ≤ 64 := hk3.dl
                simp +contextual -implicitDefEqProofs (maxSteps := 1000000) only [sm, sn, sxx, smp, seval, sB_eq]
                refine callV_rule (Level_ctr d3 tr3 lv3) ?_ rfl ?_
                · simp +contextual -implicitDefEqProofs (maxSteps := 1000000) only [sm, sn, sxx, smp, seval, sV_eq, flatL_Ent]
                by_cases hp : (lv.length : Int) < (lv3.length : Int)
                · have hp' : lv.length < lv3.length := by omega
                  simp +contextual -implicitDefEqProofs (maxSteps := 1000000) only [sm, sn, sxx, smp, seval, sB_eq, flatL_Ent, hp, gt_iff_lt]
                  rcases pop_any hk3 (by omega) with ⟨hlv, -⟩ | ⟨q, p, E, hq, hE, hc, hr, hok'⟩
                  · simp only at hlv; subst hlv; simp at hp'
                  · simp only at hc hr hok' hq hE
                    refine callM_rule [0, 1, 2, 3, 4] hc (by decide) ?_ ?_ ?_ ?_ ?_ ?_
                    · simp +contextual -implicitDefEqProofs (maxSteps := 1000000) only [sm, sn, sxx, smp, seval, sB_eq, flatL_Ent, eRgs]
                    · simp +contextual -implicitDefEqProofs (maxSteps := 1000000) only [sm, sn, sxx, smp, seval, sB_eq, flatL_Ent, eRgs]
                    · simp +contextual -implicitDefEqProofs (maxSteps := 1000000) only [sm, sn, sxx, smp, seval, sB_eq, flatL_Ent, eRgs]
                    · simp +contextual -implicitDefEqProofs (maxSteps := 1000000) only [sm, sn, sxx, smp, seval, sB_eq, flatL_Ent, eRgs]
                    · simp +contextual -implicitDefEqProofs (maxSteps := 1000000) only [sm, sn, sxx, smp, seval, sB_eq, flatL_Ent, eRgs]
                    simp +contextual -implicitDefEqProofs (maxSteps := 1000000) only [sm, sn, sxx, smp, seval, sB_eq, flatL_Ent]
                    have hql : (lv3.take q).length = q := by rw [List.length_take]; omega
                    refine ⟨⟨E, tr3.take p, lv3.take q, [], W3.take q, List.replicate E.length false⟩, ⟨hok', by simp only; omega, fun h => take_pop (h32 hp') (by simp only at h; omega), fun h => ⟨?_, rfl⟩⟩, by simp only; omega, [0, 1, 2, 3, 4], by decide, rfl, ?_, ?_⟩
                    · simp only at h
                      have hqe : q = lv.length := by omega
                      subst hqe
                      exact top_of (h32 hp') hwl hE
                    · simp +contextual -implicitDefEqProofs (maxSteps := 1000000) only [sm, sn, sxx, smp, seval, sB_eq, flatL_Ent]
                    · simp +contextual -implicitDefEqProofs (maxSteps := 1000000) only [sm, sn, sxx, smp, seval, sB_eq, flatL_Ent]
                · have hpe : lv3.length = lv.length := by omega
                  obtain ⟨hd3, hk3'⟩ := h33 hpe
                  subst hd3; subst hk3'
                  simp +contextual -implicitDefEqProofs (maxSteps := 1000000) only [sm, sn, sxx, smp, seval, sB_eq, flatL_Ent, hp, gt_iff_lt]
                  refine callP_rule [0, 1, 2, 3, 4] (All_ctr d3 tr3 lv3 [] (fun r hr => by have := hrow3 r hr; omega) (by omega)) (by decide) ?_ ?_ ?_ ?_ ?_ ?_ ?_
                  · simp +contextual -implicitDefEqProofs (maxSteps := 1000000) only [sm, sn, sxx, smp, seval, sB_eq, flatL_Ent, eDoms, eRgs]
                  · simp +contextual -implicitDefEqProofs (maxSteps := 1000000) only [sm, sn, sxx, smp, seval, sB_eq, flatL_Ent, eDoms, eRgs]
                  · simp +contextual -implicitDefEqProofs (maxSteps := 1000000) only [sm, sn, sxx, smp, seval, sB_eq, flatL_Ent, eDoms, eRgs]
                  · simp +contextual -implicitDefEqProofs (maxSteps := 1000000) only [sm, sn, sxx, smp, seval, sB_eq, flatL_Ent, eDoms, eRgs]
                  · simp +contextual -implicitDefEqProofs (maxSteps := 1000000) only [sm, sn, sxx, smp, seval, sB_eq, flatL_Ent, eDoms, eRgs]
                  · simp +contextual -implicitDefEqProofs (maxSteps := 1000000) only [sm, sn, sxx, smp, seval, sB_eq, flatL_Ent, eDoms, eRgs]
                  simp +contextual -implicitDefEqProofs (maxSteps := 1000000) only [sm, sn, sxx, smp, seval, sB_eq, flatL_Ent, eDoms]
                  refine callA_rule (law08_Doms d3 d3 (by omega) (fun r hr => by have := hrow3 r hr; omega)) (wkL_refl _) rfl ?_
                  simp +contextual -implicitDefEqProofs (maxSteps := 1000000) only [sm, sn, sxx, smp, seval, sB_eq, flatL_Ent, decide_true]
                  have hpe2 : (((lv3.length : Nat) : Int) = ((lv.length : Nat) : Int)) = True := eq_true (by omega)
                  refine callV_rule (Level_ctr d3 tr3 lv3) ?_ rfl ?_
                  · simp +contextual -implicitDefEqProofs (maxSteps := 1000000) only [sm, sn, sxx, smp, seval, sV_eq, flatL_Ent]
                  simp +contextual -implicitDefEqProofs (maxSteps := 1000000) only [sm, sn, sxx, smp, seval, sB_eq, flatL_Ent, hpe2]
                  have hc := (chg_any hk3).1
                  simp only [List.map_nil] at hc
                  refine callM_rule [0, 1, 2, 3, 4] hc (by decide) ?_ ?_ ?_ ?_ ?_ ?_
                  · simp +contextual -implicitDefEqProofs (maxSteps := 1000000) only [sm, sn, sxx, smp, seval, sB_eq, flatL_Ent, eRgs]
                  · simp +contextual -implicitDefEqProofs (maxSteps := 1000000) only [sm, sn, sxx, smp, seval, sB_eq, flatL_Ent, eRgs]
                  · simp +contextual -implicitDefEqProofs (maxSteps := 1000000) only [sm, sn, sxx, smp, seval, sB_eq, flatL_Ent, eRgs]
                  · simp +contextual -implicitDefEqProofs (maxSteps := 1000000) only [sm, sn, sxx, smp, seval, sB_eq, flatL_Ent, eRgs]
                  · simp +contextual -implicitDefEqProofs (maxSteps := 1000000) only [sm, sn, sxx, smp, seval, sB_eq, flatL_Ent, eRgs]
                  simp +contextual -implicitDefEqProofs (maxSteps := 1000000) only [sm, sn, sxx, smp, seval, sB_eq, flatL_Ent, Int.natCast_zero]
            have hjt' : (j : Int) < (m.length : Int) := by omega
            have hj6'' : (j : Int) < 60 := by omega
            have e2 : IntKind.i64.wrap ((j : Int) + 1) = ((j + 1 : Nat) : Int) := by rw [wrap_i64] <;> omega
            have e3 : IntKind.i64.wrap ((lv.length : Int) + 1) = ((lv.length + 1 : Nat) : Int) := by rw [wrap_i64] <;> omega
            obtain ⟨⟨k, x, V⟩, ha0⟩ : ∃ a, m[j]? = some a := ⟨_, List.getElem?_eq_getElem hjt⟩
            have hk := hm _ (List.mem_of_getElem? ha0)
            simp only at hk
            simp +contextual -implicitDefEqProofs (maxSteps := 1000000) only [sm, sn, sxx, smp, seval, sB_eq, hjt', hj6'', hjt, ha0, om_Act]
            by_cases k0 : k.tmod 4 = 0
            · by_cases hV : (V.length : Int) ≤ 300
              · have hVb : V.length ≤ 1000000000000 := by omega
                simp +contextual -implicitDefEqProofs (maxSteps := 1000000) only [sm, sn, sxx, smp, seval, k0, hV]
                rcases narrow_any hk2 (by omega) x V hVb with ⟨ok, e, ⟨d', tr', lv', ks', W', F'⟩, hc, hr, hok', hN⟩ | ⟨⟨d', tr', lv', ks', W', F'⟩, hc, hr, hok', hN, -⟩
                · obtain ⟨hW, hL⟩ := hN.keep
                  simp only [NarC] at hc hok' hW hL
                  subst hW; subst hL
                  refine callM_rule [0, 1, 2, 3, 4] hc (by decide) ?_ ?_ ?_ ?_ ?_ ?_
                  · simp +contextual -implicitDefEqProofs (maxSteps := 1000000) only [sm, sn, sxx, smp, seval, sB_eq, flatL_Ent, eRgs]
                  · simp +contextual -implicitDefEqProofs (maxSteps := 1000000) only [sm, sn, sxx, smp, seval, sB_eq, flatL_Ent, eRgs]
                  · simp +contextual -implicitDefEqProofs (maxSteps := 1000000) only [sm, sn, sxx, smp, seval, sB_eq, flatL_Ent, eRgs]
                  · simp +contextual -implicitDefEqProofs (maxSteps := 1000000) only [sm, sn, sxx, smp, seval, sB_eq, flatL_Ent, eRgs]
                  · simp +contextual -implicitDefEqProofs (maxSteps := 1000000) only [sm, sn, sxx, smp, seval, sB_eq, flatL_Ent, eRgs]
                  simp +contextual -implicitDefEqProofs (maxSteps := 1000000) only [sm, sn, sxx, smp, seval, sB_eq, flatL_Ent, e2]
                  refine ⟨(j + 1, ⟨d', tr', lv', ks', W', F'⟩), ⟨by omega, by omega, (by simpa [Nat.add_assoc] using hok'), hW2, by simp <;> omega, by simp <;> omega⟩, by simp only; omega, [0, 1, 2, 3, 4], by decide, rfl, ?_, ?_⟩
                  · simp +contextual -implicitDefEqProofs (maxSteps := 1000000) only [sm, sn, sxx, smp, seval, sB_eq, flatL_Ent]
                  · simp +contextual -implicitDefEqProofs (maxSteps := 1000000) only [sm, sn, sxx, smp, seval, sB_eq, flatL_Ent]
                · obtain ⟨hW, hL⟩ := hN.keep
                  simp only [NarC] at hc hok' hW hL
                  subst hW; subst hL
                  refine callM_rule [0, 1, 2, 3, 4] hc (by decide) ?_ ?_ ?_ ?_ ?_ ?_
                  · simp +contextual -implicitDefEqProofs (maxSteps := 1000000) only [sm, sn, sxx, smp, seval, sB_eq, flatL_Ent, eRgs]
                  · simp +contextual -implicitDefEqProofs (maxSteps := 1000000) only [sm, sn, sxx, smp, seval, sB_eq, flatL_Ent, eRgs]
                  · simp +contextual -implicitDefEqProofs (maxSteps := 1000000) only [sm, sn, sxx, smp, seval, sB_eq, flatL_Ent, eRgs]
                  · simp +contextual -implicitDefEqProofs (maxSteps := 1000000) only [sm, sn, sxx, smp, seval, sB_eq, flatL_Ent, eRgs]
                  · simp +contextual -implicitDefEqProofs (maxSteps := 1000000) only [sm, sn, sxx, smp, seval, sB_eq, flatL_Ent, eRgs]
                  simp +contextual -implicitDefEqProofs (maxSteps := 1000000) only [sm, sn, sxx, smp, seval, sB_eq, flatL_Ent, e2]
                  refine ⟨(j + 1, ⟨d', tr', lv', ks', W', F'⟩), ⟨by omega, by omega, (by simpa [Nat.add_assoc] using hok'), hW2, by simp <;> omega, by simp <;> omega⟩, by simp only; omega, [0, 1, 6, 3, 4], by decide, rfl, ?_, ?_⟩
                  · simp +contextual -implicitDefEqProofs (maxSteps := 1000000) only [sm, sn, sxx, smp, seval, sB_eq, flatL_Ent]
                  · simp +contextual -implicitDefEqProofs (maxSteps := 1000000) only [sm, sn, sxx, smp, seval, sB_eq, flatL_Ent]
              · simp +contextual -implicitDefEqProofs (maxSteps := 1000000) only [sm, sn, sxx, smp, seval, k0, hV]
                simp +contextual -implicitDefEqProofs (maxSteps := 1000000) only [sm, sn, sxx, smp, seval, sB_eq, flatL_Ent, e2]
                refine ⟨(j + 1, ⟨d2, tr2, lv2, ks2, W2, F2⟩), ⟨by omega, by omega, hk2.mono (by omega), hW2, by simp <;> omega, by simp <;> omega⟩, by simp only; omega, [0, 1, 2, 3, 4], by decide, rfl, ?_, ?_⟩
                · simp +contextual -implicitDefEqProofs (maxSteps := 1000000) only [sm, sn, sxx, smp, seval, sB_eq, flatL_Ent]
                · simp +contextual -implicitDefEqProofs (maxSteps := 1000000) only [sm, sn, sxx, smp, seval, sB_eq, flatL_Ent]
            · by_cases k1 : k.tmod 4 = 1
              · simp +contextual -implicitDefEqProofs (maxSteps := 1000000) only [sm, sn, sxx, smp, seval, k0, k1]
                obtain ⟨hc, hr, hok2⟩ := push_any hk2 (by omega) (show lv2.length < 512 by omega)
                simp only at hc hr hok2
                refine callM_rule [0, 1, 2, 3, 4] hc (by decide) ?_ ?_ ?_ ?_ ?_ ?_
                · simp +contextual -implicitDefEqProofs (maxSteps := 1000000) only [sm, sn, sxx, smp, seval, sB_eq, flatL_Ent, eRgs]
                · simp +contextual -implicitDefEqProofs (maxSteps := 1000000) only [sm, sn, sxx, smp, seval, sB_eq, flatL_Ent, eRgs]
                · simp +contextual -implicitDefEqProofs (maxSteps := 1000000) only [sm, sn, sxx, smp, seval, sB_eq, flatL_Ent, eRgs]
                · simp +contextual -implicitDefEqProofs (maxSteps := 1000000) only [sm, sn, sxx, smp, seval, sB_eq, flatL_Ent, eRgs]
                · simp +contextual -implicitDefEqProofs (maxSteps := 1000000) only [sm, sn, sxx, smp, seval, sB_eq, flatL_Ent, eRgs]
                simp +contextual -implicitDefEqProofs (maxSteps := 1000000) only [sm, sn, sxx, smp, seval, sB_eq, flatL_Ent, e2]
                refine ⟨(j + 1, ⟨d2, tr2, lv2 ++ [(tr2.length : Int)], ks2, W2 ++ [d2], F2⟩), ⟨by omega, by omega, hok2.mono (by omega), take_push hW2 (by omega), by simp <;> omega, by simp <;> omega⟩, by simp only; omega, [0, 1, 2, 6, 4], by decide, rfl, ?_, ?_⟩
                · simp +contextual -implicitDefEqProofs (maxSteps := 1000000) only [sm, sn, sxx, smp, seval, sB_eq, flatL_Ent]
                · simp +contextual -implicitDefEqProofs (maxSteps := 1000000) only [sm, sn, sxx, smp, seval, sB_eq, flatL_Ent]
              · by_cases k2 : k.tmod 4 = 2
                · simp +contextual -implicitDefEqProofs (maxSteps := 1000000) only [sm, sn, sxx, smp, seval, k0, k1, k2]
                  refine callV_rule (Level_ctr d2 tr2 lv2) ?_ rfl ?_
                  · simp +contextual -implicitDefEqProofs (maxSteps := 1000000) only [sm, sn, sxx, smp, seval, sV_eq, flatL_Ent]
                  by_cases hp : ((lv.length + 1 : Nat) : Int) < (lv2.length : Int)
                  · simp +contextual -implicitDefEqProofs (maxSteps := 1000000) only [sm, sn, sxx, smp, seval, sB_eq, flatL_Ent, e3, hp, gt_iff_lt]
                    rcases pop_any hk2 (by omega) with ⟨hlv, -⟩ | ⟨q, p, E, hq, hE, hc, hr, hok'⟩
                    · simp only at hlv; subst hlv; simp at hl2
                    · simp only at hc hr hok' hq
                      refine callM_rule [0, 1, 2, 3, 4] hc (by decide) ?_ ?_ ?_ ?_ ?_ ?_
                      · simp +contextual -implicitDefEqProofs (maxSteps := 1000000) only [sm, sn, sxx, smp, seval, sB_eq, flatL_Ent, eRgs]
                      · simp +contextual -implicitDefEqProofs (maxSteps := 1000000) only [sm, sn, sxx, smp, seval, sB_eq, flatL_Ent, eRgs]
                      · simp +contextual -implicitDefEqProofs (maxSteps := 1000000) only [sm, sn, sxx, smp, seval, sB_eq, flatL_Ent, eRgs]
                      · simp +contextual -implicitDefEqProofs (maxSteps := 1000000) only [sm, sn, sxx, smp, seval, sB_eq, flatL_Ent, eRgs]
                      · simp +contextual -implicitDefEqProofs (maxSteps := 1000000) only [sm, sn, sxx, smp, seval, sB_eq, flatL_Ent, eRgs]
                      simp +contextual -implicitDefEqProofs (maxSteps := 1000000) only [sm, sn, sxx, smp, seval, sB_eq, flatL_Ent, e2]
                      refine ⟨(j + 1, ⟨E, tr2.take p, lv2.take q, [], W2.take q, List.replicate E.length false⟩), ⟨by omega, by omega, hok'.mono (by omega), take_pop hW2 (by omega), by simp <;> omega, by simp <;> omega⟩, by simp only; omega, [0, 1, 2, 3, 4], by decide, rfl, ?_, ?_⟩
                      · simp +contextual -implicitDefEqProofs (maxSteps := 1000000) only [sm, sn, sxx, smp, seval, sB_eq, flatL_Ent]
                      · simp +contextual -implicitDefEqProofs (maxSteps := 1000000) only [sm, sn, sxx, smp, seval, sB_eq, flatL_Ent]
                  · simp +contextual -implicitDefEqProofs (maxSteps := 1000000) only [sm, sn, sxx, smp, seval, sB_eq, flatL_Ent, e3, hp, gt_iff_lt]
                    simp +contextual -implicitDefEqProofs (maxSteps := 1000000) only [sm, sn, sxx, smp, seval, sB_eq, flatL_Ent, e2]
                    refine ⟨(j + 1, ⟨d2, tr2, lv2, ks2, W2, F2⟩), ⟨by omega, by omega, hk2.mono (by omega), hW2, by simp <;> omega, by simp <;> omega⟩, by simp only; omega, [0, 1, 2, 3, 4], by decide, rfl, ?_, ?_⟩
                    · simp +contextual -implicitDefEqProofs (maxSteps := 1000000) only [sm, sn, sxx, smp, seval, sB_eq, flatL_Ent]
                    · simp +contextual -implicitDefEqProofs (maxSteps := 1000000) only [sm, sn, sxx, smp, seval, sB_eq, flatL_Ent]
                · simp +contextual -implicitDefEqProofs (maxSteps := 1000000) only [sm, sn, sxx, smp, seval, k0, k1, k2]
                  simp +contextual -implicitDefEqProofs (maxSteps := 1000000) only [sm, sn, sxx, smp, seval, sB_eq, flatL_Ent, e2]
                  refine ⟨(j + 1, ⟨d2, tr2, lv2, ks2, W2, F2⟩), ⟨by omega, by omega, hk2.mono (by omega), hW2, by simp <;> omega, by simp <;> omega⟩, by simp only; omega, [0, 1, 2, 3, 4], by decide, rfl, ?_, ?_⟩
                  · simp +contextual -implicitDefEqProofs (maxSteps := 1000000) only [sm, sn, sxx, smp, seval, sB_eq, flatL_Ent]
                  · simp +contextual -implicitDefEqProofs (maxSteps := 1000000) only [sm, sn, sxx, smp, seval, sB_eq, flatL_Ent]
          · have hjt' : ¬ (j : Int) < (m.length : Int) := by omega
            simp +contextual -implicitDefEqProofs (maxSteps := 1000000) only [sm, sn, sxx, smp, seval, sB_eq, hjt']
            refine loop_rule (fun s : S10 => OK10 120 s ∧ lv.length ≤ s.lv.length ∧ (lv.length < s.lv.length → s.W.take (lv.length + 1) = W ++ [d]) ∧ (s.lv.length = lv.length → s.d = d ∧ s.ks = [])) (fun s => tm 138 [(7, .ptr 5 0 0 0), (10, .list 1 (d.map eRgs)), (11, .int .i64 lv.length)])
              (fun s => sB s.d s.tr s.lv s.ks) (fun s => s.lv.length) ⟨d2, tr2, lv2, ks2, W2, F2⟩ ⟨hcl2, by simp only; omega, fun _ => hW2, fun h => by simp only at h; omega⟩ ⟨[0, 1, 2, 3, 4], by decide, rfl, ?_, ?_⟩ ?_
            · simp +contextual -implicitDefEqProofs (maxSteps := 1000000) only [sm, sn, sxx, smp, seval, sB_eq, flatL_Ent]
            · simp +contextual -implicitDefEqProofs (maxSteps := 1000000) only [sm, sn, sxx, smp, seval, sB_eq, flatL_Ent]
            · rintro ⟨d3, tr3, lv3, ks3, W3, F3⟩ ⟨hk3, h31, h32, h33⟩
              simp only at hk3 h31 h32 h33
              have hrow3 : ∀ r ∈ d3, r.length ≤ 1048577 := hk3.row
              have hdl3 : d3.length ≤ 64 := hk3.dl
              simp +contextual -implicitDefEqProofs (maxSteps := 1000000) only [sm, sn, sxx, smp, seval, sB_eq]
              refine callV_rule (Level_ctr d3 tr3 lv3) ?_ rfl ?_
              · simp +contextual -implicitDefEqProofs (maxSteps := 1000000) only [sm, sn, sxx, smp, seval, sV_eq, flatL_Ent]
              by_cases hp : (lv.length : Int) < (lv3.length : Int)
              · have hp' : lv.length < lv3.length := by omega
                simp +contextual -implicitDefEqProofs (maxSteps := 1000000) only [sm, sn, sxx, smp, seval, sB_eq, flatL_Ent, hp, gt_iff_lt]
                rcases pop_any hk3 (by omega) with ⟨hlv, -⟩ | ⟨q, p, E, hq, hE, hc, hr, hok'⟩
                · simp only at hlv; subst hlv; simp at hp'
                · simp only at hc hr hok' hq hE
                  refine callM_rule [0, 1, 2, 3, 4] hc (by decide) ?_ ?_ ?_ ?_ ?_ ?_
                  · simp +contextual -implicitDefEqProofs (maxSteps := 1000000) only [sm, sn, sxx, smp, seval, sB_eq, flatL_Ent, eRgs]
                  · simp +contextual -implicitDefEqProofs (maxSteps := 1000000) only [sm, sn, sxx, smp, seval, sB_eq, flatL_Ent, eRgs]
                  · simp +contextual -implicitDefEqProofs (maxSteps := 1000000) only [sm, sn, sxx, smp, seval, sB_eq, flatL_Ent, eRgs]
                  · simp +contextual -implicitDefEqProofs (maxSteps := 1000000) only [sm, sn, sxx, smp, seval, sB_eq, flatL_Ent, eRgs]
                  · simp +contextual -implicitDefEqProofs (maxSteps := 1000000) only [sm, sn, sxx, smp, seval, sB_eq, flatL_Ent, eRgs]
                  simp +contextual -implicitDefEqProofs (maxSteps := 1000000) only [sm, sn, sxx, smp, seval, sB_eq, flatL_Ent]
                  have hql : (lv3.take q).length = q := by rw [List.length_take]; omega
                  refine ⟨⟨E, tr3.take p, lv3.take q, [], W3.take q, List.replicate E.length false⟩, ⟨hok', by simp only; omega, fun h => take_pop (h32 hp') (by simp only at h; omega), fun h => ⟨?_, rfl⟩⟩, by simp only; omega, [0, 1, 2, 3, 4], by decide, rfl, ?_, ?_⟩
                  · simp only at h
                    have hqe : q = lv.length := by omega
                    subst hqe
                    exact top_of (h32 hp') hwl hE
                  · simp +contextual -implicitDefEqProofs (maxSteps := 1000000) only [sm, sn, sxx, smp, seval, sB_eq, flatL_Ent]
                  · simp +contextual -implicitDefEqProofs (maxSteps := 1000000) only [sm, sn, sxx, smp, seval, sB_eq, flatL_Ent]
              · have hpe : lv3.length = lv.length := by omega
                obtain ⟨hd3, hk3'⟩ := h33 hpe
                subst hd3; subst hk3'
                simp +contextual -implicitDefEqProofs (maxSteps := 1000000) only [sm, sn, sxx, smp, seval, sB_eq, flatL_Ent, hp, gt_iff_lt]
                refine callP_rule [0, 1, 2, 3, 4] (All_ctr d3 tr3 lv3 [] (fun r hr => by have := hrow3 r hr; omega) (by omega)) (by decide) ?_ ?_ ?_ ?_ ?_ ?_ ?_
                · simp +contextual -implicitDefEqProofs (maxSteps := 1000000) only [sm, sn, sxx, smp, seval, sB_eq, flatL_Ent, eDoms, eRgs]
                · simp +contextual -implicitDefEqProofs (maxSteps := 1000000) only [sm, sn, sxx, smp, seval, sB_eq, flatL_Ent, eDoms, eRgs]
                · simp +contextual -implicitDefEqProofs (maxSteps := 1000000) only [sm, sn, sxx, smp, seval, sB_eq, flatL_Ent, eDoms, eRgs]
                · simp +contextual -implicitDefEqProofs (maxSteps := 1000000) only [sm, sn, sxx, smp, seval, sB_eq, flatL_Ent, eDoms, eRgs]
                · simp +contextual -implicitDefEqProofs (maxSteps := 1000000) only [sm, sn, sxx, smp, seval, sB_eq, flatL_Ent, eDoms, eRgs]
                · simp +contextual -implicitDefEqProofs (maxSteps := 1000000) only [sm, sn, sxx, smp, seval, sB_eq, flatL_Ent, eDoms, eRgs]
                simp +contextual -implicitDefEqProofs (maxSteps := 1000000) only [sm, sn, sxx, smp, seval, sB_eq, flatL_Ent, eDoms]
                refine callA_rule (law08_Doms d3 d3 (by omega) (fun r hr => by have := hrow3 r hr; omega)) (wkL_refl _) rfl ?_
                simp +contextual -implicitDefEqProofs (maxSteps := 1000000) only [sm, sn, sxx, smp, seval, sB_eq, flatL_Ent, decide_true]
                have hpe2 : (((lv3.length : Nat) : Int) = ((lv.length : Nat) : Int)) = True := eq_true (by omega)
                refine callV_rule (Level_ctr d3 tr3 lv3) ?_ rfl ?_
                · simp +contextual -implicitDefEqProofs (maxSteps := 1000000) only [sm, sn, sxx, smp, seval, sV_eq, flatL_Ent]
                simp +contextual -implicitDefEqProofs (maxSteps := 1000000) only [sm, sn, sxx, smp, seval, sB_eq, flatL_Ent, hpe2]
                have hc := (chg_any hk3).1
                simp only [List.map_nil] at hc
                refine callM_rule [0, 1, 2, 3, 4] hc (by decide) ?_ ?_ ?_ ?_ ?_ ?_
                · simp +contextual -implicitDefEqProofs (maxSteps := 1000000) only [sm, sn, sxx, smp, seval, sB_eq, flatL_Ent, eRgs]
                · simp +contextual -implicitDefEqProofs (maxSteps := 1000000) only [sm, sn, sxx, smp, seval, sB_eq, flatL_Ent, eRgs]
                · simp +contextual -implicitDefEqProofs (maxSteps := 1000000) only [sm, sn, sxx, smp, seval, sB_eq, flatL_Ent, eRgs]
                · simp +contextual -implicitDefEqProofs (maxSteps := 1000000) only [sm, sn, sxx, smp, seval, sB_eq, flatL_Ent, eRgs]
                · simp +contextual -implicitDefEqProofs (maxSteps := 1000000) only [sm, sn, sxx, smp, seval, sB_eq, flatL_Ent, eRgs]
                simp +contextual -implicitDefEqProofs (maxSteps := 1000000) only [sm, sn, sxx, smp, seval, sB_eq, flatL_Ent, Int.natCast_zero]
      have hlt6 : i < 60 := by omega
      have hlt' : (i : Int) < (l.length : Int) := by omega
      have hlt6' : (i : Int) < 60 := by omega
      have e2 : IntKind.i64.wrap ((i : Int) + 1) = ((i + 1 : Nat) : Int) := by rw [wrap_i64] <;> omega
      obtain ⟨⟨k, x, V⟩, ha0⟩ : ∃ a, l[i]? = some a := ⟨_, List.getElem?_eq_getElem hlt⟩
      have hk := ha _ (List.mem_of_getElem? ha0)
      simp only at hk
      simp +contextual -implicitDefEqProofs (maxSteps := 1000000) only [sm, sn, sxx, smp, seval, sB_eq, hlt', hlt6', hlt, ha0, om_Act]
      by_cases k0 : k.tmod 4 = 0
      · by_cases hV : (V.length : Int) ≤ 300
        · have hVb : V.length ≤ 1000000000000 := by omega
          simp +contextual -implicitDefEqProofs (maxSteps := 1000000) only [sm, sn, sxx, smp, seval, k0, hV]
          rcases narrow_any hok (by omega) x V hVb with ⟨ok, e, ⟨d', tr', lv', ks', W', F'⟩, hc, hr, hok', hN⟩ | ⟨⟨d', tr', lv', ks', W', F'⟩, hc, hr, hok', hN, -⟩
          · obtain ⟨hW, hL⟩ := hN.keep
            simp only [NarC] at hc hok' hW hL
            subst hW; subst hL
            refine callM_rule [0, 1, 2, 3, 4] hc (by decide) ?_ ?_ ?_ ?_ ?_ ?_
            · simp +contextual -implicitDefEqProofs (maxSteps := 1000000) only [sm, sn, sxx, smp, seval, sB_eq, flatL_Ent, eRgs]
            · simp +contextual -implicitDefEqProofs (maxSteps := 1000000) only [sm, sn, sxx, smp, seval, sB_eq, flatL_Ent, eRgs]
            · simp +contextual -implicitDefEqProofs (maxSteps := 1000000) only [sm, sn, sxx, smp, seval, sB_eq, flatL_Ent, eRgs]
            · simp +contextual -implicitDefEqProofs (maxSteps := 1000000) only [sm, sn, sxx, smp, seval, sB_eq, flatL_Ent, eRgs]
            · simp +contextual -implicitDefEqProofs (maxSteps := 1000000) only [sm, sn, sxx, smp, seval, sB_eq, flatL_Ent, eRgs]
            simp +contextual -implicitDefEqProofs (maxSteps := 1000000) only [sm, sn, sxx, smp, seval, sB_eq, flatL_Ent, e2]
            refine ⟨(i + 1, ⟨d', tr', lv', ks', W', F'⟩), ⟨by omega, by omega, hok', by simp only; omega⟩, by simp only; omega, [0, 1, 2, 3, 4], by decide, rfl, ?_, ?_⟩
            · simp +contextual -implicitDefEqProofs (maxSteps := 1000000) only [sm, sn, sxx, smp, seval, sB_eq, flatL_Ent]
            · simp +contextual -implicitDefEqProofs (maxSteps := 1000000) only [sm, sn, sxx, smp, seval, sB_eq, flatL_Ent]
          · obtain ⟨hW, hL⟩ := hN.keep
            simp only [NarC] at hc hok' hW hL
            subst hW; subst hL
            refine callM_rule [0, 1, 2, 3, 4] hc (by decide) ?_ ?_ ?_ ?_ ?_ ?_
            · simp +contextual -implicitDefEqProofs (maxSteps := 1000000) only [sm, sn, sxx, smp, seval, sB_eq, flatL_Ent, eRgs]
            · simp +contextual -implicitDefEqProofs (maxSteps := 1000000) only [sm, sn, sxx, smp, seval, sB_eq, flatL_Ent, eRgs]
            · simp +contextual -implicitDefEqProofs (maxSteps := 1000000) only [sm, sn, sxx, smp, seval, sB_eq, flatL_Ent, eRgs]
            · simp +contextual -implicitDefEqProofs (maxSteps := 1000000) only [sm, sn, sxx, smp, seval, sB_eq, flatL_Ent, eRgs]
            · simp +contextual -implicitDefEqProofs (maxSteps := 1000000) only [sm, sn, sxx, smp, seval, sB_eq, flatL_Ent, eRgs]
            simp +contextual -implicitDefEqProofs (maxSteps := 1000000) only [sm, sn, sxx, smp, seval, sB_eq, flatL_Ent, e2]
            refine ⟨(i + 1, ⟨d', tr', lv', ks', W', F'⟩), ⟨by omega, by omega, hok', by simp only; omega⟩, by simp only; omega, [0, 1, 6, 3, 4], by decide, rfl, ?_, ?_⟩
            · simp +contextual -implicitDefEqProofs (maxSteps := 1000000) only [sm, sn, sxx, smp, seval, sB_eq, flatL_Ent]
            · simp +contextual -implicitDefEqProofs (maxSteps := 1000000) only [sm, sn, sxx, smp, seval, sB_eq, flatL_Ent]
        · simp +contextual -implicitDefEqProofs (maxSteps := 1000000) only [sm, sn, sxx, smp, seval, k0, hV]
          refine ⟨(i + 1, ⟨d, tr, lv, ks, W, F⟩), ⟨by omega, by omega, hok.mono (Nat.le_succ i), by simp only; omega⟩, by simp only; omega, [0, 1, 2, 3, 4], by decide, rfl, ?_, ?_⟩
          · simp +contextual -implicitDefEqProofs (maxSteps := 1000000) only [sm, sn, sxx, smp, seval, sB_eq, flatL_Ent]
          · simp +contextual -implicitDefEqProofs (maxSteps := 1000000) only [sm, sn, sxx, smp, seval, sB_eq, flatL_Ent, e2]
      · simp +contextual -implicitDefEqProofs (maxSteps := 1000000) only [sm, sn, sxx, smp, seval, k0]
        obtain ⟨hc, hr, hok2⟩ := push_any hok (by omega) (show lv.length < 512 by omega)
        simp only at hc hr hok2
        refine callM_rule [0, 1, 2, 3, 4] hc (by decide) ?_ ?_ ?_ ?_ ?_ ?_
        · simp +contextual -implicitDefEqProofs (maxSteps := 1000000) only [sm, sn, sxx, smp, seval, sB_eq, flatL_Ent, eRgs]
        · simp +contextual -implicitDefEqProofs (maxSteps := 1000000) only [sm, sn, sxx, smp, seval, sB_eq, flatL_Ent, eRgs]
        · simp +contextual -implicitDefEqProofs (maxSteps := 1000000) only [sm, sn, sxx, smp, seval, sB_eq, flatL_Ent, eRgs]
        · simp +contextual -implicitDefEqProofs (maxSteps := 1000000) only [sm, sn, sxx, smp, seval, sB_eq, flatL_Ent, eRgs]
        · simp +contextual -implicitDefEqProofs (maxSteps := 1000000) only [sm, sn, sxx, smp, seval, sB_eq, flatL_Ent, eRgs]
        simp +contextual -implicitDefEqProofs (maxSteps := 1000000) only [sm, sn, sxx, smp, seval, sB_eq, flatL_Ent, e2]
        refine ⟨(i + 1, ⟨d, tr, lv ++ [(tr.length : Int)], ks, W ++ [d], F⟩), ⟨by omega, by omega, hok2.mono (Nat.le_succ i), by simp; omega⟩, by simp only; omega, [0, 1, 2, 6, 4], by decide, rfl, ?_, ?_⟩
        · simp +contextual -implicitDefEqProofs (maxSteps := 1000000) only [sm, sn, sxx, smp, seval, sB_eq, flatL_Ent]
        · simp +contextual -implicitDefEqProofs (maxSteps := 1000000) only [sm, sn, sxx, smp, seval, sB_eq, flatL_Ent]
    · have hlt' : ¬ (i : Int) < (l.length : Int) := by omega
      simp +contextual -implicitDefEqProofs (maxSteps := 1000000) only [sm, sn, sxx, smp, seval, sB_eq, hlt']
      have hrow2 : ∀ r ∈ d, r.length ≤ 1048577 := hok.row
      have hwl : W.length = lv.length := hok.same.wlen
      refine callP_rule [0, 1, 2, 3, 4] (All_ctr d tr lv ks (fun r hr => by have := hrow2 r hr; omega) (by omega)) (by decide) ?_ ?_ ?_ ?_ ?_ ?_ ?_
      · simp +contextual -implicitDefEqProofs (maxSteps := 1000000) only [sm, sn, sxx, smp, seval, sB_eq, flatL_Ent, eDoms, eRgs]
      · simp +contextual -implicitDefEqProofs (maxSteps := 1000000) only [sm, sn, sxx, smp, seval, sB_eq, flatL_Ent, eDoms, eRgs]
      · simp +contextual -implicitDefEqProofs (maxSteps := 1000000) only [sm, sn, sxx, smp, seval, sB_eq, flatL_Ent, eDoms, eRgs]
      · simp +contextual -implicitDefEqProofs (maxSteps := 1000000) only [sm, sn, sxx, smp, seval, sB_eq, flatL_Ent, eDoms, eRgs]
      · simp +contextual -implicitDefEqProofs (maxSteps := 1000000) only [sm, sn, sxx, smp, seval, sB_eq, flatL_Ent, eDoms, eRgs]
      · simp +contextual -implicitDefEqProofs (maxSteps := 1000000) only [sm, sn, sxx, smp, seval, sB_eq, flatL_Ent, eDoms, eRgs]
      simp +contextual -implicitDefEqProofs (maxSteps := 1000000) only [sm, sn, sxx, smp, seval, sB_eq, flatL_Ent, eDoms]
      refine callV_rule (Level_ctr d tr lv) ?_ rfl ?_
      · simp +contextual -implicitDefEqProofs (maxSteps := 1000000) only [sm, sn, sxx, smp, seval, sV_eq, flatL_Ent]
      simp +contextual -implicitDefEqProofs (maxSteps := 1000000) only [sm, sn, sxx, smp, seval, sB_eq, flatL_Ent]
      obtain ⟨hc, hr, hok2⟩ := push_any hcl (by omega) (show lv.length < 512 by omega)
      simp only at hc hr hok2
      refine callM_rule [0, 1, 2, 3, 4] hc (by decide) ?_ ?_ ?_ ?_ ?_ ?_
      · simp +contextual -implicitDefEqProofs (maxSteps := 1000000) only [sm, sn, sxx, smp, seval, sB_eq, flatL_Ent, eRgs]
      · simp +contextual -implicitDefEqProofs (maxSteps := 1000000) only [sm, sn, sxx, smp, seval, sB_eq, flatL_Ent, eRgs]
      · simp +contextual -implicitDefEqProofs (maxSteps := 1000000) only [sm, sn, sxx, smp, seval, sB_eq, flatL_Ent, eRgs]
      · simp +contextual -implicitDefEqProofs (maxSteps := 1000000) only [sm, sn, sxx, smp, seval, sB_eq, flatL_Ent, eRgs]
      · simp +contextual -implicitDefEqProofs (maxSteps := 1000000) only [sm, sn, sxx, smp, seval, sB_eq, flatL_Ent, eRgs]
      simp +contextual -implicitDefEqProofs (maxSteps := 1000000) only [sm, sn, sxx, smp, seval, sB_eq, flatL_Ent]
      refine loop_rule (fun s : Nat × S10 => s.1 ≤ m.length ∧ s.1 ≤ 60 ∧ OK10 (60 + s.1) s.2 ∧ s.2.W.take (lv.length + 1) = W ++ [d] ∧ lv.length + 1 ≤ s.2.lv.length ∧ s.2.lv.length ≤ 61 + s.1) (fun s => tm 138 [(2, .list 3 (m.map eAct)), (7, .ptr 5 0 0 0), (10, .list 1 (d.map eRgs)), (11, .int .i64 lv.length), (12, .int .i64 s.1)])
        (fun s => sB s.2.d s.2.tr s.2.lv s.2.ks) (fun s => m.length - s.1) (0, ⟨d, tr, lv ++ [(tr.length : Int)], ks, W ++ [d], F⟩) ⟨Nat.zero_le _, Nat.zero_le _, hok2, List.take_of_length_le (by simp; omega), by simp, by simp; omega⟩ ⟨[0, 1, 2, 5, 4], by decide, rfl, ?_, ?_⟩ ?_
      · simp +contextual -implicitDefEqProofs (maxSteps := 1000000) only [sm, sn, sxx, smp, seval, sB_eq, flatL_Ent]
      · simp +contextual -implicitDefEqProofs (maxSteps := 1000000) only [sm, sn, sxx, smp, seval, sB_eq, Int.natCast_zero]
      · rintro ⟨j, ⟨d2, tr2, lv2, ks2, W2, F2⟩⟩ ⟨hj, hj6, hk2, hW2, hl2, hl2b⟩
        simp only at hj hj6 hk2 hW2 hl2 hl2b
        have hw2 : W2.length = lv2.length := hk2.same.wlen
        have hcl2 : OK10 120 ⟨d2, tr2, lv2, ks2, W2, F2⟩ := hk2.mono (by omega)
        by_cases hjt : j < m.length
        · by_cases hj6n : 60 ≤ j
          · have hjt' : (j : Int) < (m.length : Int) := by omega
            have hj6'' : ¬ (j : Int) < 60 := by omega
            simp +contextual -implicitDefEqProofs (maxSteps := 1000000) only [sm, sn, sxx, smp, seval, sB_eq, hjt', hj6'']
            refine loop_rule (fun s : S10 => OK10 120 s ∧ lv.length ≤ s.lv.length ∧ (lv.length < s.lv.length → s.W.take (lv.length + 1) = W ++ [d]) ∧ (s.lv.length = lv.length → s.d = d ∧ s.ks = [])) (fun s => tm 138 [(7, .ptr 5 0 0 0), (10, .list 1 (d.map eRgs)), (11, .int .i64 lv.length)])
              (fun s => sB s.d s.tr s.lv s.ks) (fun s => s.lv.length) ⟨d2, tr2, lv2, ks2, W2, F2⟩ ⟨hcl2, by simp only; omega, fun _ => hW2, fun h => by simp only at h; omega⟩ ⟨[0, 1, 2, 3, 4], by decide, rfl, ?_, ?_⟩ ?_
            · simp +contextual -implicitDefEqProofs (maxSteps := 1000000) only [sm, sn, sxx, smp, seval, sB_eq, flatL_Ent]
            · simp +contextual -implicitDefEqProofs (maxSteps := 1000000) only [sm, sn, sxx, smp, seval, sB_eq, flatL_Ent]
            · rintro ⟨d3, tr3, lv3, ks3, W3, F3⟩ ⟨hk3, h31, h32, h33⟩
              simp only at hk3 h31 h32 h33
              have hrow3 : ∀ r ∈ d3, r.length ≤ 1048577 := hk3.row
              have hdl3 : d3.length ≤ 64 := hk3.dl
              simp +contextual -implicitDefEqProofs (maxSteps := 1000000) only [sm, sn, sxx, smp, seval, sB_eq]
              refine callV_rule (Level_ctr d3 tr3 lv3) ?_ rfl ?_
              · simp +contextual -implicitDefEqProofs (maxSteps := 1000000) only [sm, sn, sxx, smp, seval, sV_eq, flatL_Ent]
              by_cases hp : (lv.length : Int) < (lv3.length : Int)
              · have hp' : lv.length < lv3.length := by omega
                simp +contextual -implicitDefEqProofs (maxSteps := 1000000) only [sm, sn, sxx, smp, seval, sB_eq, flatL_Ent, hp, gt_iff_lt]
                rcases pop_any hk3 (by omega) with ⟨hlv, -⟩ | ⟨q, p, E, hq, hE, hc, hr, hok'⟩
                · simp only at hlv; subst hlv; simp at hp'
                · simp only at hc hr hok' hq hE
                  refine callM_rule [0, 1, 2, 3, 4] hc (by decide) ?_ ?_ ?_ ?_ ?_ ?_
                  · simp +contextual -implicitDefEqProofs (maxSteps := 1000000) only [sm, sn, sxx, smp, seval, sB_eq, flatL_Ent, eRgs]
                  · simp +contextual -implicitDefEqProofs (maxSteps := 1000000) only [sm, sn, sxx, smp, seval, sB_eq, flatL_Ent, eRgs]
                  · simp +contextual -implicitDefEqProofs (maxSteps := 1000000) only [sm, sn, sxx, smp, seval, sB_eq, flatL_Ent, eRgs]
                  · simp +contextual -implicitDefEqProofs (maxSteps := 1000000) only [sm, sn, sxx, smp, seval, sB_eq, flatL_Ent, eRgs]
                  · simp +contextual -implicitDefEqProofs (maxSteps := 1000000) only [sm, sn, sxx, smp, seval, sB_eq, flatL_Ent, eRgs]
                  simp +contextual -implicitDefEqProofs (maxSteps := 1000000) only [sm, sn, sxx, smp, seval, sB_eq, flatL_Ent]
                  have hql : (lv3.take q).length = q := by rw [List.length_take]; omega
                  refine ⟨⟨E, tr3.take p, lv3.take q, [], W3.take q, List.replicate E.length false⟩, ⟨hok', by simp only; omega, fun h => take_pop (h32 hp') (by simp only at h; omega), fun h => ⟨?_, rfl⟩⟩, by simp only; omega, [0, 1, 2, 3, 4], by decide, rfl, ?_, ?_⟩
                  · simp only at h
                    have hqe : q = lv.length := by omega
                    subst hqe
                    exact top_of (h32 hp') hwl hE
                  · simp +contextual -implicitDefEqProofs (maxSteps := 1000000) only [sm, sn, sxx, smp, seval, sB_eq, flatL_Ent]
                  · simp +contextual -implicitDefEqProofs (maxSteps := 1000000) only [sm, sn, sxx, smp, seval, sB_eq, flatL_Ent]
              · have hpe : lv3.length = lv.length := by omega
                obtain ⟨hd3, hk3'⟩ := h33 hpe
                subst hd3; subst hk3'
                simp +contextual -implicitDefEqProofs (maxSteps := 1000000) only [sm, sn, sxx, smp, seval, sB_eq, flatL_Ent, hp, gt_iff_lt]
                refine callP_rule [0, 1, 2, 3, 4] (All_ctr d3 tr3 lv3 [] (fun r hr => by have := hrow3 r hr; omega) (by omega)) (by decide) ?_ ?_ ?_ ?_ ?_ ?_ ?_
                · simp +contextual -implicitDefEqProofs (maxSteps := 1000000) only [sm, sn, sxx, smp, seval, sB_eq, flatL_Ent, eDoms, eRgs]
                · simp +contextual -implicitDefEqProofs (maxSteps := 1000000) only [sm, sn, sxx, smp, seval, sB_eq, flatL_Ent, eDoms, eRgs]
                · simp +contextual -implicitDefEqProofs (maxSteps := 1000000) only [sm, sn, sxx, smp, seval, sB_eq, flatL_Ent, eDoms, eRgs]
                · simp +contextual -implicitDefEqProofs (maxSteps := 1000000) only [sm, sn, sxx, smp, seval, sB_eq, flatL_Ent, eDoms, eRgs]
                · simp +contextual -implicitDefEqProofs (maxSteps := 1000000) only [sm, sn, sxx, smp, seval, sB_eq, flatL_Ent, eDoms, eRgs]
                · simp +contextual -implicitDefEqProofs (maxSteps := 1000000) only [sm, sn, sxx, smp, seval, sB_eq, flatL_Ent, eDoms, eRgs]
                simp +contextual -implicitDefEqProofs (maxSteps := 1000000) only [sm, sn, sxx, smp, seval, sB_eq, flatL_Ent, eDoms]
                refine callA_rule (law08_Doms d3 d3 (by omega) (fun r hr => by have := hrow3 r hr; omega)) (wkL_refl _) rfl ?_
                simp +contextual -implicitDefEqProofs (maxSteps := 1000000) only [sm, sn, sxx, smp, seval, sB_eq, flatL_Ent, decide_true]
                have hpe2 : (((lv3.length : Nat) : Int) = ((lv.length : Nat) : Int)) = True := eq_true (by omega)
                refine callV_rule (Level_ctr d3 tr3 lv3) ?_ rfl ?_
                · simp +contextual -implicitDefEqProofs (maxSteps := 1000000) only [sm, sn, sxx, smp, seval, sV_eq, flatL_Ent]
                simp +contextual -implicitDefEqProofs (maxSteps := 1000000) only [sm, sn, sxx, smp, seval, sB_eq, flatL_Ent, hpe2]
                have hc := (chg_any hk3).1
                simp only [List.map_nil] at hc
                refine callM_rule [0, 1, 2, 3, 4] hc (by decide) ?_ ?_ ?_ ?_ ?_ ?_
                · simp +contextual -implicitDefEqProofs (maxSteps := 1000000) only [sm, sn, sxx, smp, seval, sB_eq, flatL_Ent, eRgs]
                · simp +contextual -implicitDefEqProofs (maxSteps := 1000000) only [sm, sn, sxx, smp, seval, sB_eq, flatL_Ent, eRgs]
                · simp +contextual -implicitDefEqProofs (maxSteps := 1000000) only [sm, sn, sxx, smp, seval, sB_eq, flatL_Ent, eRgs]
                · simp +contextual -implicitDefEqProofs (maxSteps := 1000000) only [sm, sn, sxx, smp, seval, sB_eq, flatL_Ent, eRgs]
                · simp +contextual -implicitDefEqProofs (maxSteps := 1000000) only [sm, sn, sxx, smp, seval, sB_eq, flatL_Ent, eRgs]
                simp +contextual -implicitDefEqProofs (maxSteps := 1000000) only [sm, sn, sxx, smp, seval, sB_eq, flatL_Ent, Int.natCast_zero]
          have hjt' : (j : Int) < (m.length : Int) := by omega
          have hj6'' : (j : Int) < 60 := by omega
          have e2 : IntKind.i64.wrap ((j : Int) + 1) = ((j + 1 : Nat) : Int) := by rw [wrap_i64] <;> omega
          have e3 : IntKind.i64.wrap ((lv.length : Int) + 1) = ((lv.length + 1 : Nat) : Int) := by rw [wrap_i64] <;> omega
          obtain ⟨⟨k, x, V⟩, ha0⟩ : ∃ a, m[j]? = some a := ⟨_, List.getElem?_eq_getElem hjt⟩
          have hk := hm _ (List.mem_of_getElem? ha0)
          simp only at hk
          simp +contextual -implicitDefEqProofs (maxSteps := 1000000) only [sm, sn, sxx, smp, seval, sB_eq, hjt', hj6'', hjt, ha0, om_Act]
          by_cases k0 : k.tmod 4 = 0
          · by_cases hV : (V.length : Int) ≤ 300
            · have hVb : V.length ≤ 1000000000000 := by omega
              simp +contextual -implicitDefEqProofs (maxSteps := 1000000) only [sm, sn, sxx, smp, seval, k0, hV]
              rcases narrow_any hk2 (by omega) x V hVb with ⟨ok, e, ⟨d', tr', lv', ks', W', F'⟩, hc, hr, hok', hN⟩ | ⟨⟨d', tr', lv', ks', W', F'⟩, hc, hr, hok', hN, -⟩
              · obtain ⟨hW, hL⟩ := hN.keep
                simp only [NarC] at hc hok' hW hL
                subst hW; subst hL
                refine callM_rule [0, 1, 2, 3, 4] hc (by decide) ?_ ?_ ?_ ?_ ?_ ?_
                · simp +contextual -implicitDefEqProofs (maxSteps := 1000000) only [sm, sn, sxx, smp, seval, sB_eq, flatL_Ent, eRgs]
                · simp +contextual -implicitDefEqProofs (maxSteps := 1000000) only [sm, sn, sxx, smp, seval, sB_eq, flatL_Ent, eRgs]
                · simp +contextual -implicitDefEqProofs (maxSteps := 1000000) only [sm, sn, sxx, smp, seval, sB_eq, flatL_Ent, eRgs]
                · simp +contextual -implicitDefEqProofs (maxSteps := 1000000) only [sm, sn, sxx, smp, seval, sB_eq, flatL_Ent, eRgs]
                · simp +contextual -implicitDefEqProofs (maxSteps := 1000000) only [sm, sn, sxx, smp, seval, sB_eq, flatL_Ent, eRgs]
                simp +contextual -implicitDefEqProofs (maxSteps := 1000000) only [sm, sn, sxx, smp, seval, sB_eq, flatL_Ent, e2]
                refine ⟨(j + 1, ⟨d', tr', lv', ks', W', F'⟩), ⟨by omega, by omega, (by simpa [Nat.add_assoc] using hok'), hW2, by simp <;> omega, by simp <;> omega⟩, by simp only; omega, [0, 1, 2, 3, 4], by decide, rfl, ?_, ?_⟩
                · simp +contextual -implicitDefEqProofs (maxSteps := 1000000) only [sm, sn, sxx, smp, seval, sB_eq, flatL_Ent]
                · simp +contextual -implicitDefEqProofs (maxSteps := 1000000) only [sm, sn, sxx, smp, seval, sB_eq, flatL_Ent]
              · obtain ⟨hW, hL⟩ := hN.keep
                simp only [NarC] at hc hok' hW hL
                subst hW; subst hL
                refine callM_rule [0, 1, 2, 3, 4] hc (by decide) ?_ ?_ ?_ ?_ ?_ ?_
                · simp +contextual -implicitDefEqProofs (maxSteps := 1000000) only [sm, sn, sxx, smp, seval, sB_eq, flatL_Ent, eRgs]
                · simp +contextual -implicitDefEqProofs (maxSteps := 1000000) only [sm, sn, sxx, smp, seval, sB_eq, flatL_Ent, eRgs]
                · simp +contextual -implicitDefEqProofs (maxSteps := 1000000) only [sm, sn, sxx, smp, seval, sB_eq, flatL_Ent, eRgs]
                · simp +contextual -implicitDefEqProofs (maxSteps := 1000000) only [sm, sn, sxx, smp, seval, sB_eq, flatL_Ent, eRgs]
                · simp +contextual -implicitDefEqProofs (maxSteps := 1000000) only [sm, sn, sxx, smp, seval, sB_eq, flatL_Ent, eRgs]
                simp +contextual -implicitDefEqProofs (maxSteps := 1000000) only [sm, sn, sxx, smp, seval, sB_eq, flatL_Ent, e2]
                refine ⟨(j + 1, ⟨d', tr', lv', ks', W', F'⟩), ⟨by omega, by omega, (by simpa [Nat.add_assoc] using hok'), hW2, by simp <;> omega, by simp <;> omega⟩, by simp only; omega, [0, 1, 6, 3, 4], by decide, rfl, ?_, ?_⟩
                · simp +contextual -implicitDefEqProofs (maxSteps := 1000000) only [sm, sn, sxx, smp, seval, sB_eq, flatL_Ent]
                · simp +contextual -implicitDefEqProofs (maxSteps := 1000000) only [sm, sn, sxx, smp, seval, sB_eq, flatL_Ent]
            · simp +contextual -implicitDefEqProofs (maxSteps := 1000000) only [sm, sn, sxx, smp, seval, k0, hV]
              simp +contextual -implicitDefEqProofs (maxSteps := 1000000) only [sm, sn, sxx, smp, seval, sB_eq, flatL_Ent, e2]
              refine ⟨(j + 1, ⟨d2, tr2, lv2, ks2, W2, F2⟩), ⟨by omega, by omega, hk2.mono (by omega), hW2, by simp <;> omega, by simp <;> omega⟩, by simp only; omega, [0, 1, 2, 3, 4], by decide, rfl, ?_, ?_⟩
              · simp +contextual -implicitDefEqProofs (maxSteps := 1000000) only [sm, sn, sxx, smp, seval, sB_eq, flatL_Ent]
              · simp +contextual -implicitDefEqProofs (maxSteps := 1000000) only [sm, sn, sxx, smp, seval, sB_eq, flatL_Ent]
          · by_cases k1 : k.tmod 4 = 1
            · simp +contextual -implicitDefEqProofs (maxSteps := 1000000) only [sm, sn, sxx, smp, seval, k0, k1]
              obtain ⟨hc, hr, hok2⟩ := push_any hk2 (by omega) (show lv2.length < 512 by omega)
              simp only at hc hr hok2
              refine callM_rule [0, 1, 2, 3, 4] hc (by decide) ?_ ?_ ?_ ?_ ?_ ?_
              · simp +contextual -implicitDefEqProofs (maxSteps := 1000000) only [sm, sn, sxx, smp, seval, sB_eq, flatL_Ent, eRgs]
              · simp +contextual -implicitDefEqProofs (maxSteps := 1000000) only [sm, sn, sxx, smp, seval, sB_eq, flatL_Ent, eRgs]
              · simp +contextual -implicitDefEqProofs (maxSteps := 1000000) only [sm, sn, sxx, smp, seval, sB_eq, flatL_Ent, eRgs]
              · simp +contextual -implicitDefEqProofs (maxSteps := 1000000) only [sm, sn, sxx, smp, seval, sB_eq, flatL_Ent, eRgs]
              · simp +contextual -implicitDefEqProofs (maxSteps := 1000000) only [sm, sn, sxx, smp, seval, sB_eq, flatL_Ent, eRgs]
              simp +contextual -implicitDefEqProofs (maxSteps := 1000000) only [sm, sn, sxx, smp, seval, sB_eq, flatL_Ent, e2]
              refine ⟨(j + 1, ⟨d2, tr2, lv2 ++ [(tr2.length : Int)], ks2, W2 ++ [d2], F2⟩), ⟨by omega, by omega, hok2.mono (by omega), take_push hW2 (by omega), by simp <;> omega, by simp <;> omega⟩, by simp only; omega, [0, 1, 2, 6, 4], by decide, rfl, ?_, ?_⟩
              · simp +contextual -implicitDefEqProofs (maxSteps := 1000000) only [sm, sn, sxx, smp, seval, sB_eq, flatL_Ent]
              · simp +contextual -implicitDefEqProofs (maxSteps := 1000000) only [sm, sn, sxx, smp, seval, sB_eq, flatL_Ent]
            · by_cases k2 : k.tmod 4 = 2
              · simp +contextual -implicitDefEqProofs (maxSteps := 1000000) only [sm, sn, sxx, smp, seval, k0, k1, k2]
                refine callV_rule (Level_ctr d2 tr2 lv2) ?_ rfl ?_
                · simp +contextual -implicitDefEqProofs (maxSteps := 1000000) only [sm, sn, sxx, smp, seval, sV_eq, flatL_Ent]
                by_cases hp : ((lv.length + 1 : Nat) : Int) < (lv2.length : Int)
                · simp +contextual -implicitDefEqProofs (maxSteps := 1000000) only [sm, sn, sxx, smp, seval, sB_eq, flatL_Ent, e3, hp, gt_iff_lt]
                  rcases pop_any hk2 (by omega) with ⟨hlv, -⟩ | ⟨q, p, E, hq, hE, hc, hr, hok'⟩
                  · simp only at hlv; subst hlv; simp at hl2
                  · simp only at hc hr hok' hq
                    refine callM_rule [0, 1, 2, 3, 4] hc (by decide) ?_ ?_ ?_ ?_ ?_ ?_
                    · simp +contextual -implicitDefEqProofs (maxSteps := 1000000) only [sm, sn, sxx, smp, seval, sB_eq, flatL_Ent, eRgs]
                    · simp +contextual -implicitDefEqProofs (maxSteps := 1000000) only [sm, sn, sxx, smp, seval, sB_eq, flatL_Ent, eRgs]
                    · simp +contextual -implicitDefEqProofs (maxSteps := 1000000) only [sm, sn, sxx, smp, seval, sB_eq, flatL_Ent, eRgs]
                    · simp +contextual -implicitDefEqProofs (maxSteps := 1000000) only [sm, sn, sxx, smp, seval, sB_eq, flatL_Ent, eRgs]
                    · simp +contextual -implicitDefEqProofs (maxSteps := 1000000) only [sm, sn, sxx, smp, seval, sB_eq, flatL_Ent, eRgs]
                    simp +contextual -implicitDefEqProofs (maxSteps := 1000000) only [sm, sn, sxx, smp, seval, sB_eq, flatL_Ent, e2]
                    refine ⟨(j + 1, ⟨E, tr2.take p, lv2.take q, [], W2.take q, List.replicate E.length false⟩), ⟨by omega, by omega, hok'.mono (by omega), take_pop hW2 (by omega), by simp <;> omega, by simp <;> omega⟩, by simp only; omega, [0, 1, 2, 3, 4], by decide, rfl, ?_, ?_⟩
                    · simp +contextual -implicitDefEqProofs (maxSteps := 1000000) only [sm, sn, sxx, smp, seval, sB_eq, flatL_Ent]
                    · simp +contextual -implicitDefEqProofs (maxSteps := 1000000) only [sm, sn, sxx, smp, seval, sB_eq, flatL_Ent]
                · simp +contextual -implicitDefEqProofs (maxSteps := 1000000) only [sm, sn, sxx, smp, seval, sB_eq, flatL_Ent, e3, hp, gt_iff_lt]
                  simp +contextual -implicitDefEqProofs (maxSteps := 1000000) only [sm, sn, sxx, smp, seval, sB_eq, flatL_Ent, e2]
                  refine ⟨(j + 1, ⟨d2, tr2, lv2, ks2, W2, F2⟩), ⟨by omega, by omega, hk2.mono (by omega), hW2, by simp <;> omega, by simp <;> omega⟩, by simp only; omega, [0, 1, 2, 3, 4], by decide, rfl, ?_, ?_⟩
                  · simp +contextual -implicitDefEqProofs (maxSteps := 1000000) only [sm, sn, sxx, smp, seval, sB_eq, flatL_Ent]
                  · simp +contextual -implicitDefEqProofs (maxSteps := 1000000) only [sm, sn, sxx, smp, seval, sB_eq, flatL_Ent]
              · simp +contextual -implicitDefEqProofs (maxSteps := 1000000) only [sm, sn, sxx, smp, seval, k0, k1, k2]
                simp +contextual -implicitDefEqProofs (maxSteps := 1000000) only [sm, sn, sxx, smp, seval, sB_eq, flatL_Ent, e2]
                refine ⟨(j + 1, ⟨d2, tr2, lv2, ks2, W2, F2⟩), ⟨by omega, by omega, hk2.mono (by omega), hW2, by simp <;> omega, by simp <;> omega⟩, by simp only; omega, [0, 1, 2, 3, 4], by decide, rfl, ?_, ?_⟩
                · simp +contextual -implicitDefEqProofs (maxSteps := 1000000) only [sm, sn, sxx, smp, seval, sB_eq, flatL_Ent]
                · simp +contextual -implicitDefEqProofs (maxSteps := 1000000) only [sm, sn, sxx, smp, seval, sB_eq, flatL_Ent]
        · have hjt' : ¬ (j : Int) < (m.length : Int) := by omega
          simp +contextual -implicitDefEqProofs (maxSteps := 1000000) only [sm, sn, sxx, smp, seval, sB_eq, hjt']
          refine loop_rule (fun s : S10 => OK10 120 s ∧ lv.length ≤ s.lv.length ∧ (lv.length < s.lv.length → s.W.take (lv.length + 1) = W ++ [d]) ∧ (s.lv.length = lv.length → s.d = d ∧ s.ks = [])) (fun s => tm 138 [(7, .ptr 5 0 0 0), (10, .list 1 (d.map eRgs)), (11, .int .i64 lv.length)])
            (fun s => sB s.d s.tr s.lv s.ks) (fun s => s.lv.length) ⟨d2, tr2, lv2, ks2, W2, F2⟩ ⟨hcl2, by simp only; omega, fun _ => hW2, fun h => by simp only at h; omega⟩ ⟨[0, 1, 2, 3, 4], by decide, rfl, ?_, ?_⟩ ?_
          · simp +contextual -implicitDefEqProofs (maxSteps := 1000000) only [sm, sn, sxx, smp, seval, sB_eq, flatL_Ent]
          · simp +contextual -implicitDefEqProofs (maxSteps := 1000000) only [sm, sn, sxx, smp, seval, sB_eq, flatL_Ent]
          · rintro ⟨d3, tr3, lv3, ks3, W3, F3⟩ ⟨hk3, h31, h32, h33⟩
            simp only at hk3 h31 h32 h33
            have hrow3 : ∀ r ∈ d3, r.length ≤ 1048577 := hk3.row
            have hdl3 : d3.length ≤ 64 := hk3.dl
            simp +contextual -implicitDefEqProofs (maxSteps := 1000000) only [sm, sn, sxx, smp, seval, sB_eq]
            refine callV_rule (Level_ctr d3 tr3 lv3) ?_ rfl ?_
            · simp +contextual -implicitDefEqProofs (maxSteps := 1000000) only [sm, sn, sxx, smp, seval, sV_eq, flatL_Ent]
            by_cases hp : (lv.length : Int) < (lv3.length : Int)
            · have hp' : lv.length < lv3.length := by omega
              simp +contextual -implicitDefEqProofs (maxSteps := 1000000) only [sm, sn, sxx, smp, seval, sB_eq, flatL_Ent, hp, gt_iff_lt]
              rcases pop_any hk3 (by omega) with ⟨hlv, -⟩ | ⟨q, p, E, hq, hE, hc, hr, hok'⟩
              · simp only at hlv; subst hlv; simp at hp'
              · simp only at hc hr hok' hq hE
                refine callM_rule [0, 1, 2, 3, 4] hc (by decide) ?_ ?_ ?_ ?_ ?_ ?_
                · simp +contextual -implicitDefEqProofs (maxSteps := 1000000) only [sm, sn, sxx, smp, seval, sB_eq, flatL_Ent, eRgs]
                · simp +contextual -implicitDefEqProofs (maxSteps := 1000000) only [sm, sn, sxx, smp, seval, sB_eq, flatL_Ent, eRgs]
                · simp +contextual -implicitDefEqProofs (maxSteps := 1000000) only [sm, sn, sxx, smp, seval, sB_eq, flatL_Ent, eRgs]
                · simp +contextual -implicitDefEqProofs (maxSteps := 1000000) only [sm, sn, sxx, smp, seval, sB_eq, flatL_Ent, eRgs]
                · simp +contextual -implicitDefEqProofs (maxSteps := 1000000) only [sm, sn, sxx, smp, seval, sB_eq, flatL_Ent, eRgs]
                simp +contextual -implicitDefEqProofs (maxSteps := 1000000) only [sm, sn, sxx, smp, seval, sB_eq, flatL_Ent]
                have hql : (lv3.take q).length = q := by rw [List.length_take]; omega
                refine ⟨⟨E, tr3.take p, lv3.take q, [], W3.take q, List.replicate E.length false⟩, ⟨hok', by simp only; omega, fun h => take_pop (h32 hp') (by simp only at h; omega), fun h => ⟨?_, rfl⟩⟩, by simp only; omega, [0, 1, 2, 3, 4], by decide, rfl, ?_, ?_⟩
                · simp only at h
                  have hqe : q = lv.length := by omega
                  subst hqe
                  exact top_of (h32 hp') hwl hE
                · simp +contextual -implicitDefEqProofs (maxSteps := 1000000) only [sm, sn, sxx, smp, seval, sB_eq, flatL_Ent]
                · simp +contextual -implicitDefEqProofs (maxSteps := 1000000) only [sm, sn, sxx, smp, seval, sB_eq, flatL_Ent]
            · have hpe : lv3.length = lv.length := by omega
              obtain ⟨hd3, hk3'⟩ := h33 hpe
              subst hd3; subst hk3'
              simp +contextual -implicitDefEqProofs (maxSteps := 1000000) only [sm, sn, sxx, smp, seval, sB_eq, flatL_Ent, hp, gt_iff_lt]
              refine callP_rule [0, 1, 2, 3, 4] (All_ctr d3 tr3 lv3 [] (fun r hr => by have := hrow3 r hr; omega) (by omega)) (by decide) ?_ ?_ ?_ ?_ ?_ ?_ ?_
              · simp +contextual -implicitDefEqProofs (maxSteps := 1000000) only [sm, sn, sxx, smp, seval, sB_eq, flatL_Ent, eDoms, eRgs]
              · simp +contextual -implicitDefEqProofs (maxSteps := 1000000) only [sm, sn, sxx, smp, seval, sB_eq, flatL_Ent, eDoms, eRgs]
              · simp +contextual -implicitDefEqProofs (maxSteps := 1000000) only [sm, sn, sxx, smp, seval, sB_eq, flatL_Ent, eDoms, eRgs]
              · simp +contextual -implicitDefEqProofs (maxSteps := 1000000) only [sm, sn, sxx, smp, seval, sB_eq, flatL_Ent, eDoms, eRgs]
              · simp +contextual -implicitDefEqProofs (maxSteps := 1000000) only [sm, sn, sxx, smp, seval, sB_eq, flatL_Ent, eDoms, eRgs]
              · simp +contextual -implicitDefEqProofs (maxSteps := 1000000) only [sm, sn, sxx, smp, seval, sB_eq, flatL_Ent, eDoms, eRgs]
              simp +contextual -implicitDefEqProofs (maxSteps := 1000000) only [sm, sn, sxx, smp, seval, sB_eq, flatL_Ent, eDoms]
              refine callA_rule (law08_Doms d3 d3 (by omega) (fun r hr => by have := hrow3 r hr; omega)) (wkL_refl _) rfl ?_
              simp +contextual -implicitDefEqProofs (maxSteps := 1000000) only [sm, sn, sxx, smp, seval, sB_eq, flatL_Ent, decide_true]
              have hpe2 : (((lv3.length : Nat) : Int) = ((lv.length : Nat) : Int)) = True := eq_true (by omega)
              refine callV_rule (Level_ctr d3 tr3 lv3) ?_ rfl ?_
              · simp +contextual -implicitDefEqProofs (maxSteps := 1000000) only [sm, sn, sxx, smp, seval, sV_eq, flatL_Ent]
              simp +contextual -implicitDefEqProofs (maxSteps := 1000000) only [sm, sn, sxx, smp, seval, sB_eq, flatL_Ent, hpe2]
              have hc := (chg_any hk3).1
              simp only [List.map_nil] at hc
              refine callM_rule [0, 1, 2, 3, 4] hc (by decide) ?_ ?_ ?_ ?_ ?_ ?_
              · simp +contextual -implicitDefEqProofs (maxSteps := 1000000) only [sm, sn, sxx, smp, seval, sB_eq, flatL_Ent, eRgs]
              · simp +contextual -implicitDefEqProofs (maxSteps := 1000000) only [sm, sn, sxx, smp, seval, sB_eq, flatL_Ent, eRgs]
              · simp +contextual -implicitDefEqProofs (maxSteps := 1000000) only [sm, sn, sxx, smp, seval, sB_eq, flatL_Ent, eRgs]
              · simp +contextual -implicitDefEqProofs (maxSteps := 1000000) only [sm, sn, sxx, smp, seval, sB_eq, flatL_Ent, eRgs]
              · simp +contextual -implicitDefEqProofs (maxSteps := 1000000) only [sm, sn, sxx, smp, seval, sB_eq, flatL_Ent, eRgs]
              simp +contextual -implicitDefEqProofs (maxSteps := 1000000) only [sm, sn, sxx, smp, seval, sB_eq, flatL_Ent, Int.natCast_zero]
end Go.Proofs.Ytbmcjhjbifojnaa
