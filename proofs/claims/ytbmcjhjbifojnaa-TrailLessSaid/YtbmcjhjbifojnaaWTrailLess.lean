/- The law TrailLess. -/
import Derived.Test.YtbmcjhjbifojnaaWTrail8
namespace Go.Proofs.Ytbmcjhjbifojnaa
open Av
attribute [local irreducible] awp awpOpers
set_option linter.unusedSimpArgs false
set_option linter.unusedVariables false
set_option maxRecDepth 100000
set_option maxHeartbeats 4000000
/-- what Narrow leaves of a store whose rows are right -/
theorem less_row {r V : List Rg} (hr : rightB r = true) (hV : rightB V = true) : rightB (meetS r V) = true ∧ meetS (meetS r V) r = meetS r V := by
  obtain ⟨h1, h2⟩ := meetS_facts hr hV
  obtain ⟨h3, h4⟩ := meetS_facts h1 hr
  exact ⟨h1, right_ext h3 h1 fun v => by rw [h4, h2]; exact ⟨fun h => h.1, fun h => ⟨h, h.1⟩⟩⟩
theorem less_self {r : List Rg} (hr : rightB r = true) : meetS r r = r := by
  obtain ⟨h3, h4⟩ := meetS_facts hr hr
  exact right_ext h3 hr fun v => by rw [h4]; exact ⟨fun h => h.1, fun h => ⟨h, h⟩⟩
def okD (d : List (List Rg)) : Prop := ∀ r ∈ d, r ≠ [] ∧ rightB r = true
/-- what is asked of each row -/
structure Less (d d' : List (List Rg)) (x : Int) : Prop where
  len : d'.length = d.length
  row : ∀ (j : Nat) r r', d[j]? = some r → d'[j]? = some r' → rightB r' = true ∧ r' ≠ [] ∧ meetS r' r = r' ∧ ((j : Int) ≠ x → r = r')
theorem Nar.less {s s' : S10} {x : Int} {V : List Rg} {ok : Bool} {e : Int} (h : Nar s x V ok e s') (hd : okD s.d) : okD s'.d ∧ Less s.d s'.d x := by
  cases h with
  | no e =>
    refine ⟨hd, rfl, fun j r r' h1 h2 => ?_⟩
    rw [h1] at h2; injection h2 with h2; subst h2
    obtain ⟨k1, k2⟩ := hd r (List.mem_of_getElem? h1)
    exact ⟨k2, k1, less_self k2, fun _ => rfl⟩
  | new n r tr' hx hr hR hm hs =>
    obtain ⟨k1, k2⟩ := hd r (List.mem_of_getElem? hr)
    obtain ⟨m1, m2⟩ := less_row k2 hR
    refine ⟨?_, by simp, ?_⟩
    · intro q hq
      rcases List.mem_or_eq_of_mem_set hq with hq | rfl
      · exact hd q hq
      · exact ⟨hm, m1⟩
    · intro j q q' h1 h2
      simp only [List.getElem?_set] at h2
      split at h2
      · rename_i hnj; subst hnj
        split at h2
        · injection h2 with h2; subst h2
          rw [hr] at h1; injection h1 with h1; subst h1
          exact ⟨m1, hm, m2, fun h => absurd hx.symm h⟩
        · cases h2
      · rw [h1] at h2; injection h2 with h2; subst h2
        obtain ⟨q1, q2⟩ := hd q (List.mem_of_getElem? h1)
        exact ⟨q2, q1, less_self q2, fun _ => rfl⟩
/-- what Narrow told -/
theorem Nar.told {s s' : S10} {x : Int} {V : List Rg} {ok : Bool} {e : Int} (h : Nar s x V ok e s') (hk : s.ks = []) (hd : okD s.d) :
    (ok = false ∧ s'.ks = [] ∧ s'.d = s.d) ∨ (ok = true ∧ e = 0 ∧ ∃ (n : Nat) (r r' : List Rg), x = (n : Int) ∧ s'.ks = [n] ∧ s.d[n]? = some r ∧ s'.d[n]? = some r' ∧ r ≠ r') := by
  cases h with
  | no e => exact .inl ⟨rfl, hk, rfl⟩
  | new n r tr' hx hr hR hm hs =>
    refine .inr ⟨rfl, rfl, n, r, meetS r V, hx, by simp only [hk]; rfl, hr, ?_, ?_⟩
    · have hn := (List.getElem?_eq_some_iff.1 hr).1
      simp [hn]
    · intro h
      have k2 := (hd r (List.mem_of_getElem? hr)).2
      obtain ⟨m1, _⟩ := less_row k2 hR
      rw [m1, ← h] at hs
      simp at hs
theorem Nar.lev {s s' : S10} {x : Int} {V : List Rg} {ok : Bool} {e : Int} (h : Nar s x V ok e s') : s'.lv = s.lv := by
  cases h <;> rfl
theorem om_Rgs0 (o : Option (List Rg)) : o.map eRgs = match o with | some r => some (.list 2 (r.map eRg)) | none => none := by cases o <;> rfl
theorem law_TrailLess (D : List (List Rg)) (l : List Act10) (hl : D.length ≤ 9223372036854775807) (hll : l.length ≤ 9223372036854775807) (ha : ∀ a ∈ l, 0 ≤ a.1 ∧ a.1 ≤ 255) :
    Ctr Try.prog 5 [eDoms D, eActs l] [] (.bool true) [] := by
  refine call_pure Try.func5 Try.call5 e_law10_TrailLess ?_
  simp +contextual -implicitDefEqProofs (maxSteps := 1000000) only [c_law10_TrailLess, eDoms, eActs, sm, sn, sxx, smp, seval]
  refine callA_rule law10_alive (wkL_refl _) rfl ?_
  simp +contextual -implicitDefEqProofs (maxSteps := 1000000) only [sm, sn, sxx, smp, seval]
  refine callA_rule (law10_Fits D hl) (wkL_refl _) rfl ?_
  cases hf : fitT D
  · simp +contextual -implicitDefEqProofs (maxSteps := 1000000) only [sm, sn, sxx, smp, seval]
  obtain ⟨f1, f2⟩ := fitT_len hf
  have hd : ∀ r ∈ D, r.length ≤ 1000000000000 := fun r hr => by have := f2 r hr; omega
  cases hn : newB D
  · simp +contextual -implicitDefEqProofs (maxSteps := 1000000) only [sm, sn, sxx, smp, seval]
    refine callO_rule (New_none D hd hn) rfl (wkL_refl _) rfl rfl ?_
    simp +contextual -implicitDefEqProofs (maxSteps := 1000000) only [sm, sn, sxx, smp, seval, wkN_nilp]
    refine callA_rule (ref10_Right D (by omega) hd) (wkL_refl _) rfl ?_
    simp +contextual -implicitDefEqProofs (maxSteps := 1000000) only [sm, sn, sxx, smp, seval, hn]
  obtain ⟨n1, n2⟩ := (newB_iff D).1 hn
  simp +contextual -implicitDefEqProofs (maxSteps := 1000000) only [sm, sn, sxx, smp, seval]
  refine callO_rule (New_ctr D n1 hd n2) rfl (wkL_refl _) rfl (by simp +contextual -implicitDefEqProofs (maxSteps := 1000000) only [sm, sn, sxx, smp, seval, nB_eq]) ?_
  simp +contextual -implicitDefEqProofs (maxSteps := 1000000) only [sm, sn, sxx, smp, seval, nB_eq]
  refine loop_rule (fun s : Nat × S10 => s.1 ≤ l.length ∧ s.1 ≤ 80 ∧ OK10 s.1 s.2 ∧ s.2.lv = [] ∧ okD s.2.d) (fun s => tm 170 [(1, .list 3 (l.map eAct)), (5, .ptr 5 0 0 0), (6, .int .i64 s.1)])
    (fun s => sB s.2.d s.2.tr s.2.lv s.2.ks) (fun s => l.length - s.1) (0, ⟨D, [], [], [], [], List.replicate D.length false⟩) ⟨Nat.zero_le _, Nat.zero_le _, OK10.start n1 (fun r hr => by have := f2 r hr; omega), rfl, n2⟩ ⟨[0, 1, 3, 4, 2], by decide, rfl, ?_, ?_⟩ ?_
  · have en : encK [] = 0 := rfl
    simp +contextual -implicitDefEqProofs (maxSteps := 1000000) only [sm, sn, sxx, smp, seval, sB_eq, flatL_Ent, en]
  · simp +contextual -implicitDefEqProofs (maxSteps := 1000000) only [sm, sn, sxx, smp, seval, sB_eq, Int.natCast_zero]
  · rintro ⟨i, ⟨d, tr, lv, ks, W, F⟩⟩ ⟨hi, hi8, hok0, hlv, hokd⟩
    simp only at hi hi8 hok0 hlv hokd
    subst hlv
    by_cases hlt : i < l.length
    · by_cases hlt8n : 80 ≤ i
      · have hlt' : (i : Int) < (l.length : Int) := by omega
        have hlt8' : ¬ (i : Int) < 80 := by omega
        simp +contextual -implicitDefEqProofs (maxSteps := 1000000) only [sm, sn, sxx, smp, seval, sB_eq, hlt', hlt8']
      have hlt8 : i < 80 := by omega
      have hlt' : (i : Int) < (l.length : Int) := by omega
      have hlt8' : (i : Int) < 80 := by omega
      have e2 : IntKind.i64.wrap ((i : Int) + 1) = ((i + 1 : Nat) : Int) := by rw [wrap_i64] <;> omega
      obtain ⟨⟨k, x, V⟩, ha0⟩ : ∃ a, l[i]? = some a := ⟨_, List.getElem?_eq_getElem hlt⟩
      have hk := ha _ (List.mem_of_getElem? ha0)
      simp only at hk
      simp +contextual -implicitDefEqProofs (maxSteps := 1000000) only [sm, sn, sxx, smp, seval, sB_eq, hlt', hlt8', hlt, ha0, om_Act]
      by_cases k0 : k.tmod 4 = 0
      · by_cases hV : (300 : Int) < (V.length : Int)
        · simp +contextual -implicitDefEqProofs (maxSteps := 1000000) only [sm, sn, sxx, smp, seval, k0, hV, gt_iff_lt]
          simp +contextual -implicitDefEqProofs (maxSteps := 1000000) only [sm, sn, sxx, smp, seval, sB_eq, e2]
          refine ⟨(i + 1, ⟨d, tr, [], ks, W, F⟩), ⟨by omega, by omega, hok0.mono (Nat.le_succ i), rfl, hokd⟩, by simp only; omega, [0, 1, 2, 3, 4], by decide, rfl, ?_, ?_⟩
          · simp +contextual -implicitDefEqProofs (maxSteps := 1000000) only [sm, sn, sxx, smp, seval, sB_eq, flatL_Ent]
          · simp +contextual -implicitDefEqProofs (maxSteps := 1000000) only [sm, sn, sxx, smp, seval, sB_eq, flatL_Ent]
        · have hVb : V.length ≤ 1000000000000 := by omega
          simp +contextual -implicitDefEqProofs (maxSteps := 1000000) only [sm, sn, sxx, smp, seval, k0, hV, gt_iff_lt]
          obtain ⟨hc0, -, hok⟩ := chg_any hok0
          simp only at hc0 hok
          have hrow : ∀ r ∈ d, r.length ≤ 1048577 := hok.row
          have hdl : d.length ≤ 64 := hok.dl
          refine callM_rule [0, 1, 2, 3, 4] hc0 (by decide) ?_ ?_ ?_ ?_ ?_ ?_
          · simp +contextual -implicitDefEqProofs (maxSteps := 1000000) only [sm, sn, sxx, smp, seval, sB_eq, flatL_Ent, eRgs]
          · simp +contextual -implicitDefEqProofs (maxSteps := 1000000) only [sm, sn, sxx, smp, seval, sB_eq, flatL_Ent, eRgs]
          · simp +contextual -implicitDefEqProofs (maxSteps := 1000000) only [sm, sn, sxx, smp, seval, sB_eq, flatL_Ent, eRgs]
          · simp +contextual -implicitDefEqProofs (maxSteps := 1000000) only [sm, sn, sxx, smp, seval, sB_eq, flatL_Ent, eRgs]
          · simp +contextual -implicitDefEqProofs (maxSteps := 1000000) only [sm, sn, sxx, smp, seval, sB_eq, flatL_Ent, eRgs]
          simp +contextual -implicitDefEqProofs (maxSteps := 1000000) only [sm, sn, sxx, smp, seval, sB_eq, flatL_Ent]
          refine callP_rule [0, 1, 2, 3, 4] (All_ctr d tr [] [] (fun r hr => by have := hrow r hr; omega) (by omega)) (by decide) ?_ ?_ ?_ ?_ ?_ ?_ ?_
          · simp +contextual -implicitDefEqProofs (maxSteps := 1000000) only [sm, sn, sxx, smp, seval, sB_eq, flatL_Ent, eDoms, eRgs]
          · simp +contextual -implicitDefEqProofs (maxSteps := 1000000) only [sm, sn, sxx, smp, seval, sB_eq, flatL_Ent, eDoms, eRgs]
          · simp +contextual -implicitDefEqProofs (maxSteps := 1000000) only [sm, sn, sxx, smp, seval, sB_eq, flatL_Ent, eDoms, eRgs]
          · simp +contextual -implicitDefEqProofs (maxSteps := 1000000) only [sm, sn, sxx, smp, seval, sB_eq, flatL_Ent, eDoms, eRgs]
          · simp +contextual -implicitDefEqProofs (maxSteps := 1000000) only [sm, sn, sxx, smp, seval, sB_eq, flatL_Ent, eDoms, eRgs]
          · simp +contextual -implicitDefEqProofs (maxSteps := 1000000) only [sm, sn, sxx, smp, seval, sB_eq, flatL_Ent, eDoms, eRgs]
          simp +contextual -implicitDefEqProofs (maxSteps := 1000000) only [sm, sn, sxx, smp, seval, sB_eq, flatL_Ent, eDoms]
          rcases narrow_any hok (by omega) x V hVb with ⟨ok, e, ⟨d', tr', lv', ks', W', F'⟩, hc, hr, hok', hN⟩ | ⟨_, _, _, _, _, h⟩
          · have hL := hN.lev
            obtain ⟨hd', hLe⟩ := hN.less hokd
            have hT := hN.told rfl hokd
            simp only [NarC] at hc hok' hL hd' hLe hT
            subst hL
            have hrow' : ∀ r ∈ d', r.length ≤ 1048577 := hok'.row
            have hdl' : d'.length ≤ 64 := hok'.dl
            have hlen' : d'.length = d.length := hLe.len
            refine callM_rule [0, 1, 2, 3, 4] hc (by decide) ?_ ?_ ?_ ?_ ?_ ?_
            · simp +contextual -implicitDefEqProofs (maxSteps := 1000000) only [sm, sn, sxx, smp, seval, sB_eq, flatL_Ent, eRgs]
            · simp +contextual -implicitDefEqProofs (maxSteps := 1000000) only [sm, sn, sxx, smp, seval, sB_eq, flatL_Ent, eRgs]
            · simp +contextual -implicitDefEqProofs (maxSteps := 1000000) only [sm, sn, sxx, smp, seval, sB_eq, flatL_Ent, eRgs]
            · simp +contextual -implicitDefEqProofs (maxSteps := 1000000) only [sm, sn, sxx, smp, seval, sB_eq, flatL_Ent, eRgs]
            · simp +contextual -implicitDefEqProofs (maxSteps := 1000000) only [sm, sn, sxx, smp, seval, sB_eq, flatL_Ent, eRgs]
            simp +contextual -implicitDefEqProofs (maxSteps := 1000000) only [sm, sn, sxx, smp, seval, sB_eq, flatL_Ent]
            refine callP_rule [0, 1, 2, 3, 4] (All_ctr d' tr' [] ks' (fun r hr => by have := hrow' r hr; omega) (by omega)) (by decide) ?_ ?_ ?_ ?_ ?_ ?_ ?_
            · simp +contextual -implicitDefEqProofs (maxSteps := 1000000) only [sm, sn, sxx, smp, seval, sB_eq, flatL_Ent, eDoms, eRgs]
            · simp +contextual -implicitDefEqProofs (maxSteps := 1000000) only [sm, sn, sxx, smp, seval, sB_eq, flatL_Ent, eDoms, eRgs]
            · simp +contextual -implicitDefEqProofs (maxSteps := 1000000) only [sm, sn, sxx, smp, seval, sB_eq, flatL_Ent, eDoms, eRgs]
            · simp +contextual -implicitDefEqProofs (maxSteps := 1000000) only [sm, sn, sxx, smp, seval, sB_eq, flatL_Ent, eDoms, eRgs]
            · simp +contextual -implicitDefEqProofs (maxSteps := 1000000) only [sm, sn, sxx, smp, seval, sB_eq, flatL_Ent, eDoms, eRgs]
            · simp +contextual -implicitDefEqProofs (maxSteps := 1000000) only [sm, sn, sxx, smp, seval, sB_eq, flatL_Ent, eDoms, eRgs]
            simp +contextual -implicitDefEqProofs (maxSteps := 1000000) only [sm, sn, sxx, smp, seval, sB_eq, flatL_Ent, eDoms]
            refine loop_rule (fun j : Nat => j ≤ d'.length) (fun j => tm 170 [(1, .list 3 (l.map eAct)), (5, .ptr 5 0 0 0), (6, .int .i64 i), (7, .ptr 3 5 0 0), (8, .list 1 (d.map eRgs)), (9, .bool ok), (10, .int .i64 e), (11, .list 1 (d'.map eRgs)), (66, .int .i64 d'.length), (67, .int .i64 j)])
              (fun _ => sB d' tr' [] ks' ++ [some (3, [.agg [.int .u8 k, .int .i64 x, .list 2 (V.map eRg)]])]) (fun j => d'.length - j) 0 (Nat.zero_le _) ⟨[0, 1, 2, 3, 4, 5], by decide, rfl, ?_, ?_⟩ ?_
            · simp +contextual -implicitDefEqProofs (maxSteps := 1000000) only [sm, sn, sxx, smp, seval, sB_eq, flatL_Ent]
            · simp +contextual -implicitDefEqProofs (maxSteps := 1000000) only [sm, sn, sxx, smp, seval, sB_eq, Int.natCast_zero]
            · intro j hj
              by_cases hjl : j < d'.length
              · have hjl2 : j < d.length := by omega
                have hjl' : (j : Int) < (d'.length : Int) := by omega
                have hj0 : (0 : Int) ≤ (j : Int) := by omega
                have e3 : IntKind.i64.wrap ((j : Int) + 1) = ((j + 1 : Nat) : Int) := by rw [wrap_i64] <;> omega
                obtain ⟨r, hr⟩ : ∃ r, d[j]? = some r := ⟨_, List.getElem?_eq_getElem hjl2⟩
                obtain ⟨r', hr'⟩ : ∃ r', d'[j]? = some r' := ⟨_, List.getElem?_eq_getElem hjl⟩
                obtain ⟨q1, q2, q3, q4⟩ := hLe.row j r r' hr hr'
                have hrl := hrow r (List.mem_of_getElem? hr)
                have hrl' := hrow' r' (List.mem_of_getElem? hr')
                have hr0 : ¬ (r'.length : Int) = 0 := by
                  intro h
                  exact q2 (List.eq_nil_of_length_eq_zero (by omega))
                have hM := set_Meet r' r (by omega) (by omega)
                rw [q3] at hM
                have hS := ref09_Same r' r' (by omega) (by omega)
                have hss : rsameB r' r' = true := by unfold rsameB; simp [q1]
                rw [hss] at hS
                have hRi := set_Right r' (by omega)
                rw [q1] at hRi
                simp only [eRgs] at hM hS hRi
                simp +contextual -implicitDefEqProofs (maxSteps := 1000000) only [sm, sn, sxx, smp, seval, sB_eq, hjl', hjl, hjl2, hr, hr', om_Rgs0, eRgs]
                refine callA_rule hRi (wkL_refl _) rfl ?_
                simp +contextual -implicitDefEqProofs (maxSteps := 1000000) only [sm, sn, sxx, smp, seval, sB_eq, hjl', hjl, hjl2, hr, hr', om_Rgs0, eRgs, hr0]
                refine callA_rule hM (wkL_refl _) rfl ?_
                simp +contextual -implicitDefEqProofs (maxSteps := 1000000) only [sm, sn, sxx, smp, seval, sB_eq, hjl', hjl, hjl2, hr, hr', om_Rgs0, eRgs, hr0]
                refine callA_rule hS (wkL_refl _) rfl ?_
                by_cases hjx : (j : Int) = x
                · subst hjx
                  simp +contextual -implicitDefEqProofs (maxSteps := 1000000) only [sm, sn, sxx, smp, seval, sB_eq, hjl', hjl, hjl2, hr, hr', om_Rgs0, eRgs, hr0, e3]
                  refine ⟨j + 1, by omega, by omega, [0, 1, 2, 3, 4, 5], by decide, rfl, ?_, ?_⟩
                  · simp +contextual -implicitDefEqProofs (maxSteps := 1000000) only [sm, sn, sxx, smp, seval, sB_eq, flatL_Ent]
                  · simp +contextual -implicitDefEqProofs (maxSteps := 1000000) only [sm, sn, sxx, smp, seval, sB_eq, flatL_Ent]
                · have hrr := q4 hjx
                  subst hrr
                  have hRg := law08_Ranges r r (by omega)
                  simp only [eRgs, decide_true] at hRg
                  simp +contextual -implicitDefEqProofs (maxSteps := 1000000) only [sm, sn, sxx, smp, seval, sB_eq, hjl', hjl, hjl2, hr, hr', om_Rgs0, eRgs, hr0, hjx]
                  refine callA_rule hRg (wkL_refl _) rfl ?_
                  simp +contextual -implicitDefEqProofs (maxSteps := 1000000) only [sm, sn, sxx, smp, seval, sB_eq, hjl', hjl, hjl2, hr, hr', om_Rgs0, eRgs, hr0, hjx, e3]
                  refine ⟨j + 1, by omega, by omega, [0, 1, 2, 3, 4, 5], by decide, rfl, ?_, ?_⟩
                  · simp +contextual -implicitDefEqProofs (maxSteps := 1000000) only [sm, sn, sxx, smp, seval, sB_eq, flatL_Ent]
                  · simp +contextual -implicitDefEqProofs (maxSteps := 1000000) only [sm, sn, sxx, smp, seval, sB_eq, flatL_Ent]
              · have hjl' : ¬ (j : Int) < (d'.length : Int) := by omega
                obtain ⟨hc2, -, hok2⟩ := chg_any hok'
                simp only at hc2 hok2
                replace hok2 := hok2.mono (show i + 1 ≤ i + 1 from Nat.le_refl _)
                simp +contextual -implicitDefEqProofs (maxSteps := 1000000) only [sm, sn, sxx, smp, seval, sB_eq, hjl']
                rcases hT with ⟨t1, t2, t3⟩ | ⟨t1, t2, n, r, r', t3, t4, t5, t6, t7⟩
                · subst t1; subst t2; subst t3
                  simp only [List.map_nil] at hc2
                  refine callM_rule [0, 1, 2, 3, 4] hc2 (by decide) ?_ ?_ ?_ ?_ ?_ ?_
                  · simp +contextual -implicitDefEqProofs (maxSteps := 1000000) only [sm, sn, sxx, smp, seval, sB_eq, flatL_Ent, eRgs]
                  · simp +contextual -implicitDefEqProofs (maxSteps := 1000000) only [sm, sn, sxx, smp, seval, sB_eq, flatL_Ent, eRgs]
                  · simp +contextual -implicitDefEqProofs (maxSteps := 1000000) only [sm, sn, sxx, smp, seval, sB_eq, flatL_Ent, eRgs]
                  · simp +contextual -implicitDefEqProofs (maxSteps := 1000000) only [sm, sn, sxx, smp, seval, sB_eq, flatL_Ent, eRgs]
                  · simp +contextual -implicitDefEqProofs (maxSteps := 1000000) only [sm, sn, sxx, smp, seval, sB_eq, flatL_Ent, eRgs]
                  simp +contextual -implicitDefEqProofs (maxSteps := 1000000) only [sm, sn, sxx, smp, seval, sB_eq, flatL_Ent, Int.natCast_zero, eDoms]
                  have hDD := law08_Doms d' d' (by omega) (fun r hr => by have := hrow r hr; omega)
                  simp only [eDoms, decide_true] at hDD
                  refine callA_rule hDD (wkL_refl _) rfl ?_
                  simp +contextual -implicitDefEqProofs (maxSteps := 1000000) only [sm, sn, sxx, smp, seval, sB_eq, flatL_Ent, Int.natCast_zero, eDoms, e2]
                  refine ⟨(i + 1, ⟨d', tr', [], [], W', List.replicate d'.length false⟩), ⟨by omega, by omega, hok2, rfl, hd'⟩, by simp only; omega, [0, 1, 2, 3, 4], by decide, rfl, ?_, ?_⟩
                  · simp +contextual -implicitDefEqProofs (maxSteps := 1000000) only [sm, sn, sxx, smp, seval, sB_eq, flatL_Ent]
                  · simp +contextual -implicitDefEqProofs (maxSteps := 1000000) only [sm, sn, sxx, smp, seval, sB_eq, flatL_Ent]
                · subst t1; subst t2; subst t3; subst t4
                  have hn1 : n < d.length := (List.getElem?_eq_some_iff.1 t5).1
                  have hn2 : n < d'.length := (List.getElem?_eq_some_iff.1 t6).1
                  have hn0 : (0 : Int) ≤ (n : Int) := by omega
                  have hrl := hrow r (List.mem_of_getElem? t5)
                  have hRg := law08_Ranges r r' (by omega)
                  simp only [eRgs, decide_eq_false t7] at hRg
                  have m1 : ([n].map Int.ofNat).map eI = [.int .i64 n] := rfl
                  rw [m1] at hc2
                  refine callM_rule [0, 1, 2, 3, 4] hc2 (by decide) ?_ ?_ ?_ ?_ ?_ ?_
                  · simp +contextual -implicitDefEqProofs (maxSteps := 1000000) only [sm, sn, sxx, smp, seval, sB_eq, flatL_Ent, eRgs]
                  · simp +contextual -implicitDefEqProofs (maxSteps := 1000000) only [sm, sn, sxx, smp, seval, sB_eq, flatL_Ent, eRgs]
                  · simp +contextual -implicitDefEqProofs (maxSteps := 1000000) only [sm, sn, sxx, smp, seval, sB_eq, flatL_Ent, eRgs]
                  · simp +contextual -implicitDefEqProofs (maxSteps := 1000000) only [sm, sn, sxx, smp, seval, sB_eq, flatL_Ent, eRgs]
                  · simp +contextual -implicitDefEqProofs (maxSteps := 1000000) only [sm, sn, sxx, smp, seval, sB_eq, flatL_Ent, eRgs]
                  simp +contextual -implicitDefEqProofs (maxSteps := 1000000) only [sm, sn, sxx, smp, seval, sB_eq, flatL_Ent, Int.natCast_zero, eDoms, hn0, hn1, hn2, t5, t6, om_Rgs0, eRgs]
                  refine callA_rule hRg (wkL_refl _) rfl ?_
                  simp +contextual -implicitDefEqProofs (maxSteps := 1000000) only [sm, sn, sxx, smp, seval, sB_eq, flatL_Ent, Int.natCast_zero, eDoms, e2]
                  refine ⟨(i + 1, ⟨d', tr', [], [], W', List.replicate d'.length false⟩), ⟨by omega, by omega, hok2, rfl, hd'⟩, by simp only; omega, [0, 1, 2, 3, 4], by decide, rfl, ?_, ?_⟩
                  · simp +contextual -implicitDefEqProofs (maxSteps := 1000000) only [sm, sn, sxx, smp, seval, sB_eq, flatL_Ent]
                  · simp +contextual -implicitDefEqProofs (maxSteps := 1000000) only [sm, sn, sxx, smp, seval, sB_eq, flatL_Ent]
          · exact absurd rfl h
      · simp +contextual -implicitDefEqProofs (maxSteps := 1000000) only [sm, sn, sxx, smp, seval, k0]
        simp +contextual -implicitDefEqProofs (maxSteps := 1000000) only [sm, sn, sxx, smp, seval, sB_eq, e2]
        refine ⟨(i + 1, ⟨d, tr, [], ks, W, F⟩), ⟨by omega, by omega, hok0.mono (Nat.le_succ i), rfl, hokd⟩, by simp only; omega, [0, 1, 2, 3, 4], by decide, rfl, ?_, ?_⟩
        · simp +contextual -implicitDefEqProofs (maxSteps := 1000000) only [sm, sn, sxx, smp, seval, sB_eq, flatL_Ent]
        · simp +contextual -implicitDefEqProofs (maxSteps := 1000000) only [sm, sn, sxx, smp, seval, sB_eq, flatL_Ent]
    · have hlt' : ¬ (i : Int) < (l.length : Int) := by omega
      simp +contextual -implicitDefEqProofs (maxSteps := 1000000) only [sm, sn, sxx, smp, seval, sB_eq, hlt']
end Go.Proofs.Ytbmcjhjbifojnaa
