/- What New and Pop of trail compute. -/
import Derived.Test.YtbmcjhjbifojnaaWTrail2
namespace Go.Proofs.Ytbmcjhjbifojnaa
open Av
attribute [local irreducible] awp awpOpers
set_option linter.unusedSimpArgs false
set_option linter.unusedVariables false
set_option maxRecDepth 100000
set_option maxHeartbeats 4000000
theorem wkN_nilp (u : AV) : wkN .nilp u = wk .nilp u := rfl
theorem New_big (D : List (List Rg)) (h : 64 < D.length) : Ctr Try.prog 9 [eDoms D] [] .nilp [] := by
  refine call_box Try.func9 Try.call9 e_trail_New ?_
  have h' : (64 : Int) < (D.length : Int) := by omega
  simp +contextual -implicitDefEqProofs (maxSteps := 1000000) only [c_trail_New, eDoms, sm, sn, sxx, smp, seval, h', gt_iff_lt]
  refine ⟨[], [], by decide, ?_⟩
  simp +contextual -implicitDefEqProofs (maxSteps := 1000000) only [sm, sn, sxx, smp, seval, wkN_nilp]
theorem New_ok (D : List (List Rg)) (hl : D.length ≤ 64) (hd : ∀ r ∈ D, r.length ≤ 1000000000000) (h : ∀ r ∈ D, r ≠ [] ∧ rightB r = true) :
    Ctr Try.prog 9 [eDoms D] [] (.ptr 5 0 0 0) [some (5, [.agg [.bool true, .sl 1 1 0 D.length, .nils, .nils, .mp 2]]), some (1, D.map eRgs), some (1, [.agg []])] := by
  refine call_box Try.func9 Try.call9 e_trail_New ?_
  have h' : ¬ (64 : Int) < (D.length : Int) := by omega
  simp +contextual -implicitDefEqProofs (maxSteps := 1000000) only [c_trail_New, eDoms, sm, sn, sxx, smp, seval, h', gt_iff_lt]
  refine loop_ruleF [(1, 1, 1)] [] (fun k : Nat => k ≤ D.length) (fun k => tm 39 [(3, .ptr 5 1 0 0), (12, .list 1 (D.map eRgs)), (13, .int .i64 D.length), (14, .int .i64 k)]) (fun k => [some (1, [.agg []]), some (5, [.agg [.bool true, .sl 1 2 0 k, .nils, .nils, .mp 0]]), some (1, (D.take k).map eRgs)]) (fun k => D.length - k) 0 (by simp +contextual -implicitDefEqProofs (maxSteps := 1000000) only [sm, sn, sxx, smp, seval]) (by simp +contextual -implicitDefEqProofs (maxSteps := 1000000) only [sm, sn, sxx, smp, seval]) (Nat.zero_le _) ⟨[0, 1, 2], by decide, rfl, ?_, ?_⟩ ?_
  · simp +contextual -implicitDefEqProofs (maxSteps := 1000000) only [sm, sn, sxx, smp, seval]
  · simp +contextual -implicitDefEqProofs (maxSteps := 1000000) only [sm, sn, sxx, smp, seval, Int.natCast_zero]
  · intro k hk
    by_cases hlt : k < D.length
    · obtain ⟨r, hr⟩ : ∃ r, D[k]? = some r := ⟨_, List.getElem?_eq_getElem hlt⟩
      obtain ⟨hr0, hrR⟩ := h r (List.mem_of_getElem? hr)
      have hrl := hd r (List.mem_of_getElem? hr)
      have hlt' : (k : Int) < (D.length : Int) := by omega
      have e2 : IntKind.i64.wrap ((k : Int) + 1) = ((k + 1 : Nat) : Int) := by rw [wrap_i64] <;> omega
      have htk : D.take k ++ [r] = D.take (k + 1) := by rw [List.take_add_one, hr]; rfl
      have htl : (D.take k).length = k := by rw [List.length_take]; omega
      have hn0 : ¬ (r.length : Int) = 0 := by
        intro h
        exact hr0 (List.eq_nil_of_length_eq_zero (by omega))
      have c1 : (k + 1) * 24 ≤ 140737488355328 := by omega
      have c2 : k + 1 ≤ maxLen := by unfold maxLen; omega
      simp +contextual -implicitDefEqProofs (maxSteps := 1000000) only [sm, sn, sxx, smp, seval, hlt', hr, hlt, hn0]
      refine callA_rule (set_Right r hrl) (wkL_refl _) rfl ?_
      simp +contextual -implicitDefEqProofs (maxSteps := 1000000) only [sm, sn, sxx, smp, seval, hrR]
      refine callA_rule (clone_rgs r hrl) (wkL_refl _) rfl ?_
      simp +contextual -implicitDefEqProofs (maxSteps := 1000000) only [sm, sn, sxx, smp, seval, eRgs, htl, htk, c1, c2, e2]
      refine ⟨k + 1, by omega, by omega, [0, 1, 3], by decide, rfl, ?_, ?_⟩
      · simp +contextual -implicitDefEqProofs (maxSteps := 1000000) only [sm, sn, sxx, smp, seval]
      · simp +contextual -implicitDefEqProofs (maxSteps := 1000000) only [sm, sn, sxx, smp, seval]
    · have hkn : k = D.length := by omega
      subst hkn
      simp +contextual -implicitDefEqProofs (maxSteps := 1000000) only [sm, sn, sxx, smp, seval, Int.lt_irrefl, List.take_length]
      refine ⟨[], [1, 2, 0], by decide, ?_⟩
      simp +contextual -implicitDefEqProofs (maxSteps := 1000000) only [sm, sn, sxx, smp, seval]
theorem New_no (D : List (List Rg)) (hl : D.length ≤ 64) (hd : ∀ r ∈ D, r.length ≤ 1000000000000) (h : ∃ r ∈ D, r = [] ∨ rightB r = false) :
    Ctr Try.prog 9 [eDoms D] [] .nilp [] := by
  refine call_box Try.func9 Try.call9 e_trail_New ?_
  have h' : ¬ (64 : Int) < (D.length : Int) := by omega
  simp +contextual -implicitDefEqProofs (maxSteps := 1000000) only [c_trail_New, eDoms, sm, sn, sxx, smp, seval, h', gt_iff_lt]
  refine loop_ruleF [(1, 1, 1)] [] (fun k : Nat => k ≤ D.length ∧ ∀ j r, j < k → D[j]? = some r → r ≠ [] ∧ rightB r = true) (fun k => tm 39 [(3, .ptr 5 1 0 0), (12, .list 1 (D.map eRgs)), (13, .int .i64 D.length), (14, .int .i64 k)]) (fun k => [some (1, [.agg []]), some (5, [.agg [.bool true, .sl 1 2 0 k, .nils, .nils, .mp 0]]), some (1, (D.take k).map eRgs)]) (fun k => D.length - k) 0 (by simp +contextual -implicitDefEqProofs (maxSteps := 1000000) only [sm, sn, sxx, smp, seval]) (by simp +contextual -implicitDefEqProofs (maxSteps := 1000000) only [sm, sn, sxx, smp, seval]) ⟨Nat.zero_le _, fun j r hj => absurd hj (Nat.not_lt_zero _)⟩ ⟨[0, 1, 2], by decide, rfl, ?_, ?_⟩ ?_
  · simp +contextual -implicitDefEqProofs (maxSteps := 1000000) only [sm, sn, sxx, smp, seval]
  · simp +contextual -implicitDefEqProofs (maxSteps := 1000000) only [sm, sn, sxx, smp, seval, Int.natCast_zero]
  · rintro k ⟨hk, hok⟩
    by_cases hlt : k < D.length
    · obtain ⟨r, hr⟩ : ∃ r, D[k]? = some r := ⟨_, List.getElem?_eq_getElem hlt⟩
      have hrl := hd r (List.mem_of_getElem? hr)
      have hlt' : (k : Int) < (D.length : Int) := by omega
      have e2 : IntKind.i64.wrap ((k : Int) + 1) = ((k + 1 : Nat) : Int) := by rw [wrap_i64] <;> omega
      have htk : D.take k ++ [r] = D.take (k + 1) := by rw [List.take_add_one, hr]; rfl
      have htl : (D.take k).length = k := by rw [List.length_take]; omega
      have c1 : (k + 1) * 24 ≤ 140737488355328 := by omega
      have c2 : k + 1 ≤ maxLen := by unfold maxLen; omega
      by_cases hr0 : r = []
      · subst hr0
        simp +contextual -implicitDefEqProofs (maxSteps := 1000000) only [sm, sn, sxx, smp, seval, hlt', hr, hlt, Int.natCast_zero]
        refine ⟨[], [], by decide, ?_⟩
        simp +contextual -implicitDefEqProofs (maxSteps := 1000000) only [sm, sn, sxx, smp, seval, wkN_nilp]
      · have hn0 : ¬ (r.length : Int) = 0 := by
          intro h
          exact hr0 (List.eq_nil_of_length_eq_zero (by omega))
        simp +contextual -implicitDefEqProofs (maxSteps := 1000000) only [sm, sn, sxx, smp, seval, hlt', hr, hlt, hn0]
        refine callA_rule (set_Right r hrl) (wkL_refl _) rfl ?_
        cases hrR : rightB r
        · simp +contextual -implicitDefEqProofs (maxSteps := 1000000) only [sm, sn, sxx, smp, seval]
          refine ⟨[], [], by decide, ?_⟩
          simp +contextual -implicitDefEqProofs (maxSteps := 1000000) only [sm, sn, sxx, smp, seval, wkN_nilp]
        · simp +contextual -implicitDefEqProofs (maxSteps := 1000000) only [sm, sn, sxx, smp, seval]
          refine callA_rule (clone_rgs r hrl) (wkL_refl _) rfl ?_
          simp +contextual -implicitDefEqProofs (maxSteps := 1000000) only [sm, sn, sxx, smp, seval, eRgs, htl, htk, c1, c2, e2]
          refine ⟨k + 1, ⟨by omega, ?_⟩, by omega, [0, 1, 3], by decide, rfl, ?_, ?_⟩
          · intro j q hj hq
            rcases Nat.lt_succ_iff_lt_or_eq.1 hj with hj | rfl
            · exact hok j q hj hq
            · rw [hr] at hq; injection hq with hq; subst hq; exact ⟨hr0, hrR⟩
          · simp +contextual -implicitDefEqProofs (maxSteps := 1000000) only [sm, sn, sxx, smp, seval]
          · simp +contextual -implicitDefEqProofs (maxSteps := 1000000) only [sm, sn, sxx, smp, seval]
    · exfalso
      obtain ⟨r, hm, hb⟩ := h
      obtain ⟨j, hj⟩ := List.getElem?_of_mem hm
      have hjl := (List.getElem?_eq_some_iff.1 hj).1
      have := hok j r (by omega) hj
      rcases hb with hb | hb
      · exact this.1 hb
      · rw [this.2] at hb; cases hb
/-- what was lost behind a place of the trail, given back -/
def undoS (d : List (List Rg)) : List (Int × List Rg) → List (List Rg)
  | [] => d
  | e :: l => (undoS d l).set e.1.toNat e.2
theorem undoS_len (d : List (List Rg)) : ∀ l, (undoS d l).length = d.length
  | [] => rfl
  | e :: l => by simp [undoS, undoS_len d l]
theorem Pop_nil : Ctr Try.prog 17 [.nilp] [] (.int .i64 1) [] := by
  refine call_pure Try.func17 Try.call17 e_trail_Store_Pop ?_
  simp +contextual -implicitDefEqProofs (maxSteps := 1000000) only [c_trail_Store_Pop, sm, sn, sxx, smp, seval]
  refine callV_rule good_nil ?_ rfl ?_
  · simp +contextual -implicitDefEqProofs (maxSteps := 1000000) only [sm, sn, sxx, smp, seval]
  simp +contextual -implicitDefEqProofs (maxSteps := 1000000) only [sm, sn, sxx, smp, seval]
section
variable (d : List (List Rg)) (tr : List (Int × List Rg)) (lv : List Int) (ks : List Nat)
theorem Pop_none : Ctr Try.prog 17 [.ptr 5 0 0 0] (sB d tr [] ks) (.int .i64 11) (sB d tr [] ks) := by
  refine call_box Try.func17 Try.call17 e_trail_Store_Pop ?_
  have e1 : IntKind.i64.wrap (0 - 1) = -1 := by decide
  have e2 : IntKind.i64.wrap (-1) = -1 := by decide
  simp +contextual -implicitDefEqProofs (maxSteps := 1000000) only [c_trail_Store_Pop, sB_eq, sm, sn, sxx, smp, seval]
  refine callV_rule (good_ctr true [.list 1 (d.map eRgs), .list 2 (tr.map eEnt), .list 1 [], .any]) ?_ rfl ?_
  · simp +contextual -implicitDefEqProofs (maxSteps := 1000000) only [sm, sn, sxx, smp, seval, flatL_Ent]
  simp +contextual -implicitDefEqProofs (maxSteps := 1000000) only [sm, sn, sxx, smp, seval, e1, e2, Int.natCast_zero]
  refine ⟨[], [0, 1, 2, 3, 4], by decide, rfl, ?_⟩
  simp +contextual -implicitDefEqProofs (maxSteps := 1000000) only [sm, sn, sxx, smp, seval, flatL_Ent]
theorem Pop_ctr (q m : Nat) (hlq : lv.length = q + 1) (hlm : lv[q]? = some (m : Int)) (hm : m ≤ tr.length) (ht : tr.length ≤ 1000000000000) (hll : lv.length ≤ 1000000000000) (hx : ∀ i x r, m ≤ i → tr[i]? = some (x, r) → 0 ≤ x ∧ x < (d.length : Int)) :
    Ctr Try.prog 17 [.ptr 5 0 0 0] (sB d tr lv ks) (.int .i64 0)
      [some (5, [.agg [.bool true, .sl 1 1 0 d.length, .sl 2 2 0 m, .sl 1 3 0 q, .mp 4]]), some (1, (undoS d (tr.drop m)).map eRgs), some (2, tr.map eEnt), some (1, lv.map eI), some (1, [.agg []])] := by
  refine call_box Try.func17 Try.call17 e_trail_Store_Pop ?_
  have e1 : IntKind.i64.wrap (((q + 1 : Nat) : Int) - 1) = (q : Int) := by rw [wrap_i64] <;> omega
  have e2 : IntKind.i64.wrap ((tr.length : Int) - 1) = (tr.length : Int) - 1 := by rw [wrap_i64] <;> omega
  have q0 : ¬ (q : Int) < 0 := by omega
  have qlt : q < lv.length := by omega
  have qle : q ≤ lv.length := by omega
  have qi0 : (0 : Int) ≤ (q : Int) := by omega
  have qlt1 : q < q + 1 := by omega
  have qle1 : q ≤ q + 1 := by omega
  simp +contextual -implicitDefEqProofs (maxSteps := 1000000) only [c_trail_Store_Pop, sB_eq, sm, sn, sxx, smp, seval]
  refine callV_rule (good_ctr true [.list 1 (d.map eRgs), .list 2 (tr.map eEnt), .list 1 (lv.map eI), .any]) ?_ rfl ?_
  · simp +contextual -implicitDefEqProofs (maxSteps := 1000000) only [sm, sn, sxx, smp, seval, flatL_Ent]
  simp +contextual -implicitDefEqProofs (maxSteps := 1000000) only [sm, sn, sxx, smp, seval, hlq, e1, e2, q0]
  refine loop_rule (fun i : Nat => m ≤ i ∧ i ≤ tr.length) (fun i => tm 82 [(0, .ptr 5 0 0 0), (3, .int .i64 q), (4, .int .i64 ((i : Int) - 1))]) (fun i => sB (undoS d (tr.drop i)) tr lv ks) (fun i => i) tr.length ⟨hm, Nat.le_refl _⟩ ⟨[0, 1, 2, 3, 4], by decide, rfl, ?_, ?_⟩ ?_
  · simp +contextual -implicitDefEqProofs (maxSteps := 1000000) only [sm, sn, sxx, smp, seval, sB_eq, flatL_Ent, List.drop_length, undoS, hlq]
  · simp +contextual -implicitDefEqProofs (maxSteps := 1000000) only [sm, sn, sxx, smp, seval, flatL_Ent, sB_eq]
  · rintro i ⟨h1, h2⟩
    have hul := undoS_len d (tr.drop i)
    by_cases hlt : m < i
    · obtain ⟨j, rfl⟩ : ∃ j, i = j + 1 := ⟨i - 1, by omega⟩
      have hj : j < tr.length := by omega
      obtain ⟨⟨x, r⟩, hr⟩ : ∃ e, tr[j]? = some e := ⟨_, List.getElem?_eq_getElem hj⟩
      obtain ⟨x0, x1⟩ := hx j x r (by omega) hr
      obtain ⟨y, rfl⟩ := Int.eq_ofNat_of_zero_le x0
      have hy : y < d.length := by omega
      have hju : undoS d (tr.drop j) = (undoS d (tr.drop (j + 1))).set y r := by
        rw [drop_at hr]; simp [undoS]
      have ej : ((j + 1 : Nat) : Int) - 1 = (j : Int) := by omega
      have ej2 : IntKind.i64.wrap ((j : Int) - 1) = (j : Int) - 1 := by rw [wrap_i64] <;> omega
      have hge : (m : Int) ≤ (j : Int) := by omega
      obtain ⟨z, hz⟩ : ∃ z, (undoS d (tr.drop (j + 1)))[y]? = some z := ⟨_, List.getElem?_eq_getElem (by omega)⟩
      have hyu : y < (undoS d (tr.drop (j + 1))).length := by omega
      simp +contextual -implicitDefEqProofs (maxSteps := 1000000) only [sm, sn, sxx, smp, seval, sB_eq, ej, qlt, qi0, hlm, hge, ge_iff_le, hr, hj, om_Ent, hyu, hz, set_Rgs, ej2]
      refine ⟨j, ⟨by omega, by omega⟩, by omega, [0, 1, 2, 3, 4], by decide, rfl, ?_, ?_⟩
      · simp +contextual -implicitDefEqProofs (maxSteps := 1000000) only [sm, sn, sxx, smp, seval, sB_eq, flatL_Ent, hju, List.length_set]
      · simp +contextual -implicitDefEqProofs (maxSteps := 1000000) only [sm, sn, sxx, smp, seval, flatL_Ent, sB_eq]
    · have him : i = m := by omega
      subst him
      have hge : ¬ (i : Int) ≤ (i : Int) - 1 := by omega
      have m0 : (0 : Int) ≤ (i : Int) := by omega
      simp +contextual -implicitDefEqProofs (maxSteps := 1000000) only [sm, sn, sxx, smp, seval, sB_eq, qlt, qle, qi0, hlm, hge, ge_iff_le, hul, hm, m0, Nat.sub_zero, Nat.zero_le]
      refine ⟨[], [0, 1, 2, 3, 4], by decide, rfl, ?_⟩
      simp +contextual -implicitDefEqProofs (maxSteps := 1000000) only [sm, sn, sxx, smp, seval, flatL_Ent]
end
end Go.Proofs.Ytbmcjhjbifojnaa
