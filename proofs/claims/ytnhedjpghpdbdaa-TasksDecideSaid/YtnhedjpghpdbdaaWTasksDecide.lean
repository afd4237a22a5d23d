/- TasksDecide. -/
import Derived.Test.YtnhedjpghpdbdaaWLaw18
import Derived.Test.YtnhedjpghpdbdaaPlTask3
import Derived.Test.YtnhedjpghpdbdaaWFrz
import Derived.Test.YtnhedjpghpdbdaaGRef11
import Derived.Test.YtnhedjpghpdbdaaCTasksD
namespace Go.Proofs.Ytnhedjpghpdbdaa
open Av
attribute [local irreducible] awp awpOpers
set_option linter.unusedSimpArgs false
set_option linter.unusedVariables false
set_option maxRecDepth 100000
set_option maxHeartbeats 4000000
theorem tasks_own (c : Con) (D : List (List Rg)) (hD : D.length ≤ 1000000000000) (hd : ∀ d ∈ D, d.length ≤ 1000000000000) (hc : conFits c) :
    Ctr Try.prog 20 [eCon c, .sl 1 0 0 D.length] [some (1, D.map eRgs)] (.tuple [eDoms (tasksL c D).1, .int .i64 (tasksL c D).2]) [none] := by
  have t2 : List.take D.length (D.map eRgs) = D.map eRgs := take_map _ _
  refine ctr_frz [] [0] (ctr_more (bs := [none]) (tasks_Narrow c D hD hd hc) rfl rfl) rfl ?_ ?_
  · intro k hk
    have : k = 0 := by simp at hk; omega
    subst this; simp
  · intro j v v' hv hv'
    have hj : j < 2 := by
      rcases Nat.lt_or_ge j 2 with h | h
      · exact h
      · rw [List.getElem?_eq_none (by simpa using h)] at hv; cases hv
    have hcs : j = 0 ∨ j = 1 := by omega
    rcases hcs with rfl | rfl
    · injection hv with hv; injection hv' with hv'; subst hv; subst hv'
      left; exact wk_refl _
    · injection hv with hv; injection hv' with hv'; subst hv; subst hv'
      right
      simp +contextual -implicitDefEqProofs (maxSteps := 1000000) only [sm, sn, sxx, seval, eDoms, killL, t2]
theorem ask_mod {X A : List Int} {C : Int} {a : List Int} (h : askdB (19, X, A, C) a = true) (hl : a.length ≤ 64) (hb : ∀ v ∈ a, -1048576 ≤ v ∧ v ≤ 1048576) : modB (oneD a, [(19, X, A, C)], 0, 0) = true := by
  unfold askdB at h
  simp only [Bool.and_eq_true, decide_eq_true_eq, List.all_eq_true] at h
  obtain ⟨⟨⟨h1, h2⟩, h3⟩, h4⟩ := h
  unfold mayB formedB at h4
  simp only [up_len, Bool.and_eq_true, decide_eq_true_eq] at h4
  obtain ⟨⟨⟨⟨⟨q1, q2⟩, q3⟩, q4⟩, q5⟩, q6⟩ := h4
  unfold modB mayB formedB
  simp only [List.all_cons, List.all_nil, Bool.and_true, Bool.and_eq_true, decide_eq_true_eq]
  refine ⟨⟨⟨⟨by rw [one_len]; exact hl, by simp⟩, ?_⟩, ⟨⟨⟨⟨⟨q1, h2⟩, q3⟩, q4⟩, ?_⟩, q6⟩⟩, by simp [askB]⟩
  · rw [List.all_eq_true]
    intro d hd
    unfold oneD at hd
    obtain ⟨v, hv, rfl⟩ := List.mem_map.1 hd
    exact dom_one (hb v hv)
  · have e : (shp 19).2.2.2.2 = 0 := by decide
    rw [e]
    unfold xsOk
    refine all_yes fun k hk => ?_
    unfold xOk
    rw [xat_get hk]
    have := h3 _ (List.mem_of_getElem? (xat_get hk))
    unfold idxB at this
    simp only [Bool.and_eq_true, decide_eq_true_eq] at this
    simp [one_len, this.1.1, this.1.2]
theorem one_snoc (a : List Int) (v : Int) : (oneD a).map eRgs ++ [AV.list 2 [.agg [.int .i64 v, .int .i64 v]]] = (oneD (a ++ [v])).map eRgs := by
  unfold oneD
  simp [eRgs, eRg]
theorem law_TasksDecide (c : Con) (a : List Int) (hX : c.2.1.length ≤ 9223372036854775807) (hA : c.2.2.1.length ≤ 9223372036854775807) : Ctr Try.prog 9 [eCon c, eIs a] [] (.bool true) [] := by
  refine call_pure Try.func9 Try.call9 e_law18_TasksDecide ?_
  have hcon : ∃ K X A G, c = (K, X, A, G) := ⟨c.1, c.2.1, c.2.2.1, c.2.2.2, rfl⟩
  obtain ⟨K, X, A, G, rfl⟩ := hcon
  simp only at hX hA
  simp +contextual -implicitDefEqProofs (maxSteps := 1000000) only [c_law18_TasksDecide, eCon, eIs, sm, sn, sxx, seval]
  refine callA_rule law18_alive (wkL_refl _) rfl ?_
  by_cases h64 : 64 < (a.length : Int)
  · simp +contextual -implicitDefEqProofs (maxSteps := 1000000) only [sm, sn, sxx, seval, h64]
  by_cases hx64 : 64 < (X.length : Int)
  · simp +contextual -implicitDefEqProofs (maxSteps := 1000000) only [sm, sn, sxx, seval, h64, hx64, eCon, eIs]
  by_cases ha200 : 200 < (A.length : Int)
  · simp +contextual -implicitDefEqProofs (maxSteps := 1000000) only [sm, sn, sxx, seval, h64, hx64, ha200, eCon, eIs]
  simp +contextual -implicitDefEqProofs (maxSteps := 1000000) only [sm, sn, sxx, seval, h64, hx64, ha200, eCon, eIs]
  refine callA_rule (ref11_Asked (K, X, A, G) a (by simp only; omega) (by simp only; omega) (by omega)) (by simp +contextual -implicitDefEqProofs (maxSteps := 1000000) only [sm, sn, sxx, seval, eCon, eIs]) rfl ?_
  cases hq : askdB (K, X, A, G) a
  · simp +contextual -implicitDefEqProofs (maxSteps := 1000000) only [sm, sn, sxx, seval]
  by_cases hK : K = 19
  rotate_left
  · simp +contextual -implicitDefEqProofs (maxSteps := 1000000) only [sm, sn, sxx, seval, eCon, eIs, hK]
  subst hK
  simp +contextual -implicitDefEqProofs (maxSteps := 1000000) only [sm, sn, sxx, seval, eCon, eIs]
  refine loop_ruleV [(5, 1)] (fun k : Nat => k ≤ a.length ∧ ∀ (j : Nat) v, j < k → a[j]? = some v → -1048576 ≤ v ∧ v ≤ 1048576) (fun k => tm 78 [(1, .list 1 (a.map eI)), (2, .ptr 4 0 0 0), (5, .sl 1 1 0 k), (38, .list 1 (a.map eI)), (39, .int .i64 a.length), (40, .int .i64 k)]) (fun k => [some (4, [eCon (19, X, A, G)]), some (1, (oneD (a.take k)).map eRgs)]) (fun k => a.length - k) 0 (by simp +contextual -implicitDefEqProofs (maxSteps := 1000000) only [sm, sn, sxx, seval]) ⟨Nat.zero_le _, fun j v h => by omega⟩ ⟨[0, 1], by decide, rfl, ?_, ?_⟩ ?_
  · simp +contextual -implicitDefEqProofs (maxSteps := 1000000) only [sm, sn, sxx, seval, eCon, eIs, List.take_zero, oneD, List.map_nil]
  · simp +contextual -implicitDefEqProofs (maxSteps := 1000000) only [sm, sn, sxx, seval, Int.natCast_zero]
  rintro k ⟨hk, hok⟩
  have hol : (oneD (a.take k)).length = k := by rw [one_len, List.length_take]; omega
  by_cases hlt : k < a.length
  · have hlt' : (k : Int) < (a.length : Int) := by omega
    have e2 : IntKind.i64.wrap ((k : Int) + 1) = ((k + 1 : Nat) : Int) := by rw [wrap_i64] <;> omega
    obtain ⟨v, hv⟩ : ∃ v, a[k]? = some v := ⟨_, List.getElem?_eq_getElem hlt⟩
    by_cases q1 : v < -1048576
    · simp +contextual -implicitDefEqProofs (maxSteps := 1000000) only [sm, sn, sxx, seval, hlt', hv, q1]
    by_cases q2 : 1048576 < v
    · simp +contextual -implicitDefEqProofs (maxSteps := 1000000) only [sm, sn, sxx, seval, hlt', hv, q1, q2]
    have c1 : (k + 1) * 24 ≤ 140737488355328 := by omega
    have c2 : k + 1 ≤ maxLen := by unfold maxLen; omega
    have hsn : (oneD (a.take k)).map eRgs ++ [AV.list 2 [.agg [.int .i64 v, .int .i64 v]]] = (oneD (a.take (k + 1))).map eRgs := by rw [one_snoc, take_snoc hv]
    simp +contextual -implicitDefEqProofs (maxSteps := 1000000) only [sm, sn, sxx, seval, hlt', hv, q1, q2, hol, c1, c2, hsn, e2]
    refine ⟨k + 1, ⟨by omega, fun j u hj hu => ?_⟩, by omega, [0, 2], by decide, rfl, ?_, ?_⟩
    · rcases Nat.lt_succ_iff_lt_or_eq.1 hj with h | rfl
      · exact hok j u h hu
      · rw [hv] at hu; injection hu with hu; subst hu; omega
    · simp +contextual -implicitDefEqProofs (maxSteps := 1000000) only [sm, sn, sxx, seval, eCon, eIs]
    · simp +contextual -implicitDefEqProofs (maxSteps := 1000000) only [sm, sn, sxx, seval]
  · have hkn : k = a.length := by omega
    subst hkn
    rw [List.take_length] at hol ⊢
    have hb : ∀ v ∈ a, -1048576 ≤ v ∧ v ≤ 1048576 := fun v hv => by
      obtain ⟨j, hj⟩ := List.getElem?_of_mem hv
      exact hok j v (List.getElem?_eq_some_iff.1 hj).1 hj
    have hm := ask_mod hq (by omega) hb
    have hN := tasks_own (19, X, A, G) (oneD a) (by omega) (fun d hd => by unfold oneD at hd; obtain ⟨v, -, rfl⟩ := List.mem_map.1 hd; simp) ⟨by simp only; omega, by simp only; omega⟩
    have hH := ref11_Holds (19, X, A, G) a (by simp only; omega) (by simp only; omega) (by omega) (by simp only; omega)
    rw [hq, Bool.true_and, tasks_holds] at hH
    rw [tasks_one hb hm, hol] at hN
    generalize oneD a = od at hN hol ⊢
    cases hB : tasksB A G (valsOf X a)
    · rw [hB] at hN
      have hH' : Ctr Try.prog 30 [eCon (19, X, A, G), eIs a] [] (.bool false) [] := by rw [← hB]; exact hH
      simp only [Bool.false_eq_true, if_false] at hN
      simp +contextual -implicitDefEqProofs (maxSteps := 1000000) only [sm, sn, sxx, seval, Int.lt_irrefl, eCon, eIs]
      refine callM_rule [1] hN (by decide) ?_ ?_ ?_ ?_ ?_ ?_
      · simp +contextual -implicitDefEqProofs (maxSteps := 1000000) only [sm, sn, sxx, seval]
      · simp +contextual -implicitDefEqProofs (maxSteps := 1000000) only [sm, sn, sxx, seval, eCon, eIs]
      · simp +contextual -implicitDefEqProofs (maxSteps := 1000000) only [sm, sn, sxx, seval, eCon, eIs]
        try rfl
      · simp +contextual -implicitDefEqProofs (maxSteps := 1000000) only [sm, sn, sxx, seval, eDoms]
      · simp +contextual -implicitDefEqProofs (maxSteps := 1000000) only [sm, sn, sxx, seval]
      simp +contextual -implicitDefEqProofs (maxSteps := 1000000) only [sm, sn, sxx, seval, eDoms, eCon, eIs]
      refine callA_rule hH' (by simp +contextual -implicitDefEqProofs (maxSteps := 1000000) only [sm, sn, sxx, seval, eCon, eIs]) rfl ?_
      simp +contextual -implicitDefEqProofs (maxSteps := 1000000) only [sm, sn, sxx, seval]
      try simp
    · rw [hB] at hN
      have hH' : Ctr Try.prog 30 [eCon (19, X, A, G), eIs a] [] (.bool true) [] := by rw [← hB]; exact hH
      simp only [if_true] at hN
      simp +contextual -implicitDefEqProofs (maxSteps := 1000000) only [sm, sn, sxx, seval, Int.lt_irrefl, eCon, eIs]
      refine callM_rule [1] hN (by decide) ?_ ?_ ?_ ?_ ?_ ?_
      · simp +contextual -implicitDefEqProofs (maxSteps := 1000000) only [sm, sn, sxx, seval]
      · simp +contextual -implicitDefEqProofs (maxSteps := 1000000) only [sm, sn, sxx, seval, eCon, eIs]
      · simp +contextual -implicitDefEqProofs (maxSteps := 1000000) only [sm, sn, sxx, seval, eCon, eIs]
        try rfl
      · simp +contextual -implicitDefEqProofs (maxSteps := 1000000) only [sm, sn, sxx, seval, eDoms]
      · simp +contextual -implicitDefEqProofs (maxSteps := 1000000) only [sm, sn, sxx, seval]
      simp +contextual -implicitDefEqProofs (maxSteps := 1000000) only [sm, sn, sxx, seval, eDoms, eCon, eIs]
      refine callA_rule hH' (by simp +contextual -implicitDefEqProofs (maxSteps := 1000000) only [sm, sn, sxx, seval, eCon, eIs]) rfl ?_
      simp +contextual -implicitDefEqProofs (maxSteps := 1000000) only [sm, sn, sxx, seval]
      try simp
end Go.Proofs.Ytnhedjpghpdbdaa
