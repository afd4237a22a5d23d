/- TasksRoom. -/
import Derived.Test.YtnhedjpghpdbdaaWLaw18
import Derived.Test.YtnhedjpghpdbdaaPlTask3
import Derived.Test.YtnhedjpghpdbdaaTyU
namespace Go.Proofs.Ytnhedjpghpdbdaa
open Av
attribute [local irreducible] awp awpOpers
set_option linter.unusedSimpArgs false
set_option linter.unusedVariables false
set_option maxRecDepth 100000
set_option maxHeartbeats 4000000
theorem more_mod {X A : List Int} {C m : Int} {D : List (List Rg)} (hm : modB (D, [(19, X, A, C)], 0, 0) = true) (h0 : 0 ≤ m) (h1 : C + m ≤ 1048576) : modB (D, [(19, X, A, C + m)], 0, 0) = true := by
  obtain ⟨-, -, -, -, -, -, -, -, hC, -⟩ := task_facts hm
  have hs : (shp 19).2.2.2.1 = true := by decide
  have hw : withinB (C + m) = true := (withinB_iff _).2 (by omega)
  have hw0 : withinB C = true := (withinB_iff _).2 (by omega)
  have hc0 : decide (0 ≤ C) = true := decide_eq_true hC.1
  have hc1 : decide (0 ≤ C + m) = true := decide_eq_true (by omega)
  unfold modB mayB formedB at hm ⊢
  simp only [List.all_cons, List.all_nil, Bool.and_true, hs, Bool.or_true, hw, hw0, hc0, hc1, Bool.true_and] at hm ⊢
  exact hm
theorem law_TasksRoom (c : Con) (D : List (List Rg)) (m : Int) (hmr : 0 ≤ m ∧ m ≤ 255) : Ctr Try.prog 11 [eCon c, eDoms D, .int .u8 m] [] (.bool true) [] := by
  refine call_pure Try.func11 Try.call11 e_law18_TasksRoom ?_
  have hcon : ∃ K X A G, c = (K, X, A, G) := ⟨c.1, c.2.1, c.2.2.1, c.2.2.2, rfl⟩
  obtain ⟨K, X, A, G, rfl⟩ := hcon
  have wm : IntKind.i64.wrap m = m := by rw [wrap_i64] <;> omega
  simp +contextual -implicitDefEqProofs (maxSteps := 1000000) only [c_law18_TasksRoom, eCon, eIs, eDoms, sm, sn, sxx, seval]
  refine callA_rule law18_alive (wkL_refl _) rfl ?_
  simp +contextual -implicitDefEqProofs (maxSteps := 1000000) only [sm, sn, sxx, seval, eCon, eIs]
  refine callA_rule (law18_mine (K, X, A, G) D) (by simp +contextual -implicitDefEqProofs (maxSteps := 1000000) only [sm, sn, sxx, seval, eCon, eIs, eDoms]) rfl ?_
  cases hM : mine18B (K, X, A, G) D
  · simp +contextual -implicitDefEqProofs (maxSteps := 1000000) only [sm, sn, sxx, seval]
  obtain ⟨hK, hFt, hm⟩ := mine18_facts hM
  simp only at hK
  subst hK
  obtain ⟨s1, s2, s3, s4⟩ := fits_facts hFt
  simp only at s3 s4
  have hd : ∀ d ∈ D, d.length ≤ 1000000000000 := fun d h => by have := s2 d h; omega
  obtain ⟨-, hDk, -, -, -, -, -, -, hC, -⟩ := task_facts hm
  have w1 : IntKind.i64.wrap (G + m) = G + m := by rw [wrap_i64] <;> omega
  by_cases hmx : 1048576 < G + m
  · simp +contextual -implicitDefEqProofs (maxSteps := 1000000) only [sm, sn, sxx, seval, wm, w1, hmx]
  have hm2 := more_mod hm hmr.1 (by omega)
  have hor := both_le hm2 hm (by omega) (le_refl_of hDk)
  have z1 := size_tasks (c := (19, X, A, G)) rfl hm
  simp +contextual -implicitDefEqProofs (maxSteps := 1000000) only [sm, sn, sxx, seval, wm, w1, hmx, eCon, eIs]
  refine callA_rule (tasks_Narrow (19, X, A, G) D (by omega) hd ⟨by simp only; omega, by simp only; omega⟩) (by simp +contextual -implicitDefEqProofs (maxSteps := 1000000) only [sm, sn, sxx, seval, eCon, eIs, eDoms]) rfl ?_
  generalize tasksL (19, X, A, G) D = r1 at hor z1 ⊢
  obtain ⟨x1, e1⟩ := r1
  simp +contextual -implicitDefEqProofs (maxSteps := 1000000) only [sm, sn, sxx, seval, eCon, eIs, eDoms]
  refine callA_rule (tasks_Narrow (19, X, A, G + m) D (by omega) hd ⟨by simp only; omega, by simp only; omega⟩) (by simp +contextual -implicitDefEqProofs (maxSteps := 1000000) only [sm, sn, sxx, seval, eCon, eIs, eDoms]) rfl ?_
  generalize tasksL (19, X, A, G + m) D = r2 at hor ⊢
  obtain ⟨x2, e2⟩ := r2
  simp only [Prod.mk.injEq] at hor
  rcases hor with ⟨E, ⟨rfl, rfl⟩, ⟨rfl, rfl⟩ | ⟨E', ⟨rfl, rfl⟩, hEE⟩⟩ | ⟨⟨rfl, rfl⟩, ⟨rfl, rfl⟩⟩
  · simp +contextual -implicitDefEqProofs (maxSteps := 1000000) only [sm, sn, sxx, seval, eDoms]
  · simp +contextual -implicitDefEqProofs (maxSteps := 1000000) only [sm, sn, sxx, seval, eDoms]
    refine callA_rule (law12_Under _ _ hEE (by simpa using z1)) (wkL_refl _) rfl ?_
    simp +contextual -implicitDefEqProofs (maxSteps := 1000000) only [sm, sn, sxx, seval]
  · simp +contextual -implicitDefEqProofs (maxSteps := 1000000) only [sm, sn, sxx, seval, eDoms]
end Go.Proofs.Ytnhedjpghpdbdaa
