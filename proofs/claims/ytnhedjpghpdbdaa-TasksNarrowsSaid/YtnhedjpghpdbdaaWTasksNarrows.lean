/- TasksNarrows. -/
import Derived.Test.YtnhedjpghpdbdaaWLaw18
import Derived.Test.YtnhedjpghpdbdaaWRef18b
namespace Go.Proofs.Ytnhedjpghpdbdaa
open Av
attribute [local irreducible] awp awpOpers
set_option linter.unusedSimpArgs false
set_option linter.unusedVariables false
set_option maxRecDepth 100000
set_option maxHeartbeats 4000000
theorem law_TasksNarrows (c : Con) (D : List (List Rg)) : Ctr Try.prog 5 [eCon c, eDoms D] [] (.bool true) [] := by
  refine call_pure Try.func5 Try.call5 e_law18_TasksNarrows ?_
  have hcon : ∃ K X A G, c = (K, X, A, G) := ⟨c.1, c.2.1, c.2.2.1, c.2.2.2, rfl⟩
  obtain ⟨K, X, A, G, rfl⟩ := hcon
  simp +contextual -implicitDefEqProofs (maxSteps := 1000000) only [c_law18_TasksNarrows, eCon, eIs, eDoms, sm, sn, sxx, seval]
  refine callA_rule law18_alive (wkL_refl _) rfl ?_
  simp +contextual -implicitDefEqProofs (maxSteps := 1000000) only [sm, sn, sxx, seval, eCon, eIs]
  refine callA_rule (law12_Fits (K, X, A, G) D) (wkL_refl _) rfl ?_
  cases hFt : fitsB (K, X, A, G) D
  · simp +contextual -implicitDefEqProofs (maxSteps := 1000000) only [sm, sn, sxx, seval]
  obtain ⟨s1, s2, s3, s4⟩ := fits_facts hFt
  simp only at s3 s4
  have hd : ∀ d ∈ D, d.length ≤ 1000000000000 := fun d h => by have := s2 d h; omega
  simp +contextual -implicitDefEqProofs (maxSteps := 1000000) only [sm, sn, sxx, seval, eCon, eIs]
  refine callA_rule (law18_few D (by omega) hd) (by simp +contextual -implicitDefEqProofs (maxSteps := 1000000) only [sm, sn, sxx, seval, eDoms]) rfl ?_
  cases hFw : fewTB D
  · simp +contextual -implicitDefEqProofs (maxSteps := 1000000) only [sm, sn, sxx, seval]
  simp +contextual -implicitDefEqProofs (maxSteps := 1000000) only [sm, sn, sxx, seval, eCon, eIs]
  refine callA_rule (tasks_Narrow (K, X, A, G) D (by omega) hd ⟨by simp only; omega, by simp only; omega⟩) (wkL_refl _) rfl ?_
  simp +contextual -implicitDefEqProofs (maxSteps := 1000000) only [sm, sn, sxx, seval, eCon, eIs, eDoms]
  refine callA_rule (ref18_Narrow (K, X, A, G) D (by omega) hd ⟨by simp only; omega, by simp only; omega⟩) (by simp +contextual -implicitDefEqProofs (maxSteps := 1000000) only [sm, sn, sxx, seval, eCon, eIs, eDoms]) rfl ?_
  have hsz := tasks_small (c := (K, X, A, G)) (D := D) (by omega) hd
  rw [← tasks_same_as (K, X, A, G) D]
  generalize tasksL (K, X, A, G) D = r1 at hsz ⊢
  obtain ⟨x1, e1⟩ := r1
  simp only at hsz
  simp +contextual -implicitDefEqProofs (maxSteps := 1000000) only [sm, sn, sxx, seval, eDoms]
  refine callA_rule (law08_Doms x1 x1 (by omega) (fun d h => by have := hsz.2 d h; omega)) (by simp +contextual -implicitDefEqProofs (maxSteps := 1000000) only [sm, sn, sxx, seval, eDoms]) rfl ?_
  simp +contextual -implicitDefEqProofs (maxSteps := 1000000) only [sm, sn, sxx, seval]
end Go.Proofs.Ytnhedjpghpdbdaa
