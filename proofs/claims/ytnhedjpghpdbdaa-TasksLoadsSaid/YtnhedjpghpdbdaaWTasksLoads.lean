/- TasksLoads. -/
import Derived.Test.YtnhedjpghpdbdaaWLaw18
import Derived.Test.YtnhedjpghpdbdaaWRef18
namespace Go.Proofs.Ytnhedjpghpdbdaa
open Av
attribute [local irreducible] awp awpOpers
set_option linter.unusedSimpArgs false
set_option linter.unusedVariables false
set_option maxRecDepth 100000
set_option maxHeartbeats 4000000
theorem law_TasksLoads (c : Con) (D : List (List Rg)) (t : Int) : Ctr Try.prog 8 [eCon c, eDoms D, .int .i64 t] [] (.bool true) [] := by
  refine call_pure Try.func8 Try.call8 e_law18_TasksLoads ?_
  have hcon : ∃ K X A G, c = (K, X, A, G) := ⟨c.1, c.2.1, c.2.2.1, c.2.2.2, rfl⟩
  obtain ⟨K, X, A, G, rfl⟩ := hcon
  simp +contextual -implicitDefEqProofs (maxSteps := 1000000) only [c_law18_TasksLoads, eCon, eIs, eDoms, sm, sn, sxx, seval]
  refine callA_rule law18_alive (wkL_refl _) rfl ?_
  simp +contextual -implicitDefEqProofs (maxSteps := 1000000) only [sm, sn, sxx, seval, eCon, eIs]
  refine callA_rule (law12_Fits (K, X, A, G) D) (wkL_refl _) rfl ?_
  cases hFt : fitsB (K, X, A, G) D
  · simp +contextual -implicitDefEqProofs (maxSteps := 1000000) only [sm, sn, sxx, seval]
  obtain ⟨s1, s2, s3, s4⟩ := fits_facts hFt
  simp only at s3 s4
  have hd : ∀ d ∈ D, d.length ≤ 1000000000000 := fun d h => by have := s2 d h; omega
  simp +contextual -implicitDefEqProofs (maxSteps := 1000000) only [sm, sn, sxx, seval, eCon, eIs]
  refine callA_rule (tasks_Load (K, X, A, G) D t (by omega) hd ⟨by simp only; omega, by simp only; omega⟩) (by simp +contextual -implicitDefEqProofs (maxSteps := 1000000) only [sm, sn, sxx, seval, eCon, eIs, eDoms]) rfl ?_
  simp +contextual -implicitDefEqProofs (maxSteps := 1000000) only [sm, sn, sxx, seval, eCon, eIs]
  refine callA_rule (ref18_Load (K, X, A, G) D t (by omega) hd ⟨by simp only; omega, by simp only; omega⟩) (by simp +contextual -implicitDefEqProofs (maxSteps := 1000000) only [sm, sn, sxx, seval, eCon, eIs, eDoms]) rfl ?_
  generalize (loadL (K, X, A, G) D t).1 = v
  cases (loadL (K, X, A, G) D t).2
  · simp +contextual -implicitDefEqProofs (maxSteps := 1000000) only [sm, sn, sxx, seval]
    try rfl
  · simp +contextual -implicitDefEqProofs (maxSteps := 1000000) only [sm, sn, sxx, seval]
    try rfl
end Go.Proofs.Ytnhedjpghpdbdaa
