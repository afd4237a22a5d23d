/- TasksKeeps. -/
import Derived.Test.YtnhedjpghpdbdaaWLaw18
import Derived.Test.YtnhedjpghpdbdaaPlTask3
namespace Go.Proofs.Ytnhedjpghpdbdaa
open Av
attribute [local irreducible] awp awpOpers
set_option linter.unusedSimpArgs false
set_option linter.unusedVariables false
set_option maxRecDepth 100000
set_option maxHeartbeats 4000000
theorem law_TasksKeeps (c : Con) (D : List (List Rg)) : Ctr Try.prog 6 [eCon c, eDoms D] [] (.bool true) [] := by
  refine call_pure Try.func6 Try.call6 e_law18_TasksKeeps ?_
  have hcon : ∃ K X A G, c = (K, X, A, G) := ⟨c.1, c.2.1, c.2.2.1, c.2.2.2, rfl⟩
  obtain ⟨K, X, A, G, rfl⟩ := hcon
  simp +contextual -implicitDefEqProofs (maxSteps := 1000000) only [c_law18_TasksKeeps, eCon, eIs, eDoms, sm, sn, sxx, seval]
  refine callA_rule law18_alive (wkL_refl _) rfl ?_
  simp +contextual -implicitDefEqProofs (maxSteps := 1000000) only [sm, sn, sxx, seval, eCon, eIs]
  refine callA_rule (law12_Fits (K, X, A, G) D) (wkL_refl _) rfl ?_
  cases hFt : fitsB (K, X, A, G) D
  · simp +contextual -implicitDefEqProofs (maxSteps := 1000000) only [sm, sn, sxx, seval]
  obtain ⟨s1, s2, s3, s4⟩ := fits_facts hFt
  simp only at s3 s4
  have hd : ∀ d ∈ D, d.length ≤ 1000000000000 := fun d h => by have := s2 d h; omega
  simp +contextual -implicitDefEqProofs (maxSteps := 1000000) only [sm, sn, sxx, seval, eCon, eIs]
  refine callA_rule (law12_Few D (by omega) hd) (wkL_refl _) rfl ?_
  cases hFw : fewB D
  · simp +contextual -implicitDefEqProofs (maxSteps := 1000000) only [sm, sn, sxx, seval]
  simp +contextual -implicitDefEqProofs (maxSteps := 1000000) only [sm, sn, sxx, seval, eCon, eIs]
  refine callA_rule (law18_mine (K, X, A, G) D) (wkL_refl _) rfl ?_
  cases hM : mine18B (K, X, A, G) D
  · simp +contextual -implicitDefEqProofs (maxSteps := 1000000) only [sm, sn, sxx, seval]
  obtain ⟨hK, -, hm⟩ := mine18_facts hM
  obtain ⟨hF, hL⟩ := few_facts hFw
  have hkept := tasks_kept (c := (K, X, A, G)) hK hm
  simp only at hK
  simp +contextual -implicitDefEqProofs (maxSteps := 1000000) only [sm, sn, sxx, seval, eCon, eIs]
  refine callA_rule (tasks_Narrow (K, X, A, G) D (by omega) hd ⟨by simp only; omega, by simp only; omega⟩) (wkL_refl _) rfl ?_
  generalize tasksL (K, X, A, G) D = r1 at hkept ⊢
  obtain ⟨x1, e1⟩ := r1
  simp +contextual -implicitDefEqProofs (maxSteps := 1000000) only [sm, sn, sxx, seval, eCon, eIs, eDoms]
  refine callA_rule (law12_Kept (K, X, A, G) D x1 e1 _ (by omega) hF hd hL (fun a ha => ref11_Holds (K, X, A, G) a (by simp only; omega) (by simp only; omega) ha (by simp only; omega)) hkept) (by simp +contextual -implicitDefEqProofs (maxSteps := 1000000) only [sm, sn, sxx, seval, eCon, eIs, eDoms]) rfl ?_
  simp +contextual -implicitDefEqProofs (maxSteps := 1000000) only [sm, sn, sxx, seval]
end Go.Proofs.Ytnhedjpghpdbdaa
