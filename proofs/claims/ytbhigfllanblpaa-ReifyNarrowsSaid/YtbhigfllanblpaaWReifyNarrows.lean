/- ReifyNarrows. -/
import Derived.Test.YtbhigfllanblpaaWLaw13
import Derived.Test.YtbhigfllanblpaaWRef13
import Derived.Test.YtbhigfllanblpaaCReifyNarrows
namespace Go.Proofs.Ytbhigfllanblpaa
open Av
attribute [local irreducible] awp awpOpers
set_option linter.unusedSimpArgs false
set_option linter.unusedVariables false
set_option maxRecDepth 100000
set_option maxHeartbeats 4000000
theorem law_ReifyNarrows (c : Con) (D : List (List Rg)) : Ctr Try.prog 7 [eCon c, eDoms D] [] (.bool true) [] := by
  refine call_pure Try.func7 Try.call7 e_law13_ReifyNarrows ?_
  have hcon : ∃ K X A G, c = (K, X, A, G) := ⟨c.1, c.2.1, c.2.2.1, c.2.2.2, rfl⟩
  obtain ⟨K, X, A, G, rfl⟩ := hcon
  simp +contextual -implicitDefEqProofs (maxSteps := 1000000) only [c_law13_ReifyNarrows, eCon, eIs, eDoms, sm, sn, seval]
  refine callA_rule law13_alive (wkL_refl _) rfl ?_
  simp +contextual -implicitDefEqProofs (maxSteps := 1000000) only [sm, sn, seval, eCon, eIs]
  refine callA_rule (law12_Fits (K, X, A, G) D) (wkL_refl _) rfl ?_
  cases hFt : fitsB (K, X, A, G) D
  · simp +contextual -implicitDefEqProofs (maxSteps := 1000000) only [sm, sn, seval]
  obtain ⟨s1, s2, s3, s4⟩ := fits_facts hFt
  simp only at s3 s4
  have hd : ∀ d ∈ D, d.length ≤ 1000000000000 := fun d h => by have := s2 d h; omega
  simp +contextual -implicitDefEqProofs (maxSteps := 1000000) only [sm, sn, seval, eCon, eIs]
  refine callA_rule (reify_Narrow (K, X, A, G) D (by omega) hd ⟨by simp only; omega, by simp only; omega⟩) (wkL_refl _) rfl ?_
  simp +contextual -implicitDefEqProofs (maxSteps := 1000000) only [sm, sn, seval, eCon, eIs, eDoms]
  refine callA_rule (ref13_Narrow (K, X, A, G) D (by omega) hd ⟨by simp only; omega, by simp only; omega⟩) (by simp +contextual -implicitDefEqProofs (maxSteps := 1000000) only [sm, sn, seval, eCon, eIs, eDoms]) rfl ?_
  have hsz := reify_size (c := (K, X, A, G)) (D := D) (by omega) hd
  generalize reifyL (K, X, A, G) D = r1 at hsz ⊢
  obtain ⟨x1, e1⟩ := r1
  simp only at hsz
  simp +contextual -implicitDefEqProofs (maxSteps := 1000000) only [sm, sn, seval, eDoms]
  refine callA_rule (law08_Doms x1 x1 (by omega) (fun d h => by have := hsz.2 d h; omega)) (by simp +contextual -implicitDefEqProofs (maxSteps := 1000000) only [sm, sn, seval, eDoms]) rfl ?_
  simp +contextual -implicitDefEqProofs (maxSteps := 1000000) only [sm, sn, seval]
end Go.Proofs.Ytbhigfllanblpaa
