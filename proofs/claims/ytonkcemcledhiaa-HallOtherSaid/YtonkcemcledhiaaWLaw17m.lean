/- mine of package touchstonelaw17. -/
import Derived.Test.YtonkcemcledhiaaWLaw17
import Derived.Test.YtonkcemcledhiaaGRef08
import Derived.Test.YtonkcemcledhiaaGRef12
import Derived.Test.YtonkcemcledhiaaPlHall4
namespace Go.Proofs.Ytonkcemcledhiaa
open Av
attribute [local irreducible] awp awpOpers
set_option linter.unusedSimpArgs false
set_option linter.unusedVariables false
set_option maxRecDepth 100000
set_option maxHeartbeats 4000000
def kind17B (K : Int) : Bool := decide (K = 18)
def mine17B (c : Con) (D : List (List Rg)) : Bool := kind17B c.1 && fitsB c D && fitB c D
theorem law17_mine (c : Con) (D : List (List Rg)) : Ctr Try.prog 34 [eCon c, eDoms D] [] (.bool (mine17B c D)) [] := by
  obtain ⟨K, X, A, C⟩ := c
  refine call_pure Try.func34 Try.call34 e_law17_mine ?_
  by_cases k1 : K = 18
  · subst k1
    have hk : kind17B 18 = true := by decide
    simp +contextual -implicitDefEqProofs (maxSteps := 1000000) only [c_law17_mine, eCon, eIs, eDoms, sm, sn, sxx, seval, Int.reduceLE]
    refine callA_rule (law12_Fits (18, X, A, C) D) (by simp +contextual -implicitDefEqProofs (maxSteps := 1000000) only [sm, sn, sxx, seval, eCon, eIs, eDoms]) rfl ?_
    cases hF : fitsB (18, X, A, C) D
    · simp +contextual -implicitDefEqProofs (maxSteps := 1000000) only [sm, sn, sxx, seval]
      simp [mine17B, hF]
    obtain ⟨s1, s2, s3, s4⟩ := fits_facts hF
    simp only at s3 s4
    simp +contextual -implicitDefEqProofs (maxSteps := 1000000) only [sm, sn, sxx, seval, eCon, eIs]
    refine callA_rule (ref12_Fit (18, X, A, C) D (by omega) (fun d h => by have := s2 d h; omega) ⟨by simp only; omega, by simp only; omega⟩) (by simp +contextual -implicitDefEqProofs (maxSteps := 1000000) only [sm, sn, sxx, seval, eCon, eIs, eDoms]) rfl ?_
    simp +contextual -implicitDefEqProofs (maxSteps := 1000000) only [sm, sn, sxx, seval]
    simp [mine17B, hF, hk]
  · have hk : kind17B K = false := by simp only [kind17B, Bool.and_eq_false_iff, Bool.or_eq_false_iff, decide_eq_false_iff_not]; omega
    simp +contextual -implicitDefEqProofs (maxSteps := 1000000) only [c_law17_mine, eCon, eIs, eDoms, sm, sn, sxx, seval, k1]
    simp [mine17B, hk]
theorem mine17_facts {c : Con} {D : List (List Rg)} (h : mine17B c D = true) : (c.1 = 18) ∧ fitsB c D = true ∧ modB (D, [c], 0, 0) = true := by
  simp only [mine17B, kind17B, Bool.and_eq_true, Bool.or_eq_true, decide_eq_true_eq] at h
  exact ⟨by omega, h.1.2, h.2⟩
end Go.Proofs.Ytonkcemcledhiaa
