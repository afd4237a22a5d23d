/- alive, mine of package touchstonelaw13. -/
import Derived.Test.YtonkcemcledhiaaWReify
import Derived.Test.YtonkcemcledhiaaGRef08
import Derived.Test.YtonkcemcledhiaaCLaw13
namespace Go.Proofs.Ytonkcemcledhiaa
open Av
attribute [local irreducible] awp awpOpers
set_option linter.unusedSimpArgs false
set_option linter.unusedVariables false
set_option maxRecDepth 100000
set_option maxHeartbeats 4000000
theorem alive13_1 : reifyL (5, [0, 1], [1], 3) [[(0, 9)], [(0, 0)]] = ([[(4, 9)], [(0, 0)]], 0) := by decide +kernel
theorem alive13_2 : reifyL (18, [], [], 0) [[(0, 9)], [(0, 0)]] = ([], 10) := by decide +kernel
theorem law13_alive : Ctr Try.prog 24 [] [] (.bool true) [] := by
  refine call_pure Try.func24 Try.call24 e_law13_alive ?_
  simp +contextual -implicitDefEqProofs (maxSteps := 1000000) only [c_law13_alive, sm, sn, sxx, seval]
  refine callA_rule (reify_Narrow (5, [0, 1], [1], 3) [[(0, 9)], [(0, 0)]] (by decide) (by decide) ⟨by decide, by decide⟩) (wkL_refl _) rfl ?_
  rw [alive13_1]
  simp +contextual -implicitDefEqProofs (maxSteps := 1000000) only [sm, sn, sxx, seval, eDoms]
  refine callA_rule (reify_Narrow (18, [], [], 0) [[(0, 9)], [(0, 0)]] (by decide) (by decide) ⟨by decide, by decide⟩) ?_ ?_ ?_
  · simp +contextual -implicitDefEqProofs (maxSteps := 1000000) only [sm, sn, sxx, seval, eCon, eIs, eDoms, eRgs, eRg]
  · rfl
  rw [alive13_2]
  simp +contextual -implicitDefEqProofs (maxSteps := 1000000) only [sm, sn, sxx, seval, eDoms, eRgs, eRg]
  refine callA_rule (law08_Ranges [(4, 9)] [(4, 9)] (by decide)) (wkL_refl _) rfl ?_
  simp +contextual -implicitDefEqProofs (maxSteps := 1000000) only [sm, sn, sxx, seval]
def kind13B (K : Int) : Bool := decide (4 ≤ K) && decide (K ≤ 6)
def mine13B (c : Con) (D : List (List Rg)) : Bool := kind13B c.1 && fitsB c D && fitB c D
theorem law13_mine (c : Con) (D : List (List Rg)) : Ctr Try.prog 25 [eCon c, eDoms D] [] (.bool (mine13B c D)) [] := by
  obtain ⟨K, X, A, C⟩ := c
  refine call_pure Try.func25 Try.call25 e_law13_mine ?_
  by_cases k1 : 4 ≤ K
  · by_cases k2 : K ≤ 6
    · have hk : kind13B K = true := by simp only [kind13B, Bool.and_eq_true, Bool.or_eq_true, decide_eq_true_eq]; omega
      simp +contextual -implicitDefEqProofs (maxSteps := 1000000) only [c_law13_mine, eCon, eIs, eDoms, sm, sn, sxx, seval, k1, k2, Int.reduceLE]
      refine callA_rule (law12_Fits (K, X, A, C) D) (by simp +contextual -implicitDefEqProofs (maxSteps := 1000000) only [sm, sn, sxx, seval, eCon, eIs, eDoms, k1, k2]) rfl ?_
      cases hF : fitsB (K, X, A, C) D
      · simp +contextual -implicitDefEqProofs (maxSteps := 1000000) only [sm, sn, sxx, seval]
        simp [mine13B, hF]
      obtain ⟨s1, s2, s3, s4⟩ := fits_facts hF
      simp only at s3 s4
      simp +contextual -implicitDefEqProofs (maxSteps := 1000000) only [sm, sn, sxx, seval, eCon, eIs, k1, k2]
      refine callA_rule (ref12_Fit (K, X, A, C) D (by omega) (fun d h => by have := s2 d h; omega) ⟨by simp only; omega, by simp only; omega⟩) (by simp +contextual -implicitDefEqProofs (maxSteps := 1000000) only [sm, sn, sxx, seval, eCon, eIs, eDoms, k1, k2]) rfl ?_
      simp +contextual -implicitDefEqProofs (maxSteps := 1000000) only [sm, sn, sxx, seval]
      simp [mine13B, hF, hk]
    · have hk : kind13B K = false := by simp only [kind13B, Bool.and_eq_false_iff, Bool.or_eq_false_iff, decide_eq_false_iff_not]; omega
      simp +contextual -implicitDefEqProofs (maxSteps := 1000000) only [c_law13_mine, eCon, eIs, eDoms, sm, sn, sxx, seval, k1, k2]
      simp [mine13B, hk]
  · have hk : kind13B K = false := by simp only [kind13B, Bool.and_eq_false_iff, Bool.or_eq_false_iff, decide_eq_false_iff_not]; omega
    simp +contextual -implicitDefEqProofs (maxSteps := 1000000) only [c_law13_mine, eCon, eIs, eDoms, sm, sn, sxx, seval, k1]
    simp [mine13B, hk]
theorem mine13_facts {c : Con} {D : List (List Rg)} (h : mine13B c D = true) : (4 ≤ c.1 ∧ c.1 ≤ 6) ∧ fitsB c D = true ∧ modB (D, [c], 0, 0) = true := by
  simp only [mine13B, kind13B, Bool.and_eq_true, Bool.or_eq_true, decide_eq_true_eq] at h
  exact ⟨by omega, h.1.2, h.2⟩
end Go.Proofs.Ytonkcemcledhiaa
