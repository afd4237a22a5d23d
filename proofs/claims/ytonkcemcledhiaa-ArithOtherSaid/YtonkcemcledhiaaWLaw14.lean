/- alive, mine of package touchstonelaw14. -/
import Derived.Test.YtonkcemcledhiaaWArith3
import Derived.Test.YtonkcemcledhiaaGRef08
import Derived.Test.YtonkcemcledhiaaGRef12
import Derived.Test.YtonkcemcledhiaaCLaw14
namespace Go.Proofs.Ytonkcemcledhiaa
open Av
attribute [local irreducible] awp awpOpers
set_option linter.unusedSimpArgs false
set_option linter.unusedVariables false
set_option maxRecDepth 100000
set_option maxHeartbeats 4000000
theorem alive14_1 : arithL (7, [0, 1, 2], [], 0) [[(0, 9)], [(2, 3)], [(7, 8)]] = ([[(3, 4)], [(2, 2)], [(7, 8)]], 0) := by decide +kernel
theorem alive14_2 : arithL (18, [], [], 0) [[(0, 9)], [(2, 3)], [(7, 8)]] = ([], 10) := by decide +kernel
theorem law14_alive : Ctr Try.prog 27 [] [] (.bool true) [] := by
  refine call_pure Try.func27 Try.call27 e_law14_alive ?_
  simp +contextual -implicitDefEqProofs (maxSteps := 1000000) only [c_law14_alive, sm, sn, sxx, seval]
  refine callA_rule (arith_Narrow (7, [0, 1, 2], [], 0) [[(0, 9)], [(2, 3)], [(7, 8)]] (by decide) (by decide) ⟨by decide, by decide⟩) ?_ ?_ ?_
  · simp +contextual -implicitDefEqProofs (maxSteps := 1000000) only [sm, sn, sxx, seval, eCon, eIs, eI, eDoms, eRgs, eRg]
  · rfl
  rw [alive14_1]
  simp +contextual -implicitDefEqProofs (maxSteps := 1000000) only [sm, sn, sxx, seval, eDoms]
  refine callA_rule (arith_Narrow (18, [], [], 0) [[(0, 9)], [(2, 3)], [(7, 8)]] (by decide) (by decide) ⟨by decide, by decide⟩) ?_ ?_ ?_
  · simp +contextual -implicitDefEqProofs (maxSteps := 1000000) only [sm, sn, sxx, seval, eCon, eIs, eDoms, eRgs, eRg]
  · rfl
  rw [alive14_2]
  simp +contextual -implicitDefEqProofs (maxSteps := 1000000) only [sm, sn, sxx, seval, eDoms, eRgs, eRg]
  refine callA_rule (law08_Ranges [(3, 4)] [(3, 4)] (by decide)) (wkL_refl _) rfl ?_
  simp +contextual -implicitDefEqProofs (maxSteps := 1000000) only [sm, sn, sxx, seval]
def kind14B (K : Int) : Bool := (decide (7 ≤ K) && decide (K ≤ 10)) || decide (K = 15)
def mine14B (c : Con) (D : List (List Rg)) : Bool := kind14B c.1 && fitsB c D && fitB c D
theorem law14_mine (c : Con) (D : List (List Rg)) : Ctr Try.prog 28 [eCon c, eDoms D] [] (.bool (mine14B c D)) [] := by
  obtain ⟨K, X, A, C⟩ := c
  refine call_pure Try.func28 Try.call28 e_law14_mine ?_
  by_cases k1 : 7 ≤ K
  · by_cases k2 : K ≤ 10
    · have hk : kind14B K = true := by simp only [kind14B, Bool.and_eq_true, Bool.or_eq_true, decide_eq_true_eq]; omega
      simp +contextual -implicitDefEqProofs (maxSteps := 1000000) only [c_law14_mine, eCon, eIs, eDoms, sm, sn, sxx, seval, k1, k2, Int.reduceLE]
      refine callA_rule (law12_Fits (K, X, A, C) D) (by simp +contextual -implicitDefEqProofs (maxSteps := 1000000) only [sm, sn, sxx, seval, eCon, eIs, eDoms, k1, k2]) rfl ?_
      cases hF : fitsB (K, X, A, C) D
      · simp +contextual -implicitDefEqProofs (maxSteps := 1000000) only [sm, sn, sxx, seval]
        simp [mine14B, hF]
      obtain ⟨s1, s2, s3, s4⟩ := fits_facts hF
      simp only at s3 s4
      simp +contextual -implicitDefEqProofs (maxSteps := 1000000) only [sm, sn, sxx, seval, eCon, eIs, k1, k2]
      refine callA_rule (ref12_Fit (K, X, A, C) D (by omega) (fun d h => by have := s2 d h; omega) ⟨by simp only; omega, by simp only; omega⟩) (by simp +contextual -implicitDefEqProofs (maxSteps := 1000000) only [sm, sn, sxx, seval, eCon, eIs, eDoms, k1, k2]) rfl ?_
      simp +contextual -implicitDefEqProofs (maxSteps := 1000000) only [sm, sn, sxx, seval]
      simp [mine14B, hF, hk]
    · by_cases k3 : K = 15
      · subst k3
        have hk : kind14B 15 = true := by decide
        simp +contextual -implicitDefEqProofs (maxSteps := 1000000) only [c_law14_mine, eCon, eIs, eDoms, sm, sn, sxx, seval, k1, k2, Int.reduceLE]
        refine callA_rule (law12_Fits (15, X, A, C) D) (by simp +contextual -implicitDefEqProofs (maxSteps := 1000000) only [sm, sn, sxx, seval, eCon, eIs, eDoms, k1, k2]) rfl ?_
        cases hF : fitsB (15, X, A, C) D
        · simp +contextual -implicitDefEqProofs (maxSteps := 1000000) only [sm, sn, sxx, seval]
          simp [mine14B, hF]
        obtain ⟨s1, s2, s3, s4⟩ := fits_facts hF
        simp only at s3 s4
        simp +contextual -implicitDefEqProofs (maxSteps := 1000000) only [sm, sn, sxx, seval, eCon, eIs, k1, k2]
        refine callA_rule (ref12_Fit (15, X, A, C) D (by omega) (fun d h => by have := s2 d h; omega) ⟨by simp only; omega, by simp only; omega⟩) (by simp +contextual -implicitDefEqProofs (maxSteps := 1000000) only [sm, sn, sxx, seval, eCon, eIs, eDoms, k1, k2]) rfl ?_
        simp +contextual -implicitDefEqProofs (maxSteps := 1000000) only [sm, sn, sxx, seval]
        simp [mine14B, hF, hk]
      · have hk : kind14B K = false := by simp only [kind14B, Bool.and_eq_false_iff, Bool.or_eq_false_iff, decide_eq_false_iff_not]; omega
        simp +contextual -implicitDefEqProofs (maxSteps := 1000000) only [c_law14_mine, eCon, eIs, eDoms, sm, sn, sxx, seval, k1, k2, k3]
        simp [mine14B, hk]
  · by_cases k4 : K = 15
    · subst k4
      have hk : kind14B 15 = true := by decide
      simp +contextual -implicitDefEqProofs (maxSteps := 1000000) only [c_law14_mine, eCon, eIs, eDoms, sm, sn, sxx, seval, k1, Int.reduceLE]
      refine callA_rule (law12_Fits (15, X, A, C) D) (by simp +contextual -implicitDefEqProofs (maxSteps := 1000000) only [sm, sn, sxx, seval, eCon, eIs, eDoms, k1]) rfl ?_
      cases hF : fitsB (15, X, A, C) D
      · simp +contextual -implicitDefEqProofs (maxSteps := 1000000) only [sm, sn, sxx, seval]
        simp [mine14B, hF]
      obtain ⟨s1, s2, s3, s4⟩ := fits_facts hF
      simp only at s3 s4
      simp +contextual -implicitDefEqProofs (maxSteps := 1000000) only [sm, sn, sxx, seval, eCon, eIs, k1]
      refine callA_rule (ref12_Fit (15, X, A, C) D (by omega) (fun d h => by have := s2 d h; omega) ⟨by simp only; omega, by simp only; omega⟩) (by simp +contextual -implicitDefEqProofs (maxSteps := 1000000) only [sm, sn, sxx, seval, eCon, eIs, eDoms, k1]) rfl ?_
      simp +contextual -implicitDefEqProofs (maxSteps := 1000000) only [sm, sn, sxx, seval]
      simp [mine14B, hF, hk]
    · have hk : kind14B K = false := by simp only [kind14B, Bool.and_eq_false_iff, Bool.or_eq_false_iff, decide_eq_false_iff_not]; omega
      simp +contextual -implicitDefEqProofs (maxSteps := 1000000) only [c_law14_mine, eCon, eIs, eDoms, sm, sn, sxx, seval, k1, k4]
      simp [mine14B, hk]
theorem mine14_facts {c : Con} {D : List (List Rg)} (h : mine14B c D = true) : (c.1 = 7 ∨ c.1 = 8 ∨ c.1 = 9 ∨ c.1 = 10 ∨ c.1 = 15) ∧ fitsB c D = true ∧ modB (D, [c], 0, 0) = true := by
  simp only [mine14B, kind14B, Bool.and_eq_true, Bool.or_eq_true, decide_eq_true_eq] at h
  exact ⟨by omega, h.1.2, h.2⟩
end Go.Proofs.Ytonkcemcledhiaa
