/- alive, mine of package touchstonelaw15. -/
import Derived.Test.YtonkcemcledhiaaWLogic4
import Derived.Test.YtonkcemcledhiaaGRef08
import Derived.Test.YtonkcemcledhiaaCLaw15
namespace Go.Proofs.Ytonkcemcledhiaa
open Av
attribute [local irreducible] awp awpOpers
set_option linter.unusedSimpArgs false
set_option linter.unusedVariables false
set_option maxRecDepth 100000
set_option maxHeartbeats 4000000
theorem alive_1 : logicL (11, [0, 1], [1, -1], 0) [[(0, 0)], [(0, 1)]] = ([[(0, 0)], [(0, 0)]], 0) := by decide
theorem alive_2 : logicL (18, [], [], 0) [[(0, 0)], [(0, 1)]] = ([], 10) := by decide
theorem law15_alive : Ctr Try.prog 15 [] [] (.bool true) [] := by
  refine call_pure Try.func15 Try.call15 e_law15_alive ?_
  simp +contextual -implicitDefEqProofs (maxSteps := 1000000) only [c_law15_alive, sm, sn, sxx, seval]
  refine callA_rule (logic_Narrow (11, [0, 1], [1, -1], 0) [[(0, 0)], [(0, 1)]] (by decide) (by decide) ⟨by decide, by decide⟩) (wkL_refl _) rfl ?_
  rw [alive_1]
  simp +contextual -implicitDefEqProofs (maxSteps := 1000000) only [sm, sn, sxx, seval, eDoms]
  refine callA_rule (logic_Narrow (18, [], [], 0) [[(0, 0)], [(0, 1)]] (by decide) (by decide) ⟨by decide, by decide⟩) ?_ ?_ ?_
  · simp +contextual -implicitDefEqProofs (maxSteps := 1000000) only [sm, sn, sxx, seval, eCon, eIs, eDoms, eRgs, eRg]
  · rfl
  rw [alive_2]
  simp +contextual -implicitDefEqProofs (maxSteps := 1000000) only [sm, sn, sxx, seval, eDoms, eRgs, eRg]
  refine callA_rule (law08_Ranges [(0, 0)] [(0, 0)] (by decide)) (wkL_refl _) rfl ?_
  simp +contextual -implicitDefEqProofs (maxSteps := 1000000) only [sm, sn, sxx, seval]
def mineB (c : Con) (D : List (List Rg)) : Bool := decide (11 ≤ c.1) && decide (c.1 ≤ 14) && fitsB c D && fitB c D
theorem law15_mine (c : Con) (D : List (List Rg)) : Ctr Try.prog 16 [eCon c, eDoms D] [] (.bool (mineB c D)) [] := by
  obtain ⟨K, X, A, C⟩ := c
  refine call_pure Try.func16 Try.call16 e_law15_mine ?_
  by_cases k1 : 11 ≤ K
  · by_cases k2 : K ≤ 14
    · simp +contextual -implicitDefEqProofs (maxSteps := 1000000) only [c_law15_mine, eCon, eIs, eDoms, sm, sn, sxx, seval, k1, k2]
      refine callA_rule (law12_Fits (K, X, A, C) D) (wkL_refl _) rfl ?_
      cases hF : fitsB (K, X, A, C) D
      · simp +contextual -implicitDefEqProofs (maxSteps := 1000000) only [sm, sn, sxx, seval]
        simp [mineB, hF]
      obtain ⟨s1, s2, s3, s4⟩ := fits_facts hF
      simp only at s3 s4
      simp +contextual -implicitDefEqProofs (maxSteps := 1000000) only [sm, sn, sxx, seval, eCon, eIs]
      refine callA_rule (ref12_Fit (K, X, A, C) D (by omega) (fun d h => by have := s2 d h; omega) ⟨by simp only; omega, by simp only; omega⟩) (wkL_refl _) rfl ?_
      simp +contextual -implicitDefEqProofs (maxSteps := 1000000) only [sm, sn, sxx, seval]
      simp [mineB, hF, k1, k2]
    · simp +contextual -implicitDefEqProofs (maxSteps := 1000000) only [c_law15_mine, eCon, eIs, eDoms, sm, sn, sxx, seval, k1, k2]
      simp [mineB, k2]
  · simp +contextual -implicitDefEqProofs (maxSteps := 1000000) only [c_law15_mine, eCon, eIs, eDoms, sm, sn, sxx, seval, k1]
    simp [mineB, k1]
end Go.Proofs.Ytonkcemcledhiaa
