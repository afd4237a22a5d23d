/- WholeUnlike. -/
import Derived.Test.YtonkcemcledhiaaPlWUnlike
import Derived.Test.YtonkcemcledhiaaWHall4
import Derived.Test.YtonkcemcledhiaaGLin
import Derived.Test.YtonkcemcledhiaaGRef08
import Derived.Test.YtonkcemcledhiaaGRef12
import Derived.Test.YtonkcemcledhiaaCWUnlike
namespace Go.Proofs.Ytonkcemcledhiaa
open Av
attribute [local irreducible] awp awpOpers
set_option linter.unusedSimpArgs false
set_option linter.unusedVariables false
set_option maxRecDepth 100000
set_option maxHeartbeats 4000000
theorem wun_1 : hallL (18, [0, 1], [], 0) [[(1, 1)], [(1, 3)]] = ([[(1, 1)], [(2, 3)]], 0) := by decide +kernel
theorem law_WholeUnlike (x y : Int) (D : List (List Rg)) : Ctr Try.prog 14 [.int .i64 x, .int .i64 y, eDoms D] [] (.bool true) [] := by
  refine call_pure Try.func14 Try.call14 e_top_WholeUnlike ?_
  simp +contextual -implicitDefEqProofs (maxSteps := 1000000) only [c_top_WholeUnlike, eDoms, sm, sn, sxx, seval]
  refine callA_rule (hall_Narrow (18, [0, 1], [], 0) [[(1, 1)], [(1, 3)]] (by decide) (by decide) ⟨by decide, by decide⟩) ?_ ?_ ?_
  · simp +contextual -implicitDefEqProofs (maxSteps := 1000000) only [sm, sn, sxx, seval, eCon, eIs, eI, eDoms, eRgs, eRg]
  · rfl
  rw [wun_1]
  simp +contextual -implicitDefEqProofs (maxSteps := 1000000) only [sm, sn, sxx, seval, eDoms, eRgs, eRg]
  refine callA_rule (law08_Ranges [(2, 3)] [(2, 3)] (by decide)) ?_ ?_ ?_
  · simp +contextual -implicitDefEqProofs (maxSteps := 1000000) only [sm, sn, sxx, seval, eRgs, eRg]
  · rfl
  simp +contextual -implicitDefEqProofs (maxSteps := 1000000) only [sm, sn, sxx, seval]
  by_cases hxy : x = y
  · simp +contextual -implicitDefEqProofs (maxSteps := 1000000) only [sm, sn, sxx, seval, hxy]
  simp +contextual -implicitDefEqProofs (maxSteps := 1000000) only [sm, sn, sxx, seval, hxy]
  refine callA_rule (law12_Fits (unC x y) D) (by simp +contextual -implicitDefEqProofs (maxSteps := 1000000) only [sm, sn, sxx, seval, unC, eCon, eIs, eI, eDoms]) rfl ?_
  cases hF : fitsB (unC x y) D
  · simp +contextual -implicitDefEqProofs (maxSteps := 1000000) only [sm, sn, sxx, seval]
  obtain ⟨s1, s2, s3, s4⟩ := fits_facts hF
  have hd : ∀ d ∈ D, d.length ≤ 1000000000000 := fun d h => by have := s2 d h; omega
  simp +contextual -implicitDefEqProofs (maxSteps := 1000000) only [sm, sn, sxx, seval]
  refine callA_rule (ref12_Fit (unC x y) D (by omega) hd ⟨by simp [unC], by simp [unC]⟩) (by simp +contextual -implicitDefEqProofs (maxSteps := 1000000) only [sm, sn, sxx, seval, unC, eCon, eIs, eI, eDoms]) rfl ?_
  cases hm : fitB (unC x y) D
  · simp +contextual -implicitDefEqProofs (maxSteps := 1000000) only [sm, sn, sxx, seval]
  have hN := hall_Narrow (unC x y) D (by omega) hd ⟨by simp [unC], by simp [unC]⟩
  have lN := linear_Narrow (dfC x y) D (by omega) hd ⟨by simp [dfC], by simp [dfC]⟩ ⟨by simp [dfC], by simp [dfC]⟩
  rcases un_under hxy hm with ⟨b, a, h1, h2, hle, hb, ha⟩ | ⟨h1, h2 | ⟨a, h2, ha⟩⟩
  · rw [h2] at hN
    rw [h1] at lN
    simp +contextual -implicitDefEqProofs (maxSteps := 1000000) only [sm, sn, sxx, seval]
    refine callA_rule hN (by simp +contextual -implicitDefEqProofs (maxSteps := 1000000) only [sm, sn, sxx, seval, unC, eCon, eIs, eI, eDoms]) rfl ?_
    simp +contextual -implicitDefEqProofs (maxSteps := 1000000) only [sm, sn, sxx, seval, eDoms]
    refine callA_rule lN (by simp +contextual -implicitDefEqProofs (maxSteps := 1000000) only [sm, sn, sxx, seval, dfC, eCon, eIs, eI, eDoms]) rfl ?_
    simp +contextual -implicitDefEqProofs (maxSteps := 1000000) only [sm, sn, sxx, seval, eDoms]
    refine callA_rule (law12_Under b a hle (by have := hb.1; omega)) (by simp +contextual -implicitDefEqProofs (maxSteps := 1000000) only [sm, sn, sxx, seval, eDoms]) rfl ?_
    simp +contextual -implicitDefEqProofs (maxSteps := 1000000) only [sm, sn, sxx, seval]
  · rw [h2] at hN
    rw [h1] at lN
    simp +contextual -implicitDefEqProofs (maxSteps := 1000000) only [sm, sn, sxx, seval]
    refine callA_rule hN (by simp +contextual -implicitDefEqProofs (maxSteps := 1000000) only [sm, sn, sxx, seval, unC, eCon, eIs, eI, eDoms]) rfl ?_
    simp +contextual -implicitDefEqProofs (maxSteps := 1000000) only [sm, sn, sxx, seval, eDoms]
    refine callA_rule lN (by simp +contextual -implicitDefEqProofs (maxSteps := 1000000) only [sm, sn, sxx, seval, dfC, eCon, eIs, eI, eDoms]) rfl ?_
    simp +contextual -implicitDefEqProofs (maxSteps := 1000000) only [sm, sn, sxx, seval, eDoms]
  · rw [h2] at hN
    rw [h1] at lN
    simp +contextual -implicitDefEqProofs (maxSteps := 1000000) only [sm, sn, sxx, seval]
    refine callA_rule hN (by simp +contextual -implicitDefEqProofs (maxSteps := 1000000) only [sm, sn, sxx, seval, unC, eCon, eIs, eI, eDoms]) rfl ?_
    simp +contextual -implicitDefEqProofs (maxSteps := 1000000) only [sm, sn, sxx, seval, eDoms]
    refine callA_rule lN (by simp +contextual -implicitDefEqProofs (maxSteps := 1000000) only [sm, sn, sxx, seval, dfC, eCon, eIs, eI, eDoms]) rfl ?_
    simp +contextual -implicitDefEqProofs (maxSteps := 1000000) only [sm, sn, sxx, seval, eDoms]
end Go.Proofs.Ytonkcemcledhiaa
