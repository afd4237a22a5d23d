/- alive of package touchstonelaw17. -/
import Derived.Test.YtonkcemcledhiaaWHall4
import Derived.Test.YtonkcemcledhiaaGSet
import Derived.Test.YtonkcemcledhiaaCLaw17
namespace Go.Proofs.Ytonkcemcledhiaa
open Av
attribute [local irreducible] awp awpOpers
set_option linter.unusedSimpArgs false
set_option linter.unusedVariables false
set_option maxRecDepth 100000
set_option maxHeartbeats 4000000
theorem alive17_1 : hallL (18, [0, 1, 2], [], 0) [[(1, 2)], [(1, 2)], [(1, 4)]] = ([[(1, 2)], [(1, 2)], [(3, 4)]], 0) := by decide +kernel
theorem alive17_2 : hallL (15, [0, 1], [], 0) [[(1, 2)], [(1, 2)], [(1, 4)]] = ([], 10) := by decide +kernel
theorem alive17_3 : roomB [(1, 2), (1, 2), (2, 3)] = true := by decide +kernel
theorem alive17_4 : roomB [(1, 2), (1, 2), (1, 2)] = false := by decide +kernel
theorem law17_alive : Ctr Try.prog 30 [] [] (.bool true) [] := by
  refine call_pure Try.func30 Try.call30 e_law17_alive ?_
  simp +contextual -implicitDefEqProofs (maxSteps := 1000000) only [c_law17_alive, sm, sn, sxx, seval]
  refine callA_rule (hall_Narrow (18, [0, 1, 2], [], 0) [[(1, 2)], [(1, 2)], [(1, 4)]] (by decide) (by decide) ⟨by decide, by decide⟩) ?_ ?_ ?_
  · simp +contextual -implicitDefEqProofs (maxSteps := 1000000) only [sm, sn, sxx, seval, eCon, eIs, eI, eDoms, eRgs, eRg]
  · rfl
  rw [alive17_1]
  simp +contextual -implicitDefEqProofs (maxSteps := 1000000) only [sm, sn, sxx, seval, eDoms]
  refine callA_rule (hall_Narrow (15, [0, 1], [], 0) [[(1, 2)], [(1, 2)], [(1, 4)]] (by decide) (by decide) ⟨by decide, by decide⟩) ?_ ?_ ?_
  · simp +contextual -implicitDefEqProofs (maxSteps := 1000000) only [sm, sn, sxx, seval, eCon, eIs, eI, eDoms, eRgs, eRg]
  · rfl
  rw [alive17_2]
  simp +contextual -implicitDefEqProofs (maxSteps := 1000000) only [sm, sn, sxx, seval, eDoms, eRgs, eRg]
  refine callA_rule (law08_Ranges [(3, 4)] [(3, 4)] (by decide)) (wkL_refl _) rfl ?_
  simp +contextual -implicitDefEqProofs (maxSteps := 1000000) only [sm, sn, sxx, seval]
  refine callA_rule (hall_Room [(1, 2), (1, 2), (2, 3)] (by decide)) (wkL_refl _) rfl ?_
  rw [alive17_3]
  simp +contextual -implicitDefEqProofs (maxSteps := 1000000) only [sm, sn, sxx, seval]
  refine callA_rule (hall_Room [(1, 2), (1, 2), (1, 2)] (by decide)) (wkL_refl _) rfl ?_
  rw [alive17_4]
  simp +contextual -implicitDefEqProofs (maxSteps := 1000000) only [sm, sn, sxx, seval]
end Go.Proofs.Ytonkcemcledhiaa
