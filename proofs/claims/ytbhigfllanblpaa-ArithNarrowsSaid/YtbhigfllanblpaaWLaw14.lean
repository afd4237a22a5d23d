/- alive, mine of package touchstonelaw14. -/
import Derived.Test.YtbhigfllanblpaaWArith3
import Derived.Test.YtbhigfllanblpaaGRef08
import Derived.Test.YtbhigfllanblpaaGRef12
import Derived.Test.YtbhigfllanblpaaCLaw14
namespace Go.Proofs.Ytbhigfllanblpaa
open Av
attribute [local irreducible] awp awpOpers
set_option linter.unusedSimpArgs false
set_option linter.unusedVariables false
set_option maxRecDepth 100000
set_option maxHeartbeats 4000000
theorem alive14_1 : arithL (7, [0, 1, 2], [], 0) [[(0, 9)], [(2, 3)], [(7, 8)]] = ([[(3, 4)], [(2, 2)], [(7, 8)]], 0) := by decide +kernel
theorem alive14_2 : arithL (18, [], [], 0) [[(0, 9)], [(2, 3)], [(7, 8)]] = ([], 10) := by decide +kernel
theorem law14_alive : Ctr Try.prog 32 [] [] (.bool true) [] := by
  refine call_pure Try.func32 Try.call32 e_law14_alive ?_
  simp +contextual -implicitDefEqProofs (maxSteps := 1000000) only [c_law14_alive, sm, sn, seval]
  refine callA_rule (arith_Narrow (7, [0, 1, 2], [], 0) [[(0, 9)], [(2, 3)], [(7, 8)]] (by decide) (by decide) ⟨by decide, by decide⟩) ?_ ?_ ?_
  · simp +contextual -implicitDefEqProofs (maxSteps := 1000000) only [sm, sn, seval, eCon, eIs, eI, eDoms, eRgs, eRg]
  · rfl
  rw [alive14_1]
  simp +contextual -implicitDefEqProofs (maxSteps := 1000000) only [sm, sn, seval, eDoms]
  refine callA_rule (arith_Narrow (18, [], [], 0) [[(0, 9)], [(2, 3)], [(7, 8)]] (by decide) (by decide) ⟨by decide, by decide⟩) ?_ ?_ ?_
  · simp +contextual -implicitDefEqProofs (maxSteps := 1000000) only [sm, sn, seval, eCon, eIs, eDoms, eRgs, eRg]
  · rfl
  rw [alive14_2]
  simp +contextual -implicitDefEqProofs (maxSteps := 1000000) only [sm, sn, seval, eDoms, eRgs, eRg]
  refine callA_rule (law08_Ranges [(3, 4)] [(3, 4)] (by decide)) (wkL_refl _) rfl ?_
  simp +contextual -implicitDefEqProofs (maxSteps := 1000000) only [sm, sn, seval]
end Go.Proofs.Ytbhigfllanblpaa
