/- HallRooms. -/
import Derived.Test.YtonkcemcledhiaaWLaw17
import Derived.Test.YtonkcemcledhiaaWRef17
import Derived.Test.YtonkcemcledhiaaPlHall3
namespace Go.Proofs.Ytonkcemcledhiaa
open Av
attribute [local irreducible] awp awpOpers
set_option linter.unusedSimpArgs false
set_option linter.unusedVariables false
set_option maxRecDepth 100000
set_option maxHeartbeats 4000000
theorem law_HallRooms (l : List Rg) : Ctr Try.prog 10 [eRgs l] [] (.bool true) [] := by
  refine call_pure Try.func10 Try.call10 e_law17_HallRooms ?_
  simp +contextual -implicitDefEqProofs (maxSteps := 1000000) only [c_law17_HallRooms, eRgs, sm, sn, sxx, seval]
  refine callA_rule law17_alive (wkL_refl _) rfl ?_
  by_cases h : 100 < l.length
  · have h' : (100 : Int) < (l.length : Int) := by omega
    simp +contextual -implicitDefEqProofs (maxSteps := 1000000) only [sm, sn, sxx, seval, h']
  have h' : ¬ (100 : Int) < (l.length : Int) := by omega
  simp +contextual -implicitDefEqProofs (maxSteps := 1000000) only [sm, sn, sxx, seval, h']
  refine callA_rule (hall_Room l (by omega)) (wkL_refl _) rfl ?_
  simp +contextual -implicitDefEqProofs (maxSteps := 1000000) only [sm, sn, sxx, seval]
  refine callA_rule (ref17_Room l (by omega)) (wkL_refl _) rfl ?_
  rw [rooms_eq]
  cases rroomB l <;> (simp +contextual -implicitDefEqProofs (maxSteps := 1000000) only [sm, sn, sxx, seval]; try rfl)
end Go.Proofs.Ytonkcemcledhiaa
