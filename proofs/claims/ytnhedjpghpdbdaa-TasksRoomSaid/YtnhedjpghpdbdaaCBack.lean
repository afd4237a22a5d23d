/- The code of functions, as abstract code. Printed by program. -/
import Derived.Test.YtnhedjpghpdbdaaAv2
import Derived.Test.YtnhedjpghpdbdaaProg
namespace Go.Proofs.Ytnhedjpghpdbdaa
open Av
set_option linter.unusedVariables false
set_option maxRecDepth 100000
def kd_CBack (f : Nat) : Nat := 0
/- slices.Backward[[]touchstone/tasks.stretch,touchstone/tasks.stretch]: slots s, 0, s, 1 -/
def c_slices_Backward_stasks_stretch_tasks_stretch : AFunc := ⟨4, [.tmp 2],
  .seq (.region (⟨some 1, .box 1 (.tmp 0), none⟩ ::
    ⟨some 2, .mov (.val .nilf), none⟩ :: [])) <|
  .seq (.region (⟨some 3, .mkf (.func 121) [(.tmp 1)], none⟩ ::
    ⟨some 2, .mov (.tmp 3), none⟩ :: [])) <|
  .ret⟩
theorem e_slices_Backward_stasks_stretch_tasks_stretch : cFunc Try.prog kd_CBack Try.f85 = some c_slices_Backward_stasks_stretch_tasks_stretch := by kernel_rfl
end Go.Proofs.Ytnhedjpghpdbdaa
