/- The code of functions, as abstract code. Printed by program. -/
import Derived.Test.YtbhigfllanblpaaAv2
import Derived.Test.YtbhigfllanblpaaProg
namespace Go.Proofs.Ytbhigfllanblpaa
open Av
set_option linter.unusedVariables false
set_option maxRecDepth 100000
def kd_CArithKeeps (f : Nat) : Nat := 0
/- touchstone/touchstonelaw14.ArithKeeps: slots c, 0, d, 1, c, 2, d, 3, out, 5, e, 6 -/
def c_law14_ArithKeeps : AFunc := ⟨35, [.tmp 4],
  .seq (.region (⟨some 2, .box 4 (.tmp 0), none⟩ ::
    ⟨some 4, .mov (.val (.bool false)), none⟩ :: [])) <|
  .seq (.seq (.region (⟨some 7, .call (.val (.fn (.func 32) [])) [], none⟩ ::
    ⟨some 8, .un .not (.tmp 7), none⟩ :: [])) <|
  .cond (.tmp 8) (.seq (.region (⟨some 4, .mov (.val (.bool false)), none⟩ :: [])) <|
    .ret) <|
  .skip) <|
  .seq (.seq (.region (⟨some 9, .load true 4 (.tmp 2), none⟩ ::
    ⟨some 10, .mov (.tmp 1), none⟩ ::
    ⟨some 11, .call (.val (.fn (.func 21) [])) [(.tmp 9), (.tmp 10)], none⟩ ::
    ⟨some 12, .un .not (.tmp 11), none⟩ ::
    ⟨some 13, .mov (.tmp 12), none⟩ ::
    ⟨some 14, .mov (.tmp 1), some (13, false)⟩ ::
    ⟨some 15, .call (.val (.fn (.func 22) [])) [(.tmp 14)], some (13, false)⟩ ::
    ⟨some 16, .un .not (.tmp 15), some (13, false)⟩ ::
    ⟨some 17, .pick (.tmp 13) (.val (.bool true)) (.tmp 16), none⟩ ::
    ⟨some 18, .mov (.tmp 17), none⟩ ::
    ⟨some 19, .load true 4 (.tmp 2), some (18, false)⟩ ::
    ⟨some 20, .mov (.tmp 1), some (18, false)⟩ ::
    ⟨some 21, .call (.val (.fn (.func 35) [])) [(.tmp 19), (.tmp 20)], some (18, false)⟩ ::
    ⟨some 22, .un .not (.tmp 21), some (18, false)⟩ ::
    ⟨some 23, .pick (.tmp 18) (.val (.bool true)) (.tmp 22), none⟩ :: [])) <|
  .cond (.tmp 23) (.seq (.region (⟨some 4, .mov (.val (.bool true)), none⟩ :: [])) <|
    .ret) <|
  .skip) <|
  .seq (.region (⟨some 25, .load true 4 (.tmp 2), none⟩ ::
    ⟨some 26, .mov (.tmp 1), none⟩ ::
    ⟨some 27, .call (.val (.fn (.func 33) [])) [(.tmp 25), (.tmp 26)], none⟩ ::
    ⟨some 24, .mov (.tmp 27), none⟩ ::
    ⟨some 28, .ext (.tmp 24) 0, none⟩ ::
    ⟨some 29, .ext (.tmp 24) 1, none⟩ ::
    ⟨some 5, .mov (.tmp 28), none⟩ ::
    ⟨some 6, .mov (.tmp 29), none⟩ :: [])) <|
  .seq (.region (⟨some 30, .load true 4 (.tmp 2), none⟩ ::
    ⟨some 31, .mov (.tmp 1), none⟩ ::
    ⟨some 32, .mov (.tmp 5), none⟩ ::
    ⟨some 33, .mov (.tmp 6), none⟩ ::
    ⟨some 34, .call (.val (.fn (.func 31) [])) [(.tmp 30), (.tmp 31), (.tmp 32), (.tmp 33)], none⟩ ::
    ⟨some 4, .mov (.tmp 34), none⟩ :: [])) <|
  .ret⟩
theorem e_law14_ArithKeeps : cFunc Try.prog kd_CArithKeeps Try.f11 = some c_law14_ArithKeeps := by kernel_rfl
end Go.Proofs.Ytbhigfllanblpaa
