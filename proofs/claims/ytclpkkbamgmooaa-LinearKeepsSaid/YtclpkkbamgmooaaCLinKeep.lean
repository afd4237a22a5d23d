/- The code of functions, as abstract code. Printed by program. -/
import Derived.Test.YtclpkkbamgmooaaAv2
import Derived.Test.YtclpkkbamgmooaaProg
namespace Go.Proofs.Ytclpkkbamgmooaa
open Av
set_option linter.unusedVariables false
set_option maxRecDepth 100000
def kd_CLinKeep (f : Nat) : Nat := 0
/- touchstone/touchstonelaw12.LinearKeeps: slots c, 0, d, 1, c, 2, d, 3, out, 5, e, 6 -/
def c_law12_LinearKeeps : AFunc := ⟨45, [.tmp 4],
  .seq (.region (⟨some 2, .box 4 (.tmp 0), none⟩ ::
    ⟨some 4, .mov (.val (.bool false)), none⟩ :: [])) <|
  .seq (.seq (.region (⟨some 7, .call (.val (.fn (.func 25) [])) [], none⟩ ::
    ⟨some 8, .un .not (.tmp 7), none⟩ :: [])) <|
  .cond (.tmp 8) (.seq (.region (⟨some 4, .mov (.val (.bool false)), none⟩ :: [])) <|
    .ret) <|
  .skip) <|
  .seq (.seq (.region (⟨some 9, .load true 4 (.tmp 2), none⟩ ::
    ⟨some 10, .mov (.tmp 1), none⟩ ::
    ⟨some 11, .call (.val (.fn (.func 15) [])) [(.tmp 9), (.tmp 10)], none⟩ ::
    ⟨some 12, .un .not (.tmp 11), none⟩ ::
    ⟨some 13, .mov (.tmp 12), none⟩ ::
    ⟨some 14, .mov (.tmp 1), some (13, false)⟩ ::
    ⟨some 15, .call (.val (.fn (.func 19) [])) [(.tmp 14)], some (13, false)⟩ ::
    ⟨some 16, .un .not (.tmp 15), some (13, false)⟩ ::
    ⟨some 17, .pick (.tmp 13) (.val (.bool true)) (.tmp 16), none⟩ ::
    ⟨some 18, .mov (.tmp 17), none⟩ ::
    ⟨some 19, .faddr 0 (.tmp 2), some (18, false)⟩ ::
    ⟨some 20, .load false 1 (.tmp 19), some (18, false)⟩ ::
    ⟨some 21, .bin .lss (.tmp 20) (.val (.int .i64 1)), some (18, false)⟩ ::
    ⟨some 22, .pick (.tmp 18) (.val (.bool true)) (.tmp 21), none⟩ ::
    ⟨some 23, .mov (.tmp 22), none⟩ ::
    ⟨some 24, .faddr 0 (.tmp 2), some (23, false)⟩ ::
    ⟨some 25, .load false 1 (.tmp 24), some (23, false)⟩ ::
    ⟨some 26, .bin .gtr (.tmp 25) (.val (.int .i64 3)), some (23, false)⟩ ::
    ⟨some 27, .pick (.tmp 23) (.val (.bool true)) (.tmp 26), none⟩ ::
    ⟨some 28, .mov (.tmp 27), none⟩ ::
    ⟨some 29, .load true 4 (.tmp 2), some (28, false)⟩ ::
    ⟨some 30, .mov (.tmp 1), some (28, false)⟩ ::
    ⟨some 31, .call (.val (.fn (.func 30) [])) [(.tmp 29), (.tmp 30)], some (28, false)⟩ ::
    ⟨some 32, .un .not (.tmp 31), some (28, false)⟩ ::
    ⟨some 33, .pick (.tmp 28) (.val (.bool true)) (.tmp 32), none⟩ :: [])) <|
  .cond (.tmp 33) (.seq (.region (⟨some 4, .mov (.val (.bool true)), none⟩ :: [])) <|
    .ret) <|
  .skip) <|
  .seq (.region (⟨some 35, .load true 4 (.tmp 2), none⟩ ::
    ⟨some 36, .mov (.tmp 1), none⟩ ::
    ⟨some 37, .call (.val (.fn (.func 26) [])) [(.tmp 35), (.tmp 36)], none⟩ ::
    ⟨some 34, .mov (.tmp 37), none⟩ ::
    ⟨some 38, .ext (.tmp 34) 0, none⟩ ::
    ⟨some 39, .ext (.tmp 34) 1, none⟩ ::
    ⟨some 5, .mov (.tmp 38), none⟩ ::
    ⟨some 6, .mov (.tmp 39), none⟩ :: [])) <|
  .seq (.region (⟨some 40, .load true 4 (.tmp 2), none⟩ ::
    ⟨some 41, .mov (.tmp 1), none⟩ ::
    ⟨some 42, .mov (.tmp 5), none⟩ ::
    ⟨some 43, .mov (.tmp 6), none⟩ ::
    ⟨some 44, .call (.val (.fn (.func 21) [])) [(.tmp 40), (.tmp 41), (.tmp 42), (.tmp 43)], none⟩ ::
    ⟨some 4, .mov (.tmp 44), none⟩ :: [])) <|
  .ret⟩
theorem e_law12_LinearKeeps : cFunc Try.prog kd_CLinKeep Try.f9 = some c_law12_LinearKeeps := by kernel_rfl
end Go.Proofs.Ytclpkkbamgmooaa
