/- The code of functions, as abstract code. Printed by program. -/
import Derived.Test.YtclpkkbamgmooaaAv2
import Derived.Test.YtclpkkbamgmooaaProg
namespace Go.Proofs.Ytclpkkbamgmooaa
open Av
set_option linter.unusedVariables false
set_option maxRecDepth 100000
def kd_CLinOrd (f : Nat) : Nat := 0
/- touchstone/touchstonelaw12.LinearOrder: slots c, 0, d, 1, cut, 2, c, 3, d, 4, cut, 5, small, 7, x, 8, e, 9, y, 10, f, 11 -/
def c_law12_LinearOrder : AFunc := ⟨75, [.tmp 6],
  .seq (.region (⟨some 3, .box 4 (.tmp 0), none⟩ ::
    ⟨some 6, .mov (.val (.bool false)), none⟩ :: [])) <|
  .seq (.seq (.region (⟨some 12, .call (.val (.fn (.func 25) [])) [], none⟩ ::
    ⟨some 13, .un .not (.tmp 12), none⟩ :: [])) <|
  .cond (.tmp 13) (.seq (.region (⟨some 6, .mov (.val (.bool false)), none⟩ :: [])) <|
    .ret) <|
  .skip) <|
  .seq (.seq (.region (⟨some 14, .load true 4 (.tmp 3), none⟩ ::
    ⟨some 15, .mov (.tmp 1), none⟩ ::
    ⟨some 16, .call (.val (.fn (.func 15) [])) [(.tmp 14), (.tmp 15)], none⟩ ::
    ⟨some 17, .un .not (.tmp 16), none⟩ ::
    ⟨some 18, .mov (.tmp 17), none⟩ ::
    ⟨some 19, .mov (.tmp 2), some (18, false)⟩ ::
    ⟨some 20, .len false (.tmp 19), some (18, false)⟩ ::
    ⟨some 21, .mov (.tmp 1), some (18, false)⟩ ::
    ⟨some 22, .len false (.tmp 21), some (18, false)⟩ ::
    ⟨some 23, .bin .neq (.tmp 20) (.tmp 22), some (18, false)⟩ ::
    ⟨some 24, .pick (.tmp 18) (.val (.bool true)) (.tmp 23), none⟩ ::
    ⟨some 25, .mov (.tmp 24), none⟩ ::
    ⟨some 26, .faddr 0 (.tmp 3), some (25, false)⟩ ::
    ⟨some 27, .load false 1 (.tmp 26), some (25, false)⟩ ::
    ⟨some 28, .bin .lss (.tmp 27) (.val (.int .i64 1)), some (25, false)⟩ ::
    ⟨some 29, .pick (.tmp 25) (.val (.bool true)) (.tmp 28), none⟩ ::
    ⟨some 30, .mov (.tmp 29), none⟩ ::
    ⟨some 31, .faddr 0 (.tmp 3), some (30, false)⟩ ::
    ⟨some 32, .load false 1 (.tmp 31), some (30, false)⟩ ::
    ⟨some 33, .bin .gtr (.tmp 32) (.val (.int .i64 3)), some (30, false)⟩ ::
    ⟨some 34, .pick (.tmp 30) (.val (.bool true)) (.tmp 33), none⟩ ::
    ⟨some 35, .mov (.tmp 34), none⟩ ::
    ⟨some 36, .load true 4 (.tmp 3), some (35, false)⟩ ::
    ⟨some 37, .mov (.tmp 1), some (35, false)⟩ ::
    ⟨some 38, .call (.val (.fn (.func 30) [])) [(.tmp 36), (.tmp 37)], some (35, false)⟩ ::
    ⟨some 39, .un .not (.tmp 38), some (35, false)⟩ ::
    ⟨some 40, .pick (.tmp 35) (.val (.bool true)) (.tmp 39), none⟩ :: [])) <|
  .cond (.tmp 40) (.seq (.region (⟨some 6, .mov (.val (.bool true)), none⟩ :: [])) <|
    .ret) <|
  .skip) <|
  .seq (.region (⟨some 41, .mov (.tmp 1), none⟩ ::
    ⟨some 42, .mov (.tmp 2), none⟩ ::
    ⟨some 43, .call (.val (.fn (.func 22) [])) [(.tmp 41), (.tmp 42)], none⟩ ::
    ⟨some 7, .mov (.tmp 43), none⟩ :: [])) <|
  .seq (.region (⟨some 45, .load true 4 (.tmp 3), none⟩ ::
    ⟨some 46, .mov (.tmp 1), none⟩ ::
    ⟨some 47, .call (.val (.fn (.func 26) [])) [(.tmp 45), (.tmp 46)], none⟩ ::
    ⟨some 44, .mov (.tmp 47), none⟩ ::
    ⟨some 48, .ext (.tmp 44) 0, none⟩ ::
    ⟨some 49, .ext (.tmp 44) 1, none⟩ ::
    ⟨some 8, .mov (.tmp 48), none⟩ ::
    ⟨some 9, .mov (.tmp 49), none⟩ :: [])) <|
  .seq (.region (⟨some 51, .load true 4 (.tmp 3), none⟩ ::
    ⟨some 52, .mov (.tmp 7), none⟩ ::
    ⟨some 53, .call (.val (.fn (.func 26) [])) [(.tmp 51), (.tmp 52)], none⟩ ::
    ⟨some 50, .mov (.tmp 53), none⟩ ::
    ⟨some 54, .ext (.tmp 50) 0, none⟩ ::
    ⟨some 55, .ext (.tmp 50) 1, none⟩ ::
    ⟨some 10, .mov (.tmp 54), none⟩ ::
    ⟨some 11, .mov (.tmp 55), none⟩ :: [])) <|
  .seq (.seq (.region (⟨some 56, .mov (.tmp 9), none⟩ ::
    ⟨some 57, .bin .eql (.tmp 56) (.val (.int .i64 12)), none⟩ :: [])) <|
  .cond (.tmp 57) (.seq (.region (⟨some 58, .mov (.tmp 11), none⟩ ::
      ⟨some 59, .bin .eql (.tmp 58) (.val (.int .i64 12)), none⟩ ::
      ⟨some 6, .mov (.tmp 59), none⟩ :: [])) <|
    .ret) <|
  .skip) <|
  .seq (.region (⟨some 60, .mov (.tmp 9), none⟩ ::
    ⟨some 61, .bin .eql (.tmp 60) (.val (.int .i64 0)), none⟩ ::
    ⟨some 62, .mov (.tmp 61), none⟩ ::
    ⟨some 63, .mov (.tmp 11), some (62, true)⟩ ::
    ⟨some 64, .bin .eql (.tmp 63) (.val (.int .i64 12)), some (62, true)⟩ ::
    ⟨some 65, .mov (.tmp 64), some (62, true)⟩ ::
    ⟨some 66, .mov (.tmp 11), some (65, false)⟩ ::
    ⟨some 67, .bin .eql (.tmp 66) (.val (.int .i64 0)), some (65, false)⟩ ::
    ⟨some 68, .mov (.tmp 67), some (65, false)⟩ ::
    ⟨some 69, .mov (.tmp 10), some (68, true)⟩ ::
    ⟨some 70, .mov (.tmp 8), some (68, true)⟩ ::
    ⟨some 71, .call (.val (.fn (.func 23) [])) [(.tmp 69), (.tmp 70)], some (68, true)⟩ ::
    ⟨some 72, .pick (.tmp 68) (.tmp 71) (.val (.bool false)), some (65, false)⟩ ::
    ⟨some 73, .pick (.tmp 65) (.val (.bool true)) (.tmp 72), some (62, true)⟩ ::
    ⟨some 74, .pick (.tmp 62) (.tmp 73) (.val (.bool false)), none⟩ ::
    ⟨some 6, .mov (.tmp 74), none⟩ :: [])) <|
  .ret⟩
theorem e_law12_LinearOrder : cFunc Try.prog kd_CLinOrd Try.f10 = some c_law12_LinearOrder := by kernel_rfl
end Go.Proofs.Ytclpkkbamgmooaa
