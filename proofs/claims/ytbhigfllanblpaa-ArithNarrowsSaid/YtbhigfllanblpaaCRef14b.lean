/- The code of functions, as abstract code. Printed by program. -/
import Derived.Test.YtbhigfllanblpaaAv2
import Derived.Test.YtbhigfllanblpaaProg
namespace Go.Proofs.Ytbhigfllanblpaa
open Av
set_option linter.unusedVariables false
set_option maxRecDepth 100000
def kd_CRef14b (f : Nat) : Nat := if f = 126 then 2 else 0
/- touchstone/touchstoneref14.size: slots s, 0, x, 1, y, 2, s, 3, x, 4, y, 5, low, 7, high, 8 -/
def c_ref14_size : AFunc := ⟨87, [.cell 6 true 2],
  .seq (.region (⟨some 3, .box 2 (.tmp 0), none⟩ ::
    ⟨some 6, .alloc (.agg [.nils, (.bool false)]), none⟩ :: [])) <|
  .seq (.region (⟨some 9, .load true 2 (.tmp 3), none⟩ ::
    ⟨some 10, .mov (.tmp 2), none⟩ ::
    ⟨some 11, .load true 2 (.tmp 3), none⟩ ::
    ⟨some 12, .mov (.tmp 1), none⟩ ::
    ⟨some 13, .call (.val (.fn (.func 122) [])) [(.tmp 11), (.tmp 12)], none⟩ ::
    ⟨some 14, .load true 2 (.tmp 3), none⟩ ::
    ⟨some 15, .mov (.tmp 1), none⟩ ::
    ⟨some 16, .call (.val (.fn (.func 121) [])) [(.tmp 14), (.tmp 15)], none⟩ ::
    ⟨some 17, .un .neg (.tmp 16), none⟩ ::
    ⟨some 18, .mx (.tmp 13) [(.tmp 17)], none⟩ ::
    ⟨some 19, .call (.val (.fn (.func 123) [])) [(.tmp 9), (.tmp 10), (.val (.int .i64 0)), (.tmp 18)], none⟩ ::
    ⟨none, .store 2 (.tmp 3) (.tmp 19), none⟩ :: [])) <|
  .seq (.seq (.region (⟨some 20, .load true 2 (.tmp 3), none⟩ ::
    ⟨some 21, .mov (.tmp 1), none⟩ ::
    ⟨some 22, .call (.val (.fn (.func 121) [])) [(.tmp 20), (.tmp 21)], none⟩ ::
    ⟨some 23, .bin .gtr (.tmp 22) (.val (.int .i64 0)), none⟩ :: [])) <|
  .cond (.tmp 23) (.region (⟨some 24, .load true 2 (.tmp 3), none⟩ ::
      ⟨some 25, .mov (.tmp 2), none⟩ ::
      ⟨some 26, .load true 2 (.tmp 3), none⟩ ::
      ⟨some 27, .mov (.tmp 1), none⟩ ::
      ⟨some 28, .call (.val (.fn (.func 121) [])) [(.tmp 26), (.tmp 27)], none⟩ ::
      ⟨some 29, .call (.val (.fn (.func 123) [])) [(.tmp 24), (.tmp 25), (.tmp 28), (.val (.int .i64 1099511627776))], none⟩ ::
      ⟨none, .store 2 (.tmp 3) (.tmp 29), none⟩ :: [])) <|
  .skip) <|
  .seq (.seq (.region (⟨some 30, .load true 2 (.tmp 3), none⟩ ::
    ⟨some 31, .mov (.tmp 1), none⟩ ::
    ⟨some 32, .call (.val (.fn (.func 122) [])) [(.tmp 30), (.tmp 31)], none⟩ ::
    ⟨some 33, .bin .lss (.tmp 32) (.val (.int .i64 0)), none⟩ :: [])) <|
  .cond (.tmp 33) (.region (⟨some 34, .load true 2 (.tmp 3), none⟩ ::
      ⟨some 35, .mov (.tmp 2), none⟩ ::
      ⟨some 36, .load true 2 (.tmp 3), none⟩ ::
      ⟨some 37, .mov (.tmp 1), none⟩ ::
      ⟨some 38, .call (.val (.fn (.func 122) [])) [(.tmp 36), (.tmp 37)], none⟩ ::
      ⟨some 39, .un .neg (.tmp 38), none⟩ ::
      ⟨some 40, .call (.val (.fn (.func 123) [])) [(.tmp 34), (.tmp 35), (.tmp 39), (.val (.int .i64 1099511627776))], none⟩ ::
      ⟨none, .store 2 (.tmp 3) (.tmp 40), none⟩ :: [])) <|
  .skip) <|
  .seq (.region (⟨some 41, .load true 2 (.tmp 3), none⟩ ::
    ⟨some 42, .mov (.tmp 1), none⟩ ::
    ⟨some 43, .load true 2 (.tmp 3), none⟩ ::
    ⟨some 44, .mov (.tmp 2), none⟩ ::
    ⟨some 45, .call (.val (.fn (.func 122) [])) [(.tmp 43), (.tmp 44)], none⟩ ::
    ⟨some 46, .un .neg (.tmp 45), none⟩ ::
    ⟨some 47, .load true 2 (.tmp 3), none⟩ ::
    ⟨some 48, .mov (.tmp 2), none⟩ ::
    ⟨some 49, .call (.val (.fn (.func 122) [])) [(.tmp 47), (.tmp 48)], none⟩ ::
    ⟨some 50, .call (.val (.fn (.func 123) [])) [(.tmp 41), (.tmp 42), (.tmp 46), (.tmp 49)], none⟩ ::
    ⟨none, .store 2 (.tmp 3) (.tmp 50), none⟩ :: [])) <|
  .seq (.seq (.region (⟨some 51, .faddr 1 (.tmp 3), none⟩ ::
    ⟨some 52, .load false 1 (.tmp 51), none⟩ ::
    ⟨some 53, .mov (.tmp 52), none⟩ ::
    ⟨some 54, .load true 2 (.tmp 3), some (53, false)⟩ ::
    ⟨some 55, .mov (.tmp 2), some (53, false)⟩ ::
    ⟨some 56, .call (.val (.fn (.func 121) [])) [(.tmp 54), (.tmp 55)], some (53, false)⟩ ::
    ⟨some 57, .bin .leq (.tmp 56) (.val (.int .i64 0)), some (53, false)⟩ ::
    ⟨some 58, .pick (.tmp 53) (.val (.bool true)) (.tmp 57), none⟩ :: [])) <|
  .cond (.tmp 58) (.seq (.region (⟨some 59, .load true 2 (.tmp 3), none⟩ ::
      ⟨none, .store 2 (.tmp 6) (.tmp 59), none⟩ :: [])) <|
    .ret) <|
  .skip) <|
  .seq (.region (⟨some 60, .faddr 0 (.tmp 3), none⟩ ::
    ⟨some 61, .load false 1 (.tmp 60), none⟩ ::
    ⟨some 62, .mov (.tmp 1), none⟩ ::
    ⟨some 63, .iaddr 1 (.tmp 61) (.tmp 62), none⟩ ::
    ⟨some 64, .load false 1 (.tmp 63), none⟩ ::
    ⟨some 65, .load true 2 (.tmp 3), none⟩ ::
    ⟨some 66, .mov (.tmp 2), none⟩ ::
    ⟨some 67, .call (.val (.fn (.func 121) [])) [(.tmp 65), (.tmp 66)], none⟩ ::
    ⟨some 68, .un .neg (.tmp 67), none⟩ ::
    ⟨some 69, .call (.val (.fn (.func 109) [])) [(.tmp 64), (.val (.int .i64 (-1099511627776))), (.tmp 68)], none⟩ ::
    ⟨some 7, .mov (.tmp 69), none⟩ :: [])) <|
  .seq (.region (⟨some 70, .faddr 0 (.tmp 3), none⟩ ::
    ⟨some 71, .load false 1 (.tmp 70), none⟩ ::
    ⟨some 72, .mov (.tmp 1), none⟩ ::
    ⟨some 73, .iaddr 1 (.tmp 71) (.tmp 72), none⟩ ::
    ⟨some 74, .load false 1 (.tmp 73), none⟩ ::
    ⟨some 75, .load true 2 (.tmp 3), none⟩ ::
    ⟨some 76, .mov (.tmp 2), none⟩ ::
    ⟨some 77, .call (.val (.fn (.func 121) [])) [(.tmp 75), (.tmp 76)], none⟩ ::
    ⟨some 78, .call (.val (.fn (.func 109) [])) [(.tmp 74), (.tmp 77), (.val (.int .i64 1099511627776))], none⟩ ::
    ⟨some 8, .mov (.tmp 78), none⟩ :: [])) <|
  .seq (.region (⟨some 79, .load true 2 (.tmp 3), none⟩ ::
    ⟨some 80, .mov (.tmp 1), none⟩ ::
    ⟨some 81, .bslice 2 [], none⟩ ::
    ⟨some 82, .mov (.tmp 7), none⟩ ::
    ⟨some 83, .app 2 16 (.tmp 81) (.tmp 82), none⟩ ::
    ⟨none, .same true 2 (.tmp 3) (.tmp 79), none⟩ ::
    ⟨some 84, .mov (.tmp 8), none⟩ ::
    ⟨some 85, .app 2 16 (.tmp 83) (.tmp 84), none⟩ ::
    ⟨none, .same true 2 (.tmp 3) (.tmp 79), none⟩ ::
    ⟨some 86, .callm (.val (.fn (.func 126) [])) [(.tmp 79), (.tmp 80), (.tmp 85)], none⟩ ::
    ⟨none, .store 2 (.tmp 6) (.tmp 86), none⟩ :: [])) <|
  .ret⟩
theorem e_ref14_size : cFunc Try.prog kd_CRef14b Try.f72 = some c_ref14_size := by kernel_rfl
end Go.Proofs.Ytbhigfllanblpaa
