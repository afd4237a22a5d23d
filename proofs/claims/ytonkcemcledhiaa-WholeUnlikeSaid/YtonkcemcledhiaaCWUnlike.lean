/- The code of functions, as abstract code. Printed by program. -/
import Derived.Test.YtonkcemcledhiaaAv2
import Derived.Test.YtonkcemcledhiaaProg
namespace Go.Proofs.Ytonkcemcledhiaa
open Av
set_option linter.unusedVariables false
set_option maxRecDepth 100000
def kd_CWUnlike (f : Nat) : Nat := 0
/- touchstone/touchstonetop.WholeUnlike: slots x, 0, y, 1, d, 2, x, 3, y, 4, d, 5, two, 7, z, 8, e, 9, list, 10, diff, 11, a, 12, b, 13, f, 14 -/
def c_top_WholeUnlike : AFunc := ⟨98, [.tmp 6],
  .seq (.region (⟨some 6, .mov (.val (.bool false)), none⟩ :: [])) <|
  .seq (.region (⟨some 15, .build [(.int .i64 0), (.int .i64 0)] [(0, 1, (.val (.int .i64 1))), (1, 1, (.val (.int .i64 1)))], none⟩ ::
    ⟨some 16, .bslice 2 [(.tmp 15)], none⟩ ::
    ⟨some 17, .build [(.int .i64 0), (.int .i64 0)] [(0, 1, (.val (.int .i64 1))), (1, 1, (.val (.int .i64 3)))], none⟩ ::
    ⟨some 18, .bslice 2 [(.tmp 17)], none⟩ ::
    ⟨some 19, .bslice 1 [(.tmp 16), (.tmp 18)], none⟩ ::
    ⟨some 7, .mov (.tmp 19), none⟩ :: [])) <|
  .seq (.region (⟨some 21, .bslice 1 [(.val (.int .i64 0)), (.val (.int .i64 1))], none⟩ ::
    ⟨some 22, .build [(.int .i64 0), .nils, .nils, (.int .i64 0)] [(0, 1, (.val (.int .i64 18))), (1, 1, (.tmp 21))], none⟩ ::
    ⟨some 23, .mov (.tmp 7), none⟩ ::
    ⟨some 24, .call (.val (.fn (.func 31) [])) [(.tmp 22), (.tmp 23)], none⟩ ::
    ⟨some 20, .mov (.tmp 24), none⟩ ::
    ⟨some 25, .ext (.tmp 20) 0, none⟩ ::
    ⟨some 26, .ext (.tmp 20) 1, none⟩ ::
    ⟨some 8, .mov (.tmp 25), none⟩ ::
    ⟨some 9, .mov (.tmp 26), none⟩ :: [])) <|
  .seq (.seq (.region (⟨some 27, .mov (.tmp 9), none⟩ ::
    ⟨some 28, .bin .neq (.tmp 27) (.val (.int .i64 0)), none⟩ ::
    ⟨some 29, .mov (.tmp 28), none⟩ ::
    ⟨some 30, .mov (.tmp 8), some (29, false)⟩ ::
    ⟨some 31, .len false (.tmp 30), some (29, false)⟩ ::
    ⟨some 32, .bin .neq (.tmp 31) (.val (.int .i64 2)), some (29, false)⟩ ::
    ⟨some 33, .pick (.tmp 29) (.val (.bool true)) (.tmp 32), none⟩ ::
    ⟨some 34, .mov (.tmp 33), none⟩ ::
    ⟨some 35, .mov (.tmp 8), some (34, false)⟩ ::
    ⟨some 36, .iaddr 1 (.tmp 35) (.val (.int .i64 1)), some (34, false)⟩ ::
    ⟨some 37, .load false 1 (.tmp 36), some (34, false)⟩ ::
    ⟨some 38, .build [(.int .i64 0), (.int .i64 0)] [(0, 1, (.val (.int .i64 2))), (1, 1, (.val (.int .i64 3)))], some (34, false)⟩ ::
    ⟨some 39, .bslice 2 [(.tmp 38)], some (34, false)⟩ ::
    ⟨some 40, .call (.val (.fn (.func 19) [])) [(.tmp 37), (.tmp 39)], some (34, false)⟩ ::
    ⟨some 41, .un .not (.tmp 40), some (34, false)⟩ ::
    ⟨some 42, .pick (.tmp 34) (.val (.bool true)) (.tmp 41), none⟩ :: [])) <|
  .cond (.tmp 42) (.seq (.region (⟨some 6, .mov (.val (.bool false)), none⟩ :: [])) <|
    .ret) <|
  .skip) <|
  .seq (.region (⟨some 43, .mov (.tmp 0), none⟩ ::
    ⟨some 44, .mov (.tmp 1), none⟩ ::
    ⟨some 45, .bslice 1 [(.tmp 43), (.tmp 44)], none⟩ ::
    ⟨some 46, .build [(.int .i64 0), .nils, .nils, (.int .i64 0)] [(0, 1, (.val (.int .i64 18))), (1, 1, (.tmp 45))], none⟩ ::
    ⟨some 10, .alloc (.agg [(.int .i64 0), .nils, .nils, (.int .i64 0)]), none⟩ ::
    ⟨none, .store 4 (.tmp 10) (.tmp 46), none⟩ :: [])) <|
  .seq (.region (⟨some 47, .mov (.tmp 0), none⟩ ::
    ⟨some 48, .mov (.tmp 1), none⟩ ::
    ⟨some 49, .bslice 1 [(.tmp 47), (.tmp 48)], none⟩ ::
    ⟨some 50, .bslice 1 [(.val (.int .i64 1)), (.val (.int .i64 (-1)))], none⟩ ::
    ⟨some 51, .build [(.int .i64 0), .nils, .nils, (.int .i64 0)] [(0, 1, (.val (.int .i64 3))), (1, 1, (.tmp 49)), (2, 1, (.tmp 50))], none⟩ ::
    ⟨some 11, .alloc (.agg [(.int .i64 0), .nils, .nils, (.int .i64 0)]), none⟩ ::
    ⟨none, .store 4 (.tmp 11) (.tmp 51), none⟩ :: [])) <|
  .seq (.seq (.region (⟨some 52, .mov (.tmp 0), none⟩ ::
    ⟨some 53, .mov (.tmp 1), none⟩ ::
    ⟨some 54, .bin .eql (.tmp 52) (.tmp 53), none⟩ ::
    ⟨some 55, .mov (.tmp 54), none⟩ ::
    ⟨some 56, .load true 4 (.tmp 10), some (55, false)⟩ ::
    ⟨some 57, .mov (.tmp 2), some (55, false)⟩ ::
    ⟨some 58, .call (.val (.fn (.func 21) [])) [(.tmp 56), (.tmp 57)], some (55, false)⟩ ::
    ⟨some 59, .un .not (.tmp 58), some (55, false)⟩ ::
    ⟨some 60, .pick (.tmp 55) (.val (.bool true)) (.tmp 59), none⟩ ::
    ⟨some 61, .mov (.tmp 60), none⟩ ::
    ⟨some 62, .load true 4 (.tmp 10), some (61, false)⟩ ::
    ⟨some 63, .mov (.tmp 2), some (61, false)⟩ ::
    ⟨some 64, .call (.val (.fn (.func 22) [])) [(.tmp 62), (.tmp 63)], some (61, false)⟩ ::
    ⟨some 65, .un .not (.tmp 64), some (61, false)⟩ ::
    ⟨some 66, .pick (.tmp 61) (.val (.bool true)) (.tmp 65), none⟩ :: [])) <|
  .cond (.tmp 66) (.seq (.region (⟨some 6, .mov (.val (.bool true)), none⟩ :: [])) <|
    .ret) <|
  .skip) <|
  .seq (.region (⟨some 68, .load true 4 (.tmp 10), none⟩ ::
    ⟨some 69, .mov (.tmp 2), none⟩ ::
    ⟨some 70, .call (.val (.fn (.func 31) [])) [(.tmp 68), (.tmp 69)], none⟩ ::
    ⟨some 67, .mov (.tmp 70), none⟩ ::
    ⟨some 71, .ext (.tmp 67) 0, none⟩ ::
    ⟨some 72, .ext (.tmp 67) 1, none⟩ ::
    ⟨some 12, .mov (.tmp 71), none⟩ ::
    ⟨some 9, .mov (.tmp 72), none⟩ :: [])) <|
  .seq (.region (⟨some 74, .load true 4 (.tmp 11), none⟩ ::
    ⟨some 75, .mov (.tmp 2), none⟩ ::
    ⟨some 76, .call (.val (.fn (.func 23) [])) [(.tmp 74), (.tmp 75)], none⟩ ::
    ⟨some 73, .mov (.tmp 76), none⟩ ::
    ⟨some 77, .ext (.tmp 73) 0, none⟩ ::
    ⟨some 78, .ext (.tmp 73) 1, none⟩ ::
    ⟨some 13, .mov (.tmp 77), none⟩ ::
    ⟨some 14, .mov (.tmp 78), none⟩ :: [])) <|
  .seq (.seq (.region (⟨some 79, .mov (.tmp 9), none⟩ ::
    ⟨some 80, .bin .eql (.tmp 79) (.val (.int .i64 12)), none⟩ :: [])) <|
  .cond (.tmp 80) (.seq (.region (⟨some 81, .mov (.tmp 14), none⟩ ::
      ⟨some 82, .bin .eql (.tmp 81) (.val (.int .i64 12)), none⟩ ::
      ⟨some 6, .mov (.tmp 82), none⟩ :: [])) <|
    .ret) <|
  .skip) <|
  .seq (.region (⟨some 83, .mov (.tmp 9), none⟩ ::
    ⟨some 84, .bin .eql (.tmp 83) (.val (.int .i64 0)), none⟩ ::
    ⟨some 85, .mov (.tmp 84), none⟩ ::
    ⟨some 86, .mov (.tmp 14), some (85, true)⟩ ::
    ⟨some 87, .bin .eql (.tmp 86) (.val (.int .i64 12)), some (85, true)⟩ ::
    ⟨some 88, .mov (.tmp 87), some (85, true)⟩ ::
    ⟨some 89, .mov (.tmp 14), some (88, false)⟩ ::
    ⟨some 90, .bin .eql (.tmp 89) (.val (.int .i64 0)), some (88, false)⟩ ::
    ⟨some 91, .mov (.tmp 90), some (88, false)⟩ ::
    ⟨some 92, .mov (.tmp 13), some (91, true)⟩ ::
    ⟨some 93, .mov (.tmp 12), some (91, true)⟩ ::
    ⟨some 94, .call (.val (.fn (.func 37) [])) [(.tmp 92), (.tmp 93)], some (91, true)⟩ ::
    ⟨some 95, .pick (.tmp 91) (.tmp 94) (.val (.bool false)), some (88, false)⟩ ::
    ⟨some 96, .pick (.tmp 88) (.val (.bool true)) (.tmp 95), some (85, true)⟩ ::
    ⟨some 97, .pick (.tmp 85) (.tmp 96) (.val (.bool false)), none⟩ ::
    ⟨some 6, .mov (.tmp 97), none⟩ :: [])) <|
  .ret⟩
theorem e_top_WholeUnlike : cFunc Try.prog kd_CWUnlike Try.f14 = some c_top_WholeUnlike := by kernel_rfl
end Go.Proofs.Ytonkcemcledhiaa
