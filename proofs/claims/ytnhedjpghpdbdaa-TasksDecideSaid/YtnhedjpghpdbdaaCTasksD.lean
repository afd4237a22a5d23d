/- The code of functions, as abstract code. Printed by program. -/
import Derived.Test.YtnhedjpghpdbdaaAv2
import Derived.Test.YtnhedjpghpdbdaaProg
namespace Go.Proofs.Ytnhedjpghpdbdaa
open Av
set_option linter.unusedVariables false
set_option maxRecDepth 100000
def kd_CTasksD (f : Nat) : Nat := if f = 20 then 2 else 0
/- touchstone/touchstonelaw18.TasksDecide: slots c, 0, a, 1, c, 2, a, 3, d, 5, _, 6, v, 7, _, 8, e, 9 -/
def c_law18_TasksDecide : AFunc := ⟨78, [.tmp 4],
  .seq (.region (⟨some 2, .box 4 (.tmp 0), none⟩ ::
    ⟨some 4, .mov (.val (.bool false)), none⟩ :: [])) <|
  .seq (.seq (.region (⟨some 10, .call (.val (.fn (.func 18) [])) [], none⟩ ::
    ⟨some 11, .un .not (.tmp 10), none⟩ :: [])) <|
  .cond (.tmp 11) (.seq (.region (⟨some 4, .mov (.val (.bool false)), none⟩ :: [])) <|
    .ret) <|
  .skip) <|
  .seq (.seq (.region (⟨some 12, .mov (.tmp 1), none⟩ ::
    ⟨some 13, .len false (.tmp 12), none⟩ ::
    ⟨some 14, .bin .gtr (.tmp 13) (.val (.int .i64 64)), none⟩ ::
    ⟨some 15, .mov (.tmp 14), none⟩ ::
    ⟨some 16, .faddr 1 (.tmp 2), some (15, false)⟩ ::
    ⟨some 17, .load false 1 (.tmp 16), some (15, false)⟩ ::
    ⟨some 18, .len false (.tmp 17), some (15, false)⟩ ::
    ⟨some 19, .bin .gtr (.tmp 18) (.val (.int .i64 64)), some (15, false)⟩ ::
    ⟨some 20, .pick (.tmp 15) (.val (.bool true)) (.tmp 19), none⟩ ::
    ⟨some 21, .mov (.tmp 20), none⟩ ::
    ⟨some 22, .faddr 2 (.tmp 2), some (21, false)⟩ ::
    ⟨some 23, .load false 1 (.tmp 22), some (21, false)⟩ ::
    ⟨some 24, .len false (.tmp 23), some (21, false)⟩ ::
    ⟨some 25, .bin .gtr (.tmp 24) (.val (.int .i64 200)), some (21, false)⟩ ::
    ⟨some 26, .pick (.tmp 21) (.val (.bool true)) (.tmp 25), none⟩ ::
    ⟨some 27, .mov (.tmp 26), none⟩ ::
    ⟨some 28, .load true 4 (.tmp 2), some (27, false)⟩ ::
    ⟨some 29, .mov (.tmp 1), some (27, false)⟩ ::
    ⟨some 30, .call (.val (.fn (.func 29) [])) [(.tmp 28), (.tmp 29)], some (27, false)⟩ ::
    ⟨some 31, .un .not (.tmp 30), some (27, false)⟩ ::
    ⟨some 32, .pick (.tmp 27) (.val (.bool true)) (.tmp 31), none⟩ ::
    ⟨some 33, .mov (.tmp 32), none⟩ ::
    ⟨some 34, .faddr 0 (.tmp 2), some (33, false)⟩ ::
    ⟨some 35, .load false 1 (.tmp 34), some (33, false)⟩ ::
    ⟨some 36, .bin .neq (.tmp 35) (.val (.int .i64 19)), some (33, false)⟩ ::
    ⟨some 37, .pick (.tmp 33) (.val (.bool true)) (.tmp 36), none⟩ :: [])) <|
  .cond (.tmp 37) (.seq (.region (⟨some 4, .mov (.val (.bool true)), none⟩ :: [])) <|
    .ret) <|
  .skip) <|
  .seq (.region (⟨some 5, .mov (.val .nils), none⟩ :: [])) <|
  .seq (.seq (.region (⟨some 38, .mov (.tmp 1), none⟩ ::
    ⟨some 39, .len false (.tmp 38), none⟩ ::
    ⟨some 40, .mov (.val (.int .i64 0)), none⟩ :: [])) <|
  .block 0 (.loop (.seq (.region (⟨some 41, .bin .lss (.tmp 40) (.tmp 39), none⟩ :: [])) <|
      .seq (.cond (.tmp 41) (.skip) <|
      .exit 0) <|
      .seq (.block 1 (.seq (.region (⟨some 42, .iaddr 1 (.tmp 38) (.tmp 40), none⟩ ::
          ⟨some 43, .load false 1 (.tmp 42), none⟩ ::
          ⟨some 7, .mov (.tmp 43), none⟩ :: [])) <|
        .seq (.seq (.region (⟨some 44, .mov (.tmp 7), none⟩ ::
          ⟨some 45, .bin .lss (.tmp 44) (.val (.int .i64 (-1048576))), none⟩ ::
          ⟨some 46, .mov (.tmp 45), none⟩ ::
          ⟨some 47, .mov (.tmp 7), some (46, false)⟩ ::
          ⟨some 48, .bin .gtr (.tmp 47) (.val (.int .i64 1048576)), some (46, false)⟩ ::
          ⟨some 49, .pick (.tmp 46) (.val (.bool true)) (.tmp 48), none⟩ :: [])) <|
        .cond (.tmp 49) (.seq (.region (⟨some 4, .mov (.val (.bool true)), none⟩ :: [])) <|
          .ret) <|
        .skip) <|
        .region (⟨some 50, .mov (.tmp 5), none⟩ ::
          ⟨some 51, .mov (.tmp 7), none⟩ ::
          ⟨some 52, .mov (.tmp 7), none⟩ ::
          ⟨some 53, .build [(.int .i64 0), (.int .i64 0)] [(0, 1, (.tmp 51)), (1, 1, (.tmp 52))], none⟩ ::
          ⟨some 54, .bslice 2 [(.tmp 53)], none⟩ ::
          ⟨some 55, .bslice 1 [(.tmp 54)], none⟩ ::
          ⟨some 56, .app 1 24 (.tmp 50) (.tmp 55), none⟩ ::
          ⟨some 5, .mov (.tmp 56), none⟩ :: []))) <|
      .region (⟨some 57, .bin .add (.tmp 40) (.val (.int .i64 1)), none⟩ ::
        ⟨some 40, .mov (.tmp 57), none⟩ :: [])))) <|
  .seq (.region (⟨some 59, .load true 4 (.tmp 2), none⟩ ::
    ⟨some 60, .mov (.tmp 5), none⟩ ::
    ⟨some 61, .callm (.val (.fn (.func 20) [])) [(.tmp 59), (.tmp 60)], none⟩ ::
    ⟨some 58, .mov (.tmp 61), none⟩ ::
    ⟨some 62, .ext (.tmp 58) 0, none⟩ ::
    ⟨some 63, .ext (.tmp 58) 1, none⟩ ::
    ⟨some 8, .mov (.tmp 62), none⟩ ::
    ⟨some 9, .mov (.tmp 63), none⟩ :: [])) <|
  .seq (.region (⟨some 64, .mov (.tmp 9), none⟩ ::
    ⟨some 65, .bin .eql (.tmp 64) (.val (.int .i64 0)), none⟩ ::
    ⟨some 66, .load true 4 (.tmp 2), none⟩ ::
    ⟨some 67, .mov (.tmp 1), none⟩ ::
    ⟨some 68, .call (.val (.fn (.func 30) [])) [(.tmp 66), (.tmp 67)], none⟩ ::
    ⟨some 69, .eqb false (.tmp 65) (.tmp 68), none⟩ ::
    ⟨some 70, .mov (.tmp 69), none⟩ ::
    ⟨some 71, .mov (.tmp 9), some (70, true)⟩ ::
    ⟨some 72, .bin .eql (.tmp 71) (.val (.int .i64 0)), some (70, true)⟩ ::
    ⟨some 73, .mov (.tmp 72), some (70, true)⟩ ::
    ⟨some 74, .mov (.tmp 9), some (73, false)⟩ ::
    ⟨some 75, .bin .eql (.tmp 74) (.val (.int .i64 12)), some (73, false)⟩ ::
    ⟨some 76, .pick (.tmp 73) (.val (.bool true)) (.tmp 75), some (70, true)⟩ ::
    ⟨some 77, .pick (.tmp 70) (.tmp 76) (.val (.bool false)), none⟩ ::
    ⟨some 4, .mov (.tmp 77), none⟩ :: [])) <|
  .ret⟩
theorem e_law18_TasksDecide : cFunc Try.prog kd_CTasksD Try.f9 = some c_law18_TasksDecide := by kernel_rfl
end Go.Proofs.Ytnhedjpghpdbdaa
