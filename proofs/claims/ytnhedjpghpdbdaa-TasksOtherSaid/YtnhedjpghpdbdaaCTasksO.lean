/- The code of functions, as abstract code. Printed by program. -/
import Derived.Test.YtnhedjpghpdbdaaAv2
import Derived.Test.YtnhedjpghpdbdaaProg
namespace Go.Proofs.Ytnhedjpghpdbdaa
open Av
set_option linter.unusedVariables false
set_option maxRecDepth 100000
def kd_CTasksO (f : Nat) : Nat := if f = 20 then 3 else if f = 14 then 1 else if f = 17 then 1 else if f = 2000000 + 31 then 1 else 0
/- touchstone/touchstonelaw18.TasksOther: slots c, 0, d, 1, c, 2, d, 3, was, 5, x, 6, out, 7, e, 8, x, 9, mine, 10, _, 11, y, 12, i, 13 -/
def c_law18_TasksOther : AFunc := ⟨105, [.tmp 4],
  .seq (.region (⟨some 2, .box 4 (.tmp 0), none⟩ ::
    ⟨some 4, .mov (.val (.bool false)), none⟩ :: [])) <|
  .seq (.seq (.region (⟨some 14, .call (.val (.fn (.func 18) [])) [], none⟩ ::
    ⟨some 15, .un .not (.tmp 14), none⟩ :: [])) <|
  .cond (.tmp 15) (.seq (.region (⟨some 4, .mov (.val (.bool false)), none⟩ :: [])) <|
    .ret) <|
  .skip) <|
  .seq (.seq (.region (⟨some 16, .load true 4 (.tmp 2), none⟩ ::
    ⟨some 17, .mov (.tmp 1), none⟩ ::
    ⟨some 18, .call (.val (.fn (.func 23) [])) [(.tmp 16), (.tmp 17)], none⟩ ::
    ⟨some 19, .un .not (.tmp 18), none⟩ :: [])) <|
  .cond (.tmp 19) (.seq (.region (⟨some 4, .mov (.val (.bool true)), none⟩ :: [])) <|
    .ret) <|
  .skip) <|
  .seq (.region (⟨some 20, .mov (.tmp 1), none⟩ ::
    ⟨some 21, .len false (.tmp 20), none⟩ ::
    ⟨some 22, .mks 1 24 .nils (.tmp 21) (.tmp 21), none⟩ ::
    ⟨some 5, .mov (.tmp 22), none⟩ :: [])) <|
  .seq (.seq (.region (⟨some 23, .mov (.tmp 1), none⟩ ::
    ⟨some 24, .len false (.tmp 23), none⟩ ::
    ⟨some 25, .mov (.val (.int .i64 0)), none⟩ :: [])) <|
  .block 0 (.loop (.seq (.region (⟨some 26, .bin .lss (.tmp 25) (.tmp 24), none⟩ :: [])) <|
      .seq (.cond (.tmp 26) (.skip) <|
      .exit 0) <|
      .seq (.block 1 (.seq (.region (⟨some 27, .mov (.tmp 25), none⟩ ::
          ⟨some 6, .mov (.tmp 27), none⟩ :: [])) <|
        .region (⟨some 28, .mov (.tmp 5), none⟩ ::
          ⟨some 29, .mov (.tmp 6), none⟩ ::
          ⟨some 30, .mov (.tmp 1), none⟩ ::
          ⟨some 31, .mov (.tmp 6), none⟩ ::
          ⟨some 32, .iaddr 1 (.tmp 30) (.tmp 31), none⟩ ::
          ⟨some 33, .load false 1 (.tmp 32), none⟩ ::
          ⟨some 34, .appf 2 16 (.val .nils) (.tmp 33), none⟩ ::
          ⟨some 35, .iaddr 1 (.tmp 28) (.tmp 29), none⟩ ::
          ⟨none, .store 1 (.tmp 35) (.tmp 34), none⟩ :: []))) <|
      .region (⟨some 36, .bin .add (.tmp 25) (.val (.int .i64 1)), none⟩ ::
        ⟨some 25, .mov (.tmp 36), none⟩ :: [])))) <|
  .seq (.region (⟨some 38, .load true 4 (.tmp 2), none⟩ ::
    ⟨some 39, .mov (.tmp 1), none⟩ ::
    ⟨some 40, .callo (.val (.fn (.func 20) [])) [(.tmp 38), (.tmp 39)], none⟩ ::
    ⟨some 37, .mov (.tmp 40), none⟩ ::
    ⟨some 41, .ext (.tmp 37) 0, none⟩ ::
    ⟨some 42, .ext (.tmp 37) 1, none⟩ ::
    ⟨some 7, .mov (.tmp 41), none⟩ ::
    ⟨some 8, .mov (.tmp 42), none⟩ :: [])) <|
  .seq (.seq (.region (⟨some 43, .mov (.tmp 1), none⟩ ::
    ⟨some 44, .mov (.tmp 5), none⟩ ::
    ⟨some 45, .callv (.val (.fn (.func 17) [])) [(.tmp 43), (.tmp 44)], none⟩ ::
    ⟨some 46, .un .not (.tmp 45), none⟩ :: [])) <|
  .cond (.tmp 46) (.seq (.region (⟨some 4, .mov (.val (.bool false)), none⟩ :: [])) <|
    .ret) <|
  .skip) <|
  .seq (.seq (.region (⟨some 47, .mov (.tmp 8), none⟩ ::
    ⟨some 48, .bin .neq (.tmp 47) (.val (.int .i64 0)), none⟩ :: [])) <|
  .cond (.tmp 48) (.seq (.region (⟨some 49, .mov (.tmp 7), none⟩ ::
      ⟨some 50, .len false (.tmp 49), none⟩ ::
      ⟨some 51, .bin .eql (.tmp 50) (.val (.int .i64 0)), none⟩ ::
      ⟨some 4, .mov (.tmp 51), none⟩ :: [])) <|
    .ret) <|
  .skip) <|
  .seq (.seq (.region (⟨some 52, .mov (.tmp 7), none⟩ ::
    ⟨some 53, .len false (.tmp 52), none⟩ ::
    ⟨some 54, .mov (.val (.int .i64 0)), none⟩ :: [])) <|
  .block 2 (.loop (.seq (.region (⟨some 55, .bin .lss (.tmp 54) (.tmp 53), none⟩ :: [])) <|
      .seq (.cond (.tmp 55) (.skip) <|
      .exit 2) <|
      .seq (.block 3 (.seq (.region (⟨some 56, .mov (.tmp 54), none⟩ ::
          ⟨some 9, .mov (.tmp 56), none⟩ :: [])) <|
        .seq (.region (⟨some 10, .mov (.val (.bool false)), none⟩ :: [])) <|
        .seq (.seq (.region (⟨some 57, .faddr 1 (.tmp 2), none⟩ ::
          ⟨some 58, .load false 1 (.tmp 57), none⟩ ::
          ⟨some 59, .len false (.tmp 58), none⟩ ::
          ⟨some 60, .mov (.val (.int .i64 0)), none⟩ :: [])) <|
        .block 4 (.loop (.seq (.region (⟨some 61, .bin .lss (.tmp 60) (.tmp 59), none⟩ :: [])) <|
            .seq (.cond (.tmp 61) (.skip) <|
            .exit 4) <|
            .seq (.block 5 (.seq (.region (⟨some 62, .iaddr 1 (.tmp 58) (.tmp 60), none⟩ ::
                ⟨some 63, .load false 1 (.tmp 62), none⟩ ::
                ⟨some 12, .mov (.tmp 63), none⟩ :: [])) <|
              .region (⟨some 64, .mov (.tmp 10), none⟩ ::
                ⟨some 65, .mov (.tmp 64), none⟩ ::
                ⟨some 66, .mov (.tmp 9), some (65, false)⟩ ::
                ⟨some 67, .mov (.tmp 12), some (65, false)⟩ ::
                ⟨some 68, .bin .eql (.tmp 66) (.tmp 67), some (65, false)⟩ ::
                ⟨some 69, .pick (.tmp 65) (.val (.bool true)) (.tmp 68), none⟩ ::
                ⟨some 10, .mov (.tmp 69), none⟩ :: []))) <|
            .region (⟨some 70, .bin .add (.tmp 60) (.val (.int .i64 1)), none⟩ ::
              ⟨some 60, .mov (.tmp 70), none⟩ :: [])))) <|
        .seq (.seq (.region (⟨some 71, .mov (.tmp 10), none⟩ ::
          ⟨some 72, .un .not (.tmp 71), none⟩ ::
          ⟨some 73, .mov (.tmp 72), none⟩ ::
          ⟨some 74, .mov (.tmp 7), some (73, true)⟩ ::
          ⟨some 75, .mov (.tmp 9), some (73, true)⟩ ::
          ⟨some 76, .iaddr 1 (.tmp 74) (.tmp 75), some (73, true)⟩ ::
          ⟨some 77, .load false 1 (.tmp 76), some (73, true)⟩ ::
          ⟨some 78, .mov (.tmp 1), some (73, true)⟩ ::
          ⟨some 79, .mov (.tmp 9), some (73, true)⟩ ::
          ⟨some 80, .iaddr 1 (.tmp 78) (.tmp 79), some (73, true)⟩ ::
          ⟨some 81, .load false 1 (.tmp 80), some (73, true)⟩ ::
          ⟨some 82, .callv (.val (.fn (.func 14) [])) [(.tmp 77), (.tmp 81)], some (73, true)⟩ ::
          ⟨some 83, .un .not (.tmp 82), some (73, true)⟩ ::
          ⟨some 84, .pick (.tmp 73) (.tmp 83) (.val (.bool false)), none⟩ :: [])) <|
        .cond (.tmp 84) (.seq (.region (⟨some 4, .mov (.val (.bool false)), none⟩ :: [])) <|
          .ret) <|
        .skip) <|
        .seq (.region (⟨some 85, .mov (.tmp 7), none⟩ ::
          ⟨some 86, .mov (.tmp 9), none⟩ ::
          ⟨some 87, .iaddr 1 (.tmp 85) (.tmp 86), none⟩ ::
          ⟨some 88, .load false 1 (.tmp 87), none⟩ ::
          ⟨some 89, .len false (.tmp 88), none⟩ ::
          ⟨some 90, .mov (.val (.int .i64 0)), none⟩ :: [])) <|
        .block 6 (.loop (.seq (.region (⟨some 91, .bin .lss (.tmp 90) (.tmp 89), none⟩ :: [])) <|
            .seq (.cond (.tmp 91) (.skip) <|
            .exit 6) <|
            .seq (.block 7 (.seq (.region (⟨some 92, .mov (.tmp 90), none⟩ ::
                ⟨some 13, .mov (.tmp 92), none⟩ :: [])) <|
              .region (⟨some 93, .mov (.tmp 7), none⟩ ::
                ⟨some 94, .mov (.tmp 9), none⟩ ::
                ⟨some 95, .iaddr 1 (.tmp 93) (.tmp 94), none⟩ ::
                ⟨some 96, .load false 1 (.tmp 95), none⟩ ::
                ⟨some 97, .mov (.tmp 13), none⟩ ::
                ⟨some 98, .iaddr 2 (.tmp 96) (.tmp 97), none⟩ ::
                ⟨some 99, .faddr 0 (.tmp 98), none⟩ ::
                ⟨none, .store 1 (.tmp 99) (.val (.int .i64 77)), none⟩ :: []))) <|
            .region (⟨some 100, .bin .add (.tmp 90) (.val (.int .i64 1)), none⟩ ::
              ⟨some 90, .mov (.tmp 100), none⟩ :: []))))) <|
      .region (⟨some 101, .bin .add (.tmp 54) (.val (.int .i64 1)), none⟩ ::
        ⟨some 54, .mov (.tmp 101), none⟩ :: [])))) <|
  .seq (.region (⟨some 102, .mov (.tmp 1), none⟩ ::
    ⟨some 103, .mov (.tmp 5), none⟩ ::
    ⟨some 104, .callv (.val (.fn (.func 17) [])) [(.tmp 102), (.tmp 103)], none⟩ ::
    ⟨some 4, .mov (.tmp 104), none⟩ :: [])) <|
  .ret⟩
theorem e_law18_TasksOther : cFunc Try.prog kd_CTasksO Try.f10 = some c_law18_TasksOther := by kernel_rfl
end Go.Proofs.Ytnhedjpghpdbdaa
