/- The code of functions, as abstract code. Printed by program. -/
import Derived.Test.YtnhedjpghpdbdaaAv2
import Derived.Test.YtnhedjpghpdbdaaProg
namespace Go.Proofs.Ytnhedjpghpdbdaa
open Av
set_option linter.unusedVariables false
set_option maxRecDepth 100000
def kd_CTasksN (f : Nat) : Nat := if f = 42 then 3 else if f = 40 then 3 else if f = 41 then 1 else if f = 56 then 1 else if f = 43 then 1 else 0
/- touchstone/tasks.Narrow: slots c, 0, d, 1, c, 2, d, 3, s, 6, e, 7, out, 8, i, 9, t, 10, r, 11, x, 12 -/
def c_tasks_Narrow : AFunc := ⟨78, [.tmp 4, .tmp 5],
  .seq (.region (⟨some 2, .box 4 (.tmp 0), none⟩ ::
    ⟨some 4, .mov (.val .nils), none⟩ ::
    ⟨some 5, .mov (.val (.int .i64 0)), none⟩ :: [])) <|
  .seq (.region (⟨some 14, .load true 4 (.tmp 2), none⟩ ::
    ⟨some 15, .mov (.tmp 1), none⟩ ::
    ⟨some 16, .callo (.val (.fn (.func 40) [])) [(.tmp 14), (.tmp 15)], none⟩ ::
    ⟨some 13, .mov (.tmp 16), none⟩ ::
    ⟨some 17, .ext (.tmp 13) 0, none⟩ ::
    ⟨some 18, .ext (.tmp 13) 1, none⟩ ::
    ⟨some 6, .mov (.tmp 17), none⟩ ::
    ⟨some 7, .mov (.tmp 18), none⟩ :: [])) <|
  .seq (.seq (.region (⟨some 19, .mov (.tmp 7), none⟩ ::
    ⟨some 20, .bin .neq (.tmp 19) (.val (.int .i64 0)), none⟩ :: [])) <|
  .cond (.tmp 20) (.seq (.region (⟨some 21, .mov (.tmp 7), none⟩ ::
      ⟨some 4, .mov (.val .nils), none⟩ ::
      ⟨some 5, .mov (.tmp 21), none⟩ :: [])) <|
    .ret) <|
  .skip) <|
  .seq (.seq (.region (⟨some 22, .mov (.tmp 6), none⟩ ::
    ⟨some 23, .callv (.val (.fn (.func 41) [])) [(.tmp 22)], none⟩ :: [])) <|
  .cond (.tmp 23) (.seq (.region (⟨some 4, .mov (.val .nils), none⟩ ::
      ⟨some 5, .mov (.val (.int .i64 12)), none⟩ :: [])) <|
    .ret) <|
  .skip) <|
  .seq (.region (⟨some 24, .mov (.tmp 1), none⟩ ::
    ⟨some 25, .callo (.val (.fn (.func 42) [])) [(.tmp 24)], none⟩ ::
    ⟨some 8, .mov (.tmp 25), none⟩ :: [])) <|
  .seq (.seq (.region (⟨some 26, .mov (.tmp 6), none⟩ ::
    ⟨some 27, .nilc (.tmp 26), none⟩ ::
    ⟨some 28, .faddr 0 (.tmp 27), none⟩ ::
    ⟨some 29, .load false 1 (.tmp 28), none⟩ ::
    ⟨some 30, .len false (.tmp 29), none⟩ ::
    ⟨some 31, .mov (.val (.int .i64 0)), none⟩ :: [])) <|
  .block 0 (.loop (.seq (.region (⟨some 32, .bin .lss (.tmp 31) (.tmp 30), none⟩ :: [])) <|
      .seq (.cond (.tmp 32) (.skip) <|
      .exit 0) <|
      .seq (.block 1 (.seq (.region (⟨some 33, .mov (.tmp 31), none⟩ ::
          ⟨some 34, .iaddr 5 (.tmp 29) (.tmp 31), none⟩ ::
          ⟨some 35, .load true 5 (.tmp 34), none⟩ ::
          ⟨some 10, .alloc (.agg [(.int .i64 0), (.int .i64 0), (.int .i64 0), (.int .i64 0), (.int .i64 0)]), none⟩ ::
          ⟨some 9, .mov (.tmp 33), none⟩ ::
          ⟨none, .store 5 (.tmp 10) (.tmp 35), none⟩ :: [])) <|
        .seq (.region (⟨some 36, .faddr 3 (.tmp 10), none⟩ ::
          ⟨some 37, .load false 1 (.tmp 36), none⟩ ::
          ⟨some 38, .bin .gtr (.tmp 37) (.val (.int .i64 0)), none⟩ :: [])) <|
        .cond (.tmp 38) (.seq (.region (⟨some 39, .mov (.tmp 6), none⟩ ::
            ⟨some 40, .mov (.tmp 9), none⟩ ::
            ⟨some 41, .callv (.val (.fn (.func 43) [])) [(.tmp 39), (.tmp 40)], none⟩ ::
            ⟨some 11, .alloc (.agg [(.int .i64 0), (.int .i64 0)]), none⟩ ::
            ⟨none, .store 2 (.tmp 11) (.tmp 41), none⟩ :: [])) <|
          .region (⟨some 42, .mov (.tmp 8), none⟩ ::
            ⟨some 43, .faddr 4 (.tmp 10), none⟩ ::
            ⟨some 44, .load false 1 (.tmp 43), none⟩ ::
            ⟨some 45, .mov (.tmp 8), none⟩ ::
            ⟨some 46, .faddr 4 (.tmp 10), none⟩ ::
            ⟨some 47, .load false 1 (.tmp 46), none⟩ ::
            ⟨some 48, .iaddr 1 (.tmp 45) (.tmp 47), none⟩ ::
            ⟨some 49, .load false 1 (.tmp 48), none⟩ ::
            ⟨some 50, .faddr 0 (.tmp 11), none⟩ ::
            ⟨some 51, .load false 1 (.tmp 50), none⟩ ::
            ⟨some 52, .faddr 1 (.tmp 11), none⟩ ::
            ⟨some 53, .load false 1 (.tmp 52), none⟩ ::
            ⟨some 54, .call (.val (.fn (.func 44) [])) [(.tmp 49), (.tmp 51), (.tmp 53)], none⟩ ::
            ⟨some 55, .iaddr 1 (.tmp 42) (.tmp 44), none⟩ ::
            ⟨none, .store 1 (.tmp 55) (.tmp 54), none⟩ :: [])) <|
        .skip)) <|
      .region (⟨some 56, .bin .add (.tmp 31) (.val (.int .i64 1)), none⟩ ::
        ⟨some 31, .mov (.tmp 56), none⟩ :: [])))) <|
  .seq (.seq (.region (⟨some 57, .mov (.tmp 8), none⟩ ::
    ⟨some 58, .len false (.tmp 57), none⟩ ::
    ⟨some 59, .mov (.val (.int .i64 0)), none⟩ :: [])) <|
  .block 2 (.loop (.seq (.region (⟨some 60, .bin .lss (.tmp 59) (.tmp 58), none⟩ :: [])) <|
      .seq (.cond (.tmp 60) (.skip) <|
      .exit 2) <|
      .seq (.block 3 (.seq (.region (⟨some 61, .mov (.tmp 59), none⟩ ::
          ⟨some 12, .mov (.tmp 61), none⟩ :: [])) <|
        .seq (.seq (.region (⟨some 62, .mov (.tmp 8), none⟩ ::
          ⟨some 63, .mov (.tmp 12), none⟩ ::
          ⟨some 64, .iaddr 1 (.tmp 62) (.tmp 63), none⟩ ::
          ⟨some 65, .load false 1 (.tmp 64), none⟩ ::
          ⟨some 66, .len false (.tmp 65), none⟩ ::
          ⟨some 67, .bin .eql (.tmp 66) (.val (.int .i64 0)), none⟩ :: [])) <|
        .cond (.tmp 67) (.seq (.region (⟨some 4, .mov (.val .nils), none⟩ ::
            ⟨some 5, .mov (.val (.int .i64 12)), none⟩ :: [])) <|
          .ret) <|
        .skip) <|
        .region (⟨some 68, .mov (.tmp 8), none⟩ ::
          ⟨some 69, .mov (.tmp 12), none⟩ ::
          ⟨some 70, .mov (.tmp 8), none⟩ ::
          ⟨some 71, .mov (.tmp 12), none⟩ ::
          ⟨some 72, .iaddr 1 (.tmp 70) (.tmp 71), none⟩ ::
          ⟨some 73, .load false 1 (.tmp 72), none⟩ ::
          ⟨some 74, .call (.val (.fn (.func 37) [])) [(.tmp 73)], none⟩ ::
          ⟨some 75, .iaddr 1 (.tmp 68) (.tmp 69), none⟩ ::
          ⟨none, .store 1 (.tmp 75) (.tmp 74), none⟩ :: []))) <|
      .region (⟨some 76, .bin .add (.tmp 59) (.val (.int .i64 1)), none⟩ ::
        ⟨some 59, .mov (.tmp 76), none⟩ :: [])))) <|
  .seq (.region (⟨some 77, .mov (.tmp 8), none⟩ ::
    ⟨some 4, .mov (.tmp 77), none⟩ ::
    ⟨some 5, .mov (.val (.int .i64 0)), none⟩ :: [])) <|
  .ret⟩
theorem e_tasks_Narrow : cFunc Try.prog kd_CTasksN Try.f20 = some c_tasks_Narrow := by kernel_rfl
/- touchstone/tasks.Load: slots c, 0, d, 1, t, 2, c, 3, d, 4, t, 5, s, 8, e, 9 -/
def c_tasks_Load : AFunc := ⟨21, [.tmp 6, .tmp 7],
  .seq (.region (⟨some 3, .box 4 (.tmp 0), none⟩ ::
    ⟨some 6, .mov (.val (.int .i64 0)), none⟩ ::
    ⟨some 7, .mov (.val (.bool false)), none⟩ :: [])) <|
  .seq (.region (⟨some 11, .load true 4 (.tmp 3), none⟩ ::
    ⟨some 12, .mov (.tmp 1), none⟩ ::
    ⟨some 13, .callo (.val (.fn (.func 40) [])) [(.tmp 11), (.tmp 12)], none⟩ ::
    ⟨some 10, .mov (.tmp 13), none⟩ ::
    ⟨some 14, .ext (.tmp 10) 0, none⟩ ::
    ⟨some 15, .ext (.tmp 10) 1, none⟩ ::
    ⟨some 8, .mov (.tmp 14), none⟩ ::
    ⟨some 9, .mov (.tmp 15), none⟩ :: [])) <|
  .seq (.seq (.region (⟨some 16, .mov (.tmp 9), none⟩ ::
    ⟨some 17, .bin .neq (.tmp 16) (.val (.int .i64 0)), none⟩ :: [])) <|
  .cond (.tmp 17) (.seq (.region (⟨some 6, .mov (.val (.int .i64 0)), none⟩ ::
      ⟨some 7, .mov (.val (.bool false)), none⟩ :: [])) <|
    .ret) <|
  .skip) <|
  .seq (.region (⟨some 18, .mov (.tmp 8), none⟩ ::
    ⟨some 19, .mov (.tmp 2), none⟩ ::
    ⟨some 20, .callv (.val (.fn (.func 56) [])) [(.tmp 18), (.tmp 19), (.val (.int .i64 (-1)))], none⟩ ::
    ⟨some 6, .mov (.tmp 20), none⟩ ::
    ⟨some 7, .mov (.val (.bool true)), none⟩ :: [])) <|
  .ret⟩
theorem e_tasks_Load : cFunc Try.prog kd_CTasksN Try.f27 = some c_tasks_Load := by kernel_rfl
end Go.Proofs.Ytnhedjpghpdbdaa
