/- The code of functions, as abstract code. Printed by program. -/
import Derived.Test.YtnhedjpghpdbdaaAv2
import Derived.Test.YtnhedjpghpdbdaaProg
namespace Go.Proofs.Ytnhedjpghpdbdaa
open Av
set_option linter.unusedVariables false
set_option maxRecDepth 100000
def kd_CTasks (f : Nat) : Nat := if f = 105 then 2 else if f = 106 then 2 else 0
/- (touchstone/tasks.task).sure: slots t, 0, t, 1, from, 2, to, 3 -/
def c_tasks_task_sure : AFunc := ⟨11, [.tmp 2, .tmp 3],
  .seq (.region (⟨some 1, .box 5 (.tmp 0), none⟩ ::
    ⟨some 2, .mov (.val (.int .i64 0)), none⟩ ::
    ⟨some 3, .mov (.val (.int .i64 0)), none⟩ :: [])) <|
  .seq (.region (⟨some 4, .faddr 1 (.tmp 1), none⟩ ::
    ⟨some 5, .load false 1 (.tmp 4), none⟩ ::
    ⟨some 6, .faddr 0 (.tmp 1), none⟩ ::
    ⟨some 7, .load false 1 (.tmp 6), none⟩ ::
    ⟨some 8, .faddr 2 (.tmp 1), none⟩ ::
    ⟨some 9, .load false 1 (.tmp 8), none⟩ ::
    ⟨some 10, .bin .add (.tmp 7) (.tmp 9), none⟩ ::
    ⟨some 2, .mov (.tmp 5), none⟩ ::
    ⟨some 3, .mov (.tmp 10), none⟩ :: [])) <|
  .ret⟩
theorem e_tasks_task_sure : cFunc Try.prog kd_CTasks Try.f120 = some c_tasks_task_sure := by kernel_rfl
/- (touchstone/tasks.task).at: slots t, 0, time, 1, t, 2, time, 3, from, 5, to, 6 -/
def c_tasks_task_at : AFunc := ⟨20, [.tmp 4],
  .seq (.region (⟨some 2, .box 5 (.tmp 0), none⟩ ::
    ⟨some 4, .mov (.val (.bool false)), none⟩ :: [])) <|
  .seq (.region (⟨some 8, .load true 5 (.tmp 2), none⟩ ::
    ⟨some 9, .call (.val (.fn (.func 120) [])) [(.tmp 8)], none⟩ ::
    ⟨some 7, .mov (.tmp 9), none⟩ ::
    ⟨some 10, .ext (.tmp 7) 0, none⟩ ::
    ⟨some 11, .ext (.tmp 7) 1, none⟩ ::
    ⟨some 5, .mov (.tmp 10), none⟩ ::
    ⟨some 6, .mov (.tmp 11), none⟩ :: [])) <|
  .seq (.region (⟨some 12, .mov (.tmp 5), none⟩ ::
    ⟨some 13, .mov (.tmp 1), none⟩ ::
    ⟨some 14, .bin .leq (.tmp 12) (.tmp 13), none⟩ ::
    ⟨some 15, .mov (.tmp 14), none⟩ ::
    ⟨some 16, .mov (.tmp 1), some (15, true)⟩ ::
    ⟨some 17, .mov (.tmp 6), some (15, true)⟩ ::
    ⟨some 18, .bin .lss (.tmp 16) (.tmp 17), some (15, true)⟩ ::
    ⟨some 19, .pick (.tmp 15) (.tmp 18) (.val (.bool false)), none⟩ ::
    ⟨some 4, .mov (.tmp 19), none⟩ :: [])) <|
  .ret⟩
theorem e_tasks_task_at : cFunc Try.prog kd_CTasks Try.f95 = some c_tasks_task_at := by kernel_rfl
/- touchstone/tasks.of: slots c, 0, d, 1, c, 2, d, 3, s, 6, n, 7, i, 8, x, 9, r, 10, _, 11 -/
def c_tasks_of : AFunc := ⟨75, [.tmp 4, .tmp 5],
  .seq (.region (⟨some 2, .box 4 (.tmp 0), none⟩ ::
    ⟨some 4, .mov (.val .nilp), none⟩ ::
    ⟨some 5, .mov (.val (.int .i64 0)), none⟩ :: [])) <|
  .seq (.block 0 (.seq (.region (⟨some 13, .mov (.tmp 1), none⟩ ::
      ⟨some 14, .load true 4 (.tmp 2), none⟩ ::
      ⟨some 15, .bslice 4 [(.tmp 14)], none⟩ ::
      ⟨some 16, .build [.nils, .nils, (.int .i64 0), (.int .i64 0)] [(0, 1, (.tmp 13)), (1, 1, (.tmp 15))], none⟩ ::
      ⟨some 17, .call (.val (.fn (.func 33) [])) [(.tmp 16)], none⟩ ::
      ⟨some 18, .un .not (.tmp 17), none⟩ ::
      ⟨some 12, .mov (.tmp 18), none⟩ :: [])) <|
    .cond (.tmp 12) (.seq (.region (⟨some 4, .mov (.val .nilp), none⟩ ::
        ⟨some 5, .mov (.val (.int .i64 2)), none⟩ :: [])) <|
      .ret) <|
    .seq (.region (⟨some 20, .faddr 0 (.tmp 2), none⟩ ::
      ⟨some 21, .load false 1 (.tmp 20), none⟩ ::
      ⟨some 22, .bin .neq (.tmp 21) (.val (.int .i64 19)), none⟩ ::
      ⟨some 19, .mov (.tmp 22), none⟩ :: [])) <|
    .cond (.tmp 19) (.seq (.region (⟨some 4, .mov (.val .nilp), none⟩ ::
        ⟨some 5, .mov (.val (.int .i64 10)), none⟩ :: [])) <|
      .ret) <|
    .skip)) <|
  .seq (.region (⟨some 23, .faddr 3 (.tmp 2), none⟩ ::
    ⟨some 24, .load false 1 (.tmp 23), none⟩ ::
    ⟨some 25, .build [.nils, (.int .i64 0)] [(0, 1, (.val .nils)), (1, 1, (.tmp 24))], none⟩ ::
    ⟨some 26, .box 2 (.tmp 25), none⟩ ::
    ⟨some 6, .mov (.tmp 26), none⟩ :: [])) <|
  .seq (.region (⟨some 27, .faddr 1 (.tmp 2), none⟩ ::
    ⟨some 28, .load false 1 (.tmp 27), none⟩ ::
    ⟨some 29, .len false (.tmp 28), none⟩ ::
    ⟨some 7, .mov (.tmp 29), none⟩ :: [])) <|
  .seq (.seq (.region (⟨some 30, .faddr 1 (.tmp 2), none⟩ ::
    ⟨some 31, .load false 1 (.tmp 30), none⟩ ::
    ⟨some 32, .len false (.tmp 31), none⟩ ::
    ⟨some 33, .mov (.val (.int .i64 0)), none⟩ :: [])) <|
  .block 1 (.loop (.seq (.region (⟨some 34, .bin .lss (.tmp 33) (.tmp 32), none⟩ :: [])) <|
      .seq (.cond (.tmp 34) (.skip) <|
      .exit 1) <|
      .seq (.block 2 (.seq (.region (⟨some 35, .mov (.tmp 33), none⟩ ::
          ⟨some 36, .iaddr 1 (.tmp 31) (.tmp 33), none⟩ ::
          ⟨some 37, .load false 1 (.tmp 36), none⟩ ::
          ⟨some 8, .mov (.tmp 35), none⟩ ::
          ⟨some 9, .mov (.tmp 37), none⟩ :: [])) <|
        .seq (.region (⟨some 39, .mov (.tmp 1), none⟩ ::
          ⟨some 40, .mov (.tmp 9), none⟩ ::
          ⟨some 41, .iaddr 1 (.tmp 39) (.tmp 40), none⟩ ::
          ⟨some 42, .load false 1 (.tmp 41), none⟩ ::
          ⟨some 43, .call (.val (.fn (.func 82) [])) [(.tmp 42)], none⟩ ::
          ⟨some 38, .mov (.tmp 43), none⟩ ::
          ⟨some 44, .ext (.tmp 38) 0, none⟩ ::
          ⟨some 45, .ext (.tmp 38) 1, none⟩ ::
          ⟨some 10, .alloc (.agg [(.int .i64 0), (.int .i64 0)]), none⟩ ::
          ⟨none, .store 2 (.tmp 10) (.tmp 44), none⟩ ::
          ⟨some 11, .mov (.tmp 45), none⟩ :: [])) <|
        .region (⟨some 46, .mov (.tmp 6), none⟩ ::
          ⟨some 47, .mov (.tmp 6), none⟩ ::
          ⟨some 48, .nilc (.tmp 47), none⟩ ::
          ⟨some 49, .faddr 0 (.tmp 48), none⟩ ::
          ⟨some 50, .load false 1 (.tmp 49), none⟩ ::
          ⟨some 51, .faddr 0 (.tmp 10), none⟩ ::
          ⟨some 52, .load false 1 (.tmp 51), none⟩ ::
          ⟨some 53, .faddr 1 (.tmp 10), none⟩ ::
          ⟨some 54, .load false 1 (.tmp 53), none⟩ ::
          ⟨some 55, .faddr 2 (.tmp 2), none⟩ ::
          ⟨some 56, .load false 1 (.tmp 55), none⟩ ::
          ⟨some 57, .mov (.tmp 8), none⟩ ::
          ⟨some 58, .iaddr 1 (.tmp 56) (.tmp 57), none⟩ ::
          ⟨some 59, .load false 1 (.tmp 58), none⟩ ::
          ⟨some 60, .faddr 2 (.tmp 2), none⟩ ::
          ⟨some 61, .load false 1 (.tmp 60), none⟩ ::
          ⟨some 62, .mov (.tmp 7), none⟩ ::
          ⟨some 63, .mov (.tmp 8), none⟩ ::
          ⟨some 64, .bin .add (.tmp 62) (.tmp 63), none⟩ ::
          ⟨some 65, .iaddr 1 (.tmp 61) (.tmp 64), none⟩ ::
          ⟨some 66, .load false 1 (.tmp 65), none⟩ ::
          ⟨some 67, .mov (.tmp 9), none⟩ ::
          ⟨some 68, .build [(.int .i64 0), (.int .i64 0), (.int .i64 0), (.int .i64 0), (.int .i64 0)] [(0, 1, (.tmp 52)), (1, 1, (.tmp 54)), (2, 1, (.tmp 59)), (3, 1, (.tmp 66)), (4, 1, (.tmp 67))], none⟩ ::
          ⟨some 69, .bslice 5 [(.tmp 68)], none⟩ ::
          ⟨some 70, .app 5 40 (.tmp 50) (.tmp 69), none⟩ ::
          ⟨some 71, .nilc (.tmp 46), none⟩ ::
          ⟨some 72, .faddr 0 (.tmp 71), none⟩ ::
          ⟨none, .store 1 (.tmp 72) (.tmp 70), none⟩ :: []))) <|
      .region (⟨some 73, .bin .add (.tmp 33) (.val (.int .i64 1)), none⟩ ::
        ⟨some 33, .mov (.tmp 73), none⟩ :: [])))) <|
  .seq (.region (⟨some 74, .mov (.tmp 6), none⟩ ::
    ⟨some 4, .mov (.tmp 74), none⟩ ::
    ⟨some 5, .mov (.val (.int .i64 0)), none⟩ :: [])) <|
  .ret⟩
theorem e_tasks_of : cFunc Try.prog kd_CTasks Try.f40 = some c_tasks_of := by kernel_rfl
/- (*touchstone/tasks.shop).load: slots s, 0, time, 1, but, 2, s, 3, time, 4, but, 5, n, 7, i, 8, t, 9 -/
def c_tasks_shop_load : AFunc := ⟨34, [.tmp 6],
  .seq (.region (⟨some 6, .mov (.val (.int .i64 0)), none⟩ :: [])) <|
  .seq (.region (⟨some 7, .mov (.val (.int .i64 0)), none⟩ :: [])) <|
  .seq (.seq (.region (⟨some 10, .mov (.tmp 0), none⟩ ::
    ⟨some 11, .nilc (.tmp 10), none⟩ ::
    ⟨some 12, .faddr 0 (.tmp 11), none⟩ ::
    ⟨some 13, .load false 1 (.tmp 12), none⟩ ::
    ⟨some 14, .len false (.tmp 13), none⟩ ::
    ⟨some 15, .mov (.val (.int .i64 0)), none⟩ :: [])) <|
  .block 0 (.loop (.seq (.region (⟨some 16, .bin .lss (.tmp 15) (.tmp 14), none⟩ :: [])) <|
      .seq (.cond (.tmp 16) (.skip) <|
      .exit 0) <|
      .seq (.block 1 (.seq (.region (⟨some 17, .mov (.tmp 15), none⟩ ::
          ⟨some 18, .iaddr 5 (.tmp 13) (.tmp 15), none⟩ ::
          ⟨some 19, .load true 5 (.tmp 18), none⟩ ::
          ⟨some 9, .alloc (.agg [(.int .i64 0), (.int .i64 0), (.int .i64 0), (.int .i64 0), (.int .i64 0)]), none⟩ ::
          ⟨some 8, .mov (.tmp 17), none⟩ ::
          ⟨none, .store 5 (.tmp 9) (.tmp 19), none⟩ :: [])) <|
        .seq (.region (⟨some 20, .mov (.tmp 8), none⟩ ::
          ⟨some 21, .mov (.tmp 2), none⟩ ::
          ⟨some 22, .bin .neq (.tmp 20) (.tmp 21), none⟩ ::
          ⟨some 23, .mov (.tmp 22), none⟩ ::
          ⟨some 24, .load true 5 (.tmp 9), some (23, true)⟩ ::
          ⟨some 25, .mov (.tmp 1), some (23, true)⟩ ::
          ⟨some 26, .call (.val (.fn (.func 95) [])) [(.tmp 24), (.tmp 25)], some (23, true)⟩ ::
          ⟨some 27, .pick (.tmp 23) (.tmp 26) (.val (.bool false)), none⟩ :: [])) <|
        .cond (.tmp 27) (.region (⟨some 28, .mov (.tmp 7), none⟩ ::
            ⟨some 29, .faddr 3 (.tmp 9), none⟩ ::
            ⟨some 30, .load false 1 (.tmp 29), none⟩ ::
            ⟨some 31, .bin .add (.tmp 28) (.tmp 30), none⟩ ::
            ⟨some 7, .mov (.tmp 31), none⟩ :: [])) <|
        .skip)) <|
      .region (⟨some 32, .bin .add (.tmp 15) (.val (.int .i64 1)), none⟩ ::
        ⟨some 15, .mov (.tmp 32), none⟩ :: [])))) <|
  .seq (.region (⟨some 33, .mov (.tmp 7), none⟩ ::
    ⟨some 6, .mov (.tmp 33), none⟩ :: [])) <|
  .ret⟩
theorem e_tasks_shop_load : cFunc Try.prog kd_CTasks Try.f56 = some c_tasks_shop_load := by kernel_rfl
/- (*touchstone/tasks.shop).tight: slots s, 0, i, 1, s, 2, i, 3, marks, 5, k, 6, t, 7, from, 8, to, 9, out, 10, k, 11 -/
def c_tasks_shop_tight : AFunc := ⟨87, [.tmp 4],
  .seq (.region (⟨some 4, .mov (.val .nils), none⟩ :: [])) <|
  .seq (.region (⟨some 5, .mov (.val .nils), none⟩ :: [])) <|
  .seq (.seq (.region (⟨some 12, .mov (.tmp 0), none⟩ ::
    ⟨some 13, .nilc (.tmp 12), none⟩ ::
    ⟨some 14, .faddr 0 (.tmp 13), none⟩ ::
    ⟨some 15, .load false 1 (.tmp 14), none⟩ ::
    ⟨some 16, .len false (.tmp 15), none⟩ ::
    ⟨some 17, .mov (.val (.int .i64 0)), none⟩ :: [])) <|
  .block 0 (.loop (.seq (.region (⟨some 18, .bin .lss (.tmp 17) (.tmp 16), none⟩ :: [])) <|
      .seq (.cond (.tmp 18) (.skip) <|
      .exit 0) <|
      .seq (.block 1 (.seq (.region (⟨some 19, .mov (.tmp 17), none⟩ ::
          ⟨some 20, .iaddr 5 (.tmp 15) (.tmp 17), none⟩ ::
          ⟨some 21, .load true 5 (.tmp 20), none⟩ ::
          ⟨some 7, .alloc (.agg [(.int .i64 0), (.int .i64 0), (.int .i64 0), (.int .i64 0), (.int .i64 0)]), none⟩ ::
          ⟨some 6, .mov (.tmp 19), none⟩ ::
          ⟨none, .store 5 (.tmp 7) (.tmp 21), none⟩ :: [])) <|
        .seq (.region (⟨some 23, .load true 5 (.tmp 7), none⟩ ::
          ⟨some 24, .call (.val (.fn (.func 120) [])) [(.tmp 23)], none⟩ ::
          ⟨some 22, .mov (.tmp 24), none⟩ ::
          ⟨some 25, .ext (.tmp 22) 0, none⟩ ::
          ⟨some 26, .ext (.tmp 22) 1, none⟩ ::
          ⟨some 8, .mov (.tmp 25), none⟩ ::
          ⟨some 9, .mov (.tmp 26), none⟩ :: [])) <|
        .seq (.region (⟨some 27, .mov (.tmp 6), none⟩ ::
          ⟨some 28, .mov (.tmp 1), none⟩ ::
          ⟨some 29, .bin .neq (.tmp 27) (.tmp 28), none⟩ ::
          ⟨some 30, .mov (.tmp 29), none⟩ ::
          ⟨some 31, .mov (.tmp 8), some (30, true)⟩ ::
          ⟨some 32, .mov (.tmp 9), some (30, true)⟩ ::
          ⟨some 33, .bin .lss (.tmp 31) (.tmp 32), some (30, true)⟩ ::
          ⟨some 34, .pick (.tmp 30) (.tmp 33) (.val (.bool false)), none⟩ :: [])) <|
        .cond (.tmp 34) (.region (⟨some 35, .mov (.tmp 5), none⟩ ::
            ⟨some 36, .mov (.tmp 8), none⟩ ::
            ⟨some 37, .mov (.tmp 9), none⟩ ::
            ⟨some 38, .bslice 1 [(.tmp 36), (.tmp 37)], none⟩ ::
            ⟨some 39, .app 1 8 (.tmp 35) (.tmp 38), none⟩ ::
            ⟨some 5, .mov (.tmp 39), none⟩ :: [])) <|
        .skip)) <|
      .region (⟨some 40, .bin .add (.tmp 17) (.val (.int .i64 1)), none⟩ ::
        ⟨some 17, .mov (.tmp 40), none⟩ :: [])))) <|
  .seq (.region (⟨some 41, .mov (.tmp 5), none⟩ ::
    ⟨some 42, .callm (.val (.fn (.func 105) [])) [(.tmp 41)], none⟩ :: [])) <|
  .seq (.region (⟨some 43, .mov (.tmp 5), none⟩ ::
    ⟨some 44, .callm (.val (.fn (.func 106) [])) [(.tmp 43)], none⟩ ::
    ⟨some 5, .mov (.tmp 44), none⟩ :: [])) <|
  .seq (.region (⟨some 10, .mov (.val .nils), none⟩ :: [])) <|
  .seq (.seq (.region (⟨some 11, .mov (.val (.int .i64 1)), none⟩ :: [])) <|
  .block 2 (.loop (.seq (.seq (.region (⟨some 45, .mov (.tmp 11), none⟩ ::
        ⟨some 46, .mov (.tmp 5), none⟩ ::
        ⟨some 47, .len false (.tmp 46), none⟩ ::
        ⟨some 48, .bin .lss (.tmp 45) (.tmp 47), none⟩ :: [])) <|
      .cond (.tmp 48) (.skip) <|
      .exit 2) <|
      .seq (.block 3 (.seq (.region (⟨some 51, .mov (.tmp 0), none⟩ ::
          ⟨some 52, .mov (.tmp 5), none⟩ ::
          ⟨some 53, .mov (.tmp 11), none⟩ ::
          ⟨some 54, .bin .sub (.tmp 53) (.val (.int .i64 1)), none⟩ ::
          ⟨some 55, .iaddr 1 (.tmp 52) (.tmp 54), none⟩ ::
          ⟨some 56, .load false 1 (.tmp 55), none⟩ ::
          ⟨some 57, .mov (.tmp 1), none⟩ ::
          ⟨some 58, .call (.val (.fn (.func 56) [])) [(.tmp 51), (.tmp 56), (.tmp 57)], none⟩ ::
          ⟨some 59, .mov (.tmp 0), none⟩ ::
          ⟨some 60, .nilc (.tmp 59), none⟩ ::
          ⟨some 61, .faddr 0 (.tmp 60), none⟩ ::
          ⟨some 62, .load false 1 (.tmp 61), none⟩ ::
          ⟨some 63, .mov (.tmp 1), none⟩ ::
          ⟨some 64, .iaddr 5 (.tmp 62) (.tmp 63), none⟩ ::
          ⟨some 65, .faddr 3 (.tmp 64), none⟩ ::
          ⟨some 66, .load false 1 (.tmp 65), none⟩ ::
          ⟨some 67, .bin .add (.tmp 58) (.tmp 66), none⟩ ::
          ⟨some 68, .mov (.tmp 0), none⟩ ::
          ⟨some 69, .nilc (.tmp 68), none⟩ ::
          ⟨some 70, .faddr 1 (.tmp 69), none⟩ ::
          ⟨some 71, .load false 1 (.tmp 70), none⟩ ::
          ⟨some 72, .bin .gtr (.tmp 67) (.tmp 71), none⟩ :: [])) <|
        .cond (.tmp 72) (.region (⟨some 73, .mov (.tmp 10), none⟩ ::
            ⟨some 74, .mov (.tmp 5), none⟩ ::
            ⟨some 75, .mov (.tmp 11), none⟩ ::
            ⟨some 76, .bin .sub (.tmp 75) (.val (.int .i64 1)), none⟩ ::
            ⟨some 77, .iaddr 1 (.tmp 74) (.tmp 76), none⟩ ::
            ⟨some 78, .load false 1 (.tmp 77), none⟩ ::
            ⟨some 79, .mov (.tmp 5), none⟩ ::
            ⟨some 80, .mov (.tmp 11), none⟩ ::
            ⟨some 81, .iaddr 1 (.tmp 79) (.tmp 80), none⟩ ::
            ⟨some 82, .load false 1 (.tmp 81), none⟩ ::
            ⟨some 83, .build [(.int .i64 0), (.int .i64 0)] [(0, 1, (.tmp 78)), (1, 1, (.tmp 82))], none⟩ ::
            ⟨some 84, .bslice 2 [(.tmp 83)], none⟩ ::
            ⟨some 85, .app 2 16 (.tmp 73) (.tmp 84), none⟩ ::
            ⟨some 10, .mov (.tmp 85), none⟩ :: [])) <|
        .skip)) <|
      .region (⟨some 49, .mov (.tmp 11), none⟩ ::
        ⟨some 50, .bin .add (.tmp 49) (.val (.int .i64 1)), none⟩ ::
        ⟨some 11, .mov (.tmp 50), none⟩ :: [])))) <|
  .seq (.region (⟨some 86, .mov (.tmp 10), none⟩ ::
    ⟨some 4, .mov (.tmp 86), none⟩ :: [])) <|
  .ret⟩
theorem e_tasks_shop_tight : cFunc Try.prog kd_CTasks Try.f84 = some c_tasks_shop_tight := by kernel_rfl
/- (*touchstone/tasks.shop).over: slots s, 0, s, 1, _, 3, t, 4 -/
def c_tasks_shop_over : AFunc := ⟨24, [.tmp 2],
  .seq (.region (⟨some 2, .mov (.val (.bool false)), none⟩ :: [])) <|
  .seq (.seq (.region (⟨some 5, .mov (.tmp 0), none⟩ ::
    ⟨some 6, .nilc (.tmp 5), none⟩ ::
    ⟨some 7, .faddr 0 (.tmp 6), none⟩ ::
    ⟨some 8, .load false 1 (.tmp 7), none⟩ ::
    ⟨some 9, .len false (.tmp 8), none⟩ ::
    ⟨some 10, .mov (.val (.int .i64 0)), none⟩ :: [])) <|
  .block 0 (.loop (.seq (.region (⟨some 11, .bin .lss (.tmp 10) (.tmp 9), none⟩ :: [])) <|
      .seq (.cond (.tmp 11) (.skip) <|
      .exit 0) <|
      .seq (.block 1 (.seq (.region (⟨some 12, .iaddr 5 (.tmp 8) (.tmp 10), none⟩ ::
          ⟨some 13, .load true 5 (.tmp 12), none⟩ ::
          ⟨some 4, .alloc (.agg [(.int .i64 0), (.int .i64 0), (.int .i64 0), (.int .i64 0), (.int .i64 0)]), none⟩ ::
          ⟨none, .store 5 (.tmp 4) (.tmp 13), none⟩ :: [])) <|
        .seq (.region (⟨some 14, .mov (.tmp 0), none⟩ ::
          ⟨some 15, .faddr 1 (.tmp 4), none⟩ ::
          ⟨some 16, .load false 1 (.tmp 15), none⟩ ::
          ⟨some 17, .call (.val (.fn (.func 56) [])) [(.tmp 14), (.tmp 16), (.val (.int .i64 (-1)))], none⟩ ::
          ⟨some 18, .mov (.tmp 0), none⟩ ::
          ⟨some 19, .nilc (.tmp 18), none⟩ ::
          ⟨some 20, .faddr 1 (.tmp 19), none⟩ ::
          ⟨some 21, .load false 1 (.tmp 20), none⟩ ::
          ⟨some 22, .bin .gtr (.tmp 17) (.tmp 21), none⟩ :: [])) <|
        .cond (.tmp 22) (.seq (.region (⟨some 2, .mov (.val (.bool true)), none⟩ :: [])) <|
          .ret) <|
        .skip)) <|
      .region (⟨some 23, .bin .add (.tmp 10) (.val (.int .i64 1)), none⟩ ::
        ⟨some 10, .mov (.tmp 23), none⟩ :: [])))) <|
  .seq (.region (⟨some 2, .mov (.val (.bool false)), none⟩ :: [])) <|
  .ret⟩
theorem e_tasks_shop_over : cFunc Try.prog kd_CTasks Try.f41 = some c_tasks_shop_over := by kernel_rfl
end Go.Proofs.Ytnhedjpghpdbdaa
