/- The code of functions, as abstract code. Printed by program. -/
import Derived.Test.YtclpkkbamgmooaaAv2
import Derived.Test.YtclpkkbamgmooaaProg
namespace Go.Proofs.Ytclpkkbamgmooaa
open Av
set_option linter.unusedVariables false
set_option maxRecDepth 100000
def kd_CSet (f : Nat) : Nat := if f = 81 then 3 else 0
/- touchstone/set.within: slots n, 0, n, 1 -/
def c_set_within : AFunc := ⟨9, [.tmp 2],
  .seq (.region (⟨some 2, .mov (.val (.bool false)), none⟩ :: [])) <|
  .seq (.region (⟨some 3, .mov (.tmp 0), none⟩ ::
    ⟨some 4, .bin .geq (.tmp 3) (.val (.int .i64 (-1048576))), none⟩ ::
    ⟨some 5, .mov (.tmp 4), none⟩ ::
    ⟨some 6, .mov (.tmp 0), some (5, true)⟩ ::
    ⟨some 7, .bin .leq (.tmp 6) (.val (.int .i64 1048576)), some (5, true)⟩ ::
    ⟨some 8, .pick (.tmp 5) (.tmp 7) (.val (.bool false)), none⟩ ::
    ⟨some 2, .mov (.tmp 8), none⟩ :: [])) <|
  .ret⟩
theorem e_set_within : cFunc Try.prog kd_CSet Try.f125 = some c_set_within := by kernel_rfl
/- touchstone/set.Right: slots d, 0, d, 1, i, 3, r, 4 -/
def c_set_Right : AFunc := ⟨46, [.tmp 2],
  .seq (.region (⟨some 2, .mov (.val (.bool false)), none⟩ :: [])) <|
  .seq (.seq (.region (⟨some 5, .mov (.tmp 0), none⟩ ::
    ⟨some 6, .len false (.tmp 5), none⟩ ::
    ⟨some 7, .mov (.val (.int .i64 0)), none⟩ :: [])) <|
  .block 0 (.loop (.seq (.region (⟨some 8, .bin .lss (.tmp 7) (.tmp 6), none⟩ :: [])) <|
      .seq (.cond (.tmp 8) (.skip) <|
      .exit 0) <|
      .seq (.block 1 (.seq (.region (⟨some 9, .mov (.tmp 7), none⟩ ::
          ⟨some 10, .iaddr 2 (.tmp 5) (.tmp 7), none⟩ ::
          ⟨some 11, .load true 2 (.tmp 10), none⟩ ::
          ⟨some 4, .alloc (.agg [(.int .i64 0), (.int .i64 0)]), none⟩ ::
          ⟨some 3, .mov (.tmp 9), none⟩ ::
          ⟨none, .store 2 (.tmp 4) (.tmp 11), none⟩ :: [])) <|
        .seq (.region (⟨some 12, .faddr 0 (.tmp 4), none⟩ ::
          ⟨some 13, .load false 1 (.tmp 12), none⟩ ::
          ⟨some 14, .faddr 1 (.tmp 4), none⟩ ::
          ⟨some 15, .load false 1 (.tmp 14), none⟩ ::
          ⟨some 16, .bin .gtr (.tmp 13) (.tmp 15), none⟩ ::
          ⟨some 17, .mov (.tmp 16), none⟩ ::
          ⟨some 18, .faddr 0 (.tmp 4), some (17, false)⟩ ::
          ⟨some 19, .load false 1 (.tmp 18), some (17, false)⟩ ::
          ⟨some 20, .call (.val (.fn (.func 125) [])) [(.tmp 19)], some (17, false)⟩ ::
          ⟨some 21, .un .not (.tmp 20), some (17, false)⟩ ::
          ⟨some 22, .pick (.tmp 17) (.val (.bool true)) (.tmp 21), none⟩ ::
          ⟨some 23, .mov (.tmp 22), none⟩ ::
          ⟨some 24, .faddr 1 (.tmp 4), some (23, false)⟩ ::
          ⟨some 25, .load false 1 (.tmp 24), some (23, false)⟩ ::
          ⟨some 26, .call (.val (.fn (.func 125) [])) [(.tmp 25)], some (23, false)⟩ ::
          ⟨some 27, .un .not (.tmp 26), some (23, false)⟩ ::
          ⟨some 28, .pick (.tmp 23) (.val (.bool true)) (.tmp 27), none⟩ ::
          ⟨some 29, .mov (.tmp 28), none⟩ ::
          ⟨some 30, .mov (.tmp 3), some (29, false)⟩ ::
          ⟨some 31, .bin .gtr (.tmp 30) (.val (.int .i64 0)), some (29, false)⟩ ::
          ⟨some 32, .mov (.tmp 31), some (29, false)⟩ ::
          ⟨some 33, .faddr 0 (.tmp 4), some (32, true)⟩ ::
          ⟨some 34, .load false 1 (.tmp 33), some (32, true)⟩ ::
          ⟨some 35, .mov (.tmp 0), some (32, true)⟩ ::
          ⟨some 36, .mov (.tmp 3), some (32, true)⟩ ::
          ⟨some 37, .bin .sub (.tmp 36) (.val (.int .i64 1)), some (32, true)⟩ ::
          ⟨some 38, .iaddr 2 (.tmp 35) (.tmp 37), some (32, true)⟩ ::
          ⟨some 39, .faddr 1 (.tmp 38), some (32, true)⟩ ::
          ⟨some 40, .load false 1 (.tmp 39), some (32, true)⟩ ::
          ⟨some 41, .bin .sub (.tmp 34) (.tmp 40), some (32, true)⟩ ::
          ⟨some 42, .bin .lss (.tmp 41) (.val (.int .i64 2)), some (32, true)⟩ ::
          ⟨some 43, .pick (.tmp 32) (.tmp 42) (.val (.bool false)), some (29, false)⟩ ::
          ⟨some 44, .pick (.tmp 29) (.val (.bool true)) (.tmp 43), none⟩ :: [])) <|
        .cond (.tmp 44) (.seq (.region (⟨some 2, .mov (.val (.bool false)), none⟩ :: [])) <|
          .ret) <|
        .skip)) <|
      .region (⟨some 45, .bin .add (.tmp 7) (.val (.int .i64 1)), none⟩ ::
        ⟨some 7, .mov (.tmp 45), none⟩ :: [])))) <|
  .seq (.region (⟨some 2, .mov (.val (.bool true)), none⟩ :: [])) <|
  .ret⟩
theorem e_set_Right : cFunc Try.prog kd_CSet Try.f110 = some c_set_Right := by kernel_rfl
/- touchstone/set.Ends: slots d, 0, d, 1 -/
def c_set_Ends : AFunc := ⟨25, [.cell 2 true 2, .tmp 3],
  .seq (.region (⟨some 2, .alloc (.agg [(.int .i64 0), (.int .i64 0)]), none⟩ ::
    ⟨some 3, .mov (.val (.bool false)), none⟩ :: [])) <|
  .seq (.seq (.region (⟨some 4, .mov (.tmp 0), none⟩ ::
    ⟨some 5, .call (.val (.fn (.func 110) [])) [(.tmp 4)], none⟩ ::
    ⟨some 6, .un .not (.tmp 5), none⟩ ::
    ⟨some 7, .mov (.tmp 6), none⟩ ::
    ⟨some 8, .mov (.tmp 0), some (7, false)⟩ ::
    ⟨some 9, .len false (.tmp 8), some (7, false)⟩ ::
    ⟨some 10, .bin .eql (.tmp 9) (.val (.int .i64 0)), some (7, false)⟩ ::
    ⟨some 11, .pick (.tmp 7) (.val (.bool true)) (.tmp 10), none⟩ :: [])) <|
  .cond (.tmp 11) (.seq (.region (⟨some 12, .build [(.int .i64 0), (.int .i64 0)] [], none⟩ ::
      ⟨none, .store 2 (.tmp 2) (.tmp 12), none⟩ ::
      ⟨some 3, .mov (.val (.bool false)), none⟩ :: [])) <|
    .ret) <|
  .skip) <|
  .seq (.region (⟨some 13, .mov (.tmp 0), none⟩ ::
    ⟨some 14, .iaddr 2 (.tmp 13) (.val (.int .i64 0)), none⟩ ::
    ⟨some 15, .faddr 0 (.tmp 14), none⟩ ::
    ⟨some 16, .load false 1 (.tmp 15), none⟩ ::
    ⟨some 17, .mov (.tmp 0), none⟩ ::
    ⟨some 18, .mov (.tmp 0), none⟩ ::
    ⟨some 19, .len false (.tmp 18), none⟩ ::
    ⟨some 20, .bin .sub (.tmp 19) (.val (.int .i64 1)), none⟩ ::
    ⟨some 21, .iaddr 2 (.tmp 17) (.tmp 20), none⟩ ::
    ⟨some 22, .faddr 1 (.tmp 21), none⟩ ::
    ⟨some 23, .load false 1 (.tmp 22), none⟩ ::
    ⟨some 24, .build [(.int .i64 0), (.int .i64 0)] [(0, 1, (.tmp 16)), (1, 1, (.tmp 23))], none⟩ ::
    ⟨none, .store 2 (.tmp 2) (.tmp 24), none⟩ ::
    ⟨some 3, .mov (.val (.bool true)), none⟩ :: [])) <|
  .ret⟩
theorem e_set_Ends : cFunc Try.prog kd_CSet Try.f80 = some c_set_Ends := by kernel_rfl
/- touchstone/set.from$1: slots r, 0, v, 1, r, 2, v, 3 -/
def c_set_from_1 : AFunc := ⟨9, [.tmp 4],
  .seq (.region (⟨some 2, .box 2 (.tmp 0), none⟩ ::
    ⟨some 4, .mov (.val (.int .i64 0)), none⟩ :: [])) <|
  .seq (.region (⟨some 5, .faddr 1 (.tmp 2), none⟩ ::
    ⟨some 6, .load false 1 (.tmp 5), none⟩ ::
    ⟨some 7, .mov (.tmp 1), none⟩ ::
    ⟨some 8, .call (.val (.fn (.func 128) [])) [(.tmp 6), (.tmp 7)], none⟩ ::
    ⟨some 4, .mov (.tmp 8), none⟩ :: [])) <|
  .ret⟩
theorem e_set_from_1 : cFunc Try.prog kd_CSet Try.f127 = some c_set_from_1 := by kernel_rfl
/- cmp.Compare[int64]: slots x, 0, y, 1, x, 2, y, 3, xNaN, 5, yNaN, 6 -/
def c_cmp_Compare_int64 : AFunc := ⟨20, [.tmp 4],
  .seq (.region (⟨some 4, .mov (.val (.int .i64 0)), none⟩ :: [])) <|
  .seq (.region (⟨some 7, .mov (.tmp 0), none⟩ ::
    ⟨some 8, .call (.val (.fn (.func 133) [])) [(.tmp 7)], none⟩ ::
    ⟨some 5, .mov (.tmp 8), none⟩ :: [])) <|
  .seq (.region (⟨some 9, .mov (.tmp 1), none⟩ ::
    ⟨some 10, .call (.val (.fn (.func 133) [])) [(.tmp 9)], none⟩ ::
    ⟨some 6, .mov (.tmp 10), none⟩ :: [])) <|
  .seq (.seq (.region (⟨some 11, .mov (.tmp 5), none⟩ :: [])) <|
  .cond (.tmp 11) (.seq (.seq (.region (⟨some 12, .mov (.tmp 6), none⟩ :: [])) <|
    .cond (.tmp 12) (.seq (.region (⟨some 4, .mov (.val (.int .i64 0)), none⟩ :: [])) <|
      .ret) <|
    .skip) <|
    .seq (.region (⟨some 4, .mov (.val (.int .i64 (-1))), none⟩ :: [])) <|
    .ret) <|
  .skip) <|
  .seq (.seq (.region (⟨some 13, .mov (.tmp 6), none⟩ :: [])) <|
  .cond (.tmp 13) (.seq (.region (⟨some 4, .mov (.val (.int .i64 1)), none⟩ :: [])) <|
    .ret) <|
  .skip) <|
  .seq (.seq (.region (⟨some 14, .mov (.tmp 0), none⟩ ::
    ⟨some 15, .mov (.tmp 1), none⟩ ::
    ⟨some 16, .bin .lss (.tmp 14) (.tmp 15), none⟩ :: [])) <|
  .cond (.tmp 16) (.seq (.region (⟨some 4, .mov (.val (.int .i64 (-1))), none⟩ :: [])) <|
    .ret) <|
  .skip) <|
  .seq (.seq (.region (⟨some 17, .mov (.tmp 0), none⟩ ::
    ⟨some 18, .mov (.tmp 1), none⟩ ::
    ⟨some 19, .bin .gtr (.tmp 17) (.tmp 18), none⟩ :: [])) <|
  .cond (.tmp 19) (.seq (.region (⟨some 4, .mov (.val (.int .i64 1)), none⟩ :: [])) <|
    .ret) <|
  .skip) <|
  .seq (.region (⟨some 4, .mov (.val (.int .i64 0)), none⟩ :: [])) <|
  .ret⟩
theorem e_cmp_Compare_int64 : cFunc Try.prog kd_CSet Try.f128 = some c_cmp_Compare_int64 := by kernel_rfl
/- cmp.isNaN[int64]: slots x, 0, x, 1 -/
def c_cmp_isNaN_int64 : AFunc := ⟨6, [.tmp 2],
  .seq (.region (⟨some 2, .mov (.val (.bool false)), none⟩ :: [])) <|
  .seq (.region (⟨some 3, .mov (.tmp 0), none⟩ ::
    ⟨some 4, .mov (.tmp 0), none⟩ ::
    ⟨some 5, .bin .neq (.tmp 3) (.tmp 4), none⟩ ::
    ⟨some 2, .mov (.tmp 5), none⟩ :: [])) <|
  .ret⟩
theorem e_cmp_isNaN_int64 : cFunc Try.prog kd_CSet Try.f133 = some c_cmp_isNaN_int64 := by kernel_rfl
/- slices.BinarySearchFunc[[]touchstone/api.Range,touchstone/api.Range,int64]: slots x, 0, target, 1, cmp, 2, x, 3, target, 4, cmp, 5, n, 8, i, 9, j, 10, h, 11 -/
def c_slices_BinarySearchFunc_sRange_Range_int64 : AFunc := ⟨49, [.tmp 6, .tmp 7],
  .seq (.region (⟨some 6, .mov (.val (.int .i64 0)), none⟩ ::
    ⟨some 7, .mov (.val (.bool false)), none⟩ :: [])) <|
  .seq (.region (⟨some 12, .mov (.tmp 0), none⟩ ::
    ⟨some 13, .len false (.tmp 12), none⟩ ::
    ⟨some 8, .mov (.tmp 13), none⟩ :: [])) <|
  .seq (.region (⟨some 14, .mov (.tmp 8), none⟩ ::
    ⟨some 9, .mov (.val (.int .i64 0)), none⟩ ::
    ⟨some 10, .mov (.tmp 14), none⟩ :: [])) <|
  .seq (.block 0 (.loop (.seq (.seq (.region (⟨some 15, .mov (.tmp 9), none⟩ ::
        ⟨some 16, .mov (.tmp 10), none⟩ ::
        ⟨some 17, .bin .lss (.tmp 15) (.tmp 16), none⟩ :: [])) <|
      .cond (.tmp 17) (.skip) <|
      .exit 0) <|
      .block 1 (.seq (.region (⟨some 18, .mov (.tmp 9), none⟩ ::
          ⟨some 19, .mov (.tmp 10), none⟩ ::
          ⟨some 20, .bin .add (.tmp 18) (.tmp 19), none⟩ ::
          ⟨some 21, .conv .u64 (.tmp 20), none⟩ ::
          ⟨some 22, .bin .shr (.tmp 21) (.val (.int .u64 1)), none⟩ ::
          ⟨some 23, .conv .i64 (.tmp 22), none⟩ ::
          ⟨some 11, .mov (.tmp 23), none⟩ :: [])) <|
        .seq (.region (⟨some 24, .mov (.tmp 2), none⟩ ::
          ⟨some 25, .mov (.tmp 0), none⟩ ::
          ⟨some 26, .mov (.tmp 11), none⟩ ::
          ⟨some 27, .iaddr 2 (.tmp 25) (.tmp 26), none⟩ ::
          ⟨some 28, .load true 2 (.tmp 27), none⟩ ::
          ⟨some 29, .mov (.tmp 1), none⟩ ::
          ⟨some 30, .call (.tmp 24) [(.tmp 28), (.tmp 29)], none⟩ ::
          ⟨some 31, .bin .lss (.tmp 30) (.val (.int .i64 0)), none⟩ :: [])) <|
        .cond (.tmp 31) (.region (⟨some 32, .mov (.tmp 11), none⟩ ::
            ⟨some 33, .bin .add (.tmp 32) (.val (.int .i64 1)), none⟩ ::
            ⟨some 9, .mov (.tmp 33), none⟩ :: [])) <|
        .region (⟨some 34, .mov (.tmp 11), none⟩ ::
          ⟨some 10, .mov (.tmp 34), none⟩ :: []))))) <|
  .seq (.region (⟨some 35, .mov (.tmp 9), none⟩ ::
    ⟨some 36, .mov (.tmp 9), none⟩ ::
    ⟨some 37, .mov (.tmp 8), none⟩ ::
    ⟨some 38, .bin .lss (.tmp 36) (.tmp 37), none⟩ ::
    ⟨some 39, .mov (.tmp 38), none⟩ ::
    ⟨some 40, .mov (.tmp 2), some (39, true)⟩ ::
    ⟨some 41, .mov (.tmp 0), some (39, true)⟩ ::
    ⟨some 42, .mov (.tmp 9), some (39, true)⟩ ::
    ⟨some 43, .iaddr 2 (.tmp 41) (.tmp 42), some (39, true)⟩ ::
    ⟨some 44, .load true 2 (.tmp 43), some (39, true)⟩ ::
    ⟨some 45, .mov (.tmp 1), some (39, true)⟩ ::
    ⟨some 46, .call (.tmp 40) [(.tmp 44), (.tmp 45)], some (39, true)⟩ ::
    ⟨some 47, .bin .eql (.tmp 46) (.val (.int .i64 0)), some (39, true)⟩ ::
    ⟨some 48, .pick (.tmp 39) (.tmp 47) (.val (.bool false)), none⟩ ::
    ⟨some 6, .mov (.tmp 35), none⟩ ::
    ⟨some 7, .mov (.tmp 48), none⟩ :: [])) <|
  .ret⟩
theorem e_slices_BinarySearchFunc_sRange_Range_int64 : cFunc Try.prog kd_CSet Try.f126 = some c_slices_BinarySearchFunc_sRange_Range_int64 := by kernel_rfl
/- touchstone/set.from: slots d, 0, v, 1, d, 2, v, 3, i, 5, _, 6 -/
def c_set_from : AFunc := ⟨14, [.tmp 4],
  .seq (.region (⟨some 4, .mov (.val (.int .i64 0)), none⟩ :: [])) <|
  .seq (.region (⟨some 8, .mov (.tmp 0), none⟩ ::
    ⟨some 9, .mov (.tmp 1), none⟩ ::
    ⟨some 10, .call (.val (.fn (.func 126) [])) [(.tmp 8), (.tmp 9), (.val (.fn (.func 127) []))], none⟩ ::
    ⟨some 7, .mov (.tmp 10), none⟩ ::
    ⟨some 11, .ext (.tmp 7) 0, none⟩ ::
    ⟨some 12, .ext (.tmp 7) 1, none⟩ ::
    ⟨some 5, .mov (.tmp 11), none⟩ ::
    ⟨some 6, .mov (.tmp 12), none⟩ :: [])) <|
  .seq (.region (⟨some 13, .mov (.tmp 5), none⟩ ::
    ⟨some 4, .mov (.tmp 13), none⟩ :: [])) <|
  .ret⟩
theorem e_set_from : cFunc Try.prog kd_CSet Try.f111 = some c_set_from := by kernel_rfl
/- touchstone/set.Next: slots d, 0, v, 1, d, 2, v, 3, i, 6 -/
def c_set_Next : AFunc := ⟨24, [.tmp 4, .tmp 5],
  .seq (.region (⟨some 4, .mov (.val (.int .i64 0)), none⟩ ::
    ⟨some 5, .mov (.val (.bool false)), none⟩ :: [])) <|
  .seq (.seq (.region (⟨some 7, .mov (.tmp 0), none⟩ ::
    ⟨some 8, .call (.val (.fn (.func 110) [])) [(.tmp 7)], none⟩ ::
    ⟨some 9, .un .not (.tmp 8), none⟩ :: [])) <|
  .cond (.tmp 9) (.seq (.region (⟨some 4, .mov (.val (.int .i64 0)), none⟩ ::
      ⟨some 5, .mov (.val (.bool false)), none⟩ :: [])) <|
    .ret) <|
  .skip) <|
  .seq (.region (⟨some 10, .mov (.tmp 0), none⟩ ::
    ⟨some 11, .mov (.tmp 1), none⟩ ::
    ⟨some 12, .call (.val (.fn (.func 111) [])) [(.tmp 10), (.tmp 11)], none⟩ ::
    ⟨some 6, .mov (.tmp 12), none⟩ :: [])) <|
  .seq (.seq (.region (⟨some 13, .mov (.tmp 6), none⟩ ::
    ⟨some 14, .mov (.tmp 0), none⟩ ::
    ⟨some 15, .len false (.tmp 14), none⟩ ::
    ⟨some 16, .bin .eql (.tmp 13) (.tmp 15), none⟩ :: [])) <|
  .cond (.tmp 16) (.seq (.region (⟨some 4, .mov (.val (.int .i64 0)), none⟩ ::
      ⟨some 5, .mov (.val (.bool false)), none⟩ :: [])) <|
    .ret) <|
  .skip) <|
  .seq (.region (⟨some 17, .mov (.tmp 1), none⟩ ::
    ⟨some 18, .mov (.tmp 0), none⟩ ::
    ⟨some 19, .mov (.tmp 6), none⟩ ::
    ⟨some 20, .iaddr 2 (.tmp 18) (.tmp 19), none⟩ ::
    ⟨some 21, .faddr 0 (.tmp 20), none⟩ ::
    ⟨some 22, .load false 1 (.tmp 21), none⟩ ::
    ⟨some 23, .mx (.tmp 17) [(.tmp 22)], none⟩ ::
    ⟨some 4, .mov (.tmp 23), none⟩ ::
    ⟨some 5, .mov (.val (.bool true)), none⟩ :: [])) <|
  .ret⟩
theorem e_set_Next : cFunc Try.prog kd_CSet Try.f130 = some c_set_Next := by kernel_rfl
/- touchstone/set.Has: slots d, 0, v, 1, d, 2, v, 3, n, 5, ok, 6 -/
def c_set_Has : AFunc := ⟨19, [.tmp 4],
  .seq (.region (⟨some 4, .mov (.val (.bool false)), none⟩ :: [])) <|
  .seq (.region (⟨some 8, .mov (.tmp 0), none⟩ ::
    ⟨some 9, .mov (.tmp 1), none⟩ ::
    ⟨some 10, .call (.val (.fn (.func 130) [])) [(.tmp 8), (.tmp 9)], none⟩ ::
    ⟨some 7, .mov (.tmp 10), none⟩ ::
    ⟨some 11, .ext (.tmp 7) 0, none⟩ ::
    ⟨some 12, .ext (.tmp 7) 1, none⟩ ::
    ⟨some 5, .mov (.tmp 11), none⟩ ::
    ⟨some 6, .mov (.tmp 12), none⟩ :: [])) <|
  .seq (.region (⟨some 13, .mov (.tmp 6), none⟩ ::
    ⟨some 14, .mov (.tmp 13), none⟩ ::
    ⟨some 15, .mov (.tmp 5), some (14, true)⟩ ::
    ⟨some 16, .mov (.tmp 1), some (14, true)⟩ ::
    ⟨some 17, .bin .eql (.tmp 15) (.tmp 16), some (14, true)⟩ ::
    ⟨some 18, .pick (.tmp 14) (.tmp 17) (.val (.bool false)), none⟩ ::
    ⟨some 4, .mov (.tmp 18), none⟩ :: [])) <|
  .ret⟩
theorem e_set_Has : cFunc Try.prog kd_CSet Try.f114 = some c_set_Has := by kernel_rfl
/- touchstone/set.Cut: slots d, 0, lo, 1, hi, 2, d, 3, lo, 4, hi, 5, out, 7, _, 8, r, 9 -/
def c_set_Cut : AFunc := ⟨47, [.tmp 6],
  .seq (.region (⟨some 6, .mov (.val .nils), none⟩ :: [])) <|
  .seq (.seq (.region (⟨some 10, .mov (.tmp 0), none⟩ ::
    ⟨some 11, .call (.val (.fn (.func 110) [])) [(.tmp 10)], none⟩ ::
    ⟨some 12, .un .not (.tmp 11), none⟩ :: [])) <|
  .cond (.tmp 12) (.seq (.region (⟨some 6, .mov (.val .nils), none⟩ :: [])) <|
    .ret) <|
  .skip) <|
  .seq (.region (⟨some 7, .mov (.val .nils), none⟩ :: [])) <|
  .seq (.seq (.region (⟨some 13, .mov (.tmp 0), none⟩ ::
    ⟨some 14, .mov (.tmp 0), none⟩ ::
    ⟨some 15, .mov (.tmp 1), none⟩ ::
    ⟨some 16, .call (.val (.fn (.func 111) [])) [(.tmp 14), (.tmp 15)], none⟩ ::
    ⟨some 17, .slc 2 (.tmp 13) (some (.tmp 16)) none, none⟩ ::
    ⟨some 18, .len false (.tmp 17), none⟩ ::
    ⟨some 19, .mov (.val (.int .i64 0)), none⟩ :: [])) <|
  .block 0 (.loop (.seq (.region (⟨some 20, .bin .lss (.tmp 19) (.tmp 18), none⟩ :: [])) <|
      .seq (.cond (.tmp 20) (.skip) <|
      .exit 0) <|
      .seq (.block 1 (.seq (.region (⟨some 21, .iaddr 2 (.tmp 17) (.tmp 19), none⟩ ::
          ⟨some 22, .load true 2 (.tmp 21), none⟩ ::
          ⟨some 9, .alloc (.agg [(.int .i64 0), (.int .i64 0)]), none⟩ ::
          ⟨none, .store 2 (.tmp 9) (.tmp 22), none⟩ :: [])) <|
        .seq (.seq (.region (⟨some 23, .faddr 0 (.tmp 9), none⟩ ::
          ⟨some 24, .load false 1 (.tmp 23), none⟩ ::
          ⟨some 25, .mov (.tmp 2), none⟩ ::
          ⟨some 26, .bin .gtr (.tmp 24) (.tmp 25), none⟩ :: [])) <|
        .cond (.tmp 26) (.exit 0) <|
        .skip) <|
        .seq (.region (⟨some 27, .faddr 0 (.tmp 9), none⟩ ::
          ⟨some 28, .load false 1 (.tmp 27), none⟩ ::
          ⟨some 29, .mov (.tmp 1), none⟩ ::
          ⟨some 30, .mx (.tmp 28) [(.tmp 29)], none⟩ ::
          ⟨some 31, .faddr 1 (.tmp 9), none⟩ ::
          ⟨some 32, .load false 1 (.tmp 31), none⟩ ::
          ⟨some 33, .mov (.tmp 2), none⟩ ::
          ⟨some 34, .mn (.tmp 32) [(.tmp 33)], none⟩ ::
          ⟨some 35, .build [(.int .i64 0), (.int .i64 0)] [(0, 1, (.tmp 30)), (1, 1, (.tmp 34))], none⟩ ::
          ⟨none, .store 2 (.tmp 9) (.tmp 35), none⟩ :: [])) <|
        .seq (.region (⟨some 36, .faddr 0 (.tmp 9), none⟩ ::
          ⟨some 37, .load false 1 (.tmp 36), none⟩ ::
          ⟨some 38, .faddr 1 (.tmp 9), none⟩ ::
          ⟨some 39, .load false 1 (.tmp 38), none⟩ ::
          ⟨some 40, .bin .leq (.tmp 37) (.tmp 39), none⟩ :: [])) <|
        .cond (.tmp 40) (.region (⟨some 41, .mov (.tmp 7), none⟩ ::
            ⟨some 42, .load true 2 (.tmp 9), none⟩ ::
            ⟨some 43, .bslice 2 [(.tmp 42)], none⟩ ::
            ⟨some 44, .app 2 16 (.tmp 41) (.tmp 43), none⟩ ::
            ⟨some 7, .mov (.tmp 44), none⟩ :: [])) <|
        .skip)) <|
      .region (⟨some 45, .bin .add (.tmp 19) (.val (.int .i64 1)), none⟩ ::
        ⟨some 19, .mov (.tmp 45), none⟩ :: [])))) <|
  .seq (.region (⟨some 46, .mov (.tmp 7), none⟩ ::
    ⟨some 6, .mov (.tmp 46), none⟩ :: [])) <|
  .ret⟩
theorem e_set_Cut : cFunc Try.prog kd_CSet Try.f81 = some c_set_Cut := by kernel_rfl
/- touchstone/set.Without: slots d, 0, v, 1, d, 2, v, 3 -/
def c_set_Without : AFunc := ⟨23, [.tmp 4],
  .seq (.region (⟨some 4, .mov (.val .nils), none⟩ :: [])) <|
  .seq (.seq (.region (⟨some 5, .mov (.tmp 0), none⟩ ::
    ⟨some 6, .mov (.tmp 1), none⟩ ::
    ⟨some 7, .call (.val (.fn (.func 114) [])) [(.tmp 5), (.tmp 6)], none⟩ ::
    ⟨some 8, .un .not (.tmp 7), none⟩ :: [])) <|
  .cond (.tmp 8) (.seq (.seq (.region (⟨some 9, .mov (.tmp 0), none⟩ ::
      ⟨some 10, .call (.val (.fn (.func 110) [])) [(.tmp 9)], none⟩ ::
      ⟨some 11, .un .not (.tmp 10), none⟩ :: [])) <|
    .cond (.tmp 11) (.seq (.region (⟨some 4, .mov (.val .nils), none⟩ :: [])) <|
      .ret) <|
    .skip) <|
    .seq (.region (⟨some 12, .mov (.tmp 0), none⟩ ::
      ⟨some 13, .call (.val (.fn (.func 39) [])) [(.tmp 12)], none⟩ ::
      ⟨some 4, .mov (.tmp 13), none⟩ :: [])) <|
    .ret) <|
  .skip) <|
  .seq (.region (⟨some 14, .mov (.tmp 0), none⟩ ::
    ⟨some 15, .mov (.tmp 1), none⟩ ::
    ⟨some 16, .bin .sub (.tmp 15) (.val (.int .i64 1)), none⟩ ::
    ⟨some 17, .callo (.val (.fn (.func 81) [])) [(.tmp 14), (.val (.int .i64 (-1048576))), (.tmp 16)], none⟩ ::
    ⟨some 18, .mov (.tmp 0), none⟩ ::
    ⟨some 19, .mov (.tmp 1), none⟩ ::
    ⟨some 20, .bin .add (.tmp 19) (.val (.int .i64 1)), none⟩ ::
    ⟨some 21, .callo (.val (.fn (.func 81) [])) [(.tmp 18), (.tmp 20), (.val (.int .i64 1048576))], none⟩ ::
    ⟨some 22, .app 2 16 (.tmp 17) (.tmp 21), none⟩ ::
    ⟨some 4, .mov (.tmp 22), none⟩ :: [])) <|
  .ret⟩
theorem e_set_Without : cFunc Try.prog kd_CSet Try.f83 = some c_set_Without := by kernel_rfl
/- slices.Clone[[]touchstone/api.Range,touchstone/api.Range]: slots s, 0, s, 1 -/
def c_slices_Clone_sRange_Range : AFunc := ⟨8, [.tmp 2],
  .seq (.region (⟨some 2, .mov (.val .nils), none⟩ :: [])) <|
  .seq (.seq (.region (⟨some 3, .mov (.tmp 0), none⟩ ::
    ⟨some 4, .isnil false (.tmp 3), none⟩ :: [])) <|
  .cond (.tmp 4) (.seq (.region (⟨some 2, .mov (.val .nils), none⟩ :: [])) <|
    .ret) <|
  .skip) <|
  .seq (.region (⟨some 5, .bslice 2 [], none⟩ ::
    ⟨some 6, .mov (.tmp 0), none⟩ ::
    ⟨some 7, .app 2 16 (.tmp 5) (.tmp 6), none⟩ ::
    ⟨some 2, .mov (.tmp 7), none⟩ :: [])) <|
  .ret⟩
theorem e_slices_Clone_sRange_Range : cFunc Try.prog kd_CSet Try.f39 = some c_slices_Clone_sRange_Range := by kernel_rfl
end Go.Proofs.Ytclpkkbamgmooaa
