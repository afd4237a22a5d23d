/- The code of functions, as abstract code. Printed by program. -/
import Derived.Test.YtclpkkbamgmooaaAv2
import Derived.Test.YtclpkkbamgmooaaProg
namespace Go.Proofs.Ytclpkkbamgmooaa
open Av
set_option linter.unusedVariables false
set_option maxRecDepth 100000
def kd_CLinear (f : Nat) : Nat := if f = 35 then 2 else if f = 90 then 1 else if f = 58 then 1 else if f = 82 then 1 else if f = 79 then 2 else if f = 51 then 2 else if f = 50 then 2 else if f = 52 then 2 else if f = 53 then 2 else if f = 49 then 3 else 0
/- (*touchstone/linear.sum).ends: slots s, 0, t, 1, s, 2, t, 3, lo, 4, hi, 5, r, 6, _, 7 -/
def c_linear_sum_ends : AFunc := ⟨39, [.tmp 4, .tmp 5],
  .seq (.region (⟨some 3, .box 2 (.tmp 1), none⟩ ::
    ⟨some 4, .mov (.val (.int .i64 0)), none⟩ ::
    ⟨some 5, .mov (.val (.int .i64 0)), none⟩ :: [])) <|
  .seq (.region (⟨some 9, .mov (.tmp 0), none⟩ ::
    ⟨some 10, .nilc (.tmp 9), none⟩ ::
    ⟨some 11, .faddr 1 (.tmp 10), none⟩ ::
    ⟨some 12, .load false 1 (.tmp 11), none⟩ ::
    ⟨some 13, .faddr 1 (.tmp 3), none⟩ ::
    ⟨some 14, .load false 1 (.tmp 13), none⟩ ::
    ⟨some 15, .iaddr 1 (.tmp 12) (.tmp 14), none⟩ ::
    ⟨some 16, .load false 1 (.tmp 15), none⟩ ::
    ⟨some 17, .call (.val (.fn (.func 80) [])) [(.tmp 16)], none⟩ ::
    ⟨some 8, .mov (.tmp 17), none⟩ ::
    ⟨some 18, .ext (.tmp 8) 0, none⟩ ::
    ⟨some 19, .ext (.tmp 8) 1, none⟩ ::
    ⟨some 6, .alloc (.agg [(.int .i64 0), (.int .i64 0)]), none⟩ ::
    ⟨none, .store 2 (.tmp 6) (.tmp 18), none⟩ ::
    ⟨some 7, .mov (.tmp 19), none⟩ :: [])) <|
  .seq (.seq (.region (⟨some 20, .faddr 0 (.tmp 3), none⟩ ::
    ⟨some 21, .load false 1 (.tmp 20), none⟩ ::
    ⟨some 22, .bin .lss (.tmp 21) (.val (.int .i64 0)), none⟩ :: [])) <|
  .cond (.tmp 22) (.region (⟨some 23, .faddr 1 (.tmp 6), none⟩ ::
      ⟨some 24, .load false 1 (.tmp 23), none⟩ ::
      ⟨some 25, .faddr 0 (.tmp 6), none⟩ ::
      ⟨some 26, .load false 1 (.tmp 25), none⟩ ::
      ⟨some 27, .faddr 0 (.tmp 6), none⟩ ::
      ⟨none, .store 1 (.tmp 27) (.tmp 24), none⟩ ::
      ⟨some 28, .faddr 1 (.tmp 6), none⟩ ::
      ⟨none, .store 1 (.tmp 28) (.tmp 26), none⟩ :: [])) <|
  .skip) <|
  .seq (.region (⟨some 29, .faddr 0 (.tmp 3), none⟩ ::
    ⟨some 30, .load false 1 (.tmp 29), none⟩ ::
    ⟨some 31, .faddr 0 (.tmp 6), none⟩ ::
    ⟨some 32, .load false 1 (.tmp 31), none⟩ ::
    ⟨some 33, .bin .mul (.tmp 30) (.tmp 32), none⟩ ::
    ⟨some 34, .faddr 0 (.tmp 3), none⟩ ::
    ⟨some 35, .load false 1 (.tmp 34), none⟩ ::
    ⟨some 36, .faddr 1 (.tmp 6), none⟩ ::
    ⟨some 37, .load false 1 (.tmp 36), none⟩ ::
    ⟨some 38, .bin .mul (.tmp 35) (.tmp 37), none⟩ ::
    ⟨some 4, .mov (.tmp 33), none⟩ ::
    ⟨some 5, .mov (.tmp 38), none⟩ :: [])) <|
  .ret⟩
theorem e_linear_sum_ends : cFunc Try.prog kd_CLinear Try.f90 = some c_linear_sum_ends := by kernel_rfl
/- (*touchstone/linear.sum).span: slots s, 0, s, 1, out, 3, _, 4, t, 5, lo, 6, hi, 7 -/
def c_linear_sum_span : AFunc := ⟨35, [.cell 2 true 2],
  .seq (.region (⟨some 2, .alloc (.agg [(.int .i64 0), (.int .i64 0)]), none⟩ :: [])) <|
  .seq (.region (⟨some 3, .alloc (.agg [(.int .i64 0), (.int .i64 0)]), none⟩ :: [])) <|
  .seq (.seq (.region (⟨some 8, .mov (.tmp 0), none⟩ ::
    ⟨some 9, .nilc (.tmp 8), none⟩ ::
    ⟨some 10, .faddr 0 (.tmp 9), none⟩ ::
    ⟨some 11, .load false 1 (.tmp 10), none⟩ ::
    ⟨some 12, .len false (.tmp 11), none⟩ ::
    ⟨some 13, .mov (.val (.int .i64 0)), none⟩ :: [])) <|
  .block 0 (.loop (.seq (.region (⟨some 14, .bin .lss (.tmp 13) (.tmp 12), none⟩ :: [])) <|
      .seq (.cond (.tmp 14) (.skip) <|
      .exit 0) <|
      .seq (.block 1 (.seq (.region (⟨some 15, .iaddr 2 (.tmp 11) (.tmp 13), none⟩ ::
          ⟨some 16, .load true 2 (.tmp 15), none⟩ ::
          ⟨some 5, .alloc (.agg [(.int .i64 0), (.int .i64 0)]), none⟩ ::
          ⟨none, .store 2 (.tmp 5) (.tmp 16), none⟩ :: [])) <|
        .seq (.region (⟨some 18, .mov (.tmp 0), none⟩ ::
          ⟨some 19, .load true 2 (.tmp 5), none⟩ ::
          ⟨some 20, .callv (.val (.fn (.func 90) [])) [(.tmp 18), (.tmp 19)], none⟩ ::
          ⟨some 17, .mov (.tmp 20), none⟩ ::
          ⟨some 21, .ext (.tmp 17) 0, none⟩ ::
          ⟨some 22, .ext (.tmp 17) 1, none⟩ ::
          ⟨some 6, .mov (.tmp 21), none⟩ ::
          ⟨some 7, .mov (.tmp 22), none⟩ :: [])) <|
        .seq (.region (⟨some 23, .faddr 0 (.tmp 3), none⟩ ::
          ⟨some 24, .load false 1 (.tmp 23), none⟩ ::
          ⟨some 25, .mov (.tmp 6), none⟩ ::
          ⟨some 26, .bin .add (.tmp 24) (.tmp 25), none⟩ ::
          ⟨some 27, .faddr 0 (.tmp 3), none⟩ ::
          ⟨none, .store 1 (.tmp 27) (.tmp 26), none⟩ :: [])) <|
        .region (⟨some 28, .faddr 1 (.tmp 3), none⟩ ::
          ⟨some 29, .load false 1 (.tmp 28), none⟩ ::
          ⟨some 30, .mov (.tmp 7), none⟩ ::
          ⟨some 31, .bin .add (.tmp 29) (.tmp 30), none⟩ ::
          ⟨some 32, .faddr 1 (.tmp 3), none⟩ ::
          ⟨none, .store 1 (.tmp 32) (.tmp 31), none⟩ :: []))) <|
      .region (⟨some 33, .bin .add (.tmp 13) (.val (.int .i64 1)), none⟩ ::
        ⟨some 13, .mov (.tmp 33), none⟩ :: [])))) <|
  .seq (.region (⟨some 34, .load true 2 (.tmp 3), none⟩ ::
    ⟨none, .store 2 (.tmp 2) (.tmp 34), none⟩ :: [])) <|
  .ret⟩
theorem e_linear_sum_span : cFunc Try.prog kd_CLinear Try.f58 = some c_linear_sum_span := by kernel_rfl
/- (*touchstone/linear.sum).opposite: slots s, 0, s, 1, i, 2 -/
def c_linear_sum_opposite : AFunc := ⟨28, [],
  .seq (.region (⟨some 3, .mov (.tmp 0), none⟩ ::
    ⟨some 4, .nilc (.tmp 3), none⟩ ::
    ⟨some 5, .faddr 0 (.tmp 4), none⟩ ::
    ⟨some 6, .load false 1 (.tmp 5), none⟩ ::
    ⟨some 7, .len false (.tmp 6), none⟩ ::
    ⟨some 8, .mov (.val (.int .i64 0)), none⟩ :: [])) <|
  .block 0 (.loop (.seq (.region (⟨some 9, .bin .lss (.tmp 8) (.tmp 7), none⟩ :: [])) <|
      .seq (.cond (.tmp 9) (.skip) <|
      .exit 0) <|
      .seq (.block 1 (.seq (.region (⟨some 10, .mov (.tmp 8), none⟩ ::
          ⟨some 2, .mov (.tmp 10), none⟩ :: [])) <|
        .region (⟨some 11, .mov (.tmp 0), none⟩ ::
          ⟨some 12, .nilc (.tmp 11), none⟩ ::
          ⟨some 13, .faddr 0 (.tmp 12), none⟩ ::
          ⟨some 14, .load false 1 (.tmp 13), none⟩ ::
          ⟨some 15, .mov (.tmp 2), none⟩ ::
          ⟨some 16, .mov (.tmp 0), none⟩ ::
          ⟨some 17, .nilc (.tmp 16), none⟩ ::
          ⟨some 18, .faddr 0 (.tmp 17), none⟩ ::
          ⟨some 19, .load false 1 (.tmp 18), none⟩ ::
          ⟨some 20, .mov (.tmp 2), none⟩ ::
          ⟨some 21, .iaddr 2 (.tmp 19) (.tmp 20), none⟩ ::
          ⟨some 22, .faddr 0 (.tmp 21), none⟩ ::
          ⟨some 23, .load false 1 (.tmp 22), none⟩ ::
          ⟨some 24, .un .neg (.tmp 23), none⟩ ::
          ⟨some 25, .iaddr 2 (.tmp 14) (.tmp 15), none⟩ ::
          ⟨some 26, .faddr 0 (.tmp 25), none⟩ ::
          ⟨none, .store 1 (.tmp 26) (.tmp 24), none⟩ :: []))) <|
      .region (⟨some 27, .bin .add (.tmp 8) (.val (.int .i64 1)), none⟩ ::
        ⟨some 8, .mov (.tmp 27), none⟩ :: [])))⟩
theorem e_linear_sum_opposite : cFunc Try.prog kd_CLinear Try.f79 = some c_linear_sum_opposite := by kernel_rfl
/- (*touchstone/linear.sum).most: slots s, 0, n, 1, s, 2, n, 3, room, 5, was, 6, _, 7, t, 8, r, 9, _, 10 -/
def c_linear_sum_most : AFunc := ⟨95, [.tmp 4],
  .seq (.region (⟨some 4, .mov (.val (.bool false)), none⟩ :: [])) <|
  .seq (.region (⟨some 11, .mov (.tmp 1), none⟩ ::
    ⟨some 12, .mov (.tmp 0), none⟩ ::
    ⟨some 13, .callv (.val (.fn (.func 58) [])) [(.tmp 12)], none⟩ ::
    ⟨some 14, .fld false 1 0 (.tmp 13), none⟩ ::
    ⟨some 15, .bin .sub (.tmp 11) (.tmp 14), none⟩ ::
    ⟨some 5, .mov (.tmp 15), none⟩ :: [])) <|
  .seq (.seq (.region (⟨some 16, .mov (.tmp 5), none⟩ ::
    ⟨some 17, .bin .lss (.tmp 16) (.val (.int .i64 0)), none⟩ :: [])) <|
  .cond (.tmp 17) (.seq (.region (⟨some 4, .mov (.val (.bool false)), none⟩ :: [])) <|
    .ret) <|
  .skip) <|
  .seq (.region (⟨some 18, .mov (.tmp 0), none⟩ ::
    ⟨some 19, .nilc (.tmp 18), none⟩ ::
    ⟨some 20, .faddr 1 (.tmp 19), none⟩ ::
    ⟨some 21, .load false 1 (.tmp 20), none⟩ ::
    ⟨some 22, .callm (.val (.fn (.func 35) [])) [(.tmp 21)], none⟩ ::
    ⟨some 6, .mov (.tmp 22), none⟩ :: [])) <|
  .seq (.seq (.region (⟨some 23, .mov (.tmp 0), none⟩ ::
    ⟨some 24, .nilc (.tmp 23), none⟩ ::
    ⟨some 25, .faddr 0 (.tmp 24), none⟩ ::
    ⟨some 26, .load false 1 (.tmp 25), none⟩ ::
    ⟨some 27, .len false (.tmp 26), none⟩ ::
    ⟨some 28, .mov (.val (.int .i64 0)), none⟩ :: [])) <|
  .block 0 (.loop (.seq (.region (⟨some 29, .bin .lss (.tmp 28) (.tmp 27), none⟩ :: [])) <|
      .seq (.cond (.tmp 29) (.skip) <|
      .exit 0) <|
      .seq (.block 1 (.seq (.region (⟨some 30, .iaddr 2 (.tmp 26) (.tmp 28), none⟩ ::
          ⟨some 31, .load true 2 (.tmp 30), none⟩ ::
          ⟨some 8, .alloc (.agg [(.int .i64 0), (.int .i64 0)]), none⟩ ::
          ⟨none, .store 2 (.tmp 8) (.tmp 31), none⟩ :: [])) <|
        .seq (.region (⟨some 33, .mov (.tmp 6), none⟩ ::
          ⟨some 34, .faddr 1 (.tmp 8), none⟩ ::
          ⟨some 35, .load false 1 (.tmp 34), none⟩ ::
          ⟨some 36, .iaddr 1 (.tmp 33) (.tmp 35), none⟩ ::
          ⟨some 37, .load false 1 (.tmp 36), none⟩ ::
          ⟨some 38, .call (.val (.fn (.func 80) [])) [(.tmp 37)], none⟩ ::
          ⟨some 32, .mov (.tmp 38), none⟩ ::
          ⟨some 39, .ext (.tmp 32) 0, none⟩ ::
          ⟨some 40, .ext (.tmp 32) 1, none⟩ ::
          ⟨some 9, .alloc (.agg [(.int .i64 0), (.int .i64 0)]), none⟩ ::
          ⟨none, .store 2 (.tmp 9) (.tmp 39), none⟩ ::
          ⟨some 10, .mov (.tmp 40), none⟩ :: [])) <|
        .seq (.block 2 (.seq (.region (⟨some 42, .faddr 0 (.tmp 8), none⟩ ::
            ⟨some 43, .load false 1 (.tmp 42), none⟩ ::
            ⟨some 44, .bin .gtr (.tmp 43) (.val (.int .i64 0)), none⟩ ::
            ⟨some 41, .mov (.tmp 44), none⟩ :: [])) <|
          .cond (.tmp 41) (.region (⟨some 45, .faddr 1 (.tmp 9), none⟩ ::
              ⟨some 46, .load false 1 (.tmp 45), none⟩ ::
              ⟨some 47, .faddr 0 (.tmp 9), none⟩ ::
              ⟨some 48, .load false 1 (.tmp 47), none⟩ ::
              ⟨some 49, .mov (.tmp 5), none⟩ ::
              ⟨some 50, .faddr 0 (.tmp 8), none⟩ ::
              ⟨some 51, .load false 1 (.tmp 50), none⟩ ::
              ⟨some 52, .bin .quo (.tmp 49) (.tmp 51), none⟩ ::
              ⟨some 53, .bin .add (.tmp 48) (.tmp 52), none⟩ ::
              ⟨some 54, .mn (.tmp 46) [(.tmp 53)], none⟩ ::
              ⟨some 55, .faddr 1 (.tmp 9), none⟩ ::
              ⟨none, .store 1 (.tmp 55) (.tmp 54), none⟩ :: [])) <|
          .seq (.region (⟨some 57, .faddr 0 (.tmp 8), none⟩ ::
            ⟨some 58, .load false 1 (.tmp 57), none⟩ ::
            ⟨some 59, .bin .lss (.tmp 58) (.val (.int .i64 0)), none⟩ ::
            ⟨some 56, .mov (.tmp 59), none⟩ :: [])) <|
          .cond (.tmp 56) (.region (⟨some 60, .faddr 0 (.tmp 9), none⟩ ::
              ⟨some 61, .load false 1 (.tmp 60), none⟩ ::
              ⟨some 62, .faddr 1 (.tmp 9), none⟩ ::
              ⟨some 63, .load false 1 (.tmp 62), none⟩ ::
              ⟨some 64, .mov (.tmp 5), none⟩ ::
              ⟨some 65, .faddr 0 (.tmp 8), none⟩ ::
              ⟨some 66, .load false 1 (.tmp 65), none⟩ ::
              ⟨some 67, .un .neg (.tmp 66), none⟩ ::
              ⟨some 68, .bin .quo (.tmp 64) (.tmp 67), none⟩ ::
              ⟨some 69, .bin .sub (.tmp 63) (.tmp 68), none⟩ ::
              ⟨some 70, .mx (.tmp 61) [(.tmp 69)], none⟩ ::
              ⟨some 71, .faddr 0 (.tmp 9), none⟩ ::
              ⟨none, .store 1 (.tmp 71) (.tmp 70), none⟩ :: [])) <|
          .skip)) <|
        .region (⟨some 72, .mov (.tmp 0), none⟩ ::
          ⟨some 73, .nilc (.tmp 72), none⟩ ::
          ⟨some 74, .faddr 1 (.tmp 73), none⟩ ::
          ⟨some 75, .load false 1 (.tmp 74), none⟩ ::
          ⟨some 76, .faddr 1 (.tmp 8), none⟩ ::
          ⟨some 77, .load false 1 (.tmp 76), none⟩ ::
          ⟨some 78, .mov (.tmp 0), none⟩ ::
          ⟨some 79, .nilc (.tmp 78), none⟩ ::
          ⟨some 80, .faddr 1 (.tmp 79), none⟩ ::
          ⟨some 81, .load false 1 (.tmp 80), none⟩ ::
          ⟨some 82, .faddr 1 (.tmp 8), none⟩ ::
          ⟨some 83, .load false 1 (.tmp 82), none⟩ ::
          ⟨some 84, .iaddr 1 (.tmp 81) (.tmp 83), none⟩ ::
          ⟨some 85, .load false 1 (.tmp 84), none⟩ ::
          ⟨some 86, .faddr 0 (.tmp 9), none⟩ ::
          ⟨some 87, .load false 1 (.tmp 86), none⟩ ::
          ⟨some 88, .faddr 1 (.tmp 9), none⟩ ::
          ⟨some 89, .load false 1 (.tmp 88), none⟩ ::
          ⟨some 90, .call (.val (.fn (.func 81) [])) [(.tmp 85), (.tmp 87), (.tmp 89)], none⟩ ::
          ⟨some 91, .iaddr 1 (.tmp 75) (.tmp 77), none⟩ ::
          ⟨none, .store 1 (.tmp 91) (.tmp 90), none⟩ :: []))) <|
      .region (⟨some 92, .bin .add (.tmp 28) (.val (.int .i64 1)), none⟩ ::
        ⟨some 28, .mov (.tmp 92), none⟩ :: [])))) <|
  .seq (.region (⟨some 93, .mov (.tmp 0), none⟩ ::
    ⟨some 94, .callv (.val (.fn (.func 82) [])) [(.tmp 93)], none⟩ ::
    ⟨some 4, .mov (.tmp 94), none⟩ :: [])) <|
  .ret⟩
theorem e_linear_sum_most : cFunc Try.prog kd_CLinear Try.f51 = some c_linear_sum_most := by kernel_rfl
/- (*touchstone/linear.sum).whole: slots s, 0, s, 1 -/
def c_linear_sum_whole : AFunc := ⟨9, [.tmp 2],
  .seq (.region (⟨some 2, .mov (.val (.bool false)), none⟩ :: [])) <|
  .seq (.region (⟨some 3, .mov (.tmp 0), none⟩ ::
    ⟨some 4, .nilc (.tmp 3), none⟩ ::
    ⟨some 5, .faddr 1 (.tmp 4), none⟩ ::
    ⟨some 6, .load false 1 (.tmp 5), none⟩ ::
    ⟨some 7, .call (.val (.fn (.func 112) [])) [(.tmp 6), (.val (.fn (.func 113) []))], none⟩ ::
    ⟨some 8, .un .not (.tmp 7), none⟩ ::
    ⟨some 2, .mov (.tmp 8), none⟩ :: [])) <|
  .ret⟩
theorem e_linear_sum_whole : cFunc Try.prog kd_CLinear Try.f82 = some c_linear_sum_whole := by kernel_rfl
/- (*touchstone/linear.sum).whole$1: slots d, 0, d, 1 -/
def c_linear_sum_whole_1 : AFunc := ⟨6, [.tmp 2],
  .seq (.region (⟨some 2, .mov (.val (.bool false)), none⟩ :: [])) <|
  .seq (.region (⟨some 3, .mov (.tmp 0), none⟩ ::
    ⟨some 4, .len false (.tmp 3), none⟩ ::
    ⟨some 5, .bin .eql (.tmp 4) (.val (.int .i64 0)), none⟩ ::
    ⟨some 2, .mov (.tmp 5), none⟩ :: [])) <|
  .ret⟩
theorem e_linear_sum_whole_1 : cFunc Try.prog kd_CLinear Try.f113 = some c_linear_sum_whole_1 := by kernel_rfl
/- (*touchstone/linear.sum).is: slots s, 0, n, 1, s, 2, n, 3 -/
def c_linear_sum_is : AFunc := ⟨15, [.tmp 4],
  .seq (.region (⟨some 4, .mov (.val (.bool false)), none⟩ :: [])) <|
  .seq (.seq (.region (⟨some 5, .mov (.tmp 0), none⟩ ::
    ⟨some 6, .mov (.tmp 1), none⟩ ::
    ⟨some 7, .callm (.val (.fn (.func 51) [])) [(.tmp 5), (.tmp 6)], none⟩ ::
    ⟨some 8, .un .not (.tmp 7), none⟩ :: [])) <|
  .cond (.tmp 8) (.seq (.region (⟨some 4, .mov (.val (.bool false)), none⟩ :: [])) <|
    .ret) <|
  .skip) <|
  .seq (.region (⟨some 9, .mov (.tmp 0), none⟩ ::
    ⟨some 10, .callm (.val (.fn (.func 79) [])) [(.tmp 9)], none⟩ :: [])) <|
  .seq (.region (⟨some 11, .mov (.tmp 0), none⟩ ::
    ⟨some 12, .mov (.tmp 1), none⟩ ::
    ⟨some 13, .un .neg (.tmp 12), none⟩ ::
    ⟨some 14, .callm (.val (.fn (.func 51) [])) [(.tmp 11), (.tmp 13)], none⟩ ::
    ⟨some 4, .mov (.tmp 14), none⟩ :: [])) <|
  .ret⟩
theorem e_linear_sum_is : cFunc Try.prog kd_CLinear Try.f50 = some c_linear_sum_is := by kernel_rfl
/- (*touchstone/linear.sum).not: slots s, 0, n, 1, s, 2, n, 3, open, 5, _, 6, t, 7, r, 8, _, 9, x, 10 -/
def c_linear_sum_not : AFunc := ⟨98, [.tmp 4],
  .seq (.region (⟨some 4, .mov (.val (.bool false)), none⟩ :: [])) <|
  .seq (.region (⟨some 5, .mov (.val .nils), none⟩ :: [])) <|
  .seq (.seq (.region (⟨some 11, .mov (.tmp 0), none⟩ ::
    ⟨some 12, .nilc (.tmp 11), none⟩ ::
    ⟨some 13, .faddr 0 (.tmp 12), none⟩ ::
    ⟨some 14, .load false 1 (.tmp 13), none⟩ ::
    ⟨some 15, .len false (.tmp 14), none⟩ ::
    ⟨some 16, .mov (.val (.int .i64 0)), none⟩ :: [])) <|
  .block 0 (.loop (.seq (.region (⟨some 17, .bin .lss (.tmp 16) (.tmp 15), none⟩ :: [])) <|
      .seq (.cond (.tmp 17) (.skip) <|
      .exit 0) <|
      .seq (.block 1 (.seq (.region (⟨some 18, .iaddr 2 (.tmp 14) (.tmp 16), none⟩ ::
          ⟨some 19, .load true 2 (.tmp 18), none⟩ ::
          ⟨some 7, .alloc (.agg [(.int .i64 0), (.int .i64 0)]), none⟩ ::
          ⟨none, .store 2 (.tmp 7) (.tmp 19), none⟩ :: [])) <|
        .seq (.region (⟨some 21, .mov (.tmp 0), none⟩ ::
          ⟨some 22, .nilc (.tmp 21), none⟩ ::
          ⟨some 23, .faddr 1 (.tmp 22), none⟩ ::
          ⟨some 24, .load false 1 (.tmp 23), none⟩ ::
          ⟨some 25, .faddr 1 (.tmp 7), none⟩ ::
          ⟨some 26, .load false 1 (.tmp 25), none⟩ ::
          ⟨some 27, .iaddr 1 (.tmp 24) (.tmp 26), none⟩ ::
          ⟨some 28, .load false 1 (.tmp 27), none⟩ ::
          ⟨some 29, .call (.val (.fn (.func 80) [])) [(.tmp 28)], none⟩ ::
          ⟨some 20, .mov (.tmp 29), none⟩ ::
          ⟨some 30, .ext (.tmp 20) 0, none⟩ ::
          ⟨some 31, .ext (.tmp 20) 1, none⟩ ::
          ⟨some 8, .alloc (.agg [(.int .i64 0), (.int .i64 0)]), none⟩ ::
          ⟨none, .store 2 (.tmp 8) (.tmp 30), none⟩ ::
          ⟨some 9, .mov (.tmp 31), none⟩ :: [])) <|
        .seq (.region (⟨some 32, .faddr 0 (.tmp 7), none⟩ ::
          ⟨some 33, .load false 1 (.tmp 32), none⟩ ::
          ⟨some 34, .bin .eql (.tmp 33) (.val (.int .i64 0)), none⟩ ::
          ⟨some 35, .mov (.tmp 34), none⟩ ::
          ⟨some 36, .faddr 0 (.tmp 8), some (35, false)⟩ ::
          ⟨some 37, .load false 1 (.tmp 36), some (35, false)⟩ ::
          ⟨some 38, .faddr 1 (.tmp 8), some (35, false)⟩ ::
          ⟨some 39, .load false 1 (.tmp 38), some (35, false)⟩ ::
          ⟨some 40, .bin .eql (.tmp 37) (.tmp 39), some (35, false)⟩ ::
          ⟨some 41, .pick (.tmp 35) (.val (.bool true)) (.tmp 40), none⟩ :: [])) <|
        .cond (.tmp 41) (.region (⟨some 42, .mov (.tmp 1), none⟩ ::
            ⟨some 43, .faddr 0 (.tmp 7), none⟩ ::
            ⟨some 44, .load false 1 (.tmp 43), none⟩ ::
            ⟨some 45, .faddr 0 (.tmp 8), none⟩ ::
            ⟨some 46, .load false 1 (.tmp 45), none⟩ ::
            ⟨some 47, .bin .mul (.tmp 44) (.tmp 46), none⟩ ::
            ⟨some 48, .bin .sub (.tmp 42) (.tmp 47), none⟩ ::
            ⟨some 1, .mov (.tmp 48), none⟩ :: [])) <|
        .region (⟨some 49, .mov (.tmp 5), none⟩ ::
          ⟨some 50, .load true 2 (.tmp 7), none⟩ ::
          ⟨some 51, .bslice 2 [(.tmp 50)], none⟩ ::
          ⟨some 52, .app 2 16 (.tmp 49) (.tmp 51), none⟩ ::
          ⟨some 5, .mov (.tmp 52), none⟩ :: []))) <|
      .region (⟨some 53, .bin .add (.tmp 16) (.val (.int .i64 1)), none⟩ ::
        ⟨some 16, .mov (.tmp 53), none⟩ :: [])))) <|
  .seq (.block 2 (.seq (.region (⟨some 55, .mov (.tmp 5), none⟩ ::
      ⟨some 56, .len false (.tmp 55), none⟩ ::
      ⟨some 57, .bin .gtr (.tmp 56) (.val (.int .i64 1)), none⟩ ::
      ⟨some 54, .mov (.tmp 57), none⟩ :: [])) <|
    .cond (.tmp 54) (.seq (.region (⟨some 4, .mov (.val (.bool true)), none⟩ :: [])) <|
      .ret) <|
    .seq (.region (⟨some 59, .mov (.tmp 5), none⟩ ::
      ⟨some 60, .len false (.tmp 59), none⟩ ::
      ⟨some 61, .bin .eql (.tmp 60) (.val (.int .i64 0)), none⟩ ::
      ⟨some 58, .mov (.tmp 61), none⟩ :: [])) <|
    .cond (.tmp 58) (.seq (.region (⟨some 62, .mov (.tmp 1), none⟩ ::
        ⟨some 63, .bin .neq (.tmp 62) (.val (.int .i64 0)), none⟩ ::
        ⟨some 4, .mov (.tmp 63), none⟩ :: [])) <|
      .ret) <|
    .seq (.region (⟨some 65, .mov (.tmp 1), none⟩ ::
      ⟨some 66, .mov (.tmp 5), none⟩ ::
      ⟨some 67, .iaddr 2 (.tmp 66) (.val (.int .i64 0)), none⟩ ::
      ⟨some 68, .faddr 0 (.tmp 67), none⟩ ::
      ⟨some 69, .load false 1 (.tmp 68), none⟩ ::
      ⟨some 70, .bin .rem (.tmp 65) (.tmp 69), none⟩ ::
      ⟨some 71, .bin .neq (.tmp 70) (.val (.int .i64 0)), none⟩ ::
      ⟨some 64, .mov (.tmp 71), none⟩ :: [])) <|
    .cond (.tmp 64) (.seq (.region (⟨some 4, .mov (.val (.bool true)), none⟩ :: [])) <|
      .ret) <|
    .skip)) <|
  .seq (.region (⟨some 72, .mov (.tmp 5), none⟩ ::
    ⟨some 73, .iaddr 2 (.tmp 72) (.val (.int .i64 0)), none⟩ ::
    ⟨some 74, .faddr 1 (.tmp 73), none⟩ ::
    ⟨some 75, .load false 1 (.tmp 74), none⟩ ::
    ⟨some 10, .mov (.tmp 75), none⟩ :: [])) <|
  .seq (.region (⟨some 76, .mov (.tmp 0), none⟩ ::
    ⟨some 77, .nilc (.tmp 76), none⟩ ::
    ⟨some 78, .faddr 1 (.tmp 77), none⟩ ::
    ⟨some 79, .load false 1 (.tmp 78), none⟩ ::
    ⟨some 80, .mov (.tmp 10), none⟩ ::
    ⟨some 81, .mov (.tmp 0), none⟩ ::
    ⟨some 82, .nilc (.tmp 81), none⟩ ::
    ⟨some 83, .faddr 1 (.tmp 82), none⟩ ::
    ⟨some 84, .load false 1 (.tmp 83), none⟩ ::
    ⟨some 85, .mov (.tmp 10), none⟩ ::
    ⟨some 86, .iaddr 1 (.tmp 84) (.tmp 85), none⟩ ::
    ⟨some 87, .load false 1 (.tmp 86), none⟩ ::
    ⟨some 88, .mov (.tmp 1), none⟩ ::
    ⟨some 89, .mov (.tmp 5), none⟩ ::
    ⟨some 90, .iaddr 2 (.tmp 89) (.val (.int .i64 0)), none⟩ ::
    ⟨some 91, .faddr 0 (.tmp 90), none⟩ ::
    ⟨some 92, .load false 1 (.tmp 91), none⟩ ::
    ⟨some 93, .bin .quo (.tmp 88) (.tmp 92), none⟩ ::
    ⟨some 94, .call (.val (.fn (.func 83) [])) [(.tmp 87), (.tmp 93)], none⟩ ::
    ⟨some 95, .iaddr 1 (.tmp 79) (.tmp 80), none⟩ ::
    ⟨none, .store 1 (.tmp 95) (.tmp 94), none⟩ :: [])) <|
  .seq (.region (⟨some 96, .mov (.tmp 0), none⟩ ::
    ⟨some 97, .callv (.val (.fn (.func 82) [])) [(.tmp 96)], none⟩ ::
    ⟨some 4, .mov (.tmp 97), none⟩ :: [])) <|
  .ret⟩
theorem e_linear_sum_not : cFunc Try.prog kd_CLinear Try.f52 = some c_linear_sum_not := by kernel_rfl
/- touchstone/linear.own: slots d, 0, d, 1, out, 3, _, 4, x, 5 -/
def c_linear_own : AFunc := ⟨19, [.tmp 2],
  .seq (.region (⟨some 2, .mov (.val .nils), none⟩ :: [])) <|
  .seq (.region (⟨some 3, .mov (.val .nils), none⟩ :: [])) <|
  .seq (.seq (.region (⟨some 6, .mov (.tmp 0), none⟩ ::
    ⟨some 7, .len false (.tmp 6), none⟩ ::
    ⟨some 8, .mov (.val (.int .i64 0)), none⟩ :: [])) <|
  .block 0 (.loop (.seq (.region (⟨some 9, .bin .lss (.tmp 8) (.tmp 7), none⟩ :: [])) <|
      .seq (.cond (.tmp 9) (.skip) <|
      .exit 0) <|
      .seq (.block 1 (.seq (.region (⟨some 10, .iaddr 1 (.tmp 6) (.tmp 8), none⟩ ::
          ⟨some 11, .load false 1 (.tmp 10), none⟩ ::
          ⟨some 5, .mov (.tmp 11), none⟩ :: [])) <|
        .region (⟨some 12, .mov (.tmp 3), none⟩ ::
          ⟨some 13, .mov (.tmp 5), none⟩ ::
          ⟨some 14, .call (.val (.fn (.func 39) [])) [(.tmp 13)], none⟩ ::
          ⟨some 15, .bslice 1 [(.tmp 14)], none⟩ ::
          ⟨some 16, .app 1 24 (.tmp 12) (.tmp 15), none⟩ ::
          ⟨some 3, .mov (.tmp 16), none⟩ :: []))) <|
      .region (⟨some 17, .bin .add (.tmp 8) (.val (.int .i64 1)), none⟩ ::
        ⟨some 8, .mov (.tmp 17), none⟩ :: [])))) <|
  .seq (.region (⟨some 18, .mov (.tmp 3), none⟩ ::
    ⟨some 2, .mov (.tmp 18), none⟩ :: [])) <|
  .ret⟩
theorem e_linear_own : cFunc Try.prog kd_CLinear Try.f53 = some c_linear_own := by kernel_rfl
/- touchstone/linear.terms: slots c, 0, d, 1, c, 2, d, 3, s, 5, i, 6, a, 7 -/
def c_linear_terms : AFunc := ⟨38, [.tmp 4],
  .seq (.region (⟨some 2, .box 4 (.tmp 0), none⟩ ::
    ⟨some 4, .mov (.val .nilp), none⟩ :: [])) <|
  .seq (.region (⟨some 8, .mov (.tmp 1), none⟩ ::
    ⟨some 9, .callm (.val (.fn (.func 35) [])) [(.tmp 8)], none⟩ ::
    ⟨some 10, .build [.nils, .nils] [(0, 1, (.val .nils)), (1, 1, (.tmp 9))], none⟩ ::
    ⟨some 11, .box 2 (.tmp 10), none⟩ ::
    ⟨some 5, .mov (.tmp 11), none⟩ :: [])) <|
  .seq (.seq (.region (⟨some 12, .faddr 2 (.tmp 2), none⟩ ::
    ⟨some 13, .load false 1 (.tmp 12), none⟩ ::
    ⟨some 14, .len false (.tmp 13), none⟩ ::
    ⟨some 15, .mov (.val (.int .i64 0)), none⟩ :: [])) <|
  .block 0 (.loop (.seq (.region (⟨some 16, .bin .lss (.tmp 15) (.tmp 14), none⟩ :: [])) <|
      .seq (.cond (.tmp 16) (.skip) <|
      .exit 0) <|
      .seq (.block 1 (.seq (.region (⟨some 17, .mov (.tmp 15), none⟩ ::
          ⟨some 18, .iaddr 1 (.tmp 13) (.tmp 15), none⟩ ::
          ⟨some 19, .load false 1 (.tmp 18), none⟩ ::
          ⟨some 6, .mov (.tmp 17), none⟩ ::
          ⟨some 7, .mov (.tmp 19), none⟩ :: [])) <|
        .region (⟨some 20, .mov (.tmp 5), none⟩ ::
          ⟨some 21, .mov (.tmp 5), none⟩ ::
          ⟨some 22, .nilc (.tmp 21), none⟩ ::
          ⟨some 23, .faddr 0 (.tmp 22), none⟩ ::
          ⟨some 24, .load false 1 (.tmp 23), none⟩ ::
          ⟨some 25, .mov (.tmp 7), none⟩ ::
          ⟨some 26, .faddr 1 (.tmp 2), none⟩ ::
          ⟨some 27, .load false 1 (.tmp 26), none⟩ ::
          ⟨some 28, .mov (.tmp 6), none⟩ ::
          ⟨some 29, .iaddr 1 (.tmp 27) (.tmp 28), none⟩ ::
          ⟨some 30, .load false 1 (.tmp 29), none⟩ ::
          ⟨some 31, .build [(.int .i64 0), (.int .i64 0)] [(0, 1, (.tmp 25)), (1, 1, (.tmp 30))], none⟩ ::
          ⟨some 32, .bslice 2 [(.tmp 31)], none⟩ ::
          ⟨some 33, .app 2 16 (.tmp 24) (.tmp 32), none⟩ ::
          ⟨some 34, .nilc (.tmp 20), none⟩ ::
          ⟨some 35, .faddr 0 (.tmp 34), none⟩ ::
          ⟨none, .store 1 (.tmp 35) (.tmp 33), none⟩ :: []))) <|
      .region (⟨some 36, .bin .add (.tmp 15) (.val (.int .i64 1)), none⟩ ::
        ⟨some 15, .mov (.tmp 36), none⟩ :: [])))) <|
  .seq (.region (⟨some 37, .mov (.tmp 5), none⟩ ::
    ⟨some 4, .mov (.tmp 37), none⟩ :: [])) <|
  .ret⟩
theorem e_linear_terms : cFunc Try.prog kd_CLinear Try.f49 = some c_linear_terms := by kernel_rfl
/- touchstone/linear.fit: slots c, 0, d, 1, c, 2, d, 3 -/
def c_linear_fit : AFunc := ⟨10, [.tmp 4],
  .seq (.region (⟨some 2, .box 4 (.tmp 0), none⟩ ::
    ⟨some 4, .mov (.val (.bool false)), none⟩ :: [])) <|
  .seq (.region (⟨some 5, .mov (.tmp 1), none⟩ ::
    ⟨some 6, .load true 4 (.tmp 2), none⟩ ::
    ⟨some 7, .bslice 4 [(.tmp 6)], none⟩ ::
    ⟨some 8, .build [.nils, .nils, (.int .i64 0), (.int .i64 0)] [(0, 1, (.tmp 5)), (1, 1, (.tmp 7))], none⟩ ::
    ⟨some 9, .call (.val (.fn (.func 34) [])) [(.tmp 8)], none⟩ ::
    ⟨some 4, .mov (.tmp 9), none⟩ :: [])) <|
  .ret⟩
theorem e_linear_fit : cFunc Try.prog kd_CLinear Try.f48 = some c_linear_fit := by kernel_rfl
/- touchstone/linear.Narrow: slots c, 0, d, 1, c, 2, d, 3, s, 6, ok, 7 -/
def c_linear_Narrow : AFunc := ⟨42, [.tmp 4, .tmp 5],
  .seq (.region (⟨some 2, .box 4 (.tmp 0), none⟩ ::
    ⟨some 4, .mov (.val .nils), none⟩ ::
    ⟨some 5, .mov (.val (.int .i64 0)), none⟩ :: [])) <|
  .seq (.seq (.region (⟨some 8, .load true 4 (.tmp 2), none⟩ ::
    ⟨some 9, .mov (.tmp 1), none⟩ ::
    ⟨some 10, .call (.val (.fn (.func 48) [])) [(.tmp 8), (.tmp 9)], none⟩ ::
    ⟨some 11, .un .not (.tmp 10), none⟩ :: [])) <|
  .cond (.tmp 11) (.seq (.region (⟨some 4, .mov (.val .nils), none⟩ ::
      ⟨some 5, .mov (.val (.int .i64 2)), none⟩ :: [])) <|
    .ret) <|
  .skip) <|
  .seq (.region (⟨some 12, .load true 4 (.tmp 2), none⟩ ::
    ⟨some 13, .mov (.tmp 1), none⟩ ::
    ⟨some 14, .callo (.val (.fn (.func 49) [])) [(.tmp 12), (.tmp 13)], none⟩ ::
    ⟨some 6, .mov (.tmp 14), none⟩ :: [])) <|
  .seq (.region (⟨some 7, .mov (.val (.bool false)), none⟩ :: [])) <|
  .seq (.seq (.region (⟨some 15, .faddr 0 (.tmp 2), none⟩ ::
    ⟨some 16, .load false 1 (.tmp 15), none⟩ :: [])) <|
  .block 0 (.seq (.region (⟨some 18, .bin .eql (.tmp 16) (.val (.int .i64 1)), none⟩ ::
      ⟨some 17, .mov (.tmp 18), none⟩ :: [])) <|
    .cond (.tmp 17) (.region (⟨some 19, .mov (.tmp 6), none⟩ ::
        ⟨some 20, .faddr 3 (.tmp 2), none⟩ ::
        ⟨some 21, .load false 1 (.tmp 20), none⟩ ::
        ⟨some 22, .callm (.val (.fn (.func 50) [])) [(.tmp 19), (.tmp 21)], none⟩ ::
        ⟨some 7, .mov (.tmp 22), none⟩ :: [])) <|
    .seq (.region (⟨some 24, .bin .eql (.tmp 16) (.val (.int .i64 2)), none⟩ ::
      ⟨some 23, .mov (.tmp 24), none⟩ :: [])) <|
    .cond (.tmp 23) (.region (⟨some 25, .mov (.tmp 6), none⟩ ::
        ⟨some 26, .faddr 3 (.tmp 2), none⟩ ::
        ⟨some 27, .load false 1 (.tmp 26), none⟩ ::
        ⟨some 28, .callm (.val (.fn (.func 51) [])) [(.tmp 25), (.tmp 27)], none⟩ ::
        ⟨some 7, .mov (.tmp 28), none⟩ :: [])) <|
    .seq (.region (⟨some 30, .bin .eql (.tmp 16) (.val (.int .i64 3)), none⟩ ::
      ⟨some 29, .mov (.tmp 30), none⟩ :: [])) <|
    .cond (.tmp 29) (.region (⟨some 31, .mov (.tmp 6), none⟩ ::
        ⟨some 32, .faddr 3 (.tmp 2), none⟩ ::
        ⟨some 33, .load false 1 (.tmp 32), none⟩ ::
        ⟨some 34, .callm (.val (.fn (.func 52) [])) [(.tmp 31), (.tmp 33)], none⟩ ::
        ⟨some 7, .mov (.tmp 34), none⟩ :: [])) <|
    .seq (.region (⟨some 4, .mov (.val .nils), none⟩ ::
      ⟨some 5, .mov (.val (.int .i64 10)), none⟩ :: [])) <|
    .ret)) <|
  .seq (.seq (.region (⟨some 35, .mov (.tmp 7), none⟩ ::
    ⟨some 36, .un .not (.tmp 35), none⟩ :: [])) <|
  .cond (.tmp 36) (.seq (.region (⟨some 4, .mov (.val .nils), none⟩ ::
      ⟨some 5, .mov (.val (.int .i64 12)), none⟩ :: [])) <|
    .ret) <|
  .skip) <|
  .seq (.region (⟨some 37, .mov (.tmp 6), none⟩ ::
    ⟨some 38, .nilc (.tmp 37), none⟩ ::
    ⟨some 39, .faddr 1 (.tmp 38), none⟩ ::
    ⟨some 40, .load false 1 (.tmp 39), none⟩ ::
    ⟨some 41, .callm (.val (.fn (.func 53) [])) [(.tmp 40)], none⟩ ::
    ⟨some 4, .mov (.tmp 41), none⟩ ::
    ⟨some 5, .mov (.val (.int .i64 0)), none⟩ :: [])) <|
  .ret⟩
theorem e_linear_Narrow : cFunc Try.prog kd_CLinear Try.f26 = some c_linear_Narrow := by kernel_rfl
/- touchstone/linear.Ends: slots c, 0, d, 1, c, 2, d, 3 -/
def c_linear_Ends : AFunc := ⟨25, [.cell 4 true 2, .tmp 5],
  .seq (.region (⟨some 2, .box 4 (.tmp 0), none⟩ ::
    ⟨some 4, .alloc (.agg [(.int .i64 0), (.int .i64 0)]), none⟩ ::
    ⟨some 5, .mov (.val (.bool false)), none⟩ :: [])) <|
  .seq (.seq (.region (⟨some 6, .load true 4 (.tmp 2), none⟩ ::
    ⟨some 7, .mov (.tmp 1), none⟩ ::
    ⟨some 8, .call (.val (.fn (.func 48) [])) [(.tmp 6), (.tmp 7)], none⟩ ::
    ⟨some 9, .un .not (.tmp 8), none⟩ ::
    ⟨some 10, .mov (.tmp 9), none⟩ ::
    ⟨some 11, .faddr 0 (.tmp 2), some (10, false)⟩ ::
    ⟨some 12, .load false 1 (.tmp 11), some (10, false)⟩ ::
    ⟨some 13, .bin .lss (.tmp 12) (.val (.int .i64 1)), some (10, false)⟩ ::
    ⟨some 14, .pick (.tmp 10) (.val (.bool true)) (.tmp 13), none⟩ ::
    ⟨some 15, .mov (.tmp 14), none⟩ ::
    ⟨some 16, .faddr 0 (.tmp 2), some (15, false)⟩ ::
    ⟨some 17, .load false 1 (.tmp 16), some (15, false)⟩ ::
    ⟨some 18, .bin .gtr (.tmp 17) (.val (.int .i64 6)), some (15, false)⟩ ::
    ⟨some 19, .pick (.tmp 15) (.val (.bool true)) (.tmp 18), none⟩ :: [])) <|
  .cond (.tmp 19) (.seq (.region (⟨some 20, .build [(.int .i64 0), (.int .i64 0)] [], none⟩ ::
      ⟨none, .store 2 (.tmp 4) (.tmp 20), none⟩ ::
      ⟨some 5, .mov (.val (.bool false)), none⟩ :: [])) <|
    .ret) <|
  .skip) <|
  .seq (.region (⟨some 21, .load true 4 (.tmp 2), none⟩ ::
    ⟨some 22, .mov (.tmp 1), none⟩ ::
    ⟨some 23, .callo (.val (.fn (.func 49) [])) [(.tmp 21), (.tmp 22)], none⟩ ::
    ⟨some 24, .callv (.val (.fn (.func 58) [])) [(.tmp 23)], none⟩ ::
    ⟨none, .store 2 (.tmp 4) (.tmp 24), none⟩ ::
    ⟨some 5, .mov (.val (.bool true)), none⟩ :: [])) <|
  .ret⟩
theorem e_linear_Ends : cFunc Try.prog kd_CLinear Try.f28 = some c_linear_Ends := by kernel_rfl
/- slices.ContainsFunc[[][]touchstone/api.Range,[]touchstone/api.Range]: slots s, 0, f, 1, s, 2, f, 3 -/
def c_slices_ContainsFunc_ssRange_sRange : AFunc := ⟨9, [.tmp 4],
  .seq (.region (⟨some 4, .mov (.val (.bool false)), none⟩ :: [])) <|
  .seq (.region (⟨some 5, .mov (.tmp 0), none⟩ ::
    ⟨some 6, .mov (.tmp 1), none⟩ ::
    ⟨some 7, .call (.val (.fn (.func 129) [])) [(.tmp 5), (.tmp 6)], none⟩ ::
    ⟨some 8, .bin .geq (.tmp 7) (.val (.int .i64 0)), none⟩ ::
    ⟨some 4, .mov (.tmp 8), none⟩ :: [])) <|
  .ret⟩
theorem e_slices_ContainsFunc_ssRange_sRange : cFunc Try.prog kd_CLinear Try.f112 = some c_slices_ContainsFunc_ssRange_sRange := by kernel_rfl
/- slices.IndexFunc[[][]touchstone/api.Range,[]touchstone/api.Range]: slots s, 0, f, 1, s, 2, f, 3, i, 5 -/
def c_slices_IndexFunc_ssRange_sRange : AFunc := ⟨19, [.tmp 4],
  .seq (.region (⟨some 4, .mov (.val (.int .i64 0)), none⟩ :: [])) <|
  .seq (.seq (.region (⟨some 6, .mov (.tmp 0), none⟩ ::
    ⟨some 7, .len false (.tmp 6), none⟩ ::
    ⟨some 8, .mov (.val (.int .i64 0)), none⟩ :: [])) <|
  .block 0 (.loop (.seq (.region (⟨some 9, .bin .lss (.tmp 8) (.tmp 7), none⟩ :: [])) <|
      .seq (.cond (.tmp 9) (.skip) <|
      .exit 0) <|
      .seq (.block 1 (.seq (.region (⟨some 10, .mov (.tmp 8), none⟩ ::
          ⟨some 5, .mov (.tmp 10), none⟩ :: [])) <|
        .seq (.region (⟨some 11, .mov (.tmp 1), none⟩ ::
          ⟨some 12, .mov (.tmp 0), none⟩ ::
          ⟨some 13, .mov (.tmp 5), none⟩ ::
          ⟨some 14, .iaddr 1 (.tmp 12) (.tmp 13), none⟩ ::
          ⟨some 15, .load false 1 (.tmp 14), none⟩ ::
          ⟨some 16, .call (.tmp 11) [(.tmp 15)], none⟩ :: [])) <|
        .cond (.tmp 16) (.seq (.region (⟨some 17, .mov (.tmp 5), none⟩ ::
            ⟨some 4, .mov (.tmp 17), none⟩ :: [])) <|
          .ret) <|
        .skip)) <|
      .region (⟨some 18, .bin .add (.tmp 8) (.val (.int .i64 1)), none⟩ ::
        ⟨some 8, .mov (.tmp 18), none⟩ :: [])))) <|
  .seq (.region (⟨some 4, .mov (.val (.int .i64 (-1))), none⟩ :: [])) <|
  .ret⟩
theorem e_slices_IndexFunc_ssRange_sRange : cFunc Try.prog kd_CLinear Try.f129 = some c_slices_IndexFunc_ssRange_sRange := by kernel_rfl
end Go.Proofs.Ytclpkkbamgmooaa
