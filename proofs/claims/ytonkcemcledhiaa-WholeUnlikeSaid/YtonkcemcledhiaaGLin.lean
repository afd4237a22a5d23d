/- The code of functions, as abstract code. Printed by program. What the functions of package linear compute: ends, span, opposite, whole, own, terms. What the functions of package linear compute, continued: terms, most. What the functions of package linear compute, continued: is, not, fit, Narrow, Ends. What the functions of package linear compute, continued: Narrow, Ends. -/
import Derived.Test.YtonkcemcledhiaaAv2
import Derived.Test.YtonkcemcledhiaaProg
import Derived.Test.YtonkcemcledhiaaPlMod
import Derived.Test.YtonkcemcledhiaaGSet
import Derived.Test.YtonkcemcledhiaaGMod
namespace Go.Proofs.Ytonkcemcledhiaa
open Av
set_option linter.unusedVariables false
set_option maxRecDepth 100000
def kd_CLinear (f : Nat) : Nat := if f = 41 then 2 else if f = 126 then 1 else if f = 87 then 1 else if f = 91 then 1 else if f = 90 then 2 else if f = 52 then 2 else if f = 51 then 2 else if f = 53 then 2 else if f = 54 then 2 else if f = 50 then 3 else 0
/- (*touchstone/linear.sum).ends: slots s, 0, t, 1, s, 2, t, 3, lo, 4, hi, 5, r, 6, _, 7 -/
def c_linear_sum_ends : AFunc := ⟨39, [.tmp 4, .tmp 5],
  .seq (.region (⟨some 3, .box 2 (.tmp 1), none⟩ ::
    ⟨some 4, .mov (.val (.int .i64 0)), none⟩ ::
    ⟨some 5, .mov (.val (.int .i64 0)), none⟩ :: [])) <|
  .seq (.region (⟨some 9, .mov (.tmp 0), none⟩ ::
    ⟨some 10, .nilc (.tmp 9), none⟩ ::
    ⟨some 11, .faddr 1 (.tmp 10), none⟩ ::
    ⟨some 12, .load false 1 (.tmp 11), none⟩ ::
    ⟨some 13, .faddr 1 (.tmp 3), none⟩ ::
    ⟨some 14, .load false 1 (.tmp 13), none⟩ ::
    ⟨some 15, .iaddr 1 (.tmp 12) (.tmp 14), none⟩ ::
    ⟨some 16, .load false 1 (.tmp 15), none⟩ ::
    ⟨some 17, .call (.val (.fn (.func 61) [])) [(.tmp 16)], none⟩ ::
    ⟨some 8, .mov (.tmp 17), none⟩ ::
    ⟨some 18, .ext (.tmp 8) 0, none⟩ ::
    ⟨some 19, .ext (.tmp 8) 1, none⟩ ::
    ⟨some 6, .alloc (.agg [(.int .i64 0), (.int .i64 0)]), none⟩ ::
    ⟨none, .store 2 (.tmp 6) (.tmp 18), none⟩ ::
    ⟨some 7, .mov (.tmp 19), none⟩ :: [])) <|
  .seq (.seq (.region (⟨some 20, .faddr 0 (.tmp 3), none⟩ ::
    ⟨some 21, .load false 1 (.tmp 20), none⟩ ::
    ⟨some 22, .bin .lss (.tmp 21) (.val (.int .i64 0)), none⟩ :: [])) <|
  .cond (.tmp 22) (.region (⟨some 23, .faddr 1 (.tmp 6), none⟩ ::
      ⟨some 24, .load false 1 (.tmp 23), none⟩ ::
      ⟨some 25, .faddr 0 (.tmp 6), none⟩ ::
      ⟨some 26, .load false 1 (.tmp 25), none⟩ ::
      ⟨some 27, .faddr 0 (.tmp 6), none⟩ ::
      ⟨none, .store 1 (.tmp 27) (.tmp 24), none⟩ ::
      ⟨some 28, .faddr 1 (.tmp 6), none⟩ ::
      ⟨none, .store 1 (.tmp 28) (.tmp 26), none⟩ :: [])) <|
  .skip) <|
  .seq (.region (⟨some 29, .faddr 0 (.tmp 3), none⟩ ::
    ⟨some 30, .load false 1 (.tmp 29), none⟩ ::
    ⟨some 31, .faddr 0 (.tmp 6), none⟩ ::
    ⟨some 32, .load false 1 (.tmp 31), none⟩ ::
    ⟨some 33, .bin .mul (.tmp 30) (.tmp 32), none⟩ ::
    ⟨some 34, .faddr 0 (.tmp 3), none⟩ ::
    ⟨some 35, .load false 1 (.tmp 34), none⟩ ::
    ⟨some 36, .faddr 1 (.tmp 6), none⟩ ::
    ⟨some 37, .load false 1 (.tmp 36), none⟩ ::
    ⟨some 38, .bin .mul (.tmp 35) (.tmp 37), none⟩ ::
    ⟨some 4, .mov (.tmp 33), none⟩ ::
    ⟨some 5, .mov (.tmp 38), none⟩ :: [])) <|
  .ret⟩
theorem e_linear_sum_ends : cFunc Try.prog kd_CLinear Try.f126 = some c_linear_sum_ends := by kernel_rfl
/- (*touchstone/linear.sum).span: slots s, 0, s, 1, out, 3, _, 4, t, 5, lo, 6, hi, 7 -/
def c_linear_sum_span : AFunc := ⟨35, [.cell 2 true 2],
  .seq (.region (⟨some 2, .alloc (.agg [(.int .i64 0), (.int .i64 0)]), none⟩ :: [])) <|
  .seq (.region (⟨some 3, .alloc (.agg [(.int .i64 0), (.int .i64 0)]), none⟩ :: [])) <|
  .seq (.seq (.region (⟨some 8, .mov (.tmp 0), none⟩ ::
    ⟨some 9, .nilc (.tmp 8), none⟩ ::
    ⟨some 10, .faddr 0 (.tmp 9), none⟩ ::
    ⟨some 11, .load false 1 (.tmp 10), none⟩ ::
    ⟨some 12, .len false (.tmp 11), none⟩ ::
    ⟨some 13, .mov (.val (.int .i64 0)), none⟩ :: [])) <|
  .block 0 (.loop (.seq (.region (⟨some 14, .bin .lss (.tmp 13) (.tmp 12), none⟩ :: [])) <|
      .seq (.cond (.tmp 14) (.skip) <|
      .exit 0) <|
      .seq (.block 1 (.seq (.region (⟨some 15, .iaddr 2 (.tmp 11) (.tmp 13), none⟩ ::
          ⟨some 16, .load true 2 (.tmp 15), none⟩ ::
          ⟨some 5, .alloc (.agg [(.int .i64 0), (.int .i64 0)]), none⟩ ::
          ⟨none, .store 2 (.tmp 5) (.tmp 16), none⟩ :: [])) <|
        .seq (.region (⟨some 18, .mov (.tmp 0), none⟩ ::
          ⟨some 19, .load true 2 (.tmp 5), none⟩ ::
          ⟨some 20, .callv (.val (.fn (.func 126) [])) [(.tmp 18), (.tmp 19)], none⟩ ::
          ⟨some 17, .mov (.tmp 20), none⟩ ::
          ⟨some 21, .ext (.tmp 17) 0, none⟩ ::
          ⟨some 22, .ext (.tmp 17) 1, none⟩ ::
          ⟨some 6, .mov (.tmp 21), none⟩ ::
          ⟨some 7, .mov (.tmp 22), none⟩ :: [])) <|
        .seq (.region (⟨some 23, .faddr 0 (.tmp 3), none⟩ ::
          ⟨some 24, .load false 1 (.tmp 23), none⟩ ::
          ⟨some 25, .mov (.tmp 6), none⟩ ::
          ⟨some 26, .bin .add (.tmp 24) (.tmp 25), none⟩ ::
          ⟨some 27, .faddr 0 (.tmp 3), none⟩ ::
          ⟨none, .store 1 (.tmp 27) (.tmp 26), none⟩ :: [])) <|
        .region (⟨some 28, .faddr 1 (.tmp 3), none⟩ ::
          ⟨some 29, .load false 1 (.tmp 28), none⟩ ::
          ⟨some 30, .mov (.tmp 7), none⟩ ::
          ⟨some 31, .bin .add (.tmp 29) (.tmp 30), none⟩ ::
          ⟨some 32, .faddr 1 (.tmp 3), none⟩ ::
          ⟨none, .store 1 (.tmp 32) (.tmp 31), none⟩ :: []))) <|
      .region (⟨some 33, .bin .add (.tmp 13) (.val (.int .i64 1)), none⟩ ::
        ⟨some 13, .mov (.tmp 33), none⟩ :: [])))) <|
  .seq (.region (⟨some 34, .load true 2 (.tmp 3), none⟩ ::
    ⟨none, .store 2 (.tmp 2) (.tmp 34), none⟩ :: [])) <|
  .ret⟩
theorem e_linear_sum_span : cFunc Try.prog kd_CLinear Try.f87 = some c_linear_sum_span := by kernel_rfl
/- (*touchstone/linear.sum).opposite: slots s, 0, s, 1, i, 2 -/
def c_linear_sum_opposite : AFunc := ⟨28, [],
  .seq (.region (⟨some 3, .mov (.tmp 0), none⟩ ::
    ⟨some 4, .nilc (.tmp 3), none⟩ ::
    ⟨some 5, .faddr 0 (.tmp 4), none⟩ ::
    ⟨some 6, .load false 1 (.tmp 5), none⟩ ::
    ⟨some 7, .len false (.tmp 6), none⟩ ::
    ⟨some 8, .mov (.val (.int .i64 0)), none⟩ :: [])) <|
  .block 0 (.loop (.seq (.region (⟨some 9, .bin .lss (.tmp 8) (.tmp 7), none⟩ :: [])) <|
      .seq (.cond (.tmp 9) (.skip) <|
      .exit 0) <|
      .seq (.block 1 (.seq (.region (⟨some 10, .mov (.tmp 8), none⟩ ::
          ⟨some 2, .mov (.tmp 10), none⟩ :: [])) <|
        .region (⟨some 11, .mov (.tmp 0), none⟩ ::
          ⟨some 12, .nilc (.tmp 11), none⟩ ::
          ⟨some 13, .faddr 0 (.tmp 12), none⟩ ::
          ⟨some 14, .load false 1 (.tmp 13), none⟩ ::
          ⟨some 15, .mov (.tmp 2), none⟩ ::
          ⟨some 16, .mov (.tmp 0), none⟩ ::
          ⟨some 17, .nilc (.tmp 16), none⟩ ::
          ⟨some 18, .faddr 0 (.tmp 17), none⟩ ::
          ⟨some 19, .load false 1 (.tmp 18), none⟩ ::
          ⟨some 20, .mov (.tmp 2), none⟩ ::
          ⟨some 21, .iaddr 2 (.tmp 19) (.tmp 20), none⟩ ::
          ⟨some 22, .faddr 0 (.tmp 21), none⟩ ::
          ⟨some 23, .load false 1 (.tmp 22), none⟩ ::
          ⟨some 24, .un .neg (.tmp 23), none⟩ ::
          ⟨some 25, .iaddr 2 (.tmp 14) (.tmp 15), none⟩ ::
          ⟨some 26, .faddr 0 (.tmp 25), none⟩ ::
          ⟨none, .store 1 (.tmp 26) (.tmp 24), none⟩ :: []))) <|
      .region (⟨some 27, .bin .add (.tmp 8) (.val (.int .i64 1)), none⟩ ::
        ⟨some 8, .mov (.tmp 27), none⟩ :: [])))⟩
theorem e_linear_sum_opposite : cFunc Try.prog kd_CLinear Try.f90 = some c_linear_sum_opposite := by kernel_rfl
/- (*touchstone/linear.sum).most: slots s, 0, n, 1, s, 2, n, 3, room, 5, was, 6, _, 7, t, 8, r, 9, _, 10 -/
def c_linear_sum_most : AFunc := ⟨95, [.tmp 4],
  .seq (.region (⟨some 4, .mov (.val (.bool false)), none⟩ :: [])) <|
  .seq (.region (⟨some 11, .mov (.tmp 1), none⟩ ::
    ⟨some 12, .mov (.tmp 0), none⟩ ::
    ⟨some 13, .callv (.val (.fn (.func 87) [])) [(.tmp 12)], none⟩ ::
    ⟨some 14, .fld false 1 0 (.tmp 13), none⟩ ::
    ⟨some 15, .bin .sub (.tmp 11) (.tmp 14), none⟩ ::
    ⟨some 5, .mov (.tmp 15), none⟩ :: [])) <|
  .seq (.seq (.region (⟨some 16, .mov (.tmp 5), none⟩ ::
    ⟨some 17, .bin .lss (.tmp 16) (.val (.int .i64 0)), none⟩ :: [])) <|
  .cond (.tmp 17) (.seq (.region (⟨some 4, .mov (.val (.bool false)), none⟩ :: [])) <|
    .ret) <|
  .skip) <|
  .seq (.region (⟨some 18, .mov (.tmp 0), none⟩ ::
    ⟨some 19, .nilc (.tmp 18), none⟩ ::
    ⟨some 20, .faddr 1 (.tmp 19), none⟩ ::
    ⟨some 21, .load false 1 (.tmp 20), none⟩ ::
    ⟨some 22, .callm (.val (.fn (.func 41) [])) [(.tmp 21)], none⟩ ::
    ⟨some 6, .mov (.tmp 22), none⟩ :: [])) <|
  .seq (.seq (.region (⟨some 23, .mov (.tmp 0), none⟩ ::
    ⟨some 24, .nilc (.tmp 23), none⟩ ::
    ⟨some 25, .faddr 0 (.tmp 24), none⟩ ::
    ⟨some 26, .load false 1 (.tmp 25), none⟩ ::
    ⟨some 27, .len false (.tmp 26), none⟩ ::
    ⟨some 28, .mov (.val (.int .i64 0)), none⟩ :: [])) <|
  .block 0 (.loop (.seq (.region (⟨some 29, .bin .lss (.tmp 28) (.tmp 27), none⟩ :: [])) <|
      .seq (.cond (.tmp 29) (.skip) <|
      .exit 0) <|
      .seq (.block 1 (.seq (.region (⟨some 30, .iaddr 2 (.tmp 26) (.tmp 28), none⟩ ::
          ⟨some 31, .load true 2 (.tmp 30), none⟩ ::
          ⟨some 8, .alloc (.agg [(.int .i64 0), (.int .i64 0)]), none⟩ ::
          ⟨none, .store 2 (.tmp 8) (.tmp 31), none⟩ :: [])) <|
        .seq (.region (⟨some 33, .mov (.tmp 6), none⟩ ::
          ⟨some 34, .faddr 1 (.tmp 8), none⟩ ::
          ⟨some 35, .load false 1 (.tmp 34), none⟩ ::
          ⟨some 36, .iaddr 1 (.tmp 33) (.tmp 35), none⟩ ::
          ⟨some 37, .load false 1 (.tmp 36), none⟩ ::
          ⟨some 38, .call (.val (.fn (.func 61) [])) [(.tmp 37)], none⟩ ::
          ⟨some 32, .mov (.tmp 38), none⟩ ::
          ⟨some 39, .ext (.tmp 32) 0, none⟩ ::
          ⟨some 40, .ext (.tmp 32) 1, none⟩ ::
          ⟨some 9, .alloc (.agg [(.int .i64 0), (.int .i64 0)]), none⟩ ::
          ⟨none, .store 2 (.tmp 9) (.tmp 39), none⟩ ::
          ⟨some 10, .mov (.tmp 40), none⟩ :: [])) <|
        .seq (.block 2 (.seq (.region (⟨some 42, .faddr 0 (.tmp 8), none⟩ ::
            ⟨some 43, .load false 1 (.tmp 42), none⟩ ::
            ⟨some 44, .bin .gtr (.tmp 43) (.val (.int .i64 0)), none⟩ ::
            ⟨some 41, .mov (.tmp 44), none⟩ :: [])) <|
          .cond (.tmp 41) (.region (⟨some 45, .faddr 1 (.tmp 9), none⟩ ::
              ⟨some 46, .load false 1 (.tmp 45), none⟩ ::
              ⟨some 47, .faddr 0 (.tmp 9), none⟩ ::
              ⟨some 48, .load false 1 (.tmp 47), none⟩ ::
              ⟨some 49, .mov (.tmp 5), none⟩ ::
              ⟨some 50, .faddr 0 (.tmp 8), none⟩ ::
              ⟨some 51, .load false 1 (.tmp 50), none⟩ ::
              ⟨some 52, .bin .quo (.tmp 49) (.tmp 51), none⟩ ::
              ⟨some 53, .bin .add (.tmp 48) (.tmp 52), none⟩ ::
              ⟨some 54, .mn (.tmp 46) [(.tmp 53)], none⟩ ::
              ⟨some 55, .faddr 1 (.tmp 9), none⟩ ::
              ⟨none, .store 1 (.tmp 55) (.tmp 54), none⟩ :: [])) <|
          .seq (.region (⟨some 57, .faddr 0 (.tmp 8), none⟩ ::
            ⟨some 58, .load false 1 (.tmp 57), none⟩ ::
            ⟨some 59, .bin .lss (.tmp 58) (.val (.int .i64 0)), none⟩ ::
            ⟨some 56, .mov (.tmp 59), none⟩ :: [])) <|
          .cond (.tmp 56) (.region (⟨some 60, .faddr 0 (.tmp 9), none⟩ ::
              ⟨some 61, .load false 1 (.tmp 60), none⟩ ::
              ⟨some 62, .faddr 1 (.tmp 9), none⟩ ::
              ⟨some 63, .load false 1 (.tmp 62), none⟩ ::
              ⟨some 64, .mov (.tmp 5), none⟩ ::
              ⟨some 65, .faddr 0 (.tmp 8), none⟩ ::
              ⟨some 66, .load false 1 (.tmp 65), none⟩ ::
              ⟨some 67, .un .neg (.tmp 66), none⟩ ::
              ⟨some 68, .bin .quo (.tmp 64) (.tmp 67), none⟩ ::
              ⟨some 69, .bin .sub (.tmp 63) (.tmp 68), none⟩ ::
              ⟨some 70, .mx (.tmp 61) [(.tmp 69)], none⟩ ::
              ⟨some 71, .faddr 0 (.tmp 9), none⟩ ::
              ⟨none, .store 1 (.tmp 71) (.tmp 70), none⟩ :: [])) <|
          .skip)) <|
        .region (⟨some 72, .mov (.tmp 0), none⟩ ::
          ⟨some 73, .nilc (.tmp 72), none⟩ ::
          ⟨some 74, .faddr 1 (.tmp 73), none⟩ ::
          ⟨some 75, .load false 1 (.tmp 74), none⟩ ::
          ⟨some 76, .faddr 1 (.tmp 8), none⟩ ::
          ⟨some 77, .load false 1 (.tmp 76), none⟩ ::
          ⟨some 78, .mov (.tmp 0), none⟩ ::
          ⟨some 79, .nilc (.tmp 78), none⟩ ::
          ⟨some 80, .faddr 1 (.tmp 79), none⟩ ::
          ⟨some 81, .load false 1 (.tmp 80), none⟩ ::
          ⟨some 82, .faddr 1 (.tmp 8), none⟩ ::
          ⟨some 83, .load false 1 (.tmp 82), none⟩ ::
          ⟨some 84, .iaddr 1 (.tmp 81) (.tmp 83), none⟩ ::
          ⟨some 85, .load false 1 (.tmp 84), none⟩ ::
          ⟨some 86, .faddr 0 (.tmp 9), none⟩ ::
          ⟨some 87, .load false 1 (.tmp 86), none⟩ ::
          ⟨some 88, .faddr 1 (.tmp 9), none⟩ ::
          ⟨some 89, .load false 1 (.tmp 88), none⟩ ::
          ⟨some 90, .call (.val (.fn (.func 64) [])) [(.tmp 85), (.tmp 87), (.tmp 89)], none⟩ ::
          ⟨some 91, .iaddr 1 (.tmp 75) (.tmp 77), none⟩ ::
          ⟨none, .store 1 (.tmp 91) (.tmp 90), none⟩ :: []))) <|
      .region (⟨some 92, .bin .add (.tmp 28) (.val (.int .i64 1)), none⟩ ::
        ⟨some 28, .mov (.tmp 92), none⟩ :: [])))) <|
  .seq (.region (⟨some 93, .mov (.tmp 0), none⟩ ::
    ⟨some 94, .callv (.val (.fn (.func 91) [])) [(.tmp 93)], none⟩ ::
    ⟨some 4, .mov (.tmp 94), none⟩ :: [])) <|
  .ret⟩
theorem e_linear_sum_most : cFunc Try.prog kd_CLinear Try.f52 = some c_linear_sum_most := by kernel_rfl
/- (*touchstone/linear.sum).whole: slots s, 0, s, 1 -/
def c_linear_sum_whole : AFunc := ⟨9, [.tmp 2],
  .seq (.region (⟨some 2, .mov (.val (.bool false)), none⟩ :: [])) <|
  .seq (.region (⟨some 3, .mov (.tmp 0), none⟩ ::
    ⟨some 4, .nilc (.tmp 3), none⟩ ::
    ⟨some 5, .faddr 1 (.tmp 4), none⟩ ::
    ⟨some 6, .load false 1 (.tmp 5), none⟩ ::
    ⟨some 7, .call (.val (.fn (.func 131) [])) [(.tmp 6), (.val (.fn (.func 132) []))], none⟩ ::
    ⟨some 8, .un .not (.tmp 7), none⟩ ::
    ⟨some 2, .mov (.tmp 8), none⟩ :: [])) <|
  .ret⟩
theorem e_linear_sum_whole : cFunc Try.prog kd_CLinear Try.f91 = some c_linear_sum_whole := by kernel_rfl
/- (*touchstone/linear.sum).whole$1: slots d, 0, d, 1 -/
def c_linear_sum_whole_1 : AFunc := ⟨6, [.tmp 2],
  .seq (.region (⟨some 2, .mov (.val (.bool false)), none⟩ :: [])) <|
  .seq (.region (⟨some 3, .mov (.tmp 0), none⟩ ::
    ⟨some 4, .len false (.tmp 3), none⟩ ::
    ⟨some 5, .bin .eql (.tmp 4) (.val (.int .i64 0)), none⟩ ::
    ⟨some 2, .mov (.tmp 5), none⟩ :: [])) <|
  .ret⟩
theorem e_linear_sum_whole_1 : cFunc Try.prog kd_CLinear Try.f132 = some c_linear_sum_whole_1 := by kernel_rfl
/- (*touchstone/linear.sum).is: slots s, 0, n, 1, s, 2, n, 3 -/
def c_linear_sum_is : AFunc := ⟨15, [.tmp 4],
  .seq (.region (⟨some 4, .mov (.val (.bool false)), none⟩ :: [])) <|
  .seq (.seq (.region (⟨some 5, .mov (.tmp 0), none⟩ ::
    ⟨some 6, .mov (.tmp 1), none⟩ ::
    ⟨some 7, .callm (.val (.fn (.func 52) [])) [(.tmp 5), (.tmp 6)], none⟩ ::
    ⟨some 8, .un .not (.tmp 7), none⟩ :: [])) <|
  .cond (.tmp 8) (.seq (.region (⟨some 4, .mov (.val (.bool false)), none⟩ :: [])) <|
    .ret) <|
  .skip) <|
  .seq (.region (⟨some 9, .mov (.tmp 0), none⟩ ::
    ⟨some 10, .callm (.val (.fn (.func 90) [])) [(.tmp 9)], none⟩ :: [])) <|
  .seq (.region (⟨some 11, .mov (.tmp 0), none⟩ ::
    ⟨some 12, .mov (.tmp 1), none⟩ ::
    ⟨some 13, .un .neg (.tmp 12), none⟩ ::
    ⟨some 14, .callm (.val (.fn (.func 52) [])) [(.tmp 11), (.tmp 13)], none⟩ ::
    ⟨some 4, .mov (.tmp 14), none⟩ :: [])) <|
  .ret⟩
theorem e_linear_sum_is : cFunc Try.prog kd_CLinear Try.f51 = some c_linear_sum_is := by kernel_rfl
/- (*touchstone/linear.sum).not: slots s, 0, n, 1, s, 2, n, 3, open, 5, _, 6, t, 7, r, 8, _, 9, x, 10 -/
def c_linear_sum_not : AFunc := ⟨98, [.tmp 4],
  .seq (.region (⟨some 4, .mov (.val (.bool false)), none⟩ :: [])) <|
  .seq (.region (⟨some 5, .mov (.val .nils), none⟩ :: [])) <|
  .seq (.seq (.region (⟨some 11, .mov (.tmp 0), none⟩ ::
    ⟨some 12, .nilc (.tmp 11), none⟩ ::
    ⟨some 13, .faddr 0 (.tmp 12), none⟩ ::
    ⟨some 14, .load false 1 (.tmp 13), none⟩ ::
    ⟨some 15, .len false (.tmp 14), none⟩ ::
    ⟨some 16, .mov (.val (.int .i64 0)), none⟩ :: [])) <|
  .block 0 (.loop (.seq (.region (⟨some 17, .bin .lss (.tmp 16) (.tmp 15), none⟩ :: [])) <|
      .seq (.cond (.tmp 17) (.skip) <|
      .exit 0) <|
      .seq (.block 1 (.seq (.region (⟨some 18, .iaddr 2 (.tmp 14) (.tmp 16), none⟩ ::
          ⟨some 19, .load true 2 (.tmp 18), none⟩ ::
          ⟨some 7, .alloc (.agg [(.int .i64 0), (.int .i64 0)]), none⟩ ::
          ⟨none, .store 2 (.tmp 7) (.tmp 19), none⟩ :: [])) <|
        .seq (.region (⟨some 21, .mov (.tmp 0), none⟩ ::
          ⟨some 22, .nilc (.tmp 21), none⟩ ::
          ⟨some 23, .faddr 1 (.tmp 22), none⟩ ::
          ⟨some 24, .load false 1 (.tmp 23), none⟩ ::
          ⟨some 25, .faddr 1 (.tmp 7), none⟩ ::
          ⟨some 26, .load false 1 (.tmp 25), none⟩ ::
          ⟨some 27, .iaddr 1 (.tmp 24) (.tmp 26), none⟩ ::
          ⟨some 28, .load false 1 (.tmp 27), none⟩ ::
          ⟨some 29, .call (.val (.fn (.func 61) [])) [(.tmp 28)], none⟩ ::
          ⟨some 20, .mov (.tmp 29), none⟩ ::
          ⟨some 30, .ext (.tmp 20) 0, none⟩ ::
          ⟨some 31, .ext (.tmp 20) 1, none⟩ ::
          ⟨some 8, .alloc (.agg [(.int .i64 0), (.int .i64 0)]), none⟩ ::
          ⟨none, .store 2 (.tmp 8) (.tmp 30), none⟩ ::
          ⟨some 9, .mov (.tmp 31), none⟩ :: [])) <|
        .seq (.region (⟨some 32, .faddr 0 (.tmp 7), none⟩ ::
          ⟨some 33, .load false 1 (.tmp 32), none⟩ ::
          ⟨some 34, .bin .eql (.tmp 33) (.val (.int .i64 0)), none⟩ ::
          ⟨some 35, .mov (.tmp 34), none⟩ ::
          ⟨some 36, .faddr 0 (.tmp 8), some (35, false)⟩ ::
          ⟨some 37, .load false 1 (.tmp 36), some (35, false)⟩ ::
          ⟨some 38, .faddr 1 (.tmp 8), some (35, false)⟩ ::
          ⟨some 39, .load false 1 (.tmp 38), some (35, false)⟩ ::
          ⟨some 40, .bin .eql (.tmp 37) (.tmp 39), some (35, false)⟩ ::
          ⟨some 41, .pick (.tmp 35) (.val (.bool true)) (.tmp 40), none⟩ :: [])) <|
        .cond (.tmp 41) (.region (⟨some 42, .mov (.tmp 1), none⟩ ::
            ⟨some 43, .faddr 0 (.tmp 7), none⟩ ::
            ⟨some 44, .load false 1 (.tmp 43), none⟩ ::
            ⟨some 45, .faddr 0 (.tmp 8), none⟩ ::
            ⟨some 46, .load false 1 (.tmp 45), none⟩ ::
            ⟨some 47, .bin .mul (.tmp 44) (.tmp 46), none⟩ ::
            ⟨some 48, .bin .sub (.tmp 42) (.tmp 47), none⟩ ::
            ⟨some 1, .mov (.tmp 48), none⟩ :: [])) <|
        .region (⟨some 49, .mov (.tmp 5), none⟩ ::
          ⟨some 50, .load true 2 (.tmp 7), none⟩ ::
          ⟨some 51, .bslice 2 [(.tmp 50)], none⟩ ::
          ⟨some 52, .app 2 16 (.tmp 49) (.tmp 51), none⟩ ::
          ⟨some 5, .mov (.tmp 52), none⟩ :: []))) <|
      .region (⟨some 53, .bin .add (.tmp 16) (.val (.int .i64 1)), none⟩ ::
        ⟨some 16, .mov (.tmp 53), none⟩ :: [])))) <|
  .seq (.block 2 (.seq (.region (⟨some 55, .mov (.tmp 5), none⟩ ::
      ⟨some 56, .len false (.tmp 55), none⟩ ::
      ⟨some 57, .bin .gtr (.tmp 56) (.val (.int .i64 1)), none⟩ ::
      ⟨some 54, .mov (.tmp 57), none⟩ :: [])) <|
    .cond (.tmp 54) (.seq (.region (⟨some 4, .mov (.val (.bool true)), none⟩ :: [])) <|
      .ret) <|
    .seq (.region (⟨some 59, .mov (.tmp 5), none⟩ ::
      ⟨some 60, .len false (.tmp 59), none⟩ ::
      ⟨some 61, .bin .eql (.tmp 60) (.val (.int .i64 0)), none⟩ ::
      ⟨some 58, .mov (.tmp 61), none⟩ :: [])) <|
    .cond (.tmp 58) (.seq (.region (⟨some 62, .mov (.tmp 1), none⟩ ::
        ⟨some 63, .bin .neq (.tmp 62) (.val (.int .i64 0)), none⟩ ::
        ⟨some 4, .mov (.tmp 63), none⟩ :: [])) <|
      .ret) <|
    .seq (.region (⟨some 65, .mov (.tmp 1), none⟩ ::
      ⟨some 66, .mov (.tmp 5), none⟩ ::
      ⟨some 67, .iaddr 2 (.tmp 66) (.val (.int .i64 0)), none⟩ ::
      ⟨some 68, .faddr 0 (.tmp 67), none⟩ ::
      ⟨some 69, .load false 1 (.tmp 68), none⟩ ::
      ⟨some 70, .bin .rem (.tmp 65) (.tmp 69), none⟩ ::
      ⟨some 71, .bin .neq (.tmp 70) (.val (.int .i64 0)), none⟩ ::
      ⟨some 64, .mov (.tmp 71), none⟩ :: [])) <|
    .cond (.tmp 64) (.seq (.region (⟨some 4, .mov (.val (.bool true)), none⟩ :: [])) <|
      .ret) <|
    .skip)) <|
  .seq (.region (⟨some 72, .mov (.tmp 5), none⟩ ::
    ⟨some 73, .iaddr 2 (.tmp 72) (.val (.int .i64 0)), none⟩ ::
    ⟨some 74, .faddr 1 (.tmp 73), none⟩ ::
    ⟨some 75, .load false 1 (.tmp 74), none⟩ ::
    ⟨some 10, .mov (.tmp 75), none⟩ :: [])) <|
  .seq (.region (⟨some 76, .mov (.tmp 0), none⟩ ::
    ⟨some 77, .nilc (.tmp 76), none⟩ ::
    ⟨some 78, .faddr 1 (.tmp 77), none⟩ ::
    ⟨some 79, .load false 1 (.tmp 78), none⟩ ::
    ⟨some 80, .mov (.tmp 10), none⟩ ::
    ⟨some 81, .mov (.tmp 0), none⟩ ::
    ⟨some 82, .nilc (.tmp 81), none⟩ ::
    ⟨some 83, .faddr 1 (.tmp 82), none⟩ ::
    ⟨some 84, .load false 1 (.tmp 83), none⟩ ::
    ⟨some 85, .mov (.tmp 10), none⟩ ::
    ⟨some 86, .iaddr 1 (.tmp 84) (.tmp 85), none⟩ ::
    ⟨some 87, .load false 1 (.tmp 86), none⟩ ::
    ⟨some 88, .mov (.tmp 1), none⟩ ::
    ⟨some 89, .mov (.tmp 5), none⟩ ::
    ⟨some 90, .iaddr 2 (.tmp 89) (.val (.int .i64 0)), none⟩ ::
    ⟨some 91, .faddr 0 (.tmp 90), none⟩ ::
    ⟨some 92, .load false 1 (.tmp 91), none⟩ ::
    ⟨some 93, .bin .quo (.tmp 88) (.tmp 92), none⟩ ::
    ⟨some 94, .call (.val (.fn (.func 92) [])) [(.tmp 87), (.tmp 93)], none⟩ ::
    ⟨some 95, .iaddr 1 (.tmp 79) (.tmp 80), none⟩ ::
    ⟨none, .store 1 (.tmp 95) (.tmp 94), none⟩ :: [])) <|
  .seq (.region (⟨some 96, .mov (.tmp 0), none⟩ ::
    ⟨some 97, .callv (.val (.fn (.func 91) [])) [(.tmp 96)], none⟩ ::
    ⟨some 4, .mov (.tmp 97), none⟩ :: [])) <|
  .ret⟩
theorem e_linear_sum_not : cFunc Try.prog kd_CLinear Try.f53 = some c_linear_sum_not := by kernel_rfl
/- touchstone/linear.own: slots d, 0, d, 1, out, 3, _, 4, x, 5 -/
def c_linear_own : AFunc := ⟨19, [.tmp 2],
  .seq (.region (⟨some 2, .mov (.val .nils), none⟩ :: [])) <|
  .seq (.region (⟨some 3, .mov (.val .nils), none⟩ :: [])) <|
  .seq (.seq (.region (⟨some 6, .mov (.tmp 0), none⟩ ::
    ⟨some 7, .len false (.tmp 6), none⟩ ::
    ⟨some 8, .mov (.val (.int .i64 0)), none⟩ :: [])) <|
  .block 0 (.loop (.seq (.region (⟨some 9, .bin .lss (.tmp 8) (.tmp 7), none⟩ :: [])) <|
      .seq (.cond (.tmp 9) (.skip) <|
      .exit 0) <|
      .seq (.block 1 (.seq (.region (⟨some 10, .iaddr 1 (.tmp 6) (.tmp 8), none⟩ ::
          ⟨some 11, .load false 1 (.tmp 10), none⟩ ::
          ⟨some 5, .mov (.tmp 11), none⟩ :: [])) <|
        .region (⟨some 12, .mov (.tmp 3), none⟩ ::
          ⟨some 13, .mov (.tmp 5), none⟩ ::
          ⟨some 14, .call (.val (.fn (.func 45) [])) [(.tmp 13)], none⟩ ::
          ⟨some 15, .bslice 1 [(.tmp 14)], none⟩ ::
          ⟨some 16, .app 1 24 (.tmp 12) (.tmp 15), none⟩ ::
          ⟨some 3, .mov (.tmp 16), none⟩ :: []))) <|
      .region (⟨some 17, .bin .add (.tmp 8) (.val (.int .i64 1)), none⟩ ::
        ⟨some 8, .mov (.tmp 17), none⟩ :: [])))) <|
  .seq (.region (⟨some 18, .mov (.tmp 3), none⟩ ::
    ⟨some 2, .mov (.tmp 18), none⟩ :: [])) <|
  .ret⟩
theorem e_linear_own : cFunc Try.prog kd_CLinear Try.f54 = some c_linear_own := by kernel_rfl
/- touchstone/linear.terms: slots c, 0, d, 1, c, 2, d, 3, s, 5, i, 6, a, 7 -/
def c_linear_terms : AFunc := ⟨38, [.tmp 4],
  .seq (.region (⟨some 2, .box 4 (.tmp 0), none⟩ ::
    ⟨some 4, .mov (.val .nilp), none⟩ :: [])) <|
  .seq (.region (⟨some 8, .mov (.tmp 1), none⟩ ::
    ⟨some 9, .callm (.val (.fn (.func 41) [])) [(.tmp 8)], none⟩ ::
    ⟨some 10, .build [.nils, .nils] [(0, 1, (.val .nils)), (1, 1, (.tmp 9))], none⟩ ::
    ⟨some 11, .box 2 (.tmp 10), none⟩ ::
    ⟨some 5, .mov (.tmp 11), none⟩ :: [])) <|
  .seq (.seq (.region (⟨some 12, .faddr 2 (.tmp 2), none⟩ ::
    ⟨some 13, .load false 1 (.tmp 12), none⟩ ::
    ⟨some 14, .len false (.tmp 13), none⟩ ::
    ⟨some 15, .mov (.val (.int .i64 0)), none⟩ :: [])) <|
  .block 0 (.loop (.seq (.region (⟨some 16, .bin .lss (.tmp 15) (.tmp 14), none⟩ :: [])) <|
      .seq (.cond (.tmp 16) (.skip) <|
      .exit 0) <|
      .seq (.block 1 (.seq (.region (⟨some 17, .mov (.tmp 15), none⟩ ::
          ⟨some 18, .iaddr 1 (.tmp 13) (.tmp 15), none⟩ ::
          ⟨some 19, .load false 1 (.tmp 18), none⟩ ::
          ⟨some 6, .mov (.tmp 17), none⟩ ::
          ⟨some 7, .mov (.tmp 19), none⟩ :: [])) <|
        .region (⟨some 20, .mov (.tmp 5), none⟩ ::
          ⟨some 21, .mov (.tmp 5), none⟩ ::
          ⟨some 22, .nilc (.tmp 21), none⟩ ::
          ⟨some 23, .faddr 0 (.tmp 22), none⟩ ::
          ⟨some 24, .load false 1 (.tmp 23), none⟩ ::
          ⟨some 25, .mov (.tmp 7), none⟩ ::
          ⟨some 26, .faddr 1 (.tmp 2), none⟩ ::
          ⟨some 27, .load false 1 (.tmp 26), none⟩ ::
          ⟨some 28, .mov (.tmp 6), none⟩ ::
          ⟨some 29, .iaddr 1 (.tmp 27) (.tmp 28), none⟩ ::
          ⟨some 30, .load false 1 (.tmp 29), none⟩ ::
          ⟨some 31, .build [(.int .i64 0), (.int .i64 0)] [(0, 1, (.tmp 25)), (1, 1, (.tmp 30))], none⟩ ::
          ⟨some 32, .bslice 2 [(.tmp 31)], none⟩ ::
          ⟨some 33, .app 2 16 (.tmp 24) (.tmp 32), none⟩ ::
          ⟨some 34, .nilc (.tmp 20), none⟩ ::
          ⟨some 35, .faddr 0 (.tmp 34), none⟩ ::
          ⟨none, .store 1 (.tmp 35) (.tmp 33), none⟩ :: []))) <|
      .region (⟨some 36, .bin .add (.tmp 15) (.val (.int .i64 1)), none⟩ ::
        ⟨some 15, .mov (.tmp 36), none⟩ :: [])))) <|
  .seq (.region (⟨some 37, .mov (.tmp 5), none⟩ ::
    ⟨some 4, .mov (.tmp 37), none⟩ :: [])) <|
  .ret⟩
theorem e_linear_terms : cFunc Try.prog kd_CLinear Try.f50 = some c_linear_terms := by kernel_rfl
/- touchstone/linear.fit: slots c, 0, d, 1, c, 2, d, 3 -/
def c_linear_fit : AFunc := ⟨10, [.tmp 4],
  .seq (.region (⟨some 2, .box 4 (.tmp 0), none⟩ ::
    ⟨some 4, .mov (.val (.bool false)), none⟩ :: [])) <|
  .seq (.region (⟨some 5, .mov (.tmp 1), none⟩ ::
    ⟨some 6, .load true 4 (.tmp 2), none⟩ ::
    ⟨some 7, .bslice 4 [(.tmp 6)], none⟩ ::
    ⟨some 8, .build [.nils, .nils, (.int .i64 0), (.int .i64 0)] [(0, 1, (.tmp 5)), (1, 1, (.tmp 7))], none⟩ ::
    ⟨some 9, .call (.val (.fn (.func 40) [])) [(.tmp 8)], none⟩ ::
    ⟨some 4, .mov (.tmp 9), none⟩ :: [])) <|
  .ret⟩
theorem e_linear_fit : cFunc Try.prog kd_CLinear Try.f49 = some c_linear_fit := by kernel_rfl
/- touchstone/linear.Narrow: slots c, 0, d, 1, c, 2, d, 3, s, 6, ok, 7 -/
def c_linear_Narrow : AFunc := ⟨42, [.tmp 4, .tmp 5],
  .seq (.region (⟨some 2, .box 4 (.tmp 0), none⟩ ::
    ⟨some 4, .mov (.val .nils), none⟩ ::
    ⟨some 5, .mov (.val (.int .i64 0)), none⟩ :: [])) <|
  .seq (.seq (.region (⟨some 8, .load true 4 (.tmp 2), none⟩ ::
    ⟨some 9, .mov (.tmp 1), none⟩ ::
    ⟨some 10, .call (.val (.fn (.func 49) [])) [(.tmp 8), (.tmp 9)], none⟩ ::
    ⟨some 11, .un .not (.tmp 10), none⟩ :: [])) <|
  .cond (.tmp 11) (.seq (.region (⟨some 4, .mov (.val .nils), none⟩ ::
      ⟨some 5, .mov (.val (.int .i64 2)), none⟩ :: [])) <|
    .ret) <|
  .skip) <|
  .seq (.region (⟨some 12, .load true 4 (.tmp 2), none⟩ ::
    ⟨some 13, .mov (.tmp 1), none⟩ ::
    ⟨some 14, .callo (.val (.fn (.func 50) [])) [(.tmp 12), (.tmp 13)], none⟩ ::
    ⟨some 6, .mov (.tmp 14), none⟩ :: [])) <|
  .seq (.region (⟨some 7, .mov (.val (.bool false)), none⟩ :: [])) <|
  .seq (.seq (.region (⟨some 15, .faddr 0 (.tmp 2), none⟩ ::
    ⟨some 16, .load false 1 (.tmp 15), none⟩ :: [])) <|
  .block 0 (.seq (.region (⟨some 18, .bin .eql (.tmp 16) (.val (.int .i64 1)), none⟩ ::
      ⟨some 17, .mov (.tmp 18), none⟩ :: [])) <|
    .cond (.tmp 17) (.region (⟨some 19, .mov (.tmp 6), none⟩ ::
        ⟨some 20, .faddr 3 (.tmp 2), none⟩ ::
        ⟨some 21, .load false 1 (.tmp 20), none⟩ ::
        ⟨some 22, .callm (.val (.fn (.func 51) [])) [(.tmp 19), (.tmp 21)], none⟩ ::
        ⟨some 7, .mov (.tmp 22), none⟩ :: [])) <|
    .seq (.region (⟨some 24, .bin .eql (.tmp 16) (.val (.int .i64 2)), none⟩ ::
      ⟨some 23, .mov (.tmp 24), none⟩ :: [])) <|
    .cond (.tmp 23) (.region (⟨some 25, .mov (.tmp 6), none⟩ ::
        ⟨some 26, .faddr 3 (.tmp 2), none⟩ ::
        ⟨some 27, .load false 1 (.tmp 26), none⟩ ::
        ⟨some 28, .callm (.val (.fn (.func 52) [])) [(.tmp 25), (.tmp 27)], none⟩ ::
        ⟨some 7, .mov (.tmp 28), none⟩ :: [])) <|
    .seq (.region (⟨some 30, .bin .eql (.tmp 16) (.val (.int .i64 3)), none⟩ ::
      ⟨some 29, .mov (.tmp 30), none⟩ :: [])) <|
    .cond (.tmp 29) (.region (⟨some 31, .mov (.tmp 6), none⟩ ::
        ⟨some 32, .faddr 3 (.tmp 2), none⟩ ::
        ⟨some 33, .load false 1 (.tmp 32), none⟩ ::
        ⟨some 34, .callm (.val (.fn (.func 53) [])) [(.tmp 31), (.tmp 33)], none⟩ ::
        ⟨some 7, .mov (.tmp 34), none⟩ :: [])) <|
    .seq (.region (⟨some 4, .mov (.val .nils), none⟩ ::
      ⟨some 5, .mov (.val (.int .i64 10)), none⟩ :: [])) <|
    .ret)) <|
  .seq (.seq (.region (⟨some 35, .mov (.tmp 7), none⟩ ::
    ⟨some 36, .un .not (.tmp 35), none⟩ :: [])) <|
  .cond (.tmp 36) (.seq (.region (⟨some 4, .mov (.val .nils), none⟩ ::
      ⟨some 5, .mov (.val (.int .i64 12)), none⟩ :: [])) <|
    .ret) <|
  .skip) <|
  .seq (.region (⟨some 37, .mov (.tmp 6), none⟩ ::
    ⟨some 38, .nilc (.tmp 37), none⟩ ::
    ⟨some 39, .faddr 1 (.tmp 38), none⟩ ::
    ⟨some 40, .load false 1 (.tmp 39), none⟩ ::
    ⟨some 41, .callm (.val (.fn (.func 54) [])) [(.tmp 40)], none⟩ ::
    ⟨some 4, .mov (.tmp 41), none⟩ ::
    ⟨some 5, .mov (.val (.int .i64 0)), none⟩ :: [])) <|
  .ret⟩
theorem e_linear_Narrow : cFunc Try.prog kd_CLinear Try.f23 = some c_linear_Narrow := by kernel_rfl
/- touchstone/linear.Ends: slots c, 0, d, 1, c, 2, d, 3 -/
def c_linear_Ends : AFunc := ⟨25, [.cell 4 true 2, .tmp 5],
  .seq (.region (⟨some 2, .box 4 (.tmp 0), none⟩ ::
    ⟨some 4, .alloc (.agg [(.int .i64 0), (.int .i64 0)]), none⟩ ::
    ⟨some 5, .mov (.val (.bool false)), none⟩ :: [])) <|
  .seq (.seq (.region (⟨some 6, .load true 4 (.tmp 2), none⟩ ::
    ⟨some 7, .mov (.tmp 1), none⟩ ::
    ⟨some 8, .call (.val (.fn (.func 49) [])) [(.tmp 6), (.tmp 7)], none⟩ ::
    ⟨some 9, .un .not (.tmp 8), none⟩ ::
    ⟨some 10, .mov (.tmp 9), none⟩ ::
    ⟨some 11, .faddr 0 (.tmp 2), some (10, false)⟩ ::
    ⟨some 12, .load false 1 (.tmp 11), some (10, false)⟩ ::
    ⟨some 13, .bin .lss (.tmp 12) (.val (.int .i64 1)), some (10, false)⟩ ::
    ⟨some 14, .pick (.tmp 10) (.val (.bool true)) (.tmp 13), none⟩ ::
    ⟨some 15, .mov (.tmp 14), none⟩ ::
    ⟨some 16, .faddr 0 (.tmp 2), some (15, false)⟩ ::
    ⟨some 17, .load false 1 (.tmp 16), some (15, false)⟩ ::
    ⟨some 18, .bin .gtr (.tmp 17) (.val (.int .i64 6)), some (15, false)⟩ ::
    ⟨some 19, .pick (.tmp 15) (.val (.bool true)) (.tmp 18), none⟩ :: [])) <|
  .cond (.tmp 19) (.seq (.region (⟨some 20, .build [(.int .i64 0), (.int .i64 0)] [], none⟩ ::
      ⟨none, .store 2 (.tmp 4) (.tmp 20), none⟩ ::
      ⟨some 5, .mov (.val (.bool false)), none⟩ :: [])) <|
    .ret) <|
  .skip) <|
  .seq (.region (⟨some 21, .load true 4 (.tmp 2), none⟩ ::
    ⟨some 22, .mov (.tmp 1), none⟩ ::
    ⟨some 23, .callo (.val (.fn (.func 50) [])) [(.tmp 21), (.tmp 22)], none⟩ ::
    ⟨some 24, .callv (.val (.fn (.func 87) [])) [(.tmp 23)], none⟩ ::
    ⟨none, .store 2 (.tmp 4) (.tmp 24), none⟩ ::
    ⟨some 5, .mov (.val (.bool true)), none⟩ :: [])) <|
  .ret⟩
theorem e_linear_Ends : cFunc Try.prog kd_CLinear Try.f46 = some c_linear_Ends := by kernel_rfl
/- slices.ContainsFunc[[][]touchstone/api.Range,[]touchstone/api.Range]: slots s, 0, f, 1, s, 2, f, 3 -/
def c_slices_ContainsFunc_ssRange_sRange : AFunc := ⟨9, [.tmp 4],
  .seq (.region (⟨some 4, .mov (.val (.bool false)), none⟩ :: [])) <|
  .seq (.region (⟨some 5, .mov (.tmp 0), none⟩ ::
    ⟨some 6, .mov (.tmp 1), none⟩ ::
    ⟨some 7, .call (.val (.fn (.func 163) [])) [(.tmp 5), (.tmp 6)], none⟩ ::
    ⟨some 8, .bin .geq (.tmp 7) (.val (.int .i64 0)), none⟩ ::
    ⟨some 4, .mov (.tmp 8), none⟩ :: [])) <|
  .ret⟩
theorem e_slices_ContainsFunc_ssRange_sRange : cFunc Try.prog kd_CLinear Try.f131 = some c_slices_ContainsFunc_ssRange_sRange := by kernel_rfl
/- slices.IndexFunc[[][]touchstone/api.Range,[]touchstone/api.Range]: slots s, 0, f, 1, s, 2, f, 3, i, 5 -/
def c_slices_IndexFunc_ssRange_sRange : AFunc := ⟨19, [.tmp 4],
  .seq (.region (⟨some 4, .mov (.val (.int .i64 0)), none⟩ :: [])) <|
  .seq (.seq (.region (⟨some 6, .mov (.tmp 0), none⟩ ::
    ⟨some 7, .len false (.tmp 6), none⟩ ::
    ⟨some 8, .mov (.val (.int .i64 0)), none⟩ :: [])) <|
  .block 0 (.loop (.seq (.region (⟨some 9, .bin .lss (.tmp 8) (.tmp 7), none⟩ :: [])) <|
      .seq (.cond (.tmp 9) (.skip) <|
      .exit 0) <|
      .seq (.block 1 (.seq (.region (⟨some 10, .mov (.tmp 8), none⟩ ::
          ⟨some 5, .mov (.tmp 10), none⟩ :: [])) <|
        .seq (.region (⟨some 11, .mov (.tmp 1), none⟩ ::
          ⟨some 12, .mov (.tmp 0), none⟩ ::
          ⟨some 13, .mov (.tmp 5), none⟩ ::
          ⟨some 14, .iaddr 1 (.tmp 12) (.tmp 13), none⟩ ::
          ⟨some 15, .load false 1 (.tmp 14), none⟩ ::
          ⟨some 16, .call (.tmp 11) [(.tmp 15)], none⟩ :: [])) <|
        .cond (.tmp 16) (.seq (.region (⟨some 17, .mov (.tmp 5), none⟩ ::
            ⟨some 4, .mov (.tmp 17), none⟩ :: [])) <|
          .ret) <|
        .skip)) <|
      .region (⟨some 18, .bin .add (.tmp 8) (.val (.int .i64 1)), none⟩ ::
        ⟨some 8, .mov (.tmp 18), none⟩ :: [])))) <|
  .seq (.region (⟨some 4, .mov (.val (.int .i64 (-1))), none⟩ :: [])) <|
  .ret⟩
theorem e_slices_IndexFunc_ssRange_sRange : cFunc Try.prog kd_CLinear Try.f163 = some c_slices_IndexFunc_ssRange_sRange := by kernel_rfl
end Go.Proofs.Ytonkcemcledhiaa
namespace Go.Proofs.Ytonkcemcledhiaa
open Av
attribute [local irreducible] awp awpOpers
set_option linter.unusedSimpArgs false
set_option linter.unusedVariables false
set_option maxRecDepth 100000
set_option maxHeartbeats 4000000
/-- a sum, in boxes -/
def sumX (T : List Tm) (D : List (List Rg)) : Bx := [some (2, [.agg [.sl 2 1 0 T.length, .sl 1 2 0 D.length]]), some (2, T.map eRg), some (1, D.map eRgs)]
theorem sumX_eq (T : List Tm) (D : List (List Rg)) : sumX T D = [some (2, [.agg [.sl 2 1 0 T.length, .sl 1 2 0 D.length]]), some (2, T.map eRg), some (1, D.map eRgs)] := rfl
theorem tX_pair {T : List Tm} {k : Nat} (h : k < T.length) : T[k]? = some ((tX T k).1, (tX T k).2) := tX_get h
theorem linear_ends (D : List (List Rg)) (L : AV) (a x : Int) (hx : 0 ≤ x ∧ x < D.length) (hD : DOk D) (ha : -1048576 ≤ a ∧ a ≤ 1048576) :
    Ctr Try.prog 126 [.rptr [L, .list 1 (D.map eRgs)], .agg [.int .i64 a, .int .i64 x]] [] (.tuple [.int .i64 (termE D (a, x)).1, .int .i64 (termE D (a, x)).2]) [] := by
  refine call_pure Try.func126 Try.call126 e_linear_sum_ends ?_
  have hr := row_get hx
  have h0 := hx.1
  have hd := hD x hx.1 hx.2
  obtain ⟨_, h4, h5, h6⟩ := eAt_facts hD hx
  have hlen := right_length (dom_right hd).1
  have m1 := mul_bound (a := a) (b := (eAt D x).1) ha (by omega)
  have m2 := mul_bound (a := a) (b := (eAt D x).2) ha (by omega)
  have w1 : IntKind.i64.wrap (a * (eAt D x).1) = a * (eAt D x).1 := by rw [wrap_i64] <;> omega
  have w2 : IntKind.i64.wrap (a * (eAt D x).2) = a * (eAt D x).2 := by rw [wrap_i64] <;> omega
  simp +contextual -implicitDefEqProofs (maxSteps := 1000000) only [c_linear_sum_ends, sm, sn, sxx, seval, h0, hr]
  refine callA_rule (set_Ends (rowOf D x) (by omega)) (wkL_refl _) rfl ?_
  have he : endsV (rowOf D x) = ((eAt D x).1, (eAt D x).2) := rfl
  rw [he]
  unfold termE
  simp only
  generalize (eAt D x).1 = lo at w1 ⊢
  generalize (eAt D x).2 = hi at w2 ⊢
  by_cases h : a < 0
  · simp +contextual -implicitDefEqProofs (maxSteps := 1000000) only [sm, sn, sxx, seval, eRg, h, w1, w2]
  · simp +contextual -implicitDefEqProofs (maxSteps := 1000000) only [sm, sn, sxx, seval, eRg, h, w1, w2]
theorem linear_span (D : List (List Rg)) (T : List Tm) (hD : DOk D) (hT : TOk T D) :
    Ctr Try.prog 87 [.rptr [.list 2 (T.map eRg), .list 1 (D.map eRgs)]] [] (.agg [.int .i64 (spanK D T T.length).1, .int .i64 (spanK D T T.length).2]) [] := by
  refine call_pure Try.func87 Try.call87 e_linear_sum_span ?_
  simp +contextual -implicitDefEqProofs (maxSteps := 1000000) only [c_linear_sum_span, sm, sn, sxx, seval]
  refine loop_rule (fun k : Nat => k ≤ T.length) (fun k => tm 35 [(0, .rptr [.list 2 (T.map eRg), .list 1 (D.map eRgs)]), (2, .ptr 2 0 0 0), (3, .ptr 2 1 0 0), (11, .list 2 (T.map eRg)), (12, .int .i64 T.length), (13, .int .i64 k)]) (fun k => [some (2, [.agg [.int .i64 0, .int .i64 0]]), some (2, [.agg [.int .i64 (spanK D T k).1, .int .i64 (spanK D T k).2]])]) (fun k => T.length - k) 0 (Nat.zero_le _) ⟨[0, 1], by decide, rfl, ?_, ?_⟩ ?_
  · simp +contextual -implicitDefEqProofs (maxSteps := 1000000) only [sm, sn, sxx, seval, spanK]
  · simp +contextual -implicitDefEqProofs (maxSteps := 1000000) only [sm, sn, sxx, seval, Int.natCast_zero]
  · intro k hk
    by_cases hlt : k < T.length
    · have hlt' : (k : Int) < (T.length : Int) := by omega
      have hT32 := hT.1
      have e2 : IntKind.i64.wrap ((k : Int) + 1) = ((k + 1 : Nat) : Int) := by rw [wrap_i64] <;> omega
      have ht := tX_pair hlt
      obtain ⟨b1, b2⟩ := hT.2 k hlt
      have hsb := span_bound hD hT hk
      have htb := term_bound hD hT hlt
      have w1 : IntKind.i64.wrap ((spanK D T k).1 + (termE D (tX T k)).1) = (spanK D T k).1 + (termE D (tX T k)).1 := by rw [wrap_i64] <;> omega
      have w2 : IntKind.i64.wrap ((spanK D T k).2 + (termE D (tX T k)).2) = (spanK D T k).2 + (termE D (tX T k)).2 := by rw [wrap_i64] <;> omega
      simp +contextual -implicitDefEqProofs (maxSteps := 1000000) only [sm, sn, sxx, seval, hlt', ht]
      have hE := linear_ends D (.list 2 (T.map eRg)) (tX T k).1 (tX T k).2 b2 hD b1
      rw [show ((tX T k).1, (tX T k).2) = tX T k from rfl] at hE
      refine callV_rule hE ?_ rfl ?_
      · simp +contextual -implicitDefEqProofs (maxSteps := 1000000) only [sm, sn, sxx, seval]
      simp +contextual -implicitDefEqProofs (maxSteps := 1000000) only [sm, sn, sxx, seval, w1, w2, e2]
      refine ⟨k + 1, by omega, by omega, [0, 1], by decide, rfl, ?_, ?_⟩
      · simp +contextual -implicitDefEqProofs (maxSteps := 1000000) only [sm, sn, sxx, seval, spanK]
      · simp +contextual -implicitDefEqProofs (maxSteps := 1000000) only [sm, sn, sxx, seval]
    · have hkn : k = T.length := by omega
      subst hkn
      simp +contextual -implicitDefEqProofs (maxSteps := 1000000) only [sm, sn, sxx, seval, Int.lt_irrefl]
theorem opp_len (T : List Tm) : (opp T).length = T.length := by unfold opp; rw [List.length_map]
theorem opp_get {T : List Tm} {k : Nat} (h : k < T.length) : (opp T)[k]? = some (-(tX T k).1, (tX T k).2) := by
  unfold opp
  rw [List.getElem?_map, tX_get h]; rfl
theorem set_term (T : List Tm) (n : Nat) (a b : Int) : (T.map eRg).set n (.agg [.int .i64 a, .int .i64 b]) = (T.set n (a, b)).map eRg := by simp [eRg, List.map_set]
theorem linear_opposite (D : List (List Rg)) (T : List Tm) (hT : TOk T D) :
    Ctr Try.prog 90 [.ptr 2 0 0 0] (sumX T D) (.tuple []) (sumX (opp T) D) := by
  refine call_box Try.func90 Try.call90 e_linear_sum_opposite ?_
  have hT32 := hT.1
  have hol := opp_len T
  simp +contextual -implicitDefEqProofs (maxSteps := 1000000) only [c_linear_sum_opposite, sumX_eq, sm, sn, sxx, seval]
  refine loop_rule (fun k : Nat => k ≤ T.length) (fun k => tm 28 [(0, .ptr 2 0 0 0), (7, .int .i64 T.length), (8, .int .i64 k)]) (fun k => [some (2, [.agg [.sl 2 1 0 T.length, .sl 1 2 0 D.length]]), some (2, ((opp T).take k ++ T.drop k).map eRg), some (1, D.map eRgs)]) (fun k => T.length - k) 0 (Nat.zero_le _) ⟨[0, 1, 2], by decide, rfl, ?_, ?_⟩ ?_
  · simp +contextual -implicitDefEqProofs (maxSteps := 1000000) only [sm, sn, sxx, seval]
  · simp +contextual -implicitDefEqProofs (maxSteps := 1000000) only [sm, sn, sxx, seval, Int.natCast_zero]
  · intro k hk
    by_cases hlt : k < T.length
    · have hlt' : (k : Int) < (T.length : Int) := by omega
      have e2 : IntKind.i64.wrap ((k : Int) + 1) = ((k + 1 : Nat) : Int) := by rw [wrap_i64] <;> omega
      have hkl : ((opp T).take k).length = k := by rw [List.length_take]; omega
      obtain ⟨b1, b2⟩ := hT.2 k hlt
      have hg : ((opp T).take k ++ T.drop k)[k]? = some ((tX T k).1, (tX T k).2) := by
        rw [List.getElem?_append_right (by omega), hkl, Nat.sub_self, List.getElem?_drop]
        exact tX_get hlt
      have hst : ((opp T).take k ++ T.drop k).set k (-(tX T k).1, (tX T k).2) = (opp T).take (k + 1) ++ T.drop (k + 1) := by
        rw [← take_snoc (opp_get hlt), List.set_append, if_neg (by omega), hkl, Nat.sub_self, drop_at (tX_get hlt)]
        simp
      have hlen : ((opp T).take k ++ T.drop k).length = T.length := by rw [List.length_append, hkl, List.length_drop]; omega
      have w1 : IntKind.i64.wrap (0 - (tX T k).1) = -(tX T k).1 := by rw [wrap_i64] <;> omega
      generalize (opp T).take k ++ T.drop k = M at hg hst hlen ⊢
      simp +contextual -implicitDefEqProofs (maxSteps := 1000000) only [sm, sn, sxx, seval, hlt', hlt, hg, w1, set_term, hst, e2]
      refine ⟨k + 1, by omega, by omega, [0, 1, 2], by decide, rfl, ?_, ?_⟩
      · simp +contextual -implicitDefEqProofs (maxSteps := 1000000) only [sm, sn, sxx, seval]
      · simp +contextual -implicitDefEqProofs (maxSteps := 1000000) only [sm, sn, sxx, seval]
    · have hkn : k = T.length := by omega
      subst hkn
      have t0 : (opp T).take T.length ++ T.drop T.length = opp T := by rw [← hol, List.take_length, hol, List.drop_length, List.append_nil]
      rw [t0]
      simp +contextual -implicitDefEqProofs (maxSteps := 1000000) only [sm, sn, sxx, seval, Int.lt_irrefl]
      refine ⟨[], [0, 1, 2], by decide, ?_⟩
      simp +contextual -implicitDefEqProofs (maxSteps := 1000000) only [sm, sn, sxx, seval, hol]
      try rfl
theorem linear_whole_1 (r : List Rg) : Ctr Try.prog 132 [eRgs r] [] (.bool (decide (r.length = 0))) [] := by
  refine call_pure Try.func132 Try.call132 e_linear_sum_whole_1 ?_
  simp +contextual -implicitDefEqProofs (maxSteps := 1000000) only [c_linear_sum_whole_1, eRgs, sm, sn, sxx, seval]
  by_cases h : r.length = 0
  · simp +contextual -implicitDefEqProofs (maxSteps := 1000000) only [sm, sn, sxx, seval, h, Int.natCast_zero]
  · have h' : ((r.length : Int) = 0) = False := by simp only [eq_iff_iff, iff_false]; omega
    simp +contextual -implicitDefEqProofs (maxSteps := 1000000) only [sm, sn, sxx, seval, h, h']
theorem index_doms (l : List (List Rg)) (hl : l.length ≤ 1000000000000) (g : Nat) (p : List Rg → Bool) (hg : ∀ r, Ctr Try.prog g [eRgs r] [] (.bool (p r)) []) :
    Ctr Try.prog 163 [eDoms l, .fn (.func g) []] [] (.int .i64 (idxV p l)) [] := by
  refine call_pure Try.func163 Try.call163 e_slices_IndexFunc_ssRange_sRange ?_
  simp +contextual -implicitDefEqProofs (maxSteps := 1000000) only [c_slices_IndexFunc_ssRange_sRange, eDoms, sm, sn, sxx, seval]
  refine loop_rule (fun k : Nat => k ≤ l.length ∧ ∀ (j : Nat) x, j < k → l[j]? = some x → p x = false) (fun k => tm 19 [(0, .list 1 (l.map eRgs)), (1, .fn (.func g) []), (7, .int .i64 l.length), (8, .int .i64 k)]) (fun _ => []) (fun k => l.length - k) 0 ⟨by omega, by omega⟩ ⟨[], by decide, rfl, ?_, ?_⟩ ?_
  · simp +contextual -implicitDefEqProofs (maxSteps := 1000000) only [sm, sn, sxx, seval]
  · simp +contextual -implicitDefEqProofs (maxSteps := 1000000) only [sm, sn, sxx, seval, Int.natCast_zero]
  · rintro k ⟨hk, hok⟩
    by_cases hlt : k < l.length
    · obtain ⟨r, hr⟩ : ∃ r, l[k]? = some r := ⟨_, List.getElem?_eq_getElem hlt⟩
      have hlt' : (k : Int) < (l.length : Int) := by omega
      have e2 : IntKind.i64.wrap ((k : Int) + 1) = ((k + 1 : Nat) : Int) := by rw [wrap_i64] <;> omega
      simp +contextual -implicitDefEqProofs (maxSteps := 1000000) only [sm, sn, sxx, seval, hlt', hr]
      refine callA_rule (hg r) (wkL_refl _) rfl ?_
      cases hp : p r
      · simp +contextual -implicitDefEqProofs (maxSteps := 1000000) only [sm, sn, sxx, seval, e2]
        refine ⟨k + 1, ⟨by omega, ?_⟩, by omega, [], by decide, rfl, ?_, ?_⟩
        · intro j y hj hy
          rcases Nat.lt_succ_iff_lt_or_eq.1 hj with h | rfl
          · exact hok j y h hy
          · rw [hr] at hy; injection hy with hy; subst hy; exact hp
        · simp +contextual -implicitDefEqProofs (maxSteps := 1000000) only [sm, sn, sxx, seval]
        · simp +contextual -implicitDefEqProofs (maxSteps := 1000000) only [sm, sn, sxx, seval]
      · rw [idxV_some hr hp hok]
        simp +contextual -implicitDefEqProofs (maxSteps := 1000000) only [sm, sn, sxx, seval]
    · have hkn : k = l.length := by omega
      subst hkn
      rw [idxV_none fun j x hx => hok j x (List.getElem?_eq_some_iff.1 hx).1 hx]
      simp +contextual -implicitDefEqProofs (maxSteps := 1000000) only [sm, sn, sxx, seval, Int.lt_irrefl]
theorem contains_doms (l : List (List Rg)) (hl : l.length ≤ 1000000000000) (g : Nat) (p : List Rg → Bool) (hg : ∀ r, Ctr Try.prog g [eRgs r] [] (.bool (p r)) []) :
    Ctr Try.prog 131 [eDoms l, .fn (.func g) []] [] (.bool (l.any p)) [] := by
  refine call_pure Try.func131 Try.call131 e_slices_ContainsFunc_ssRange_sRange ?_
  simp +contextual -implicitDefEqProofs (maxSteps := 1000000) only [c_slices_ContainsFunc_ssRange_sRange, eDoms, sm, sn, sxx, seval]
  refine callA_rule (index_doms l hl g p hg) (wkL_refl _) rfl ?_
  simp +contextual -implicitDefEqProofs (maxSteps := 1000000) only [sm, sn, sxx, seval]
  rw [← idxV_any]
theorem linear_whole (D : List (List Rg)) (L : AV) (hD : D.length ≤ 1000000000000) : Ctr Try.prog 91 [.rptr [L, .list 1 (D.map eRgs)]] [] (.bool (wholeB D)) [] := by
  refine call_pure Try.func91 Try.call91 e_linear_sum_whole ?_
  simp +contextual -implicitDefEqProofs (maxSteps := 1000000) only [c_linear_sum_whole, sm, sn, sxx, seval]
  refine callA_rule (contains_doms D hD _ (fun d => decide (d.length = 0)) linear_whole_1) (wkL_refl _) rfl ?_
  simp +contextual -implicitDefEqProofs (maxSteps := 1000000) only [sm, sn, sxx, seval]
  rfl
theorem linear_own (D : List (List Rg)) (hD : D.length ≤ 1000000000000) (hd : ∀ d ∈ D, d.length ≤ 1000000000000) :
    Ctr Try.prog 54 [.sl 1 0 0 D.length] [some (1, D.map eRgs)] (.sl 1 1 0 D.length) [some (1, D.map eRgs), some (1, D.map eRgs)] := by
  refine call_box Try.func54 Try.call54 e_linear_own ?_
  simp +contextual -implicitDefEqProofs (maxSteps := 1000000) only [c_linear_own, sm, sn, sxx, seval]
  refine loop_ruleV [(3, 1)] (fun k : Nat => k ≤ D.length) (fun k => tm 19 [(3, .sl 1 1 0 k), (6, .sl 1 0 0 D.length), (7, .int .i64 D.length), (8, .int .i64 k)]) (fun k => [some (1, D.map eRgs), some (1, (D.take k).map eRgs)]) (fun k => D.length - k) 0 (by simp +contextual -implicitDefEqProofs (maxSteps := 1000000) only [sm, sn, sxx, seval]) (Nat.zero_le _) ⟨[0, 1], by decide, rfl, ?_, ?_⟩ ?_
  · simp +contextual -implicitDefEqProofs (maxSteps := 1000000) only [sm, sn, sxx, seval]
  · simp +contextual -implicitDefEqProofs (maxSteps := 1000000) only [sm, sn, sxx, seval, Int.natCast_zero]
  · intro k hk
    have hkl : (D.take k).length = k := by rw [List.length_take]; omega
    by_cases hlt : k < D.length
    · have hlt' : (k : Int) < (D.length : Int) := by omega
      have e2 : IntKind.i64.wrap ((k : Int) + 1) = ((k + 1 : Nat) : Int) := by rw [wrap_i64] <;> omega
      obtain ⟨r, hr⟩ : ∃ r, D[k]? = some r := ⟨_, List.getElem?_eq_getElem hlt⟩
      have hs := take_snoc hr
      have c1 : (k + 1) * 24 ≤ 140737488355328 := by omega
      have c2 : k + 1 ≤ maxLen := by unfold maxLen; omega
      simp +contextual -implicitDefEqProofs (maxSteps := 1000000) only [sm, sn, sxx, seval, hlt', hlt, hr]
      refine callA_rule (clone_rgs r (hd r (List.mem_of_getElem? hr))) (wkL_refl _) rfl ?_
      simp +contextual -implicitDefEqProofs (maxSteps := 1000000) only [sm, sn, sxx, seval, eRgs, hkl, c1, c2, hs, e2]
      refine ⟨k + 1, by omega, by omega, [0, 2], by decide, rfl, ?_, ?_⟩
      · simp +contextual -implicitDefEqProofs (maxSteps := 1000000) only [sm, sn, sxx, seval]
      · simp +contextual -implicitDefEqProofs (maxSteps := 1000000) only [sm, sn, sxx, seval]
    · have hkn : k = D.length := by omega
      subst hkn
      rw [List.take_length]
      simp +contextual -implicitDefEqProofs (maxSteps := 1000000) only [sm, sn, sxx, seval, Int.lt_irrefl]
      refine ⟨[], [0, 1], by decide, ?_⟩
      simp +contextual -implicitDefEqProofs (maxSteps := 1000000) only [sm, sn, sxx, seval]
      try rfl
end Go.Proofs.Ytonkcemcledhiaa
namespace Go.Proofs.Ytonkcemcledhiaa
open Av
attribute [local irreducible] awp awpOpers
set_option linter.unusedSimpArgs false
set_option linter.unusedVariables false
set_option maxRecDepth 100000
set_option maxHeartbeats 4000000
theorem set_rows2 (E : List (List Rg)) (n : Nat) (r : List Rg) : (E.map eRgs).set n (.list 2 (r.map eRg)) = (E.set n r).map eRgs := by
  have : AV.list 2 (r.map eRg) = eRgs r := rfl
  rw [this, List.map_set]
theorem linear_terms (c : Con) (D : List (List Rg)) (hD : D.length ≤ 1000000000000) (hA : c.2.2.1.length ≤ c.2.1.length) (hX : c.2.1.length ≤ 1000000000000) :
    Ctr Try.prog 50 [eCon c, eDoms D] [] (.ptr 2 0 0 0) (sumX (termsOf c) D) := by
  obtain ⟨K, X, A, C⟩ := c
  simp only at hA hX
  refine call_box Try.func50 Try.call50 e_linear_terms ?_
  have hTl : (termsOf (K, X, A, C)).length = A.length := by unfold termsOf; simp only [List.length_zip]; omega
  have hTk : ∀ (k : Nat) a x, A[k]? = some a → X[k]? = some x → (termsOf (K, X, A, C))[k]? = some (a, x) := fun k a x h1 h2 => by
    unfold termsOf
    simp only [List.getElem?_zip_eq_some]
    exact ⟨h1, h2⟩
  generalize termsOf (K, X, A, C) = T at hTl hTk ⊢
  simp +contextual -implicitDefEqProofs (maxSteps := 1000000) only [c_linear_terms, eCon, eIs, eDoms, sm, sn, sxx, seval]
  refine callM_rule [] (clone_doms D hD) (by decide) ?_ ?_ ?_ ?_ ?_ ?_
  · simp +contextual -implicitDefEqProofs (maxSteps := 1000000) only [sm, sn, sxx, seval]
  · simp +contextual -implicitDefEqProofs (maxSteps := 1000000) only [sm, sn, sxx, seval, eDoms]
  · simp +contextual -implicitDefEqProofs (maxSteps := 1000000) only [sm, sn, sxx, seval, eDoms]
  · simp +contextual -implicitDefEqProofs (maxSteps := 1000000) only [sm, sn, sxx, seval]
  · simp +contextual -implicitDefEqProofs (maxSteps := 1000000) only [sm, sn, sxx, seval]
  simp +contextual -implicitDefEqProofs (maxSteps := 1000000) only [sm, sn, sxx, seval, eCon, eIs]
  refine loop_ruleF [(2, 0, 2)] [] (fun k : Nat => k ≤ A.length) (fun k => tm 38 [(2, .ptr 4 0 0 0), (5, .ptr 2 2 0 0), (13, .list 1 (A.map eI)), (14, .int .i64 A.length), (15, .int .i64 k)])
    (fun k => [some (4, [eCon (K, X, A, C)]), some (1, D.map eRgs), some (2, [.agg [.sl 2 3 0 k, .sl 1 1 0 D.length]]), some (2, (T.take k).map eRg)]) (fun k => A.length - k) 0 (by simp +contextual -implicitDefEqProofs (maxSteps := 1000000) only [sm, sn, sxx, seval, eCon, eIs]) rfl (Nat.zero_le _) ⟨[0, 1, 2, 3], by decide, rfl, ?_, ?_⟩ ?_
  · simp +contextual -implicitDefEqProofs (maxSteps := 1000000) only [sm, sn, sxx, seval, eCon, eIs]
  · simp +contextual -implicitDefEqProofs (maxSteps := 1000000) only [sm, sn, sxx, seval, Int.natCast_zero]
  · intro k hk
    have hkl : (T.take k).length = k := by rw [List.length_take]; omega
    by_cases hlt : k < A.length
    · have hlt' : (k : Int) < (A.length : Int) := by omega
      have e2 : IntKind.i64.wrap ((k : Int) + 1) = ((k + 1 : Nat) : Int) := by rw [wrap_i64] <;> omega
      obtain ⟨a, ha⟩ : ∃ r, A[k]? = some r := ⟨_, List.getElem?_eq_getElem hlt⟩
      obtain ⟨x, hx⟩ : ∃ r, X[k]? = some r := ⟨_, List.getElem?_eq_getElem (by omega)⟩
      have hs := take_snoc (hTk k a x ha hx)
      have c1 : (k + 1) * 16 ≤ 140737488355328 := by omega
      have c2 : k + 1 ≤ maxLen := by unfold maxLen; omega
      simp +contextual -implicitDefEqProofs (maxSteps := 1000000) only [sm, sn, sxx, seval, eCon, eIs, hlt', ha, hx, hkl, c1, c2, hs, e2]
      refine ⟨k + 1, by omega, by omega, [0, 1, 2, 4], by decide, rfl, ?_, ?_⟩
      · simp +contextual -implicitDefEqProofs (maxSteps := 1000000) only [sm, sn, sxx, seval, eCon, eIs]
      · simp +contextual -implicitDefEqProofs (maxSteps := 1000000) only [sm, sn, sxx, seval]
    · have hkn : k = A.length := by omega
      subst hkn
      have t0 : T.take A.length = T := by rw [← hTl, List.take_length]
      rw [t0]
      simp +contextual -implicitDefEqProofs (maxSteps := 1000000) only [sm, sn, sxx, seval, Int.lt_irrefl, eCon]
      refine ⟨[], [2, 3, 1], by decide, ?_⟩
      simp +contextual -implicitDefEqProofs (maxSteps := 1000000) only [sm, sn, sxx, seval, sumX_eq, hTl]
      try rfl
theorem tdiv_bound {r a : Int} (ha : 0 < a) (hr : 0 ≤ r ∧ r ≤ 1000000000000000) : 0 ≤ r.tdiv a ∧ r.tdiv a ≤ r := by
  have h1 : r.tdiv a = r / a := Int.tdiv_eq_ediv_of_nonneg hr.1
  rw [h1]
  exact ⟨Int.ediv_nonneg hr.1 (by omega), Int.ediv_le_self _ hr.1⟩
theorem linear_most (D : List (List Rg)) (T : List Tm) (n : Int) {E : List (List Rg)} {b : Bool} (hD : DOk D) (hDl : D.length ≤ 64) (hT : TOk T D) (hn : -1048576 ≤ n ∧ n ≤ 1048576) (hs : mostS D T n = (E, b)) :
    Ctr Try.prog 52 [.ptr 2 0 0 0, .int .i64 n] (sumX T D) (.bool b) (sumX T E) := by
  refine call_box Try.func52 Try.call52 e_linear_sum_most ?_
  have hsb := span_bound hD hT (Nat.le_refl T.length)
  have hT32 := hT.1
  have w0 : IntKind.i64.wrap (n - (spanK D T T.length).1) = n - (spanK D T T.length).1 := by rw [wrap_i64] <;> omega
  simp +contextual -implicitDefEqProofs (maxSteps := 1000000) only [c_linear_sum_most, sumX_eq, sm, sn, sxx, seval]
  refine callV_rule (linear_span D T hD hT) ?_ rfl ?_
  · simp +contextual -implicitDefEqProofs (maxSteps := 1000000) only [sm, sn, sxx, seval]
  unfold mostS at hs
  have hrm : -100000000000000 ≤ n - (spanK D T T.length).1 ∧ n - (spanK D T T.length).1 ≤ 100000000000000 := by omega
  generalize (spanK D T T.length).1 = m at hs w0 hrm ⊢
  generalize (spanK D T T.length).2 = m2
  generalize hroom : n - m = room at hs w0 hrm ⊢
  by_cases hneg : room < 0
  · rw [if_pos hneg] at hs
    simp only [Prod.mk.injEq] at hs
    obtain ⟨rfl, rfl⟩ := hs
    simp +contextual -implicitDefEqProofs (maxSteps := 1000000) only [sm, sn, sxx, seval, hroom, w0, hneg]
    refine ⟨[], [0, 1, 2], by decide, ?_⟩
    simp +contextual -implicitDefEqProofs (maxSteps := 1000000) only [sm, sn, sxx, seval]
    try rfl
  rw [if_neg hneg] at hs
  simp only [Prod.mk.injEq] at hs
  obtain ⟨hE, hb⟩ := hs
  simp +contextual -implicitDefEqProofs (maxSteps := 1000000) only [sm, sn, sxx, seval, hroom, w0, hneg]
  refine callM_rule [2] (clone_sl D (by omega)) (by decide) ?_ ?_ ?_ ?_ ?_ ?_
  · simp +contextual -implicitDefEqProofs (maxSteps := 1000000) only [sm, sn, sxx, seval]
  · simp +contextual -implicitDefEqProofs (maxSteps := 1000000) only [sm, sn, sxx, seval]
  · simp +contextual -implicitDefEqProofs (maxSteps := 1000000) only [sm, sn, sxx, seval]
  · simp +contextual -implicitDefEqProofs (maxSteps := 1000000) only [sm, sn, sxx, seval]
  · simp +contextual -implicitDefEqProofs (maxSteps := 1000000) only [sm, sn, sxx, seval]
  simp +contextual -implicitDefEqProofs (maxSteps := 1000000) only [sm, sn, sxx, seval]
  refine loop_rule (fun k : Nat => k ≤ T.length) (fun k => tm 95 [(0, .ptr 2 0 0 0), (5, .int .i64 room), (6, .sl 1 3 0 D.length), (26, .sl 2 1 0 T.length), (27, .int .i64 T.length), (28, .int .i64 k)])
    (fun k => [some (2, [.agg [.sl 2 1 0 T.length, .sl 1 2 0 D.length]]), some (2, T.map eRg), some (1, (mostK D T room k).map eRgs), some (1, D.map eRgs)]) (fun k => T.length - k) 0 (Nat.zero_le _) ⟨[0, 1, 2, 3], by decide, rfl, ?_, ?_⟩ ?_
  · simp +contextual -implicitDefEqProofs (maxSteps := 1000000) only [sm, sn, sxx, seval, mostK]
  · simp +contextual -implicitDefEqProofs (maxSteps := 1000000) only [sm, sn, sxx, seval, Int.natCast_zero]
  · intro k hk
    have hle := most_le (room := room) hD hT hk
    have hEl := hle.1
    by_cases hlt : k < T.length
    · have hlt' : (k : Int) < (T.length : Int) := by omega
      have e2 : IntKind.i64.wrap ((k : Int) + 1) = ((k + 1 : Nat) : Int) := by rw [wrap_i64] <;> omega
      have ht := tX_pair hlt
      obtain ⟨b1, b2⟩ := hT.2 k hlt
      have hM : mostK D T room (k + 1) = (mostK D T room k).set (tX T k).2.toNat (cutS (cutOf D room (tX T k)).1 (cutOf D room (tX T k)).2 (rowOf (mostK D T room k) (tX T k).2)) := rfl
      have hr := row_get b2
      have hr0 := row_get (D := mostK D T room k) (x := (tX T k).2) (by omega)
      obtain ⟨_, e3, e4, e5⟩ := eAt_facts hD b2
      have hdr := dom_right (hD _ b2.1 b2.2)
      have hl1 := right_length hdr.1
      have hl2 := right_length (hle.2 _ b2.1 b2.2).1
      have h0 := b2.1
      have hxn : (tX T k).2.toNat < (mostK D T room k).length := by omega
      have hxn2 : (tX T k).2.toNat < D.length := by omega
      have he : endsV (rowOf D (tX T k).2) = ((eAt D (tX T k).2).1, (eAt D (tX T k).2).2) := rfl
      unfold cutOf at hM
      generalize (tX T k).1 = a at ht b1 hM ⊢
      generalize (tX T k).2 = x at ht b2 hM hr hr0 e3 e4 e5 hdr hl1 hl2 h0 hxn hxn2 he ⊢
      generalize hlo : (eAt D x).1 = lo at e3 e4 hM he ⊢
      generalize hhi : (eAt D x).2 = hi at e4 e5 hM he ⊢
      generalize rowOf D x = r at hr hl1 hdr he ⊢
      generalize rowOf (mostK D T room k) x = r0 at hr0 hl2 hM ⊢
      simp +contextual -implicitDefEqProofs (maxSteps := 1000000) only [sm, sn, sxx, seval, hlt', hlt, ht, h0, hxn2, hr]
      refine callA_rule (set_Ends r (by omega)) (wkL_refl _) rfl ?_
      rw [he]
      by_cases ha : 0 < a
      · obtain ⟨d1, d2⟩ := tdiv_bound (r := room) ha (by omega)
        have ha0 : ¬ a = 0 := by omega
        have w1 : IntKind.i64.wrap (room.tdiv a) = room.tdiv a := by rw [wrap_i64] <;> omega
        have w2 : IntKind.i64.wrap (lo + room.tdiv a) = lo + room.tdiv a := by rw [wrap_i64] <;> omega
        rw [if_pos ha] at hM
        simp +contextual -implicitDefEqProofs (maxSteps := 1000000) only [sm, sn, sxx, seval, eRg, ha, ha0, w1, w2, h0, hxn, hxn2, hr0]
        refine callA_rule (set_Cut r0 lo (min hi (lo + room.tdiv a)) (by omega)) (wkL_refl _) rfl ?_
        simp +contextual -implicitDefEqProofs (maxSteps := 1000000) only [sm, sn, sxx, seval, eRgs, h0, hxn, hxn2, hr0, set_rows2, e2]
        refine ⟨k + 1, by omega, by omega, [0, 1, 2, 3], by decide, rfl, ?_, ?_⟩
        · simp +contextual -implicitDefEqProofs (maxSteps := 1000000) only [sm, sn, sxx, seval, hM]
        · simp +contextual -implicitDefEqProofs (maxSteps := 1000000) only [sm, sn, sxx, seval]
      · by_cases hb2 : a < 0
        · obtain ⟨d1, d2⟩ := tdiv_bound (r := room) (a := -a) (by omega) (by omega)
          have ha0 : ¬ -a = 0 := by omega
          have w0 : IntKind.i64.wrap (0 - a) = -a := by rw [wrap_i64] <;> omega
          have w1 : IntKind.i64.wrap (room.tdiv (-a)) = room.tdiv (-a) := by rw [wrap_i64] <;> omega
          have w2 : IntKind.i64.wrap (hi - room.tdiv (-a)) = hi - room.tdiv (-a) := by rw [wrap_i64] <;> omega
          rw [if_neg ha, if_pos hb2] at hM
          simp +contextual -implicitDefEqProofs (maxSteps := 1000000) only [sm, sn, sxx, seval, eRg, ha, hb2, ha0, w0, w1, w2, h0, hxn, hxn2, hr0]
          refine callA_rule (set_Cut r0 (max lo (hi - room.tdiv (-a))) hi (by omega)) (wkL_refl _) rfl ?_
          simp +contextual -implicitDefEqProofs (maxSteps := 1000000) only [sm, sn, sxx, seval, eRgs, h0, hxn, hxn2, hr0, set_rows2, e2]
          refine ⟨k + 1, by omega, by omega, [0, 1, 2, 3], by decide, rfl, ?_, ?_⟩
          · simp +contextual -implicitDefEqProofs (maxSteps := 1000000) only [sm, sn, sxx, seval, hM]
          · simp +contextual -implicitDefEqProofs (maxSteps := 1000000) only [sm, sn, sxx, seval]
        · rw [if_neg ha, if_neg hb2, hlo, hhi] at hM
          simp +contextual -implicitDefEqProofs (maxSteps := 1000000) only [sm, sn, sxx, seval, eRg, ha, hb2, h0, hxn, hxn2, hr0]
          refine callA_rule (set_Cut r0 lo hi (by omega)) (wkL_refl _) rfl ?_
          simp +contextual -implicitDefEqProofs (maxSteps := 1000000) only [sm, sn, sxx, seval, eRgs, h0, hxn, hxn2, hr0, set_rows2, e2]
          refine ⟨k + 1, by omega, by omega, [0, 1, 2, 3], by decide, rfl, ?_, ?_⟩
          · simp +contextual -implicitDefEqProofs (maxSteps := 1000000) only [sm, sn, sxx, seval, hM]
          · simp +contextual -implicitDefEqProofs (maxSteps := 1000000) only [sm, sn, sxx, seval]
    · have hkn : k = T.length := by omega
      subst hkn
      rw [hE] at hEl hb ⊢
      simp +contextual -implicitDefEqProofs (maxSteps := 1000000) only [sm, sn, sxx, seval, Int.lt_irrefl]
      refine callV_rule (linear_whole E (.list 2 (T.map eRg)) (by omega)) ?_ rfl ?_
      · simp +contextual -implicitDefEqProofs (maxSteps := 1000000) only [sm, sn, sxx, seval, ← hEl]
      rw [hb]
      simp +contextual -implicitDefEqProofs (maxSteps := 1000000) only [sm, sn, sxx, seval]
      refine ⟨[], [0, 1, 2], by decide, ?_⟩
      simp +contextual -implicitDefEqProofs (maxSteps := 1000000) only [sm, sn, sxx, seval, hEl]
      try rfl
end Go.Proofs.Ytonkcemcledhiaa
namespace Go.Proofs.Ytonkcemcledhiaa
open Av
attribute [local irreducible] awp awpOpers
set_option linter.unusedSimpArgs false
set_option linter.unusedVariables false
set_option maxRecDepth 100000
set_option maxHeartbeats 4000000
theorem most_len {D E : List (List Rg)} {T : List Tm} {n : Int} {b : Bool} (hD : DOk D) (hT : TOk T D) (hs : mostS D T n = (E, b)) : LeD E D := by
  unfold mostS at hs
  split at hs
  · simp only [Prod.mk.injEq] at hs; obtain ⟨rfl, -⟩ := hs; exact le_refl_of hD
  · simp only [Prod.mk.injEq] at hs; obtain ⟨rfl, -⟩ := hs; exact most_le hD hT (Nat.le_refl _)
theorem most_true {D E : List (List Rg)} {T : List Tm} {n : Int} (hs : mostS D T n = (E, true)) : wholeB E = true := by
  unfold mostS at hs
  split at hs
  · simp at hs
  · simp only [Prod.mk.injEq] at hs; obtain ⟨rfl, h⟩ := hs; exact h
theorem linear_is (D : List (List Rg)) (T : List Tm) (n : Int) {E : List (List Rg)} {b : Bool} (hD : DOk D) (hDl : D.length ≤ 64) (hT : TOk T D) (hn : -1048576 ≤ n ∧ n ≤ 1048576) (hs : isS D T n = (E, b)) :
    ∃ T', Ctr Try.prog 51 [.ptr 2 0 0 0, .int .i64 n] (sumX T D) (.bool b) (sumX T' E) := by
  obtain ⟨E1, b1, h1⟩ : ∃ E1 b1, mostS D T n = (E1, b1) := ⟨_, _, rfl⟩
  unfold isS at hs
  rw [h1] at hs
  have hle := most_len hD hT h1
  cases b1
  · simp only [Prod.mk.injEq] at hs
    obtain ⟨rfl, rfl⟩ := hs
    refine ⟨T, ?_⟩
    refine call_box Try.func51 Try.call51 e_linear_sum_is ?_
    simp +contextual -implicitDefEqProofs (maxSteps := 1000000) only [c_linear_sum_is, sm, sn, sxx, seval]
    refine callM_rule [0, 1, 2] (linear_most D T n hD hDl hT hn h1) (by decide) ?_ ?_ ?_ ?_ ?_ ?_
    · simp +contextual -implicitDefEqProofs (maxSteps := 1000000) only [sm, sn, sxx, seval, sumX_eq]
      try rfl
    · simp +contextual -implicitDefEqProofs (maxSteps := 1000000) only [sm, sn, sxx, seval, sumX_eq]
    · simp +contextual -implicitDefEqProofs (maxSteps := 1000000) only [sm, sn, sxx, seval, sumX_eq]
      try rfl
    · simp +contextual -implicitDefEqProofs (maxSteps := 1000000) only [sm, sn, sxx, seval, sumX_eq]
    · simp +contextual -implicitDefEqProofs (maxSteps := 1000000) only [sm, sn, sxx, seval, sumX_eq]
    · simp +contextual -implicitDefEqProofs (maxSteps := 1000000) only [sm, sn, sxx, seval, sumX_eq]
      refine ⟨[], [0, 1, 2], by decide, ?_⟩
      simp +contextual -implicitDefEqProofs (maxSteps := 1000000) only [sm, sn, sxx, seval, sumX_eq]
      try rfl
  · simp only at hs
    have hD1 := whole_ok hle (most_true h1)
    have hT1 := opp_ok hT hle.1
    have w1 : IntKind.i64.wrap (0 - n) = -n := by rw [wrap_i64] <;> omega
    have hT0 : TOk T E1 := ⟨hT.1, fun k hk => by have := hT.2 k hk; have := hle.1; omega⟩
    refine ⟨opp T, ?_⟩
    refine call_box Try.func51 Try.call51 e_linear_sum_is ?_
    simp +contextual -implicitDefEqProofs (maxSteps := 1000000) only [c_linear_sum_is, sm, sn, sxx, seval]
    refine callM_rule [0, 1, 2] (linear_most D T n hD hDl hT hn h1) (by decide) ?_ ?_ ?_ ?_ ?_ ?_
    · simp +contextual -implicitDefEqProofs (maxSteps := 1000000) only [sm, sn, sxx, seval, sumX_eq]
      try rfl
    · simp +contextual -implicitDefEqProofs (maxSteps := 1000000) only [sm, sn, sxx, seval, sumX_eq]
    · simp +contextual -implicitDefEqProofs (maxSteps := 1000000) only [sm, sn, sxx, seval, sumX_eq]
      try rfl
    · simp +contextual -implicitDefEqProofs (maxSteps := 1000000) only [sm, sn, sxx, seval, sumX_eq]
    · simp +contextual -implicitDefEqProofs (maxSteps := 1000000) only [sm, sn, sxx, seval, sumX_eq]
    · simp +contextual -implicitDefEqProofs (maxSteps := 1000000) only [sm, sn, sxx, seval, sumX_eq]
      refine callM_rule [0, 1, 2] (linear_opposite E1 T hT0) (by decide) ?_ ?_ ?_ ?_ ?_ ?_
      · simp +contextual -implicitDefEqProofs (maxSteps := 1000000) only [sm, sn, sxx, seval, sumX_eq]
        try rfl
      · simp +contextual -implicitDefEqProofs (maxSteps := 1000000) only [sm, sn, sxx, seval, sumX_eq]
      · simp +contextual -implicitDefEqProofs (maxSteps := 1000000) only [sm, sn, sxx, seval, sumX_eq]
        try rfl
      · simp +contextual -implicitDefEqProofs (maxSteps := 1000000) only [sm, sn, sxx, seval, sumX_eq]
      · simp +contextual -implicitDefEqProofs (maxSteps := 1000000) only [sm, sn, sxx, seval, sumX_eq]
      · simp +contextual -implicitDefEqProofs (maxSteps := 1000000) only [sm, sn, sxx, seval, sumX_eq, w1]
        refine callM_rule [0, 1, 2] (linear_most E1 (opp T) (-n) hD1 (by have := hle.1; omega) hT1 (by omega) hs) (by decide) ?_ ?_ ?_ ?_ ?_ ?_
        · simp +contextual -implicitDefEqProofs (maxSteps := 1000000) only [sm, sn, sxx, seval, sumX_eq]
          try rfl
        · simp +contextual -implicitDefEqProofs (maxSteps := 1000000) only [sm, sn, sxx, seval, sumX_eq]
        · simp +contextual -implicitDefEqProofs (maxSteps := 1000000) only [sm, sn, sxx, seval, sumX_eq]
          try rfl
        · simp +contextual -implicitDefEqProofs (maxSteps := 1000000) only [sm, sn, sxx, seval, sumX_eq]
        · simp +contextual -implicitDefEqProofs (maxSteps := 1000000) only [sm, sn, sxx, seval, sumX_eq]
        · simp +contextual -implicitDefEqProofs (maxSteps := 1000000) only [sm, sn, sxx, seval, sumX_eq]
          refine ⟨[], [0, 1, 2], by decide, ?_⟩
          simp +contextual -implicitDefEqProofs (maxSteps := 1000000) only [sm, sn, sxx, seval, sumX_eq]
          try rfl
theorem tdiv_small {r a : Int} (hr : -1000000000000000 ≤ r ∧ r ≤ 1000000000000000) : -1000000000000000 ≤ r.tdiv a ∧ r.tdiv a ≤ 1000000000000000 := by
  have h : (r.tdiv a).natAbs ≤ r.natAbs := by
    rw [Int.natAbs_tdiv]
    exact Nat.div_le_self _ _
  omega
theorem linear_not (D : List (List Rg)) (T : List Tm) (n : Int) {E : List (List Rg)} {b : Bool} (hD : DOk D) (hDl : D.length ≤ 64) (hT : TOk T D) (hn : -1048576 ≤ n ∧ n ≤ 1048576) (hs : notS D T n = (E, b)) :
    Ctr Try.prog 53 [.ptr 2 0 0 0, .int .i64 n] (sumX T D) (.bool b) (sumX T E) := by
  refine call_box Try.func53 Try.call53 e_linear_sum_not ?_
  have hT32 := hT.1
  simp +contextual -implicitDefEqProofs (maxSteps := 1000000) only [c_linear_sum_not, sumX_eq, sm, sn, sxx, seval]
  refine loop_ruleV [(5, 2)] (fun k : Nat => k ≤ T.length) (fun k => tm 98 [(0, .ptr 2 0 0 0), (1, .int .i64 (n - (openK D T k).2)), (5, .sl 2 3 0 (openK D T k).1.length), (14, .sl 2 1 0 T.length), (15, .int .i64 T.length), (16, .int .i64 k)])
    (fun k => [some (2, [.agg [.sl 2 1 0 T.length, .sl 1 2 0 D.length]]), some (2, T.map eRg), some (1, D.map eRgs), some (2, (openK D T k).1.map eRg)]) (fun k => T.length - k) 0 (by simp +contextual -implicitDefEqProofs (maxSteps := 1000000) only [sm, sn, sxx, seval]) (Nat.zero_le _) ⟨[0, 1, 2, 3], by decide, rfl, ?_, ?_⟩ ?_
  · simp +contextual -implicitDefEqProofs (maxSteps := 1000000) only [sm, sn, sxx, seval, openK]
  · simp +contextual -implicitDefEqProofs (maxSteps := 1000000) only [sm, sn, sxx, seval, Int.natCast_zero, openK, Int.sub_zero]
  · intro k hk
    obtain ⟨of1, of2, of3⟩ := open_facts hD hT hk
    by_cases hlt : k < T.length
    · have hlt' : (k : Int) < (T.length : Int) := by omega
      have e2 : IntKind.i64.wrap ((k : Int) + 1) = ((k + 1 : Nat) : Int) := by rw [wrap_i64] <;> omega
      have ht := tX_pair hlt
      obtain ⟨b1, b2⟩ := hT.2 k hlt
      have hO : openK D T (k + 1) = if (tX T k).1 = 0 ∨ (eAt D (tX T k).2).1 = (eAt D (tX T k).2).2 then ((openK D T k).1, (openK D T k).2 + (tX T k).1 * (eAt D (tX T k).2).1) else ((openK D T k).1 ++ [tX T k], (openK D T k).2) := rfl
      rw [show tX T k = ((tX T k).1, (tX T k).2) from rfl] at hO
      have hr := row_get b2
      obtain ⟨_, e3, e4, e5⟩ := eAt_facts hD b2
      have hdr := dom_right (hD _ b2.1 b2.2)
      have hl1 := right_length hdr.1
      have h0 := b2.1
      have hxn2 : (tX T k).2.toNat < D.length := by omega
      have he : endsV (rowOf D (tX T k).2) = ((eAt D (tX T k).2).1, (eAt D (tX T k).2).2) := rfl
      have hm := mul_bound (a := (tX T k).1) (b := (eAt D (tX T k).2).1) b1 (by omega)
      generalize (tX T k).1 = a at ht b1 hO hm ⊢
      generalize (tX T k).2 = x at ht b2 hO hr e3 e4 e5 hdr hl1 h0 hxn2 he hm ⊢
      generalize (eAt D x).1 = lo at e3 e4 hO he hm ⊢
      generalize (eAt D x).2 = hi at e4 e5 hO he ⊢
      generalize rowOf D x = r at hr hl1 hdr he ⊢
      generalize hol : (openK D T k).1 = ol at hO of1 of3 ⊢
      generalize hos : (openK D T k).2 = os at hO of2 ⊢
      have w1 : IntKind.i64.wrap (a * lo) = a * lo := by rw [wrap_i64] <;> omega
      have w2 : IntKind.i64.wrap (n - os - a * lo) = n - (os + a * lo) := by rw [wrap_i64] <;> omega
      have c1 : (ol.length + 1) * 16 ≤ 140737488355328 := by omega
      have c2 : ol.length + 1 ≤ maxLen := by unfold maxLen; omega
      simp +contextual -implicitDefEqProofs (maxSteps := 1000000) only [sm, sn, sxx, seval, hlt', hlt, ht, h0, hxn2, hr, hol, hos]
      refine callA_rule (set_Ends r (by omega)) (wkL_refl _) rfl ?_
      rw [he]
      by_cases ha : a = 0
      · rw [if_pos (.inl ha)] at hO
        have ha' : (a = 0) = True := eq_true ha
        simp +contextual -implicitDefEqProofs (maxSteps := 1000000) only [sm, sn, sxx, seval, eRg, ha', w1, w2, e2]
        refine ⟨k + 1, by omega, by omega, [0, 1, 2, 3], by decide, rfl, ?_, ?_⟩
        · simp +contextual -implicitDefEqProofs (maxSteps := 1000000) only [sm, sn, sxx, seval, hO]
        · simp +contextual -implicitDefEqProofs (maxSteps := 1000000) only [sm, sn, sxx, seval, hO]
      · have ha' : (a = 0) = False := eq_false ha
        by_cases hl : lo = hi
        · rw [if_pos (.inr hl)] at hO
          have hl' : (lo = hi) = True := eq_true hl
          simp +contextual -implicitDefEqProofs (maxSteps := 1000000) only [sm, sn, sxx, seval, eRg, ha', hl', w1, w2, e2]
          refine ⟨k + 1, by omega, by omega, [0, 1, 2, 3], by decide, rfl, ?_, ?_⟩
          · simp +contextual -implicitDefEqProofs (maxSteps := 1000000) only [sm, sn, sxx, seval, hO]
          · simp +contextual -implicitDefEqProofs (maxSteps := 1000000) only [sm, sn, sxx, seval, hO]
        · rw [if_neg (by rintro (h | h); exact ha h; exact hl h)] at hO
          have hl' : (lo = hi) = False := eq_false hl
          simp +contextual -implicitDefEqProofs (maxSteps := 1000000) only [sm, sn, sxx, seval, eRg, ha', hl', c1, c2, e2]
          refine ⟨k + 1, by omega, by omega, [0, 1, 2, 6], by decide, rfl, ?_, ?_⟩
          · simp +contextual -implicitDefEqProofs (maxSteps := 1000000) only [sm, sn, sxx, seval, hO]
          · simp +contextual -implicitDefEqProofs (maxSteps := 1000000) only [sm, sn, sxx, seval, hO]
    · have hkn : k = T.length := by omega
      subst hkn
      unfold notS at hs
      generalize hol : (openK D T T.length).1 = ol at hs of1 of3 ⊢
      generalize hos : (openK D T T.length).2 = os at hs of2 ⊢
      by_cases g1 : 1 < ol.length
      · rw [if_pos g1] at hs
        simp only [Prod.mk.injEq] at hs
        obtain ⟨rfl, rfl⟩ := hs
        have g1' : (1 : Int) < (ol.length : Int) := by omega
        simp +contextual -implicitDefEqProofs (maxSteps := 1000000) only [sm, sn, sxx, seval, Int.lt_irrefl, hol, hos, g1']
        refine ⟨[], [0, 1, 2], by decide, ?_⟩
        simp +contextual -implicitDefEqProofs (maxSteps := 1000000) only [sm, sn, sxx, seval]
        try rfl
      rw [if_neg g1] at hs
      have g1' : ¬ (1 : Int) < (ol.length : Int) := by omega
      by_cases g0 : ol.length = 0
      · rw [if_pos g0] at hs
        simp only [Prod.mk.injEq] at hs
        obtain ⟨rfl, rfl⟩ := hs
        have g0' : ((ol.length : Int) = 0) = True := by simp only [eq_iff_iff, iff_true]; omega
        simp +contextual -implicitDefEqProofs (maxSteps := 1000000) only [sm, sn, sxx, seval, Int.lt_irrefl, hol, hos, g1', g0']
        refine ⟨[], [0, 1, 2], by decide, ?_⟩
        simp +contextual -implicitDefEqProofs (maxSteps := 1000000) only [sm, sn, sxx, seval]
        try rfl
      rw [if_neg g0] at hs
      have g0' : ((ol.length : Int) = 0) = False := by simp only [eq_iff_iff, iff_false]; omega
      have g2 : 0 < ol.length := by omega
      have ht := tX_pair g2
      obtain ⟨u1, u2, u3⟩ := of3 _ (List.mem_of_getElem? (tX_get g2))
      have hr := row_get u3
      have hdr := dom_right (hD _ u3.1 u3.2)
      have hl1 := right_length hdr.1
      have h0 := u3.1
      have hxn2 : (tX ol 0).2.toNat < D.length := by omega
      generalize (tX ol 0).1 = a at ht u1 u2 hs ⊢
      generalize (tX ol 0).2 = x at ht u3 hs hr hdr hl1 h0 hxn2 ⊢
      generalize rowOf D x = r at hr hl1 hdr hs ⊢
      have u1' : (a = 0) = False := eq_false u1
      by_cases g3 : (n - os).tmod a = 0
      · rw [if_neg (by simp [g3])] at hs
        simp only [Prod.mk.injEq] at hs
        obtain ⟨hE, hb⟩ := hs
        have hq := tdiv_small (r := n - os) (a := a) (by omega)
        have w3 : IntKind.i64.wrap ((n - os).tdiv a) = (n - os).tdiv a := by rw [wrap_i64] <;> omega
        have g3' : ((n - os).tmod a = 0) = True := eq_true g3
        simp +contextual -implicitDefEqProofs (maxSteps := 1000000) only [sm, sn, sxx, seval, Int.lt_irrefl, hol, hos, g1', g0', g2, ht, u1', g3', w3, h0, hxn2, hr]
        refine callA_rule (set_Without r ((n - os).tdiv a) (by omega) (by omega)) (wkL_refl _) rfl ?_
        have hEl : E.length = D.length := by rw [← hE, List.length_set]
        simp +contextual -implicitDefEqProofs (maxSteps := 1000000) only [sm, sn, sxx, seval, eRgs, h0, hxn2, hr, set_rows2, hE]
        refine callV_rule (linear_whole E (.list 2 (T.map eRg)) (by omega)) ?_ rfl ?_
        · simp +contextual -implicitDefEqProofs (maxSteps := 1000000) only [sm, sn, sxx, seval, ← hEl]
        rw [hE] at hb
        rw [hb]
        simp +contextual -implicitDefEqProofs (maxSteps := 1000000) only [sm, sn, sxx, seval]
        refine ⟨[], [0, 1, 2], by decide, ?_⟩
        simp +contextual -implicitDefEqProofs (maxSteps := 1000000) only [sm, sn, sxx, seval, hEl]
        try rfl
      · rw [if_pos g3] at hs
        simp only [Prod.mk.injEq] at hs
        obtain ⟨rfl, rfl⟩ := hs
        have g3' : ((n - os).tmod a = 0) = False := eq_false g3
        simp +contextual -implicitDefEqProofs (maxSteps := 1000000) only [sm, sn, sxx, seval, Int.lt_irrefl, hol, hos, g1', g0', g2, ht, u1', g3']
        refine ⟨[], [0, 1, 2], by decide, ?_⟩
        simp +contextual -implicitDefEqProofs (maxSteps := 1000000) only [sm, sn, sxx, seval]
        try rfl
theorem linear_fit (c : Con) (D : List (List Rg)) (hD : D.length ≤ 1000000000000) (hd : ∀ d ∈ D, d.length ≤ 1000000000000) (hc : conFits c) : Ctr Try.prog 49 [eCon c, eDoms D] [] (.bool (modB (D, [c], 0, 0))) [] := by
  refine call_pure Try.func49 Try.call49 e_linear_fit ?_
  obtain ⟨K, X, A, C⟩ := c
  simp +contextual -implicitDefEqProofs (maxSteps := 1000000) only [c_linear_fit, eCon, eIs, eDoms, sm, sn, sxx, seval]
  refine callA_rule (model_Right (D, [(K, X, A, C)], 0, 0) hD hd (by simp) (by simpa using hc)) (wkL_refl _) rfl ?_
  simp +contextual -implicitDefEqProofs (maxSteps := 1000000) only [sm, sn, sxx, seval]
end Go.Proofs.Ytonkcemcledhiaa
namespace Go.Proofs.Ytonkcemcledhiaa
open Av
attribute [local irreducible] awp awpOpers
set_option linter.unusedSimpArgs false
set_option linter.unusedVariables false
set_option maxRecDepth 100000
set_option maxHeartbeats 4000000
theorem le_rows {E D : List (List Rg)} (hle : LeD E D) : ∀ d ∈ E, d.length ≤ 1000000000000 := by
  intro d hd
  obtain ⟨i, hi, rfl⟩ := List.getElem_of_mem hd
  have hs := hle.2 (i : Int) (by omega) (by have := hle.1; omega)
  have e : rowOf E (i : Int) = E[i] := by unfold rowOf; rw [Int.toNat_natCast, List.getElem?_eq_getElem hi]; rfl
  rw [e] at hs
  have := right_length hs.1
  omega
theorem is_len {D E : List (List Rg)} {T : List Tm} {n : Int} {b : Bool} (hD : DOk D) (hT : TOk T D) (hs : isS D T n = (E, b)) : LeD E D := by
  obtain ⟨E1, b1, h1⟩ : ∃ E1 b1, mostS D T n = (E1, b1) := ⟨_, _, rfl⟩
  unfold isS at hs
  rw [h1] at hs
  have hle := most_len hD hT h1
  cases b1
  · simp only [Prod.mk.injEq] at hs; obtain ⟨rfl, -⟩ := hs; exact hle
  · simp only at hs
    exact (most_len (whole_ok hle (most_true h1)) (opp_ok hT hle.1) hs).trans hle
theorem not_len {D E : List (List Rg)} {T : List Tm} {n : Int} {b : Bool} (hD : DOk D) (hT : TOk T D) (hs : notS D T n = (E, b)) : LeD E D := by
  obtain ⟨of1, of2, of3⟩ := open_facts hD hT (Nat.le_refl T.length)
  unfold notS at hs
  split at hs
  · simp only [Prod.mk.injEq] at hs; obtain ⟨rfl, -⟩ := hs; exact le_refl_of hD
  · split at hs
    · simp only [Prod.mk.injEq] at hs; obtain ⟨rfl, -⟩ := hs; exact le_refl_of hD
    · split at hs
      · simp only [Prod.mk.injEq] at hs; obtain ⟨rfl, -⟩ := hs; exact le_refl_of hD
      · rename_i g1 g0 g3
        simp only [Prod.mk.injEq] at hs
        obtain ⟨rfl, -⟩ := hs
        obtain ⟨u1, u2, u3⟩ := of3 _ (List.mem_of_getElem? (tX_get (T := (openK D T T.length).1) (k := 0) (by omega)))
        have h := le_refl_of hD
        exact le_setrow h u3 (without_sub (dom_right (hD _ u3.1 u3.2)).1 _)
/-- what a model of one sum says -/
theorem dom_ok {D : List (List Rg)} (h : ∀ d ∈ D, domB d = true) : DOk D := fun x h0 h1 => h _ (row_mem ⟨h0, h1⟩)
theorem sum_facts {c : Con} {D : List (List Rg)} (hm : modB (D, [c], 0, 0) = true) (hk : 1 ≤ c.1 ∧ c.1 ≤ 6) : D.length ≤ 64 ∧ DOk D ∧ TOk (termsOf c) D ∧ (-1048576 ≤ c.2.2.2 ∧ c.2.2.2 ≤ 1048576) ∧ c.2.2.1.length ≤ c.2.1.length ∧ c.2.1.length ≤ 32 := by
  obtain ⟨K, X, A, C⟩ := c
  simp only at hk
  simp only [modB, Bool.and_eq_true, decide_eq_true_eq, List.all_eq_true] at hm
  obtain ⟨⟨⟨⟨m1, m2⟩, m3⟩, m4⟩, m5⟩ := hm
  have hmay := m4 (K, X, A, C) (by simp)
  simp only [mayB, Bool.and_eq_true, decide_eq_true_eq, List.all_eq_true] at hmay
  obtain ⟨⟨⟨⟨⟨h1, h2⟩, h3⟩, h4⟩, h5⟩, h6⟩ := hmay
  simp only [formedB, Bool.and_eq_true] at h1
  obtain ⟨⟨-, hc⟩, -⟩ := h1
  have hlen : A.length ≤ X.length := by
    have hcase : K = 1 ∨ K = 2 ∨ K = 3 ∨ K = 4 ∨ K = 5 ∨ K = 6 := by omega
    rcases hcase with rfl | rfl | rfl | rfl | rfl | rfl <;> simp [countsB, shp] at hc <;> omega
  have hTl : (termsOf (K, X, A, C)).length = A.length := by unfold termsOf; simp only [List.length_zip]; omega
  refine ⟨m1, dom_ok m3, ⟨by omega, fun k hk => ?_⟩, by simpa [withinB] using h3, hlen, h2⟩
  rw [hTl] at hk
  obtain ⟨a, ha⟩ : ∃ r, A[k]? = some r := ⟨_, List.getElem?_eq_getElem hk⟩
  obtain ⟨x, hx⟩ : ∃ r, X[k]? = some r := ⟨_, List.getElem?_eq_getElem (by omega)⟩
  have hg : (termsOf (K, X, A, C))[k]? = some (a, x) := by
    unfold termsOf
    simp only [List.getElem?_zip_eq_some]
    exact ⟨ha, hx⟩
  have e : tX (termsOf (K, X, A, C)) k = (a, x) := by unfold tX; rw [hg]; rfl
  rw [e]
  have hxo := List.all_eq_true.1 h5 k (by have := (List.getElem?_eq_some_iff.1 hx).1; simpa using this)
  unfold xOk at hxo
  simp only [hx, Bool.and_eq_true, decide_eq_true_eq] at hxo
  have hwa := h6 a (List.mem_of_getElem? ha)
  simp only [withinB, Bool.and_eq_true, decide_eq_true_eq] at hwa
  exact ⟨hwa, hxo.1.1, hxo.1.2⟩
theorem linear_Narrow (c : Con) (D : List (List Rg)) (hD : D.length ≤ 1000000000000) (hd : ∀ d ∈ D, d.length ≤ 1000000000000) (hc : conFits c) (hk : 1 ≤ c.1 ∧ c.1 ≤ 3) :
    Ctr Try.prog 23 [eCon c, eDoms D] [] (.tuple [eDoms (linearL c D).1, .int .i64 (linearL c D).2]) [] := by
  obtain ⟨K, X, A, C⟩ := c
  refine call_pure Try.func23 Try.call23 e_linear_Narrow ?_
  simp +contextual -implicitDefEqProofs (maxSteps := 1000000) only [c_linear_Narrow, eCon, eIs, eDoms, sm, sn, sxx, seval]
  refine callA_rule (linear_fit (K, X, A, C) D hD hd hc) (wkL_refl _) rfl ?_
  cases hm : modB (D, [(K, X, A, C)], 0, 0)
  · have hres : linearL (K, X, A, C) D = ([], 2) := by
      unfold linearL
      rw [if_neg (by simp [hm])]
    rw [hres]
    simp +contextual -implicitDefEqProofs (maxSteps := 1000000) only [sm, sn, sxx, seval, eDoms]
  obtain ⟨f1, f2, f3, f4, f5, f6⟩ := sum_facts hm (by simp only at hk ⊢; omega)
  simp only at f4 f5 f6 hk
  simp +contextual -implicitDefEqProofs (maxSteps := 1000000) only [sm, sn, sxx, seval, eCon, eIs]
  refine callO_rule (linear_terms (K, X, A, C) D hD f5 (by simp only; omega)) rfl (wkL_refl _) rfl ?_ ?_
  · simp +contextual -implicitDefEqProofs (maxSteps := 1000000) only [sm, sn, sxx, seval, sumX_eq]
  have hcase : K = 1 ∨ K = 2 ∨ K = 3 := by omega
  rcases hcase with hK | hK | hK
  · subst hK
    obtain ⟨E, b, hs⟩ : ∃ E b, isS D (termsOf (1, X, A, C)) C = (E, b) := ⟨_, _, rfl⟩
    have hres : linearL (1, X, A, C) D = tell (E, b) := by
      unfold linearL
      rw [if_pos hm]
      simp only [if_true]
      rw [← hs]
    have hle := is_len f2 f3 hs
    have hEl := hle.1
    have hEd := le_rows hle
    obtain ⟨T', hci⟩ := linear_is D (termsOf (1, X, A, C)) C f2 f1 f3 f4 hs
    generalize termsOf (1, X, A, C) = T at hci ⊢
    simp +contextual -implicitDefEqProofs (maxSteps := 1000000) only [sm, sn, sxx, seval, eCon, eIs]
    refine callM_rule [1, 2, 3] (hci) (by decide) ?_ ?_ ?_ ?_ ?_ ?_
    · simp +contextual -implicitDefEqProofs (maxSteps := 1000000) only [sm, sn, sxx, seval, sumX_eq]
      try rfl
    · simp +contextual -implicitDefEqProofs (maxSteps := 1000000) only [sm, sn, sxx, seval, sumX_eq]
    · simp +contextual -implicitDefEqProofs (maxSteps := 1000000) only [sm, sn, sxx, seval, sumX_eq]
      try rfl
    · simp +contextual -implicitDefEqProofs (maxSteps := 1000000) only [sm, sn, sxx, seval, sumX_eq]
    · simp +contextual -implicitDefEqProofs (maxSteps := 1000000) only [sm, sn, sxx, seval, sumX_eq]
    · simp +contextual -implicitDefEqProofs (maxSteps := 1000000) only [sm, sn, sxx, seval, sumX_eq]
      cases b
      · rw [hres]
        simp +contextual -implicitDefEqProofs (maxSteps := 1000000) only [sm, sn, sxx, seval, tell, eDoms]
      · rw [hres]
        simp +contextual -implicitDefEqProofs (maxSteps := 1000000) only [sm, sn, sxx, seval]
        refine callM_rule [3] (linear_own E (by omega) hEd) (by decide) ?_ ?_ ?_ ?_ ?_ ?_
        · simp +contextual -implicitDefEqProofs (maxSteps := 1000000) only [sm, sn, sxx, seval]
        · simp +contextual -implicitDefEqProofs (maxSteps := 1000000) only [sm, sn, sxx, seval]
        · simp +contextual -implicitDefEqProofs (maxSteps := 1000000) only [sm, sn, sxx, seval]
        · simp +contextual -implicitDefEqProofs (maxSteps := 1000000) only [sm, sn, sxx, seval]
        · simp +contextual -implicitDefEqProofs (maxSteps := 1000000) only [sm, sn, sxx, seval]
        simp +contextual -implicitDefEqProofs (maxSteps := 1000000) only [sm, sn, sxx, seval, tell, eDoms]
  · subst hK
    obtain ⟨E, b, hs⟩ : ∃ E b, mostS D (termsOf (2, X, A, C)) C = (E, b) := ⟨_, _, rfl⟩
    have hres : linearL (2, X, A, C) D = tell (E, b) := by
      unfold linearL
      rw [if_pos hm]
      simp only [show ¬ (2 : Int) = 1 by decide, if_false, if_true]
      rw [← hs]
    have hle := most_len f2 f3 hs
    have hEl := hle.1
    have hEd := le_rows hle
    simp +contextual -implicitDefEqProofs (maxSteps := 1000000) only [sm, sn, sxx, seval, eCon, eIs]
    refine callM_rule [1, 2, 3] (linear_most D _ C f2 f1 f3 f4 hs) (by decide) ?_ ?_ ?_ ?_ ?_ ?_
    · simp +contextual -implicitDefEqProofs (maxSteps := 1000000) only [sm, sn, sxx, seval, sumX_eq]
      try rfl
    · simp +contextual -implicitDefEqProofs (maxSteps := 1000000) only [sm, sn, sxx, seval, sumX_eq]
    · simp +contextual -implicitDefEqProofs (maxSteps := 1000000) only [sm, sn, sxx, seval, sumX_eq]
      try rfl
    · simp +contextual -implicitDefEqProofs (maxSteps := 1000000) only [sm, sn, sxx, seval, sumX_eq]
    · simp +contextual -implicitDefEqProofs (maxSteps := 1000000) only [sm, sn, sxx, seval, sumX_eq]
    · simp +contextual -implicitDefEqProofs (maxSteps := 1000000) only [sm, sn, sxx, seval, sumX_eq]
      cases b
      · rw [hres]
        simp +contextual -implicitDefEqProofs (maxSteps := 1000000) only [sm, sn, sxx, seval, tell, eDoms]
      · rw [hres]
        simp +contextual -implicitDefEqProofs (maxSteps := 1000000) only [sm, sn, sxx, seval]
        refine callM_rule [3] (linear_own E (by omega) hEd) (by decide) ?_ ?_ ?_ ?_ ?_ ?_
        · simp +contextual -implicitDefEqProofs (maxSteps := 1000000) only [sm, sn, sxx, seval]
        · simp +contextual -implicitDefEqProofs (maxSteps := 1000000) only [sm, sn, sxx, seval]
        · simp +contextual -implicitDefEqProofs (maxSteps := 1000000) only [sm, sn, sxx, seval]
        · simp +contextual -implicitDefEqProofs (maxSteps := 1000000) only [sm, sn, sxx, seval]
        · simp +contextual -implicitDefEqProofs (maxSteps := 1000000) only [sm, sn, sxx, seval]
        simp +contextual -implicitDefEqProofs (maxSteps := 1000000) only [sm, sn, sxx, seval, tell, eDoms]
  · subst hK
    obtain ⟨E, b, hs⟩ : ∃ E b, notS D (termsOf (3, X, A, C)) C = (E, b) := ⟨_, _, rfl⟩
    have hres : linearL (3, X, A, C) D = tell (E, b) := by
      unfold linearL
      rw [if_pos hm]
      simp only [show ¬ (3 : Int) = 1 by decide, show ¬ (3 : Int) = 2 by decide, if_false, if_true]
      rw [← hs]
    have hle := not_len f2 f3 hs
    have hEl := hle.1
    have hEd := le_rows hle
    simp +contextual -implicitDefEqProofs (maxSteps := 1000000) only [sm, sn, sxx, seval, eCon, eIs]
    refine callM_rule [1, 2, 3] (linear_not D _ C f2 f1 f3 f4 hs) (by decide) ?_ ?_ ?_ ?_ ?_ ?_
    · simp +contextual -implicitDefEqProofs (maxSteps := 1000000) only [sm, sn, sxx, seval, sumX_eq]
      try rfl
    · simp +contextual -implicitDefEqProofs (maxSteps := 1000000) only [sm, sn, sxx, seval, sumX_eq]
    · simp +contextual -implicitDefEqProofs (maxSteps := 1000000) only [sm, sn, sxx, seval, sumX_eq]
      try rfl
    · simp +contextual -implicitDefEqProofs (maxSteps := 1000000) only [sm, sn, sxx, seval, sumX_eq]
    · simp +contextual -implicitDefEqProofs (maxSteps := 1000000) only [sm, sn, sxx, seval, sumX_eq]
    · simp +contextual -implicitDefEqProofs (maxSteps := 1000000) only [sm, sn, sxx, seval, sumX_eq]
      cases b
      · rw [hres]
        simp +contextual -implicitDefEqProofs (maxSteps := 1000000) only [sm, sn, sxx, seval, tell, eDoms]
      · rw [hres]
        simp +contextual -implicitDefEqProofs (maxSteps := 1000000) only [sm, sn, sxx, seval]
        refine callM_rule [3] (linear_own E (by omega) hEd) (by decide) ?_ ?_ ?_ ?_ ?_ ?_
        · simp +contextual -implicitDefEqProofs (maxSteps := 1000000) only [sm, sn, sxx, seval]
        · simp +contextual -implicitDefEqProofs (maxSteps := 1000000) only [sm, sn, sxx, seval]
        · simp +contextual -implicitDefEqProofs (maxSteps := 1000000) only [sm, sn, sxx, seval]
        · simp +contextual -implicitDefEqProofs (maxSteps := 1000000) only [sm, sn, sxx, seval]
        · simp +contextual -implicitDefEqProofs (maxSteps := 1000000) only [sm, sn, sxx, seval]
        simp +contextual -implicitDefEqProofs (maxSteps := 1000000) only [sm, sn, sxx, seval, tell, eDoms]
theorem linear_Ends (c : Con) (D : List (List Rg)) (hD : D.length ≤ 1000000000000) (hd : ∀ d ∈ D, d.length ≤ 1000000000000) (hc : conFits c) :
    Ctr Try.prog 46 [eCon c, eDoms D] [] (.tuple [.agg [.int .i64 (lendsL c D).1.1, .int .i64 (lendsL c D).1.2], .bool (lendsL c D).2]) [] := by
  obtain ⟨K, X, A, C⟩ := c
  refine call_pure Try.func46 Try.call46 e_linear_Ends ?_
  simp +contextual -implicitDefEqProofs (maxSteps := 1000000) only [c_linear_Ends, eCon, eIs, eDoms, sm, sn, sxx, seval]
  refine callA_rule (linear_fit (K, X, A, C) D hD hd hc) (wkL_refl _) rfl ?_
  have hno : ¬ (modB (D, [(K, X, A, C)], 0, 0) = true ∧ 1 ≤ K ∧ K ≤ 6) → lendsL (K, X, A, C) D = ((0, 0), false) := fun h => by unfold lendsL; rw [if_neg h]
  cases hm : modB (D, [(K, X, A, C)], 0, 0)
  · rw [hno (by simp [hm])]
    simp +contextual -implicitDefEqProofs (maxSteps := 1000000) only [sm, sn, sxx, seval]
  by_cases k1 : K < 1
  · rw [hno (by rintro ⟨_, h, _⟩; omega)]
    simp +contextual -implicitDefEqProofs (maxSteps := 1000000) only [sm, sn, sxx, seval, eCon, eIs, k1]
  by_cases k2 : 6 < K
  · rw [hno (by rintro ⟨_, _, h⟩; omega)]
    simp +contextual -implicitDefEqProofs (maxSteps := 1000000) only [sm, sn, sxx, seval, eCon, eIs, k1, k2]
  obtain ⟨f1, f2, f3, f4, f5, f6⟩ := sum_facts hm (by simp only; omega)
  simp only at f4 f5 f6
  have hyes : lendsL (K, X, A, C) D = (spanK D (termsOf (K, X, A, C)) (termsOf (K, X, A, C)).length, true) := by unfold lendsL; rw [if_pos ⟨hm, by simp only; omega, by simp only; omega⟩]
  rw [hyes]
  simp +contextual -implicitDefEqProofs (maxSteps := 1000000) only [sm, sn, sxx, seval, eCon, eIs, k1, k2]
  refine callO_rule (linear_terms (K, X, A, C) D hD f5 (by simp only; omega)) rfl (wkL_refl _) rfl ?_ ?_
  · simp +contextual -implicitDefEqProofs (maxSteps := 1000000) only [sm, sn, sxx, seval, sumX_eq]
  generalize termsOf (K, X, A, C) = T at f3 ⊢
  simp +contextual -implicitDefEqProofs (maxSteps := 1000000) only [sm, sn, sxx, seval, sumX_eq]
  refine callV_rule (linear_span D T f2 f3) ?_ rfl ?_
  · simp +contextual -implicitDefEqProofs (maxSteps := 1000000) only [sm, sn, sxx, seval]
  simp +contextual -implicitDefEqProofs (maxSteps := 1000000) only [sm, sn, sxx, seval]
end Go.Proofs.Ytonkcemcledhiaa
