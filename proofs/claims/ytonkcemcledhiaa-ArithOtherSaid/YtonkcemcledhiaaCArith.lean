/- The code of functions, as abstract code. Printed by program. -/
import Derived.Test.YtonkcemcledhiaaAv2
import Derived.Test.YtonkcemcledhiaaProg
namespace Go.Proofs.Ytonkcemcledhiaa
open Av
set_option linter.unusedVariables false
set_option maxRecDepth 100000
def kd_CArith (f : Nat) : Nat := if f = 41 then 3 else if f = 97 then 1 else if f = 101 then 2 else if f = 102 then 2 else if f = 99 then 2 else if f = 104 then 2 else if f = 105 then 2 else if f = 103 then 2 else if f = 56 then 2 else if f = 57 then 2 else if f = 58 then 2 else if f = 59 then 2 else if f = 60 then 2 else 0
/- (*touchstone/arith.box).put: slots b, 0, i, 1, l, 2, b, 3, i, 4, l, 5 -/
def c_arith_box_put : AFunc := ⟨25, [],
  .seq (.seq (.region (⟨some 6, .mov (.tmp 2), none⟩ ::
    ⟨some 7, .len false (.tmp 6), none⟩ ::
    ⟨some 8, .bin .eql (.tmp 7) (.val (.int .i64 0)), none⟩ :: [])) <|
  .cond (.tmp 8) (.seq (.region (⟨some 9, .mov (.tmp 0), none⟩ ::
      ⟨some 10, .nilc (.tmp 9), none⟩ ::
      ⟨some 11, .faddr 2 (.tmp 10), none⟩ ::
      ⟨none, .store 1 (.tmp 11) (.val (.bool true)), none⟩ :: [])) <|
    .ret) <|
  .skip) <|
  .region (⟨some 12, .mov (.tmp 0), none⟩ ::
    ⟨some 13, .nilc (.tmp 12), none⟩ ::
    ⟨some 14, .faddr 0 (.tmp 13), none⟩ ::
    ⟨some 15, .load false 1 (.tmp 14), none⟩ ::
    ⟨some 16, .mov (.tmp 0), none⟩ ::
    ⟨some 17, .nilc (.tmp 16), none⟩ ::
    ⟨some 18, .faddr 1 (.tmp 17), none⟩ ::
    ⟨some 19, .load false 1 (.tmp 18), none⟩ ::
    ⟨some 20, .mov (.tmp 1), none⟩ ::
    ⟨some 21, .iaddr 1 (.tmp 19) (.tmp 20), none⟩ ::
    ⟨some 22, .load false 1 (.tmp 21), none⟩ ::
    ⟨some 23, .mov (.tmp 2), none⟩ ::
    ⟨some 24, .iaddr 1 (.tmp 15) (.tmp 22), none⟩ ::
    ⟨none, .store 1 (.tmp 24) (.tmp 23), none⟩ :: [])⟩
theorem e_arith_box_put : cFunc Try.prog kd_CArith Try.f102 = some c_arith_box_put := by kernel_rfl
/- (*touchstone/arith.box).cut: slots b, 0, i, 1, lo, 2, hi, 3, b, 4, i, 5, lo, 6, hi, 7 -/
def c_arith_box_cut : AFunc := ⟨22, [],
  .seq (.region (⟨some 8, .mov (.tmp 0), none⟩ ::
    ⟨some 9, .nilc (.tmp 8), none⟩ ::
    ⟨some 10, .faddr 2 (.tmp 9), none⟩ ::
    ⟨some 11, .load false 1 (.tmp 10), none⟩ ::
    ⟨some 12, .un .not (.tmp 11), none⟩ :: [])) <|
  .cond (.tmp 12) (.region (⟨some 13, .mov (.tmp 0), none⟩ ::
      ⟨some 14, .mov (.tmp 1), none⟩ ::
      ⟨some 15, .mov (.tmp 0), none⟩ ::
      ⟨some 16, .mov (.tmp 1), none⟩ ::
      ⟨some 17, .callm (.val (.fn (.func 101) [])) [(.tmp 15), (.tmp 16)], none⟩ ::
      ⟨some 18, .mov (.tmp 2), none⟩ ::
      ⟨some 19, .mov (.tmp 3), none⟩ ::
      ⟨some 20, .call (.val (.fn (.func 64) [])) [(.tmp 17), (.tmp 18), (.tmp 19)], none⟩ ::
      ⟨some 21, .callm (.val (.fn (.func 102) [])) [(.tmp 13), (.tmp 14), (.tmp 20)], none⟩ :: [])) <|
  .skip⟩
theorem e_arith_box_cut : cFunc Try.prog kd_CArith Try.f99 = some c_arith_box_cut := by kernel_rfl
/- (*touchstone/arith.box).least: slots b, 0, i, 1, lo, 2, b, 3, i, 4, lo, 5 -/
def c_arith_box_least : AFunc := ⟨10, [],
  .region (⟨some 6, .mov (.tmp 0), none⟩ ::
    ⟨some 7, .mov (.tmp 1), none⟩ ::
    ⟨some 8, .mov (.tmp 2), none⟩ ::
    ⟨some 9, .callm (.val (.fn (.func 99) [])) [(.tmp 6), (.tmp 7), (.tmp 8), (.val (.int .i64 1048576))], none⟩ :: [])⟩
theorem e_arith_box_least : cFunc Try.prog kd_CArith Try.f104 = some c_arith_box_least := by kernel_rfl
/- (*touchstone/arith.box).most: slots b, 0, i, 1, hi, 2, b, 3, i, 4, hi, 5 -/
def c_arith_box_most : AFunc := ⟨10, [],
  .region (⟨some 6, .mov (.tmp 0), none⟩ ::
    ⟨some 7, .mov (.tmp 1), none⟩ ::
    ⟨some 8, .mov (.tmp 2), none⟩ ::
    ⟨some 9, .callm (.val (.fn (.func 99) [])) [(.tmp 6), (.tmp 7), (.val (.int .i64 (-1048576))), (.tmp 8)], none⟩ :: [])⟩
theorem e_arith_box_most : cFunc Try.prog kd_CArith Try.f105 = some c_arith_box_most := by kernel_rfl
/- (*touchstone/arith.box).divide: slots b, 0, i, 1, by, 2, b, 3, i, 4, by, 5, y, 6, z, 7 -/
def c_arith_box_divide : AFunc := ⟨36, [],
  .seq (.seq (.region (⟨some 8, .mov (.tmp 0), none⟩ ::
    ⟨some 9, .nilc (.tmp 8), none⟩ ::
    ⟨some 10, .faddr 2 (.tmp 9), none⟩ ::
    ⟨some 11, .load false 1 (.tmp 10), none⟩ :: [])) <|
  .cond (.tmp 11) (.ret) <|
  .skip) <|
  .seq (.region (⟨some 12, .mov (.tmp 0), none⟩ ::
    ⟨some 13, .mov (.tmp 2), none⟩ ::
    ⟨some 14, .callv (.val (.fn (.func 97) [])) [(.tmp 12), (.tmp 13)], none⟩ ::
    ⟨some 6, .alloc (.agg [(.int .i64 0), (.int .i64 0)]), none⟩ ::
    ⟨none, .store 2 (.tmp 6) (.tmp 14), none⟩ :: [])) <|
  .seq (.seq (.region (⟨some 15, .faddr 0 (.tmp 6), none⟩ ::
    ⟨some 16, .load false 1 (.tmp 15), none⟩ ::
    ⟨some 17, .bin .leq (.tmp 16) (.val (.int .i64 0)), none⟩ ::
    ⟨some 18, .mov (.tmp 17), none⟩ ::
    ⟨some 19, .faddr 1 (.tmp 6), some (18, true)⟩ ::
    ⟨some 20, .load false 1 (.tmp 19), some (18, true)⟩ ::
    ⟨some 21, .bin .geq (.tmp 20) (.val (.int .i64 0)), some (18, true)⟩ ::
    ⟨some 22, .pick (.tmp 18) (.tmp 21) (.val (.bool false)), none⟩ :: [])) <|
  .cond (.tmp 22) (.ret) <|
  .skip) <|
  .seq (.region (⟨some 23, .mov (.tmp 0), none⟩ ::
    ⟨some 24, .callv (.val (.fn (.func 97) [])) [(.tmp 23), (.val (.int .i64 2))], none⟩ ::
    ⟨some 7, .alloc (.agg [(.int .i64 0), (.int .i64 0)]), none⟩ ::
    ⟨none, .store 2 (.tmp 7) (.tmp 24), none⟩ :: [])) <|
  .region (⟨some 25, .mov (.tmp 0), none⟩ ::
    ⟨some 26, .mov (.tmp 1), none⟩ ::
    ⟨some 27, .load true 2 (.tmp 7), none⟩ ::
    ⟨some 28, .load true 2 (.tmp 6), none⟩ ::
    ⟨some 29, .call (.val (.fn (.func 96) [])) [(.tmp 27), (.tmp 28), (.val (.fn (.func 140) []))], none⟩ ::
    ⟨some 30, .fld false 1 0 (.tmp 29), none⟩ ::
    ⟨some 31, .load true 2 (.tmp 7), none⟩ ::
    ⟨some 32, .load true 2 (.tmp 6), none⟩ ::
    ⟨some 33, .call (.val (.fn (.func 96) [])) [(.tmp 31), (.tmp 32), (.val (.fn (.func 141) []))], none⟩ ::
    ⟨some 34, .fld false 1 1 (.tmp 33), none⟩ ::
    ⟨some 35, .callm (.val (.fn (.func 99) [])) [(.tmp 25), (.tmp 26), (.tmp 30), (.tmp 34)], none⟩ :: [])⟩
theorem e_arith_box_divide : cFunc Try.prog kd_CArith Try.f103 = some c_arith_box_divide := by kernel_rfl
/- (*touchstone/arith.box).times: slots b, 0, b, 1, z, 2 -/
def c_arith_box_times : AFunc := ⟨44, [],
  .seq (.region (⟨some 3, .mov (.tmp 0), none⟩ ::
    ⟨some 4, .callv (.val (.fn (.func 97) [])) [(.tmp 3), (.val (.int .i64 0))], none⟩ ::
    ⟨some 5, .mov (.tmp 0), none⟩ ::
    ⟨some 6, .callv (.val (.fn (.func 97) [])) [(.tmp 5), (.val (.int .i64 1))], none⟩ ::
    ⟨some 7, .call (.val (.fn (.func 96) [])) [(.tmp 4), (.tmp 6), (.val (.fn (.func 98) []))], none⟩ ::
    ⟨some 2, .alloc (.agg [(.int .i64 0), (.int .i64 0)]), none⟩ ::
    ⟨none, .store 2 (.tmp 2) (.tmp 7), none⟩ :: [])) <|
  .seq (.region (⟨some 8, .mov (.tmp 0), none⟩ ::
    ⟨some 9, .faddr 0 (.tmp 2), none⟩ ::
    ⟨some 10, .load false 1 (.tmp 9), none⟩ ::
    ⟨some 11, .faddr 1 (.tmp 2), none⟩ ::
    ⟨some 12, .load false 1 (.tmp 11), none⟩ ::
    ⟨some 13, .callm (.val (.fn (.func 99) [])) [(.tmp 8), (.val (.int .i64 2)), (.tmp 10), (.tmp 12)], none⟩ :: [])) <|
  .seq (.seq (.region (⟨some 14, .mov (.tmp 0), none⟩ ::
    ⟨some 15, .nilc (.tmp 14), none⟩ ::
    ⟨some 16, .faddr 2 (.tmp 15), none⟩ ::
    ⟨some 17, .load false 1 (.tmp 16), none⟩ ::
    ⟨some 18, .un .not (.tmp 17), none⟩ ::
    ⟨some 19, .mov (.tmp 18), none⟩ ::
    ⟨some 20, .mov (.tmp 0), some (19, true)⟩ ::
    ⟨some 21, .callm (.val (.fn (.func 101) [])) [(.tmp 20), (.val (.int .i64 2))], some (19, true)⟩ ::
    ⟨some 22, .call (.val (.fn (.func 100) [])) [(.tmp 21), (.val (.int .i64 0))], some (19, true)⟩ ::
    ⟨some 23, .un .not (.tmp 22), some (19, true)⟩ ::
    ⟨some 24, .pick (.tmp 19) (.tmp 23) (.val (.bool false)), none⟩ :: [])) <|
  .cond (.tmp 24) (.seq (.region (⟨some 25, .mov (.tmp 0), none⟩ ::
      ⟨some 26, .mov (.tmp 0), none⟩ ::
      ⟨some 27, .callm (.val (.fn (.func 101) [])) [(.tmp 26), (.val (.int .i64 0))], none⟩ ::
      ⟨some 28, .call (.val (.fn (.func 92) [])) [(.tmp 27), (.val (.int .i64 0))], none⟩ ::
      ⟨some 29, .callm (.val (.fn (.func 102) [])) [(.tmp 25), (.val (.int .i64 0)), (.tmp 28)], none⟩ :: [])) <|
    .seq (.region (⟨some 30, .mov (.tmp 0), none⟩ ::
      ⟨some 31, .nilc (.tmp 30), none⟩ ::
      ⟨some 32, .faddr 2 (.tmp 31), none⟩ ::
      ⟨some 33, .load false 1 (.tmp 32), none⟩ ::
      ⟨some 34, .un .not (.tmp 33), none⟩ :: [])) <|
    .cond (.tmp 34) (.region (⟨some 35, .mov (.tmp 0), none⟩ ::
        ⟨some 36, .mov (.tmp 0), none⟩ ::
        ⟨some 37, .callm (.val (.fn (.func 101) [])) [(.tmp 36), (.val (.int .i64 1))], none⟩ ::
        ⟨some 38, .call (.val (.fn (.func 92) [])) [(.tmp 37), (.val (.int .i64 0))], none⟩ ::
        ⟨some 39, .callm (.val (.fn (.func 102) [])) [(.tmp 35), (.val (.int .i64 1)), (.tmp 38)], none⟩ :: [])) <|
    .skip) <|
  .skip) <|
  .seq (.region (⟨some 40, .mov (.tmp 0), none⟩ ::
    ⟨some 41, .callm (.val (.fn (.func 103) [])) [(.tmp 40), (.val (.int .i64 0)), (.val (.int .i64 1))], none⟩ :: [])) <|
  .region (⟨some 42, .mov (.tmp 0), none⟩ ::
    ⟨some 43, .callm (.val (.fn (.func 103) [])) [(.tmp 42), (.val (.int .i64 1)), (.val (.int .i64 0))], none⟩ :: [])⟩
theorem e_arith_box_times : cFunc Try.prog kd_CArith Try.f56 = some c_arith_box_times := by kernel_rfl
/- (*touchstone/arith.box).lesser: slots b, 0, b, 1, x, 2, y, 3, i, 4, z, 5 -/
def c_arith_box_lesser : AFunc := ⟨50, [],
  .seq (.region (⟨some 6, .mov (.tmp 0), none⟩ ::
    ⟨some 7, .callv (.val (.fn (.func 97) [])) [(.tmp 6), (.val (.int .i64 0))], none⟩ ::
    ⟨some 8, .mov (.tmp 0), none⟩ ::
    ⟨some 9, .callv (.val (.fn (.func 97) [])) [(.tmp 8), (.val (.int .i64 1))], none⟩ ::
    ⟨some 2, .alloc (.agg [(.int .i64 0), (.int .i64 0)]), none⟩ ::
    ⟨some 3, .alloc (.agg [(.int .i64 0), (.int .i64 0)]), none⟩ ::
    ⟨none, .store 2 (.tmp 2) (.tmp 7), none⟩ ::
    ⟨none, .store 2 (.tmp 3) (.tmp 9), none⟩ :: [])) <|
  .seq (.region (⟨some 10, .mov (.tmp 0), none⟩ ::
    ⟨some 11, .faddr 0 (.tmp 2), none⟩ ::
    ⟨some 12, .load false 1 (.tmp 11), none⟩ ::
    ⟨some 13, .faddr 0 (.tmp 3), none⟩ ::
    ⟨some 14, .load false 1 (.tmp 13), none⟩ ::
    ⟨some 15, .mn (.tmp 12) [(.tmp 14)], none⟩ ::
    ⟨some 16, .faddr 1 (.tmp 2), none⟩ ::
    ⟨some 17, .load false 1 (.tmp 16), none⟩ ::
    ⟨some 18, .faddr 1 (.tmp 3), none⟩ ::
    ⟨some 19, .load false 1 (.tmp 18), none⟩ ::
    ⟨some 20, .mn (.tmp 17) [(.tmp 19)], none⟩ ::
    ⟨some 21, .callm (.val (.fn (.func 99) [])) [(.tmp 10), (.val (.int .i64 2)), (.tmp 15), (.tmp 20)], none⟩ :: [])) <|
  .seq (.region (⟨some 22, .mov (.tmp 0), none⟩ ::
    ⟨some 23, .mov (.tmp 0), none⟩ ::
    ⟨some 24, .callv (.val (.fn (.func 97) [])) [(.tmp 23), (.val (.int .i64 2))], none⟩ ::
    ⟨some 25, .fld false 1 0 (.tmp 24), none⟩ ::
    ⟨some 26, .callm (.val (.fn (.func 104) [])) [(.tmp 22), (.val (.int .i64 0)), (.tmp 25)], none⟩ :: [])) <|
  .seq (.region (⟨some 27, .mov (.tmp 0), none⟩ ::
    ⟨some 28, .mov (.tmp 0), none⟩ ::
    ⟨some 29, .callv (.val (.fn (.func 97) [])) [(.tmp 28), (.val (.int .i64 2))], none⟩ ::
    ⟨some 30, .fld false 1 0 (.tmp 29), none⟩ ::
    ⟨some 31, .callm (.val (.fn (.func 104) [])) [(.tmp 27), (.val (.int .i64 1)), (.tmp 30)], none⟩ :: [])) <|
  .seq (.region (⟨some 32, .mov (.val (.int .i64 0)), none⟩ :: [])) <|
  .block 0 (.loop (.seq (.region (⟨some 33, .bin .lss (.tmp 32) (.val (.int .i64 2)), none⟩ :: [])) <|
      .seq (.cond (.tmp 33) (.skip) <|
      .exit 0) <|
      .seq (.block 1 (.seq (.region (⟨some 34, .mov (.tmp 32), none⟩ ::
          ⟨some 4, .mov (.tmp 34), none⟩ :: [])) <|
        .seq (.region (⟨some 35, .mov (.tmp 0), none⟩ ::
          ⟨some 36, .callv (.val (.fn (.func 97) [])) [(.tmp 35), (.val (.int .i64 2))], none⟩ ::
          ⟨some 37, .fld false 1 1 (.tmp 36), none⟩ ::
          ⟨some 5, .mov (.tmp 37), none⟩ :: [])) <|
        .seq (.region (⟨some 38, .mov (.tmp 0), none⟩ ::
          ⟨some 39, .mov (.tmp 4), none⟩ ::
          ⟨some 40, .callv (.val (.fn (.func 97) [])) [(.tmp 38), (.tmp 39)], none⟩ ::
          ⟨some 41, .fld false 1 0 (.tmp 40), none⟩ ::
          ⟨some 42, .mov (.tmp 5), none⟩ ::
          ⟨some 43, .bin .gtr (.tmp 41) (.tmp 42), none⟩ :: [])) <|
        .cond (.tmp 43) (.region (⟨some 44, .mov (.tmp 0), none⟩ ::
            ⟨some 45, .mov (.tmp 4), none⟩ ::
            ⟨some 46, .bin .sub (.val (.int .i64 1)) (.tmp 45), none⟩ ::
            ⟨some 47, .mov (.tmp 5), none⟩ ::
            ⟨some 48, .callm (.val (.fn (.func 105) [])) [(.tmp 44), (.tmp 46), (.tmp 47)], none⟩ :: [])) <|
        .skip)) <|
      .region (⟨some 49, .bin .add (.tmp 32) (.val (.int .i64 1)), none⟩ ::
        ⟨some 32, .mov (.tmp 49), none⟩ :: [])))⟩
theorem e_arith_box_lesser : cFunc Try.prog kd_CArith Try.f57 = some c_arith_box_lesser := by kernel_rfl
/- (*touchstone/arith.box).greater: slots b, 0, b, 1, x, 2, y, 3, i, 4, z, 5 -/
def c_arith_box_greater : AFunc := ⟨50, [],
  .seq (.region (⟨some 6, .mov (.tmp 0), none⟩ ::
    ⟨some 7, .callv (.val (.fn (.func 97) [])) [(.tmp 6), (.val (.int .i64 0))], none⟩ ::
    ⟨some 8, .mov (.tmp 0), none⟩ ::
    ⟨some 9, .callv (.val (.fn (.func 97) [])) [(.tmp 8), (.val (.int .i64 1))], none⟩ ::
    ⟨some 2, .alloc (.agg [(.int .i64 0), (.int .i64 0)]), none⟩ ::
    ⟨some 3, .alloc (.agg [(.int .i64 0), (.int .i64 0)]), none⟩ ::
    ⟨none, .store 2 (.tmp 2) (.tmp 7), none⟩ ::
    ⟨none, .store 2 (.tmp 3) (.tmp 9), none⟩ :: [])) <|
  .seq (.region (⟨some 10, .mov (.tmp 0), none⟩ ::
    ⟨some 11, .faddr 0 (.tmp 2), none⟩ ::
    ⟨some 12, .load false 1 (.tmp 11), none⟩ ::
    ⟨some 13, .faddr 0 (.tmp 3), none⟩ ::
    ⟨some 14, .load false 1 (.tmp 13), none⟩ ::
    ⟨some 15, .mx (.tmp 12) [(.tmp 14)], none⟩ ::
    ⟨some 16, .faddr 1 (.tmp 2), none⟩ ::
    ⟨some 17, .load false 1 (.tmp 16), none⟩ ::
    ⟨some 18, .faddr 1 (.tmp 3), none⟩ ::
    ⟨some 19, .load false 1 (.tmp 18), none⟩ ::
    ⟨some 20, .mx (.tmp 17) [(.tmp 19)], none⟩ ::
    ⟨some 21, .callm (.val (.fn (.func 99) [])) [(.tmp 10), (.val (.int .i64 2)), (.tmp 15), (.tmp 20)], none⟩ :: [])) <|
  .seq (.region (⟨some 22, .mov (.tmp 0), none⟩ ::
    ⟨some 23, .mov (.tmp 0), none⟩ ::
    ⟨some 24, .callv (.val (.fn (.func 97) [])) [(.tmp 23), (.val (.int .i64 2))], none⟩ ::
    ⟨some 25, .fld false 1 1 (.tmp 24), none⟩ ::
    ⟨some 26, .callm (.val (.fn (.func 105) [])) [(.tmp 22), (.val (.int .i64 0)), (.tmp 25)], none⟩ :: [])) <|
  .seq (.region (⟨some 27, .mov (.tmp 0), none⟩ ::
    ⟨some 28, .mov (.tmp 0), none⟩ ::
    ⟨some 29, .callv (.val (.fn (.func 97) [])) [(.tmp 28), (.val (.int .i64 2))], none⟩ ::
    ⟨some 30, .fld false 1 1 (.tmp 29), none⟩ ::
    ⟨some 31, .callm (.val (.fn (.func 105) [])) [(.tmp 27), (.val (.int .i64 1)), (.tmp 30)], none⟩ :: [])) <|
  .seq (.region (⟨some 32, .mov (.val (.int .i64 0)), none⟩ :: [])) <|
  .block 0 (.loop (.seq (.region (⟨some 33, .bin .lss (.tmp 32) (.val (.int .i64 2)), none⟩ :: [])) <|
      .seq (.cond (.tmp 33) (.skip) <|
      .exit 0) <|
      .seq (.block 1 (.seq (.region (⟨some 34, .mov (.tmp 32), none⟩ ::
          ⟨some 4, .mov (.tmp 34), none⟩ :: [])) <|
        .seq (.region (⟨some 35, .mov (.tmp 0), none⟩ ::
          ⟨some 36, .callv (.val (.fn (.func 97) [])) [(.tmp 35), (.val (.int .i64 2))], none⟩ ::
          ⟨some 37, .fld false 1 0 (.tmp 36), none⟩ ::
          ⟨some 5, .mov (.tmp 37), none⟩ :: [])) <|
        .seq (.region (⟨some 38, .mov (.tmp 0), none⟩ ::
          ⟨some 39, .mov (.tmp 4), none⟩ ::
          ⟨some 40, .callv (.val (.fn (.func 97) [])) [(.tmp 38), (.tmp 39)], none⟩ ::
          ⟨some 41, .fld false 1 1 (.tmp 40), none⟩ ::
          ⟨some 42, .mov (.tmp 5), none⟩ ::
          ⟨some 43, .bin .lss (.tmp 41) (.tmp 42), none⟩ :: [])) <|
        .cond (.tmp 43) (.region (⟨some 44, .mov (.tmp 0), none⟩ ::
            ⟨some 45, .mov (.tmp 4), none⟩ ::
            ⟨some 46, .bin .sub (.val (.int .i64 1)) (.tmp 45), none⟩ ::
            ⟨some 47, .mov (.tmp 5), none⟩ ::
            ⟨some 48, .callm (.val (.fn (.func 104) [])) [(.tmp 44), (.tmp 46), (.tmp 47)], none⟩ :: [])) <|
        .skip)) <|
      .region (⟨some 49, .bin .add (.tmp 32) (.val (.int .i64 1)), none⟩ ::
        ⟨some 32, .mov (.tmp 49), none⟩ :: [])))⟩
theorem e_arith_box_greater : cFunc Try.prog kd_CArith Try.f58 = some c_arith_box_greater := by kernel_rfl
/- (*touchstone/arith.box).same: slots b, 0, b, 1 -/
def c_arith_box_same : AFunc := ⟨13, [],
  .seq (.region (⟨some 2, .mov (.tmp 0), none⟩ ::
    ⟨some 3, .mov (.tmp 0), none⟩ ::
    ⟨some 4, .callm (.val (.fn (.func 101) [])) [(.tmp 3), (.val (.int .i64 0))], none⟩ ::
    ⟨some 5, .mov (.tmp 0), none⟩ ::
    ⟨some 6, .callm (.val (.fn (.func 101) [])) [(.tmp 5), (.val (.int .i64 1))], none⟩ ::
    ⟨some 7, .call (.val (.fn (.func 106) [])) [(.tmp 4), (.tmp 6)], none⟩ ::
    ⟨some 8, .callm (.val (.fn (.func 102) [])) [(.tmp 2), (.val (.int .i64 0)), (.tmp 7)], none⟩ :: [])) <|
  .region (⟨some 9, .mov (.tmp 0), none⟩ ::
    ⟨some 10, .mov (.tmp 0), none⟩ ::
    ⟨some 11, .callm (.val (.fn (.func 101) [])) [(.tmp 10), (.val (.int .i64 0))], none⟩ ::
    ⟨some 12, .callm (.val (.fn (.func 102) [])) [(.tmp 9), (.val (.int .i64 1)), (.tmp 11)], none⟩ :: [])⟩
theorem e_arith_box_same : cFunc Try.prog kd_CArith Try.f60 = some c_arith_box_same := by kernel_rfl
/- touchstone/arith.Narrow: slots c, 0, d, 1, c, 2, d, 3, b, 6, i, 7, x, 8 -/
def c_arith_Narrow : AFunc := ⟨70, [.tmp 4, .tmp 5],
  .seq (.region (⟨some 2, .box 4 (.tmp 0), none⟩ ::
    ⟨some 4, .mov (.val .nils), none⟩ ::
    ⟨some 5, .mov (.val (.int .i64 0)), none⟩ :: [])) <|
  .seq (.seq (.region (⟨some 9, .mov (.tmp 1), none⟩ ::
    ⟨some 10, .load true 4 (.tmp 2), none⟩ ::
    ⟨some 11, .bslice 4 [(.tmp 10)], none⟩ ::
    ⟨some 12, .build [.nils, .nils, (.int .i64 0), (.int .i64 0)] [(0, 1, (.tmp 9)), (1, 1, (.tmp 11))], none⟩ ::
    ⟨some 13, .call (.val (.fn (.func 40) [])) [(.tmp 12)], none⟩ ::
    ⟨some 14, .un .not (.tmp 13), none⟩ :: [])) <|
  .cond (.tmp 14) (.seq (.region (⟨some 4, .mov (.val .nils), none⟩ ::
      ⟨some 5, .mov (.val (.int .i64 2)), none⟩ :: [])) <|
    .ret) <|
  .skip) <|
  .seq (.region (⟨some 15, .mov (.tmp 1), none⟩ ::
    ⟨some 16, .callo (.val (.fn (.func 41) [])) [(.tmp 15)], none⟩ ::
    ⟨some 17, .faddr 1 (.tmp 2), none⟩ ::
    ⟨some 18, .load false 1 (.tmp 17), none⟩ ::
    ⟨some 19, .build [.nils, .nils, (.bool false)] [(0, 1, (.tmp 16)), (1, 1, (.tmp 18)), (2, 1, (.val (.bool false)))], none⟩ ::
    ⟨some 20, .box 3 (.tmp 19), none⟩ ::
    ⟨some 6, .mov (.tmp 20), none⟩ :: [])) <|
  .seq (.seq (.region (⟨some 21, .faddr 0 (.tmp 2), none⟩ ::
    ⟨some 22, .load false 1 (.tmp 21), none⟩ :: [])) <|
  .block 0 (.seq (.region (⟨some 24, .bin .eql (.tmp 22) (.val (.int .i64 7)), none⟩ ::
      ⟨some 23, .mov (.tmp 24), none⟩ :: [])) <|
    .cond (.tmp 23) (.region (⟨some 25, .mov (.tmp 6), none⟩ ::
        ⟨some 26, .callm (.val (.fn (.func 56) [])) [(.tmp 25)], none⟩ :: [])) <|
    .seq (.region (⟨some 28, .bin .eql (.tmp 22) (.val (.int .i64 8)), none⟩ ::
      ⟨some 27, .mov (.tmp 28), none⟩ :: [])) <|
    .cond (.tmp 27) (.region (⟨some 29, .mov (.tmp 6), none⟩ ::
        ⟨some 30, .callm (.val (.fn (.func 57) [])) [(.tmp 29)], none⟩ :: [])) <|
    .seq (.region (⟨some 32, .bin .eql (.tmp 22) (.val (.int .i64 9)), none⟩ ::
      ⟨some 31, .mov (.tmp 32), none⟩ :: [])) <|
    .cond (.tmp 31) (.region (⟨some 33, .mov (.tmp 6), none⟩ ::
        ⟨some 34, .callm (.val (.fn (.func 58) [])) [(.tmp 33)], none⟩ :: [])) <|
    .seq (.region (⟨some 36, .bin .eql (.tmp 22) (.val (.int .i64 10)), none⟩ ::
      ⟨some 35, .mov (.tmp 36), none⟩ :: [])) <|
    .cond (.tmp 35) (.region (⟨some 37, .mov (.tmp 6), none⟩ ::
        ⟨some 38, .callm (.val (.fn (.func 59) [])) [(.tmp 37)], none⟩ :: [])) <|
    .seq (.region (⟨some 40, .bin .eql (.tmp 22) (.val (.int .i64 15)), none⟩ ::
      ⟨some 39, .mov (.tmp 40), none⟩ :: [])) <|
    .cond (.tmp 39) (.region (⟨some 41, .mov (.tmp 6), none⟩ ::
        ⟨some 42, .callm (.val (.fn (.func 60) [])) [(.tmp 41)], none⟩ :: [])) <|
    .seq (.region (⟨some 4, .mov (.val .nils), none⟩ ::
      ⟨some 5, .mov (.val (.int .i64 10)), none⟩ :: [])) <|
    .ret)) <|
  .seq (.seq (.region (⟨some 43, .mov (.tmp 6), none⟩ ::
    ⟨some 44, .nilc (.tmp 43), none⟩ ::
    ⟨some 45, .faddr 2 (.tmp 44), none⟩ ::
    ⟨some 46, .load false 1 (.tmp 45), none⟩ :: [])) <|
  .cond (.tmp 46) (.seq (.region (⟨some 4, .mov (.val .nils), none⟩ ::
      ⟨some 5, .mov (.val (.int .i64 12)), none⟩ :: [])) <|
    .ret) <|
  .skip) <|
  .seq (.seq (.region (⟨some 47, .mov (.tmp 6), none⟩ ::
    ⟨some 48, .nilc (.tmp 47), none⟩ ::
    ⟨some 49, .faddr 0 (.tmp 48), none⟩ ::
    ⟨some 50, .load false 1 (.tmp 49), none⟩ ::
    ⟨some 51, .len false (.tmp 50), none⟩ ::
    ⟨some 52, .mov (.val (.int .i64 0)), none⟩ :: [])) <|
  .block 1 (.loop (.seq (.region (⟨some 53, .bin .lss (.tmp 52) (.tmp 51), none⟩ :: [])) <|
      .seq (.cond (.tmp 53) (.skip) <|
      .exit 1) <|
      .seq (.block 2 (.seq (.region (⟨some 54, .mov (.tmp 52), none⟩ ::
          ⟨some 55, .iaddr 1 (.tmp 50) (.tmp 52), none⟩ ::
          ⟨some 56, .load false 1 (.tmp 55), none⟩ ::
          ⟨some 7, .mov (.tmp 54), none⟩ ::
          ⟨some 8, .mov (.tmp 56), none⟩ :: [])) <|
        .region (⟨some 57, .mov (.tmp 6), none⟩ ::
          ⟨some 58, .nilc (.tmp 57), none⟩ ::
          ⟨some 59, .faddr 0 (.tmp 58), none⟩ ::
          ⟨some 60, .load false 1 (.tmp 59), none⟩ ::
          ⟨some 61, .mov (.tmp 7), none⟩ ::
          ⟨some 62, .mov (.tmp 8), none⟩ ::
          ⟨some 63, .call (.val (.fn (.func 45) [])) [(.tmp 62)], none⟩ ::
          ⟨some 64, .iaddr 1 (.tmp 60) (.tmp 61), none⟩ ::
          ⟨none, .store 1 (.tmp 64) (.tmp 63), none⟩ :: []))) <|
      .region (⟨some 65, .bin .add (.tmp 52) (.val (.int .i64 1)), none⟩ ::
        ⟨some 52, .mov (.tmp 65), none⟩ :: [])))) <|
  .seq (.region (⟨some 66, .mov (.tmp 6), none⟩ ::
    ⟨some 67, .nilc (.tmp 66), none⟩ ::
    ⟨some 68, .faddr 0 (.tmp 67), none⟩ ::
    ⟨some 69, .load false 1 (.tmp 68), none⟩ ::
    ⟨some 4, .mov (.tmp 69), none⟩ ::
    ⟨some 5, .mov (.val (.int .i64 0)), none⟩ :: [])) <|
  .ret⟩
theorem e_arith_Narrow : cFunc Try.prog kd_CArith Try.f29 = some c_arith_Narrow := by kernel_rfl
end Go.Proofs.Ytonkcemcledhiaa
