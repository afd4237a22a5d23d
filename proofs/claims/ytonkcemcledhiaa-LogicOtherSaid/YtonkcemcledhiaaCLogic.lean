/- The code of functions, as abstract code. Printed by program. -/
import Derived.Test.YtonkcemcledhiaaAv2
import Derived.Test.YtonkcemcledhiaaProg
namespace Go.Proofs.Ytonkcemcledhiaa
open Av
set_option linter.unusedVariables false
set_option maxRecDepth 100000
def kd_CLogic (f : Nat) : Nat := if f = 83 then 1 else if f = 86 then 1 else if f = 84 then 2 else if f = 42 then 2 else if f = 43 then 2 else if f = 44 then 2 else if f = 41 then 3 else 0
/- (*touchstone/logic.bits).at: slots b, 0, i, 1, b, 2, i, 3, r, 5, _, 6 -/
def c_logic_bits_at : AFunc := ⟨31, [.tmp 4],
  .seq (.region (⟨some 4, .mov (.val (.int .i64 0)), none⟩ :: [])) <|
  .seq (.region (⟨some 8, .mov (.tmp 0), none⟩ ::
    ⟨some 9, .nilc (.tmp 8), none⟩ ::
    ⟨some 10, .faddr 1 (.tmp 9), none⟩ ::
    ⟨some 11, .load false 1 (.tmp 10), none⟩ ::
    ⟨some 12, .mov (.tmp 0), none⟩ ::
    ⟨some 13, .nilc (.tmp 12), none⟩ ::
    ⟨some 14, .faddr 0 (.tmp 13), none⟩ ::
    ⟨some 15, .load false 1 (.tmp 14), none⟩ ::
    ⟨some 16, .mov (.tmp 1), none⟩ ::
    ⟨some 17, .iaddr 1 (.tmp 15) (.tmp 16), none⟩ ::
    ⟨some 18, .load false 1 (.tmp 17), none⟩ ::
    ⟨some 19, .iaddr 1 (.tmp 11) (.tmp 18), none⟩ ::
    ⟨some 20, .load false 1 (.tmp 19), none⟩ ::
    ⟨some 21, .call (.val (.fn (.func 61) [])) [(.tmp 20)], none⟩ ::
    ⟨some 7, .mov (.tmp 21), none⟩ ::
    ⟨some 22, .ext (.tmp 7) 0, none⟩ ::
    ⟨some 23, .ext (.tmp 7) 1, none⟩ ::
    ⟨some 5, .alloc (.agg [(.int .i64 0), (.int .i64 0)]), none⟩ ::
    ⟨none, .store 2 (.tmp 5) (.tmp 22), none⟩ ::
    ⟨some 6, .mov (.tmp 23), none⟩ :: [])) <|
  .seq (.seq (.region (⟨some 24, .faddr 0 (.tmp 5), none⟩ ::
    ⟨some 25, .load false 1 (.tmp 24), none⟩ ::
    ⟨some 26, .faddr 1 (.tmp 5), none⟩ ::
    ⟨some 27, .load false 1 (.tmp 26), none⟩ ::
    ⟨some 28, .bin .neq (.tmp 25) (.tmp 27), none⟩ :: [])) <|
  .cond (.tmp 28) (.seq (.region (⟨some 4, .mov (.val (.int .i64 2)), none⟩ :: [])) <|
    .ret) <|
  .skip) <|
  .seq (.region (⟨some 29, .faddr 0 (.tmp 5), none⟩ ::
    ⟨some 30, .load false 1 (.tmp 29), none⟩ ::
    ⟨some 4, .mov (.tmp 30), none⟩ :: [])) <|
  .ret⟩
theorem e_logic_bits_at : cFunc Try.prog kd_CLogic Try.f83 = some c_logic_bits_at := by kernel_rfl
/- (*touchstone/logic.bits).set: slots b, 0, i, 1, v, 2, b, 3, i, 4, v, 5 -/
def c_logic_bits_set : AFunc := ⟨33, [],
  .seq (.region (⟨some 6, .mov (.tmp 0), none⟩ ::
    ⟨some 7, .mov (.tmp 1), none⟩ ::
    ⟨some 8, .callv (.val (.fn (.func 83) [])) [(.tmp 6), (.tmp 7)], none⟩ :: [])) <|
  .block 0 (.seq (.region (⟨some 13, .bin .eql (.tmp 8) (.val (.int .i64 2)), none⟩ ::
      ⟨some 12, .mov (.tmp 13), none⟩ :: [])) <|
    .cond (.tmp 12) (.region (⟨some 14, .mov (.tmp 0), none⟩ ::
        ⟨some 15, .nilc (.tmp 14), none⟩ ::
        ⟨some 16, .faddr 1 (.tmp 15), none⟩ ::
        ⟨some 17, .load false 1 (.tmp 16), none⟩ ::
        ⟨some 18, .mov (.tmp 0), none⟩ ::
        ⟨some 19, .nilc (.tmp 18), none⟩ ::
        ⟨some 20, .faddr 0 (.tmp 19), none⟩ ::
        ⟨some 21, .load false 1 (.tmp 20), none⟩ ::
        ⟨some 22, .mov (.tmp 1), none⟩ ::
        ⟨some 23, .iaddr 1 (.tmp 21) (.tmp 22), none⟩ ::
        ⟨some 24, .load false 1 (.tmp 23), none⟩ ::
        ⟨some 25, .mov (.tmp 2), none⟩ ::
        ⟨some 26, .mov (.tmp 2), none⟩ ::
        ⟨some 27, .build [(.int .i64 0), (.int .i64 0)] [(0, 1, (.tmp 25)), (1, 1, (.tmp 26))], none⟩ ::
        ⟨some 28, .bslice 2 [(.tmp 27)], none⟩ ::
        ⟨some 29, .iaddr 1 (.tmp 17) (.tmp 24), none⟩ ::
        ⟨none, .store 1 (.tmp 29) (.tmp 28), none⟩ :: [])) <|
    .seq (.region (⟨some 31, .mov (.tmp 2), none⟩ ::
      ⟨some 32, .bin .eql (.tmp 8) (.tmp 31), none⟩ ::
      ⟨some 30, .mov (.tmp 32), none⟩ :: [])) <|
    .cond (.tmp 30) (.skip) <|
    .region (⟨some 9, .mov (.tmp 0), none⟩ ::
      ⟨some 10, .nilc (.tmp 9), none⟩ ::
      ⟨some 11, .faddr 2 (.tmp 10), none⟩ ::
      ⟨none, .store 1 (.tmp 11) (.val (.bool true)), none⟩ :: []))⟩
theorem e_logic_bits_set : cFunc Try.prog kd_CLogic Try.f84 = some c_logic_bits_set := by kernel_rfl
/- (*touchstone/logic.bits).count: slots b, 0, l, 1, so, 2, b, 3, l, 4, so, 5, n, 6, last, 7, _, 8, i, 9 -/
def c_logic_bits_count : AFunc := ⟨27, [.tmp 6, .tmp 7],
  .seq (.region (⟨some 6, .mov (.val (.int .i64 0)), none⟩ ::
    ⟨some 7, .mov (.val (.int .i64 0)), none⟩ :: [])) <|
  .seq (.seq (.region (⟨some 10, .mov (.tmp 1), none⟩ ::
    ⟨some 11, .len false (.tmp 10), none⟩ ::
    ⟨some 12, .mov (.val (.int .i64 0)), none⟩ :: [])) <|
  .block 0 (.loop (.seq (.region (⟨some 13, .bin .lss (.tmp 12) (.tmp 11), none⟩ :: [])) <|
      .seq (.cond (.tmp 13) (.skip) <|
      .exit 0) <|
      .seq (.block 1 (.seq (.region (⟨some 14, .iaddr 1 (.tmp 10) (.tmp 12), none⟩ ::
          ⟨some 15, .load false 1 (.tmp 14), none⟩ ::
          ⟨some 9, .mov (.tmp 15), none⟩ :: [])) <|
        .seq (.region (⟨some 16, .mov (.tmp 0), none⟩ ::
          ⟨some 17, .mov (.tmp 9), none⟩ ::
          ⟨some 18, .callv (.val (.fn (.func 83) [])) [(.tmp 16), (.tmp 17)], none⟩ ::
          ⟨some 19, .mov (.tmp 2), none⟩ ::
          ⟨some 20, .bin .eql (.tmp 18) (.tmp 19), none⟩ :: [])) <|
        .cond (.tmp 20) (.region (⟨some 21, .mov (.tmp 6), none⟩ ::
            ⟨some 22, .bin .add (.tmp 21) (.val (.int .i64 1)), none⟩ ::
            ⟨some 23, .mov (.tmp 9), none⟩ ::
            ⟨some 6, .mov (.tmp 22), none⟩ ::
            ⟨some 7, .mov (.tmp 23), none⟩ :: [])) <|
        .skip)) <|
      .region (⟨some 24, .bin .add (.tmp 12) (.val (.int .i64 1)), none⟩ ::
        ⟨some 12, .mov (.tmp 24), none⟩ :: [])))) <|
  .seq (.region (⟨some 25, .mov (.tmp 6), none⟩ ::
    ⟨some 26, .mov (.tmp 7), none⟩ ::
    ⟨some 6, .mov (.tmp 25), none⟩ ::
    ⟨some 7, .mov (.tmp 26), none⟩ :: [])) <|
  .ret⟩
theorem e_logic_bits_count : cFunc Try.prog kd_CLogic Try.f86 = some c_logic_bits_count := by kernel_rfl
/- touchstone/logic.places: slots n, 0, n, 1, out, 3, i, 4 -/
def c_logic_places : AFunc := ⟨15, [.tmp 2],
  .seq (.region (⟨some 2, .mov (.val .nils), none⟩ :: [])) <|
  .seq (.region (⟨some 3, .mov (.val .nils), none⟩ :: [])) <|
  .seq (.seq (.region (⟨some 5, .mov (.tmp 0), none⟩ ::
    ⟨some 6, .mov (.val (.int .i64 0)), none⟩ :: [])) <|
  .block 0 (.loop (.seq (.region (⟨some 7, .bin .lss (.tmp 6) (.tmp 5), none⟩ :: [])) <|
      .seq (.cond (.tmp 7) (.skip) <|
      .exit 0) <|
      .seq (.block 1 (.seq (.region (⟨some 8, .mov (.tmp 6), none⟩ ::
          ⟨some 4, .mov (.tmp 8), none⟩ :: [])) <|
        .region (⟨some 9, .mov (.tmp 3), none⟩ ::
          ⟨some 10, .mov (.tmp 4), none⟩ ::
          ⟨some 11, .bslice 1 [(.tmp 10)], none⟩ ::
          ⟨some 12, .app 1 8 (.tmp 9) (.tmp 11), none⟩ ::
          ⟨some 3, .mov (.tmp 12), none⟩ :: []))) <|
      .region (⟨some 13, .bin .add (.tmp 6) (.val (.int .i64 1)), none⟩ ::
        ⟨some 6, .mov (.tmp 13), none⟩ :: [])))) <|
  .seq (.region (⟨some 14, .mov (.tmp 3), none⟩ ::
    ⟨some 2, .mov (.tmp 14), none⟩ :: [])) <|
  .ret⟩
theorem e_logic_places : cFunc Try.prog kd_CLogic Try.f85 = some c_logic_places := by kernel_rfl
/- (*touchstone/logic.bits).clause: slots b, 0, signs, 1, b, 2, signs, 3, free, 4, last, 5, i, 6, s, 7, yes, 8 -/
def c_logic_bits_clause : AFunc := ⟨46, [],
  .seq (.region (⟨some 4, .mov (.val (.int .i64 0)), none⟩ ::
    ⟨some 5, .mov (.val (.int .i64 0)), none⟩ :: [])) <|
  .seq (.seq (.region (⟨some 9, .mov (.tmp 1), none⟩ ::
    ⟨some 10, .len false (.tmp 9), none⟩ ::
    ⟨some 11, .mov (.val (.int .i64 0)), none⟩ :: [])) <|
  .block 0 (.loop (.seq (.region (⟨some 12, .bin .lss (.tmp 11) (.tmp 10), none⟩ :: [])) <|
      .seq (.cond (.tmp 12) (.skip) <|
      .exit 0) <|
      .seq (.block 1 (.seq (.region (⟨some 13, .mov (.tmp 11), none⟩ ::
          ⟨some 14, .iaddr 1 (.tmp 9) (.tmp 11), none⟩ ::
          ⟨some 15, .load false 1 (.tmp 14), none⟩ ::
          ⟨some 6, .mov (.tmp 13), none⟩ ::
          ⟨some 7, .mov (.tmp 15), none⟩ :: [])) <|
        .seq (.region (⟨some 8, .mov (.val (.int .i64 0)), none⟩ :: [])) <|
        .seq (.seq (.region (⟨some 16, .mov (.tmp 7), none⟩ ::
          ⟨some 17, .bin .gtr (.tmp 16) (.val (.int .i64 0)), none⟩ :: [])) <|
        .cond (.tmp 17) (.region (⟨some 8, .mov (.val (.int .i64 1)), none⟩ :: [])) <|
        .skip) <|
        .seq (.region (⟨some 18, .mov (.tmp 0), none⟩ ::
          ⟨some 19, .mov (.tmp 6), none⟩ ::
          ⟨some 20, .callv (.val (.fn (.func 83) [])) [(.tmp 18), (.tmp 19)], none⟩ :: [])) <|
        .block 2 (.seq (.region (⟨some 22, .mov (.tmp 8), none⟩ ::
            ⟨some 23, .bin .eql (.tmp 20) (.tmp 22), none⟩ ::
            ⟨some 21, .mov (.tmp 23), none⟩ :: [])) <|
          .cond (.tmp 21) (.ret) <|
          .seq (.region (⟨some 25, .bin .eql (.tmp 20) (.val (.int .i64 2)), none⟩ ::
            ⟨some 24, .mov (.tmp 25), none⟩ :: [])) <|
          .cond (.tmp 24) (.region (⟨some 26, .mov (.tmp 4), none⟩ ::
              ⟨some 27, .bin .add (.tmp 26) (.val (.int .i64 1)), none⟩ ::
              ⟨some 28, .mov (.tmp 6), none⟩ ::
              ⟨some 4, .mov (.tmp 27), none⟩ ::
              ⟨some 5, .mov (.tmp 28), none⟩ :: [])) <|
          .skip))) <|
      .region (⟨some 29, .bin .add (.tmp 11) (.val (.int .i64 1)), none⟩ ::
        ⟨some 11, .mov (.tmp 29), none⟩ :: [])))) <|
  .seq (.region (⟨some 30, .mov (.tmp 4), none⟩ :: [])) <|
  .block 3 (.seq (.region (⟨some 32, .bin .eql (.tmp 30) (.val (.int .i64 0)), none⟩ ::
      ⟨some 31, .mov (.tmp 32), none⟩ :: [])) <|
    .cond (.tmp 31) (.region (⟨some 33, .mov (.tmp 0), none⟩ ::
        ⟨some 34, .nilc (.tmp 33), none⟩ ::
        ⟨some 35, .faddr 2 (.tmp 34), none⟩ ::
        ⟨none, .store 1 (.tmp 35) (.val (.bool true)), none⟩ :: [])) <|
    .seq (.region (⟨some 37, .bin .eql (.tmp 30) (.val (.int .i64 1)), none⟩ ::
      ⟨some 36, .mov (.tmp 37), none⟩ :: [])) <|
    .cond (.tmp 36) (.region (⟨some 38, .mov (.tmp 0), none⟩ ::
        ⟨some 39, .mov (.tmp 5), none⟩ ::
        ⟨some 40, .mov (.tmp 1), none⟩ ::
        ⟨some 41, .mov (.tmp 5), none⟩ ::
        ⟨some 42, .iaddr 1 (.tmp 40) (.tmp 41), none⟩ ::
        ⟨some 43, .load false 1 (.tmp 42), none⟩ ::
        ⟨some 44, .mx (.tmp 43) [(.val (.int .i64 0))], none⟩ ::
        ⟨some 45, .callm (.val (.fn (.func 84) [])) [(.tmp 38), (.tmp 39), (.tmp 44)], none⟩ :: [])) <|
    .skip)⟩
theorem e_logic_bits_clause : cFunc Try.prog kd_CLogic Try.f42 = some c_logic_bits_clause := by kernel_rfl
/- (*touchstone/logic.bits).all: slots b, 0, yes, 1, b, 2, yes, 3, flag, 4, rest, 5, n, 6, _, 7, n, 8, _, 9, n, 10, _, 11, k, 12, last, 13, _, 14, i, 15 -/
def c_logic_bits_all : AFunc := ⟨112, [],
  .seq (.region (⟨some 16, .mov (.tmp 0), none⟩ ::
    ⟨some 17, .nilc (.tmp 16), none⟩ ::
    ⟨some 18, .faddr 0 (.tmp 17), none⟩ ::
    ⟨some 19, .load false 1 (.tmp 18), none⟩ ::
    ⟨some 20, .len false (.tmp 19), none⟩ ::
    ⟨some 21, .bin .sub (.tmp 20) (.val (.int .i64 1)), none⟩ ::
    ⟨some 4, .mov (.tmp 21), none⟩ :: [])) <|
  .seq (.region (⟨some 22, .mov (.tmp 4), none⟩ ::
    ⟨some 23, .call (.val (.fn (.func 85) [])) [(.tmp 22)], none⟩ ::
    ⟨some 5, .mov (.tmp 23), none⟩ :: [])) <|
  .seq (.seq (.region (⟨some 25, .mov (.tmp 0), none⟩ ::
    ⟨some 26, .mov (.tmp 5), none⟩ ::
    ⟨some 27, .mov (.tmp 1), none⟩ ::
    ⟨some 28, .bin .sub (.val (.int .i64 1)) (.tmp 27), none⟩ ::
    ⟨some 29, .callv (.val (.fn (.func 86) [])) [(.tmp 25), (.tmp 26), (.tmp 28)], none⟩ ::
    ⟨some 24, .mov (.tmp 29), none⟩ ::
    ⟨some 30, .ext (.tmp 24) 0, none⟩ ::
    ⟨some 31, .ext (.tmp 24) 1, none⟩ ::
    ⟨some 6, .mov (.tmp 30), none⟩ ::
    ⟨some 7, .mov (.tmp 31), none⟩ :: [])) <|
  .seq (.region (⟨some 32, .mov (.tmp 6), none⟩ ::
    ⟨some 33, .bin .gtr (.tmp 32) (.val (.int .i64 0)), none⟩ :: [])) <|
  .cond (.tmp 33) (.region (⟨some 34, .mov (.tmp 0), none⟩ ::
      ⟨some 35, .mov (.tmp 4), none⟩ ::
      ⟨some 36, .mov (.tmp 1), none⟩ ::
      ⟨some 37, .bin .sub (.val (.int .i64 1)) (.tmp 36), none⟩ ::
      ⟨some 38, .callm (.val (.fn (.func 84) [])) [(.tmp 34), (.tmp 35), (.tmp 37)], none⟩ :: [])) <|
  .seq (.region (⟨some 40, .mov (.tmp 0), none⟩ ::
    ⟨some 41, .mov (.tmp 5), none⟩ ::
    ⟨some 42, .mov (.tmp 1), none⟩ ::
    ⟨some 43, .callv (.val (.fn (.func 86) [])) [(.tmp 40), (.tmp 41), (.tmp 42)], none⟩ ::
    ⟨some 39, .mov (.tmp 43), none⟩ ::
    ⟨some 44, .ext (.tmp 39) 0, none⟩ ::
    ⟨some 45, .ext (.tmp 39) 1, none⟩ ::
    ⟨some 8, .mov (.tmp 44), none⟩ ::
    ⟨some 9, .mov (.tmp 45), none⟩ :: [])) <|
  .seq (.region (⟨some 46, .mov (.tmp 8), none⟩ ::
    ⟨some 47, .mov (.tmp 4), none⟩ ::
    ⟨some 48, .bin .eql (.tmp 46) (.tmp 47), none⟩ :: [])) <|
  .cond (.tmp 48) (.region (⟨some 49, .mov (.tmp 0), none⟩ ::
      ⟨some 50, .mov (.tmp 4), none⟩ ::
      ⟨some 51, .mov (.tmp 1), none⟩ ::
      ⟨some 52, .callm (.val (.fn (.func 84) [])) [(.tmp 49), (.tmp 50), (.tmp 51)], none⟩ :: [])) <|
  .skip) <|
  .seq (.seq (.region (⟨some 53, .mov (.tmp 0), none⟩ ::
    ⟨some 54, .nilc (.tmp 53), none⟩ ::
    ⟨some 55, .faddr 2 (.tmp 54), none⟩ ::
    ⟨some 56, .load false 1 (.tmp 55), none⟩ :: [])) <|
  .cond (.tmp 56) (.ret) <|
  .skip) <|
  .seq (.region (⟨some 58, .mov (.tmp 0), none⟩ ::
    ⟨some 59, .mov (.tmp 5), none⟩ ::
    ⟨some 60, .mov (.tmp 1), none⟩ ::
    ⟨some 61, .callv (.val (.fn (.func 86) [])) [(.tmp 58), (.tmp 59), (.tmp 60)], none⟩ ::
    ⟨some 57, .mov (.tmp 61), none⟩ ::
    ⟨some 62, .ext (.tmp 57) 0, none⟩ ::
    ⟨some 63, .ext (.tmp 57) 1, none⟩ ::
    ⟨some 10, .mov (.tmp 62), none⟩ ::
    ⟨some 11, .mov (.tmp 63), none⟩ :: [])) <|
  .seq (.region (⟨some 65, .mov (.tmp 0), none⟩ ::
    ⟨some 66, .mov (.tmp 5), none⟩ ::
    ⟨some 67, .callv (.val (.fn (.func 86) [])) [(.tmp 65), (.tmp 66), (.val (.int .i64 2))], none⟩ ::
    ⟨some 64, .mov (.tmp 67), none⟩ ::
    ⟨some 68, .ext (.tmp 64) 0, none⟩ ::
    ⟨some 69, .ext (.tmp 64) 1, none⟩ ::
    ⟨some 12, .mov (.tmp 68), none⟩ ::
    ⟨some 13, .mov (.tmp 69), none⟩ :: [])) <|
  .seq (.region (⟨some 70, .mov (.tmp 0), none⟩ ::
    ⟨some 71, .mov (.tmp 4), none⟩ ::
    ⟨some 72, .callv (.val (.fn (.func 83) [])) [(.tmp 70), (.tmp 71)], none⟩ :: [])) <|
  .block 0 (.seq (.region (⟨some 74, .mov (.tmp 1), none⟩ ::
      ⟨some 75, .bin .eql (.tmp 72) (.tmp 74), none⟩ ::
      ⟨some 73, .mov (.tmp 75), none⟩ :: [])) <|
    .cond (.tmp 73) (.seq (.region (⟨some 76, .mov (.tmp 5), none⟩ ::
        ⟨some 77, .len false (.tmp 76), none⟩ ::
        ⟨some 78, .mov (.val (.int .i64 0)), none⟩ :: [])) <|
      .block 1 (.loop (.seq (.region (⟨some 79, .bin .lss (.tmp 78) (.tmp 77), none⟩ :: [])) <|
          .seq (.cond (.tmp 79) (.skip) <|
          .exit 1) <|
          .seq (.block 2 (.seq (.region (⟨some 80, .iaddr 1 (.tmp 76) (.tmp 78), none⟩ ::
              ⟨some 81, .load false 1 (.tmp 80), none⟩ ::
              ⟨some 15, .mov (.tmp 81), none⟩ :: [])) <|
            .region (⟨some 82, .mov (.tmp 0), none⟩ ::
              ⟨some 83, .mov (.tmp 15), none⟩ ::
              ⟨some 84, .mov (.tmp 1), none⟩ ::
              ⟨some 85, .callm (.val (.fn (.func 84) [])) [(.tmp 82), (.tmp 83), (.tmp 84)], none⟩ :: []))) <|
          .region (⟨some 86, .bin .add (.tmp 78) (.val (.int .i64 1)), none⟩ ::
            ⟨some 78, .mov (.tmp 86), none⟩ :: [])))) <|
    .seq (.region (⟨some 88, .mov (.tmp 1), none⟩ ::
      ⟨some 89, .bin .sub (.val (.int .i64 1)) (.tmp 88), none⟩ ::
      ⟨some 90, .bin .eql (.tmp 72) (.tmp 89), none⟩ ::
      ⟨some 87, .mov (.tmp 90), none⟩ :: [])) <|
    .cond (.tmp 87) (.block 3 (.seq (.region (⟨some 92, .mov (.tmp 10), none⟩ ::
          ⟨some 93, .mov (.tmp 4), none⟩ ::
          ⟨some 94, .bin .eql (.tmp 92) (.tmp 93), none⟩ ::
          ⟨some 91, .mov (.tmp 94), none⟩ :: [])) <|
        .cond (.tmp 91) (.region (⟨some 95, .mov (.tmp 0), none⟩ ::
            ⟨some 96, .nilc (.tmp 95), none⟩ ::
            ⟨some 97, .faddr 2 (.tmp 96), none⟩ ::
            ⟨none, .store 1 (.tmp 97) (.val (.bool true)), none⟩ :: [])) <|
        .seq (.region (⟨some 99, .mov (.tmp 10), none⟩ ::
          ⟨some 100, .mov (.tmp 4), none⟩ ::
          ⟨some 101, .bin .sub (.tmp 100) (.val (.int .i64 1)), none⟩ ::
          ⟨some 102, .bin .eql (.tmp 99) (.tmp 101), none⟩ ::
          ⟨some 103, .mov (.tmp 102), none⟩ ::
          ⟨some 104, .mov (.tmp 12), some (103, true)⟩ ::
          ⟨some 105, .bin .eql (.tmp 104) (.val (.int .i64 1)), some (103, true)⟩ ::
          ⟨some 106, .pick (.tmp 103) (.tmp 105) (.val (.bool false)), none⟩ ::
          ⟨some 98, .mov (.tmp 106), none⟩ :: [])) <|
        .cond (.tmp 98) (.region (⟨some 107, .mov (.tmp 0), none⟩ ::
            ⟨some 108, .mov (.tmp 13), none⟩ ::
            ⟨some 109, .mov (.tmp 1), none⟩ ::
            ⟨some 110, .bin .sub (.val (.int .i64 1)) (.tmp 109), none⟩ ::
            ⟨some 111, .callm (.val (.fn (.func 84) [])) [(.tmp 107), (.tmp 108), (.tmp 110)], none⟩ :: [])) <|
        .skip)) <|
    .skip)⟩
theorem e_logic_bits_all : cFunc Try.prog kd_CLogic Try.f43 = some c_logic_bits_all := by kernel_rfl
/- (*touchstone/logic.bits).xor: slots b, 0, b, 1, l, 2, k, 3, last, 4, n, 5, _, 6 -/
def c_logic_bits_xor : AFunc := ⟨36, [],
  .seq (.region (⟨some 7, .call (.val (.fn (.func 85) [])) [(.val (.int .i64 3))], none⟩ ::
    ⟨some 2, .mov (.tmp 7), none⟩ :: [])) <|
  .seq (.region (⟨some 9, .mov (.tmp 0), none⟩ ::
    ⟨some 10, .mov (.tmp 2), none⟩ ::
    ⟨some 11, .callv (.val (.fn (.func 86) [])) [(.tmp 9), (.tmp 10), (.val (.int .i64 2))], none⟩ ::
    ⟨some 8, .mov (.tmp 11), none⟩ ::
    ⟨some 12, .ext (.tmp 8) 0, none⟩ ::
    ⟨some 13, .ext (.tmp 8) 1, none⟩ ::
    ⟨some 3, .mov (.tmp 12), none⟩ ::
    ⟨some 4, .mov (.tmp 13), none⟩ :: [])) <|
  .seq (.region (⟨some 15, .mov (.tmp 0), none⟩ ::
    ⟨some 16, .mov (.tmp 2), none⟩ ::
    ⟨some 17, .callv (.val (.fn (.func 86) [])) [(.tmp 15), (.tmp 16), (.val (.int .i64 1))], none⟩ ::
    ⟨some 14, .mov (.tmp 17), none⟩ ::
    ⟨some 18, .ext (.tmp 14) 0, none⟩ ::
    ⟨some 19, .ext (.tmp 14) 1, none⟩ ::
    ⟨some 5, .mov (.tmp 18), none⟩ ::
    ⟨some 6, .mov (.tmp 19), none⟩ :: [])) <|
  .seq (.region (⟨some 20, .mov (.tmp 3), none⟩ :: [])) <|
  .block 0 (.seq (.region (⟨some 22, .bin .eql (.tmp 20) (.val (.int .i64 0)), none⟩ ::
      ⟨some 21, .mov (.tmp 22), none⟩ :: [])) <|
    .cond (.tmp 21) (.region (⟨some 23, .mov (.tmp 0), none⟩ ::
        ⟨some 24, .mov (.tmp 5), none⟩ ::
        ⟨some 25, .bin .rem (.tmp 24) (.val (.int .i64 2)), none⟩ ::
        ⟨some 26, .bin .neq (.tmp 25) (.val (.int .i64 0)), none⟩ ::
        ⟨some 27, .nilc (.tmp 23), none⟩ ::
        ⟨some 28, .faddr 2 (.tmp 27), none⟩ ::
        ⟨none, .store 1 (.tmp 28) (.tmp 26), none⟩ :: [])) <|
    .seq (.region (⟨some 30, .bin .eql (.tmp 20) (.val (.int .i64 1)), none⟩ ::
      ⟨some 29, .mov (.tmp 30), none⟩ :: [])) <|
    .cond (.tmp 29) (.region (⟨some 31, .mov (.tmp 0), none⟩ ::
        ⟨some 32, .mov (.tmp 4), none⟩ ::
        ⟨some 33, .mov (.tmp 5), none⟩ ::
        ⟨some 34, .bin .rem (.tmp 33) (.val (.int .i64 2)), none⟩ ::
        ⟨some 35, .callm (.val (.fn (.func 84) [])) [(.tmp 31), (.tmp 32), (.tmp 34)], none⟩ :: [])) <|
    .skip)⟩
theorem e_logic_bits_xor : cFunc Try.prog kd_CLogic Try.f44 = some c_logic_bits_xor := by kernel_rfl
/- touchstone/logic.Narrow: slots c, 0, d, 1, c, 2, d, 3, b, 6, i, 7, x, 8 -/
def c_logic_Narrow : AFunc := ⟨68, [.tmp 4, .tmp 5],
  .seq (.region (⟨some 2, .box 4 (.tmp 0), none⟩ ::
    ⟨some 4, .mov (.val .nils), none⟩ ::
    ⟨some 5, .mov (.val (.int .i64 0)), none⟩ :: [])) <|
  .seq (.seq (.region (⟨some 9, .mov (.tmp 1), none⟩ ::
    ⟨some 10, .load true 4 (.tmp 2), none⟩ ::
    ⟨some 11, .bslice 4 [(.tmp 10)], none⟩ ::
    ⟨some 12, .build [.nils, .nils, (.int .i64 0), (.int .i64 0)] [(0, 1, (.tmp 9)), (1, 1, (.tmp 11))], none⟩ ::
    ⟨some 13, .call (.val (.fn (.func 40) [])) [(.tmp 12)], none⟩ ::
    ⟨some 14, .un .not (.tmp 13), none⟩ :: [])) <|
  .cond (.tmp 14) (.seq (.region (⟨some 4, .mov (.val .nils), none⟩ ::
      ⟨some 5, .mov (.val (.int .i64 2)), none⟩ :: [])) <|
    .ret) <|
  .skip) <|
  .seq (.region (⟨some 15, .faddr 1 (.tmp 2), none⟩ ::
    ⟨some 16, .load false 1 (.tmp 15), none⟩ ::
    ⟨some 17, .mov (.tmp 1), none⟩ ::
    ⟨some 18, .callo (.val (.fn (.func 41) [])) [(.tmp 17)], none⟩ ::
    ⟨some 19, .build [.nils, .nils, (.bool false)] [(0, 1, (.tmp 16)), (1, 1, (.tmp 18)), (2, 1, (.val (.bool false)))], none⟩ ::
    ⟨some 20, .box 3 (.tmp 19), none⟩ ::
    ⟨some 6, .mov (.tmp 20), none⟩ :: [])) <|
  .seq (.seq (.region (⟨some 21, .faddr 0 (.tmp 2), none⟩ ::
    ⟨some 22, .load false 1 (.tmp 21), none⟩ :: [])) <|
  .block 0 (.seq (.region (⟨some 24, .bin .eql (.tmp 22) (.val (.int .i64 11)), none⟩ ::
      ⟨some 23, .mov (.tmp 24), none⟩ :: [])) <|
    .cond (.tmp 23) (.region (⟨some 25, .mov (.tmp 6), none⟩ ::
        ⟨some 26, .faddr 2 (.tmp 2), none⟩ ::
        ⟨some 27, .load false 1 (.tmp 26), none⟩ ::
        ⟨some 28, .callm (.val (.fn (.func 42) [])) [(.tmp 25), (.tmp 27)], none⟩ :: [])) <|
    .seq (.region (⟨some 30, .bin .eql (.tmp 22) (.val (.int .i64 12)), none⟩ ::
      ⟨some 29, .mov (.tmp 30), none⟩ :: [])) <|
    .cond (.tmp 29) (.region (⟨some 31, .mov (.tmp 6), none⟩ ::
        ⟨some 32, .callm (.val (.fn (.func 43) [])) [(.tmp 31), (.val (.int .i64 1))], none⟩ :: [])) <|
    .seq (.region (⟨some 34, .bin .eql (.tmp 22) (.val (.int .i64 13)), none⟩ ::
      ⟨some 33, .mov (.tmp 34), none⟩ :: [])) <|
    .cond (.tmp 33) (.region (⟨some 35, .mov (.tmp 6), none⟩ ::
        ⟨some 36, .callm (.val (.fn (.func 43) [])) [(.tmp 35), (.val (.int .i64 0))], none⟩ :: [])) <|
    .seq (.region (⟨some 38, .bin .eql (.tmp 22) (.val (.int .i64 14)), none⟩ ::
      ⟨some 37, .mov (.tmp 38), none⟩ :: [])) <|
    .cond (.tmp 37) (.region (⟨some 39, .mov (.tmp 6), none⟩ ::
        ⟨some 40, .callm (.val (.fn (.func 44) [])) [(.tmp 39)], none⟩ :: [])) <|
    .seq (.region (⟨some 4, .mov (.val .nils), none⟩ ::
      ⟨some 5, .mov (.val (.int .i64 10)), none⟩ :: [])) <|
    .ret)) <|
  .seq (.seq (.region (⟨some 41, .mov (.tmp 6), none⟩ ::
    ⟨some 42, .nilc (.tmp 41), none⟩ ::
    ⟨some 43, .faddr 2 (.tmp 42), none⟩ ::
    ⟨some 44, .load false 1 (.tmp 43), none⟩ :: [])) <|
  .cond (.tmp 44) (.seq (.region (⟨some 4, .mov (.val .nils), none⟩ ::
      ⟨some 5, .mov (.val (.int .i64 12)), none⟩ :: [])) <|
    .ret) <|
  .skip) <|
  .seq (.seq (.region (⟨some 45, .mov (.tmp 6), none⟩ ::
    ⟨some 46, .nilc (.tmp 45), none⟩ ::
    ⟨some 47, .faddr 1 (.tmp 46), none⟩ ::
    ⟨some 48, .load false 1 (.tmp 47), none⟩ ::
    ⟨some 49, .len false (.tmp 48), none⟩ ::
    ⟨some 50, .mov (.val (.int .i64 0)), none⟩ :: [])) <|
  .block 1 (.loop (.seq (.region (⟨some 51, .bin .lss (.tmp 50) (.tmp 49), none⟩ :: [])) <|
      .seq (.cond (.tmp 51) (.skip) <|
      .exit 1) <|
      .seq (.block 2 (.seq (.region (⟨some 52, .mov (.tmp 50), none⟩ ::
          ⟨some 53, .iaddr 1 (.tmp 48) (.tmp 50), none⟩ ::
          ⟨some 54, .load false 1 (.tmp 53), none⟩ ::
          ⟨some 7, .mov (.tmp 52), none⟩ ::
          ⟨some 8, .mov (.tmp 54), none⟩ :: [])) <|
        .region (⟨some 55, .mov (.tmp 6), none⟩ ::
          ⟨some 56, .nilc (.tmp 55), none⟩ ::
          ⟨some 57, .faddr 1 (.tmp 56), none⟩ ::
          ⟨some 58, .load false 1 (.tmp 57), none⟩ ::
          ⟨some 59, .mov (.tmp 7), none⟩ ::
          ⟨some 60, .mov (.tmp 8), none⟩ ::
          ⟨some 61, .call (.val (.fn (.func 45) [])) [(.tmp 60)], none⟩ ::
          ⟨some 62, .iaddr 1 (.tmp 58) (.tmp 59), none⟩ ::
          ⟨none, .store 1 (.tmp 62) (.tmp 61), none⟩ :: []))) <|
      .region (⟨some 63, .bin .add (.tmp 50) (.val (.int .i64 1)), none⟩ ::
        ⟨some 50, .mov (.tmp 63), none⟩ :: [])))) <|
  .seq (.region (⟨some 64, .mov (.tmp 6), none⟩ ::
    ⟨some 65, .nilc (.tmp 64), none⟩ ::
    ⟨some 66, .faddr 1 (.tmp 65), none⟩ ::
    ⟨some 67, .load false 1 (.tmp 66), none⟩ ::
    ⟨some 4, .mov (.tmp 67), none⟩ ::
    ⟨some 5, .mov (.val (.int .i64 0)), none⟩ :: [])) <|
  .ret⟩
theorem e_logic_Narrow : cFunc Try.prog kd_CLogic Try.f17 = some c_logic_Narrow := by kernel_rfl
end Go.Proofs.Ytonkcemcledhiaa
