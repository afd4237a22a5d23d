/- The code of functions, as abstract code. Printed by program. -/
import Derived.Test.YtnhedjpghpdbdaaAv2
import Derived.Test.YtnhedjpghpdbdaaProg
namespace Go.Proofs.Ytnhedjpghpdbdaa
open Av
set_option linter.unusedVariables false
set_option maxRecDepth 100000
def kd_CElem (f : Nat) : Nat := if f = 42 then 3 else if f = 34 then 3 else if f = 79 then 2 else if f = 35 then 2 else if f = 36 then 2 else if f = 113 then 2 else if f = 80 then 2 else 0
/- touchstone/elem.of: slots c, 0, d, 1, c, 2, d, 3, e, 6, i, 7, a, 8, i, 9, x, 10 -/
def c_elem_of : AFunc := ⟨92, [.tmp 4, .tmp 5],
  .seq (.region (⟨some 2, .box 4 (.tmp 0), none⟩ ::
    ⟨some 4, .mov (.val .nilp), none⟩ ::
    ⟨some 5, .mov (.val (.bool false)), none⟩ :: [])) <|
  .seq (.seq (.region (⟨some 11, .faddr 0 (.tmp 2), none⟩ ::
    ⟨some 12, .load false 1 (.tmp 11), none⟩ :: [])) <|
  .block 0 (.seq (.seq (.region (⟨some 14, .bin .eql (.tmp 12) (.val (.int .i64 16)), none⟩ ::
      ⟨some 13, .mov (.tmp 14), none⟩ :: [])) <|
    .cond (.tmp 13) (.skip) <|
    .region (⟨some 15, .bin .eql (.tmp 12) (.val (.int .i64 17)), none⟩ ::
      ⟨some 13, .mov (.tmp 15), none⟩ :: [])) <|
    .cond (.tmp 13) (.skip) <|
    .seq (.region (⟨some 4, .mov (.val .nilp), none⟩ ::
      ⟨some 5, .mov (.val (.bool false)), none⟩ :: [])) <|
    .ret)) <|
  .seq (.region (⟨some 16, .faddr 1 (.tmp 2), none⟩ ::
    ⟨some 17, .load false 1 (.tmp 16), none⟩ ::
    ⟨some 18, .iaddr 1 (.tmp 17) (.val (.int .i64 0)), none⟩ ::
    ⟨some 19, .load false 1 (.tmp 18), none⟩ ::
    ⟨some 20, .faddr 1 (.tmp 2), none⟩ ::
    ⟨some 21, .load false 1 (.tmp 20), none⟩ ::
    ⟨some 22, .faddr 1 (.tmp 2), none⟩ ::
    ⟨some 23, .load false 1 (.tmp 22), none⟩ ::
    ⟨some 24, .len false (.tmp 23), none⟩ ::
    ⟨some 25, .bin .sub (.tmp 24) (.val (.int .i64 1)), none⟩ ::
    ⟨some 26, .iaddr 1 (.tmp 21) (.tmp 25), none⟩ ::
    ⟨some 27, .load false 1 (.tmp 26), none⟩ ::
    ⟨some 28, .mov (.tmp 1), none⟩ ::
    ⟨some 29, .callo (.val (.fn (.func 42) [])) [(.tmp 28)], none⟩ ::
    ⟨some 30, .build [(.int .i64 0), (.int .i64 0), .nils, .nils] [(0, 1, (.tmp 19)), (1, 1, (.tmp 27)), (2, 1, (.val .nils)), (3, 1, (.tmp 29))], none⟩ ::
    ⟨some 31, .box 4 (.tmp 30), none⟩ ::
    ⟨some 6, .mov (.tmp 31), none⟩ :: [])) <|
  .seq (.seq (.region (⟨some 32, .faddr 0 (.tmp 2), none⟩ ::
    ⟨some 33, .load false 1 (.tmp 32), none⟩ ::
    ⟨some 34, .bin .eql (.tmp 33) (.val (.int .i64 16)), none⟩ :: [])) <|
  .cond (.tmp 34) (.seq (.seq (.region (⟨some 35, .faddr 2 (.tmp 2), none⟩ ::
      ⟨some 36, .load false 1 (.tmp 35), none⟩ ::
      ⟨some 37, .len false (.tmp 36), none⟩ ::
      ⟨some 38, .mov (.val (.int .i64 0)), none⟩ :: [])) <|
    .block 1 (.loop (.seq (.region (⟨some 39, .bin .lss (.tmp 38) (.tmp 37), none⟩ :: [])) <|
        .seq (.cond (.tmp 39) (.skip) <|
        .exit 1) <|
        .seq (.block 2 (.seq (.region (⟨some 40, .mov (.tmp 38), none⟩ ::
            ⟨some 41, .iaddr 1 (.tmp 36) (.tmp 38), none⟩ ::
            ⟨some 42, .load false 1 (.tmp 41), none⟩ ::
            ⟨some 7, .mov (.tmp 40), none⟩ ::
            ⟨some 8, .mov (.tmp 42), none⟩ :: [])) <|
          .region (⟨some 43, .mov (.tmp 6), none⟩ ::
            ⟨some 44, .mov (.tmp 6), none⟩ ::
            ⟨some 45, .nilc (.tmp 44), none⟩ ::
            ⟨some 46, .faddr 2 (.tmp 45), none⟩ ::
            ⟨some 47, .load false 1 (.tmp 46), none⟩ ::
            ⟨some 48, .mov (.tmp 7), none⟩ ::
            ⟨some 49, .bin .add (.tmp 48) (.val (.int .i64 1)), none⟩ ::
            ⟨some 50, .mov (.tmp 8), none⟩ ::
            ⟨some 51, .mov (.tmp 8), none⟩ ::
            ⟨some 52, .build [(.int .i64 0), (.int .i64 0)] [(0, 1, (.tmp 50)), (1, 1, (.tmp 51))], none⟩ ::
            ⟨some 53, .bslice 2 [(.tmp 52)], none⟩ ::
            ⟨some 54, .build [(.int .i64 0), .nils] [(0, 1, (.tmp 49)), (1, 1, (.tmp 53))], none⟩ ::
            ⟨some 55, .bslice 2 [(.tmp 54)], none⟩ ::
            ⟨some 56, .app 2 32 (.tmp 47) (.tmp 55), none⟩ ::
            ⟨some 57, .nilc (.tmp 43), none⟩ ::
            ⟨some 58, .faddr 2 (.tmp 57), none⟩ ::
            ⟨none, .store 1 (.tmp 58) (.tmp 56), none⟩ :: []))) <|
        .region (⟨some 59, .bin .add (.tmp 38) (.val (.int .i64 1)), none⟩ ::
          ⟨some 38, .mov (.tmp 59), none⟩ :: [])))) <|
    .seq (.region (⟨some 60, .mov (.tmp 6), none⟩ ::
      ⟨some 4, .mov (.tmp 60), none⟩ ::
      ⟨some 5, .mov (.val (.bool true)), none⟩ :: [])) <|
    .ret) <|
  .skip) <|
  .seq (.seq (.region (⟨some 61, .faddr 1 (.tmp 2), none⟩ ::
    ⟨some 62, .load false 1 (.tmp 61), none⟩ ::
    ⟨some 63, .faddr 1 (.tmp 2), none⟩ ::
    ⟨some 64, .load false 1 (.tmp 63), none⟩ ::
    ⟨some 65, .len false (.tmp 64), none⟩ ::
    ⟨some 66, .bin .sub (.tmp 65) (.val (.int .i64 1)), none⟩ ::
    ⟨some 67, .slc 1 (.tmp 62) (some (.val (.int .i64 1))) (some (.tmp 66)), none⟩ ::
    ⟨some 68, .len false (.tmp 67), none⟩ ::
    ⟨some 69, .mov (.val (.int .i64 0)), none⟩ :: [])) <|
  .block 3 (.loop (.seq (.region (⟨some 70, .bin .lss (.tmp 69) (.tmp 68), none⟩ :: [])) <|
      .seq (.cond (.tmp 70) (.skip) <|
      .exit 3) <|
      .seq (.block 4 (.seq (.region (⟨some 71, .mov (.tmp 69), none⟩ ::
          ⟨some 72, .iaddr 1 (.tmp 67) (.tmp 69), none⟩ ::
          ⟨some 73, .load false 1 (.tmp 72), none⟩ ::
          ⟨some 9, .mov (.tmp 71), none⟩ ::
          ⟨some 10, .mov (.tmp 73), none⟩ :: [])) <|
        .region (⟨some 74, .mov (.tmp 6), none⟩ ::
          ⟨some 75, .mov (.tmp 6), none⟩ ::
          ⟨some 76, .nilc (.tmp 75), none⟩ ::
          ⟨some 77, .faddr 2 (.tmp 76), none⟩ ::
          ⟨some 78, .load false 1 (.tmp 77), none⟩ ::
          ⟨some 79, .mov (.tmp 9), none⟩ ::
          ⟨some 80, .bin .add (.tmp 79) (.val (.int .i64 1)), none⟩ ::
          ⟨some 81, .mov (.tmp 1), none⟩ ::
          ⟨some 82, .mov (.tmp 10), none⟩ ::
          ⟨some 83, .iaddr 1 (.tmp 81) (.tmp 82), none⟩ ::
          ⟨some 84, .load false 1 (.tmp 83), none⟩ ::
          ⟨some 85, .build [(.int .i64 0), .nils] [(0, 1, (.tmp 80)), (1, 1, (.tmp 84))], none⟩ ::
          ⟨some 86, .bslice 2 [(.tmp 85)], none⟩ ::
          ⟨some 87, .app 2 32 (.tmp 78) (.tmp 86), none⟩ ::
          ⟨some 88, .nilc (.tmp 74), none⟩ ::
          ⟨some 89, .faddr 2 (.tmp 88), none⟩ ::
          ⟨none, .store 1 (.tmp 89) (.tmp 87), none⟩ :: []))) <|
      .region (⟨some 90, .bin .add (.tmp 69) (.val (.int .i64 1)), none⟩ ::
        ⟨some 69, .mov (.tmp 90), none⟩ :: [])))) <|
  .seq (.region (⟨some 91, .mov (.tmp 6), none⟩ ::
    ⟨some 4, .mov (.tmp 91), none⟩ ::
    ⟨some 5, .mov (.val (.bool true)), none⟩ :: [])) <|
  .ret⟩
theorem e_elem_of : cFunc Try.prog kd_CElem Try.f34 = some c_elem_of := by kernel_rfl
/- (*touchstone/elem.element).named: slots e, 0, e, 1 -/
def c_elem_element_named : AFunc := ⟨11, [],
  .seq (.region (⟨some 1, .box 1 (.tmp 0), none⟩ :: [])) <|
  .region (⟨some 2, .load false 1 (.tmp 1), none⟩ ::
    ⟨some 3, .load false 1 (.tmp 1), none⟩ ::
    ⟨some 4, .nilc (.tmp 3), none⟩ ::
    ⟨some 5, .faddr 2 (.tmp 4), none⟩ ::
    ⟨some 6, .load false 1 (.tmp 5), none⟩ ::
    ⟨some 7, .mkf (.func 114) [(.tmp 1)], none⟩ ::
    ⟨some 8, .callm (.val (.fn (.func 113) [])) [(.tmp 6), (.tmp 7)], none⟩ ::
    ⟨none, .same false 1 (.tmp 1) (.tmp 2), none⟩ ::
    ⟨some 9, .nilc (.tmp 2), none⟩ ::
    ⟨some 10, .faddr 2 (.tmp 9), none⟩ ::
    ⟨none, .store 1 (.tmp 10) (.tmp 8), none⟩ :: [])⟩
theorem e_elem_element_named : cFunc Try.prog kd_CElem Try.f79 = some c_elem_element_named := by kernel_rfl
/- (*touchstone/elem.element).named$1: slots c, 0, c, 2 -/
def c_elem_element_named_1 : AFunc := ⟨35, [.tmp 3],
  .seq (.region (⟨some 2, .box 2 (.tmp 0), none⟩ ::
    ⟨some 3, .mov (.val (.bool false)), none⟩ :: [])) <|
  .seq (.region (⟨some 4, .load false 1 (.tmp 1), none⟩ ::
    ⟨some 5, .nilc (.tmp 4), none⟩ ::
    ⟨some 6, .faddr 3 (.tmp 5), none⟩ ::
    ⟨some 7, .load false 1 (.tmp 6), none⟩ ::
    ⟨some 8, .load false 1 (.tmp 1), none⟩ ::
    ⟨some 9, .nilc (.tmp 8), none⟩ ::
    ⟨some 10, .faddr 0 (.tmp 9), none⟩ ::
    ⟨some 11, .load false 1 (.tmp 10), none⟩ ::
    ⟨some 12, .iaddr 1 (.tmp 7) (.tmp 11), none⟩ ::
    ⟨some 13, .load false 1 (.tmp 12), none⟩ ::
    ⟨some 14, .faddr 0 (.tmp 2), none⟩ ::
    ⟨some 15, .load false 1 (.tmp 14), none⟩ ::
    ⟨some 16, .call (.val (.fn (.func 115) [])) [(.tmp 13), (.tmp 15)], none⟩ ::
    ⟨some 17, .un .not (.tmp 16), none⟩ ::
    ⟨some 18, .mov (.tmp 17), none⟩ ::
    ⟨some 19, .faddr 1 (.tmp 2), some (18, false)⟩ ::
    ⟨some 20, .load false 1 (.tmp 19), some (18, false)⟩ ::
    ⟨some 21, .load false 1 (.tmp 1), some (18, false)⟩ ::
    ⟨some 22, .nilc (.tmp 21), some (18, false)⟩ ::
    ⟨some 23, .faddr 3 (.tmp 22), some (18, false)⟩ ::
    ⟨some 24, .load false 1 (.tmp 23), some (18, false)⟩ ::
    ⟨some 25, .load false 1 (.tmp 1), some (18, false)⟩ ::
    ⟨some 26, .nilc (.tmp 25), some (18, false)⟩ ::
    ⟨some 27, .faddr 1 (.tmp 26), some (18, false)⟩ ::
    ⟨some 28, .load false 1 (.tmp 27), some (18, false)⟩ ::
    ⟨some 29, .iaddr 1 (.tmp 24) (.tmp 28), some (18, false)⟩ ::
    ⟨some 30, .load false 1 (.tmp 29), some (18, false)⟩ ::
    ⟨some 31, .call (.val (.fn (.func 81) [])) [(.tmp 20), (.tmp 30)], some (18, false)⟩ ::
    ⟨some 32, .len false (.tmp 31), some (18, false)⟩ ::
    ⟨some 33, .bin .eql (.tmp 32) (.val (.int .i64 0)), some (18, false)⟩ ::
    ⟨some 34, .pick (.tmp 18) (.val (.bool true)) (.tmp 33), none⟩ ::
    ⟨some 3, .mov (.tmp 34), none⟩ :: [])) <|
  .ret⟩
theorem e_elem_element_named_1 : cFunc Try.prog kd_CElem Try.f114 = some c_elem_element_named_1 := by kernel_rfl
/- (*touchstone/elem.element).narrow: slots e, 0, e, 1, index, 2, result, 3, _, 4, c, 5, all, 6, _, 7 -/
def c_elem_element_narrow : AFunc := ⟨72, [],
  .seq (.region (⟨some 8, .mov (.tmp 0), none⟩ ::
    ⟨some 9, .callm (.val (.fn (.func 79) [])) [(.tmp 8)], none⟩ :: [])) <|
  .seq (.region (⟨some 2, .mov (.val .nils), none⟩ ::
    ⟨some 3, .mov (.val .nils), none⟩ :: [])) <|
  .seq (.seq (.region (⟨some 10, .mov (.tmp 0), none⟩ ::
    ⟨some 11, .nilc (.tmp 10), none⟩ ::
    ⟨some 12, .faddr 2 (.tmp 11), none⟩ ::
    ⟨some 13, .load false 1 (.tmp 12), none⟩ ::
    ⟨some 14, .len false (.tmp 13), none⟩ ::
    ⟨some 15, .mov (.val (.int .i64 0)), none⟩ :: [])) <|
  .block 0 (.loop (.seq (.region (⟨some 16, .bin .lss (.tmp 15) (.tmp 14), none⟩ :: [])) <|
      .seq (.cond (.tmp 16) (.skip) <|
      .exit 0) <|
      .seq (.block 1 (.seq (.region (⟨some 17, .iaddr 2 (.tmp 13) (.tmp 15), none⟩ ::
          ⟨some 18, .load true 2 (.tmp 17), none⟩ ::
          ⟨some 5, .alloc (.agg [(.int .i64 0), .nils]), none⟩ ::
          ⟨none, .store 2 (.tmp 5) (.tmp 18), none⟩ :: [])) <|
        .seq (.region (⟨some 19, .mov (.tmp 2), none⟩ ::
          ⟨some 20, .faddr 0 (.tmp 5), none⟩ ::
          ⟨some 21, .load false 1 (.tmp 20), none⟩ ::
          ⟨some 22, .faddr 0 (.tmp 5), none⟩ ::
          ⟨some 23, .load false 1 (.tmp 22), none⟩ ::
          ⟨some 24, .build [(.int .i64 0), (.int .i64 0)] [(0, 1, (.tmp 21)), (1, 1, (.tmp 23))], none⟩ ::
          ⟨some 25, .bslice 2 [(.tmp 24)], none⟩ ::
          ⟨some 26, .app 2 16 (.tmp 19) (.tmp 25), none⟩ ::
          ⟨some 2, .mov (.tmp 26), none⟩ :: [])) <|
        .region (⟨some 27, .mov (.tmp 3), none⟩ ::
          ⟨some 28, .faddr 1 (.tmp 5), none⟩ ::
          ⟨some 29, .load false 1 (.tmp 28), none⟩ ::
          ⟨some 30, .app 2 16 (.tmp 27) (.tmp 29), none⟩ ::
          ⟨some 3, .mov (.tmp 30), none⟩ :: []))) <|
      .region (⟨some 31, .bin .add (.tmp 15) (.val (.int .i64 1)), none⟩ ::
        ⟨some 15, .mov (.tmp 31), none⟩ :: [])))) <|
  .seq (.region (⟨some 33, .mov (.tmp 0), none⟩ ::
    ⟨some 34, .nilc (.tmp 33), none⟩ ::
    ⟨some 35, .faddr 3 (.tmp 34), none⟩ ::
    ⟨some 36, .load false 1 (.tmp 35), none⟩ ::
    ⟨some 37, .mov (.tmp 0), none⟩ ::
    ⟨some 38, .nilc (.tmp 37), none⟩ ::
    ⟨some 39, .faddr 0 (.tmp 38), none⟩ ::
    ⟨some 40, .load false 1 (.tmp 39), none⟩ ::
    ⟨some 41, .mov (.tmp 2), none⟩ ::
    ⟨some 42, .callm (.val (.fn (.func 80) [])) [(.tmp 41)], none⟩ ::
    ⟨none, .same false 1 (.tmp 35) (.tmp 36), none⟩ ::
    ⟨none, .same false 1 (.tmp 39) (.tmp 40), none⟩ ::
    ⟨some 32, .mov (.tmp 42), none⟩ ::
    ⟨some 43, .ext (.tmp 32) 0, none⟩ ::
    ⟨some 44, .ext (.tmp 32) 1, none⟩ ::
    ⟨some 45, .iaddr 1 (.tmp 36) (.tmp 40), none⟩ ::
    ⟨none, .store 1 (.tmp 45) (.tmp 43), none⟩ :: [])) <|
  .seq (.region (⟨some 47, .mov (.tmp 3), none⟩ ::
    ⟨some 48, .callm (.val (.fn (.func 80) [])) [(.tmp 47)], none⟩ ::
    ⟨some 46, .mov (.tmp 48), none⟩ ::
    ⟨some 49, .ext (.tmp 46) 0, none⟩ ::
    ⟨some 50, .ext (.tmp 46) 1, none⟩ ::
    ⟨some 6, .mov (.tmp 49), none⟩ ::
    ⟨some 7, .mov (.tmp 50), none⟩ :: [])) <|
  .region (⟨some 51, .mov (.tmp 0), none⟩ ::
    ⟨some 52, .nilc (.tmp 51), none⟩ ::
    ⟨some 53, .faddr 3 (.tmp 52), none⟩ ::
    ⟨some 54, .load false 1 (.tmp 53), none⟩ ::
    ⟨some 55, .mov (.tmp 0), none⟩ ::
    ⟨some 56, .nilc (.tmp 55), none⟩ ::
    ⟨some 57, .faddr 1 (.tmp 56), none⟩ ::
    ⟨some 58, .load false 1 (.tmp 57), none⟩ ::
    ⟨some 59, .mov (.tmp 0), none⟩ ::
    ⟨some 60, .nilc (.tmp 59), none⟩ ::
    ⟨some 61, .faddr 3 (.tmp 60), none⟩ ::
    ⟨some 62, .load false 1 (.tmp 61), none⟩ ::
    ⟨some 63, .mov (.tmp 0), none⟩ ::
    ⟨some 64, .nilc (.tmp 63), none⟩ ::
    ⟨some 65, .faddr 1 (.tmp 64), none⟩ ::
    ⟨some 66, .load false 1 (.tmp 65), none⟩ ::
    ⟨some 67, .iaddr 1 (.tmp 62) (.tmp 66), none⟩ ::
    ⟨some 68, .load false 1 (.tmp 67), none⟩ ::
    ⟨some 69, .mov (.tmp 6), none⟩ ::
    ⟨some 70, .call (.val (.fn (.func 81) [])) [(.tmp 68), (.tmp 69)], none⟩ ::
    ⟨some 71, .iaddr 1 (.tmp 54) (.tmp 58), none⟩ ::
    ⟨none, .store 1 (.tmp 71) (.tmp 70), none⟩ :: [])⟩
theorem e_elem_element_narrow : cFunc Try.prog kd_CElem Try.f35 = some c_elem_element_narrow := by kernel_rfl
/- (*touchstone/elem.element).chosen: slots e, 0, x, 1, e, 2, x, 3, r, 4, ok, 5, one, 6, m, 7 -/
def c_elem_element_chosen : AFunc := ⟨71, [],
  .seq (.region (⟨some 9, .mov (.tmp 0), none⟩ ::
    ⟨some 10, .nilc (.tmp 9), none⟩ ::
    ⟨some 11, .faddr 3 (.tmp 10), none⟩ ::
    ⟨some 12, .load false 1 (.tmp 11), none⟩ ::
    ⟨some 13, .mov (.tmp 0), none⟩ ::
    ⟨some 14, .nilc (.tmp 13), none⟩ ::
    ⟨some 15, .faddr 0 (.tmp 14), none⟩ ::
    ⟨some 16, .load false 1 (.tmp 15), none⟩ ::
    ⟨some 17, .iaddr 1 (.tmp 12) (.tmp 16), none⟩ ::
    ⟨some 18, .load false 1 (.tmp 17), none⟩ ::
    ⟨some 19, .call (.val (.fn (.func 82) [])) [(.tmp 18)], none⟩ ::
    ⟨some 8, .mov (.tmp 19), none⟩ ::
    ⟨some 20, .ext (.tmp 8) 0, none⟩ ::
    ⟨some 21, .ext (.tmp 8) 1, none⟩ ::
    ⟨some 4, .alloc (.agg [(.int .i64 0), (.int .i64 0)]), none⟩ ::
    ⟨none, .store 2 (.tmp 4) (.tmp 20), none⟩ ::
    ⟨some 5, .mov (.tmp 21), none⟩ :: [])) <|
  .seq (.seq (.region (⟨some 22, .mov (.tmp 5), none⟩ ::
    ⟨some 23, .un .not (.tmp 22), none⟩ ::
    ⟨some 24, .mov (.tmp 23), none⟩ ::
    ⟨some 25, .faddr 0 (.tmp 4), some (24, false)⟩ ::
    ⟨some 26, .load false 1 (.tmp 25), some (24, false)⟩ ::
    ⟨some 27, .faddr 1 (.tmp 4), some (24, false)⟩ ::
    ⟨some 28, .load false 1 (.tmp 27), some (24, false)⟩ ::
    ⟨some 29, .bin .neq (.tmp 26) (.tmp 28), some (24, false)⟩ ::
    ⟨some 30, .pick (.tmp 24) (.val (.bool true)) (.tmp 29), none⟩ :: [])) <|
  .cond (.tmp 30) (.ret) <|
  .skip) <|
  .seq (.region (⟨some 31, .mov (.tmp 1), none⟩ ::
    ⟨some 32, .faddr 0 (.tmp 4), none⟩ ::
    ⟨some 33, .load false 1 (.tmp 32), none⟩ ::
    ⟨some 34, .iaddr 1 (.tmp 31) (.tmp 33), none⟩ ::
    ⟨some 35, .load false 1 (.tmp 34), none⟩ ::
    ⟨some 6, .mov (.tmp 35), none⟩ :: [])) <|
  .seq (.region (⟨some 36, .mov (.tmp 0), none⟩ ::
    ⟨some 37, .nilc (.tmp 36), none⟩ ::
    ⟨some 38, .faddr 3 (.tmp 37), none⟩ ::
    ⟨some 39, .load false 1 (.tmp 38), none⟩ ::
    ⟨some 40, .mov (.tmp 6), none⟩ ::
    ⟨some 41, .iaddr 1 (.tmp 39) (.tmp 40), none⟩ ::
    ⟨some 42, .load false 1 (.tmp 41), none⟩ ::
    ⟨some 43, .mov (.tmp 0), none⟩ ::
    ⟨some 44, .nilc (.tmp 43), none⟩ ::
    ⟨some 45, .faddr 3 (.tmp 44), none⟩ ::
    ⟨some 46, .load false 1 (.tmp 45), none⟩ ::
    ⟨some 47, .mov (.tmp 0), none⟩ ::
    ⟨some 48, .nilc (.tmp 47), none⟩ ::
    ⟨some 49, .faddr 1 (.tmp 48), none⟩ ::
    ⟨some 50, .load false 1 (.tmp 49), none⟩ ::
    ⟨some 51, .iaddr 1 (.tmp 46) (.tmp 50), none⟩ ::
    ⟨some 52, .load false 1 (.tmp 51), none⟩ ::
    ⟨some 53, .call (.val (.fn (.func 81) [])) [(.tmp 42), (.tmp 52)], none⟩ ::
    ⟨some 7, .mov (.tmp 53), none⟩ :: [])) <|
  .region (⟨some 54, .mov (.tmp 0), none⟩ ::
    ⟨some 55, .nilc (.tmp 54), none⟩ ::
    ⟨some 56, .faddr 3 (.tmp 55), none⟩ ::
    ⟨some 57, .load false 1 (.tmp 56), none⟩ ::
    ⟨some 58, .mov (.tmp 6), none⟩ ::
    ⟨some 59, .mov (.tmp 0), none⟩ ::
    ⟨some 60, .nilc (.tmp 59), none⟩ ::
    ⟨some 61, .faddr 3 (.tmp 60), none⟩ ::
    ⟨some 62, .load false 1 (.tmp 61), none⟩ ::
    ⟨some 63, .mov (.tmp 0), none⟩ ::
    ⟨some 64, .nilc (.tmp 63), none⟩ ::
    ⟨some 65, .faddr 1 (.tmp 64), none⟩ ::
    ⟨some 66, .load false 1 (.tmp 65), none⟩ ::
    ⟨some 67, .mov (.tmp 7), none⟩ ::
    ⟨some 68, .mov (.tmp 7), none⟩ ::
    ⟨some 69, .iaddr 1 (.tmp 57) (.tmp 58), none⟩ ::
    ⟨none, .store 1 (.tmp 69) (.tmp 67), none⟩ ::
    ⟨some 70, .iaddr 1 (.tmp 62) (.tmp 66), none⟩ ::
    ⟨none, .store 1 (.tmp 70) (.tmp 68), none⟩ :: [])⟩
theorem e_elem_element_chosen : cFunc Try.prog kd_CElem Try.f36 = some c_elem_element_chosen := by kernel_rfl
/- touchstone/elem.Narrow: slots c, 0, d, 1, c, 2, d, 3, e, 6, ok, 7, out, 8, _, 9, x, 10 -/
def c_elem_Narrow : AFunc := ⟨53, [.tmp 4, .tmp 5],
  .seq (.region (⟨some 2, .box 4 (.tmp 0), none⟩ ::
    ⟨some 4, .mov (.val .nils), none⟩ ::
    ⟨some 5, .mov (.val (.int .i64 0)), none⟩ :: [])) <|
  .seq (.seq (.region (⟨some 11, .mov (.tmp 1), none⟩ ::
    ⟨some 12, .load true 4 (.tmp 2), none⟩ ::
    ⟨some 13, .bslice 4 [(.tmp 12)], none⟩ ::
    ⟨some 14, .build [.nils, .nils, (.int .i64 0), (.int .i64 0)] [(0, 1, (.tmp 11)), (1, 1, (.tmp 13))], none⟩ ::
    ⟨some 15, .call (.val (.fn (.func 33) [])) [(.tmp 14)], none⟩ ::
    ⟨some 16, .un .not (.tmp 15), none⟩ :: [])) <|
  .cond (.tmp 16) (.seq (.region (⟨some 4, .mov (.val .nils), none⟩ ::
      ⟨some 5, .mov (.val (.int .i64 2)), none⟩ :: [])) <|
    .ret) <|
  .skip) <|
  .seq (.region (⟨some 18, .load true 4 (.tmp 2), none⟩ ::
    ⟨some 19, .mov (.tmp 1), none⟩ ::
    ⟨some 20, .callo (.val (.fn (.func 34) [])) [(.tmp 18), (.tmp 19)], none⟩ ::
    ⟨some 17, .mov (.tmp 20), none⟩ ::
    ⟨some 21, .ext (.tmp 17) 0, none⟩ ::
    ⟨some 22, .ext (.tmp 17) 1, none⟩ ::
    ⟨some 6, .mov (.tmp 21), none⟩ ::
    ⟨some 7, .mov (.tmp 22), none⟩ :: [])) <|
  .seq (.seq (.region (⟨some 23, .mov (.tmp 7), none⟩ ::
    ⟨some 24, .un .not (.tmp 23), none⟩ :: [])) <|
  .cond (.tmp 24) (.seq (.region (⟨some 4, .mov (.val .nils), none⟩ ::
      ⟨some 5, .mov (.val (.int .i64 10)), none⟩ :: [])) <|
    .ret) <|
  .skip) <|
  .seq (.region (⟨some 25, .mov (.tmp 6), none⟩ ::
    ⟨some 26, .callm (.val (.fn (.func 35) [])) [(.tmp 25)], none⟩ :: [])) <|
  .seq (.seq (.region (⟨some 27, .faddr 0 (.tmp 2), none⟩ ::
    ⟨some 28, .load false 1 (.tmp 27), none⟩ ::
    ⟨some 29, .bin .eql (.tmp 28) (.val (.int .i64 17)), none⟩ :: [])) <|
  .cond (.tmp 29) (.region (⟨some 30, .mov (.tmp 6), none⟩ ::
      ⟨some 31, .faddr 1 (.tmp 2), none⟩ ::
      ⟨some 32, .load false 1 (.tmp 31), none⟩ ::
      ⟨some 33, .callm (.val (.fn (.func 36) [])) [(.tmp 30), (.tmp 32)], none⟩ :: [])) <|
  .skip) <|
  .seq (.region (⟨some 8, .mov (.val .nils), none⟩ :: [])) <|
  .seq (.seq (.region (⟨some 34, .mov (.tmp 6), none⟩ ::
    ⟨some 35, .nilc (.tmp 34), none⟩ ::
    ⟨some 36, .faddr 3 (.tmp 35), none⟩ ::
    ⟨some 37, .load false 1 (.tmp 36), none⟩ ::
    ⟨some 38, .len false (.tmp 37), none⟩ ::
    ⟨some 39, .mov (.val (.int .i64 0)), none⟩ :: [])) <|
  .block 0 (.loop (.seq (.region (⟨some 40, .bin .lss (.tmp 39) (.tmp 38), none⟩ :: [])) <|
      .seq (.cond (.tmp 40) (.skip) <|
      .exit 0) <|
      .seq (.block 1 (.seq (.region (⟨some 41, .iaddr 1 (.tmp 37) (.tmp 39), none⟩ ::
          ⟨some 42, .load false 1 (.tmp 41), none⟩ ::
          ⟨some 10, .mov (.tmp 42), none⟩ :: [])) <|
        .seq (.seq (.region (⟨some 43, .mov (.tmp 10), none⟩ ::
          ⟨some 44, .len false (.tmp 43), none⟩ ::
          ⟨some 45, .bin .eql (.tmp 44) (.val (.int .i64 0)), none⟩ :: [])) <|
        .cond (.tmp 45) (.seq (.region (⟨some 4, .mov (.val .nils), none⟩ ::
            ⟨some 5, .mov (.val (.int .i64 12)), none⟩ :: [])) <|
          .ret) <|
        .skip) <|
        .region (⟨some 46, .mov (.tmp 8), none⟩ ::
          ⟨some 47, .mov (.tmp 10), none⟩ ::
          ⟨some 48, .call (.val (.fn (.func 37) [])) [(.tmp 47)], none⟩ ::
          ⟨some 49, .bslice 1 [(.tmp 48)], none⟩ ::
          ⟨some 50, .app 1 24 (.tmp 46) (.tmp 49), none⟩ ::
          ⟨some 8, .mov (.tmp 50), none⟩ :: []))) <|
      .region (⟨some 51, .bin .add (.tmp 39) (.val (.int .i64 1)), none⟩ ::
        ⟨some 39, .mov (.tmp 51), none⟩ :: [])))) <|
  .seq (.region (⟨some 52, .mov (.tmp 8), none⟩ ::
    ⟨some 4, .mov (.tmp 52), none⟩ ::
    ⟨some 5, .mov (.val (.int .i64 0)), none⟩ :: [])) <|
  .ret⟩
theorem e_elem_Narrow : cFunc Try.prog kd_CElem Try.f13 = some c_elem_Narrow := by kernel_rfl
/- slices.IndexFunc[[]touchstone/elem.choice,touchstone/elem.choice]: slots s, 0, f, 1, s, 2, f, 3, i, 5 -/
def c_slices_IndexFunc_selem_choice_elem_choice : AFunc := ⟨19, [.tmp 4],
  .seq (.region (⟨some 4, .mov (.val (.int .i64 0)), none⟩ :: [])) <|
  .seq (.seq (.region (⟨some 6, .mov (.tmp 0), none⟩ ::
    ⟨some 7, .len false (.tmp 6), none⟩ ::
    ⟨some 8, .mov (.val (.int .i64 0)), none⟩ :: [])) <|
  .block 0 (.loop (.seq (.region (⟨some 9, .bin .lss (.tmp 8) (.tmp 7), none⟩ :: [])) <|
      .seq (.cond (.tmp 9) (.skip) <|
      .exit 0) <|
      .seq (.block 1 (.seq (.region (⟨some 10, .mov (.tmp 8), none⟩ ::
          ⟨some 5, .mov (.tmp 10), none⟩ :: [])) <|
        .seq (.region (⟨some 11, .mov (.tmp 1), none⟩ ::
          ⟨some 12, .mov (.tmp 0), none⟩ ::
          ⟨some 13, .mov (.tmp 5), none⟩ ::
          ⟨some 14, .iaddr 2 (.tmp 12) (.tmp 13), none⟩ ::
          ⟨some 15, .load true 2 (.tmp 14), none⟩ ::
          ⟨some 16, .call (.tmp 11) [(.tmp 15)], none⟩ :: [])) <|
        .cond (.tmp 16) (.seq (.region (⟨some 17, .mov (.tmp 5), none⟩ ::
            ⟨some 4, .mov (.tmp 17), none⟩ :: [])) <|
          .ret) <|
        .skip)) <|
      .region (⟨some 18, .bin .add (.tmp 8) (.val (.int .i64 1)), none⟩ ::
        ⟨some 8, .mov (.tmp 18), none⟩ :: [])))) <|
  .seq (.region (⟨some 4, .mov (.val (.int .i64 (-1))), none⟩ :: [])) <|
  .ret⟩
theorem e_slices_IndexFunc_selem_choice_elem_choice : cFunc Try.prog kd_CElem Try.f132 = some c_slices_IndexFunc_selem_choice_elem_choice := by kernel_rfl
end Go.Proofs.Ytnhedjpghpdbdaa
