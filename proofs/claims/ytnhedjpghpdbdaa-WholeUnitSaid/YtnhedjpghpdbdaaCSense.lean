/- The code of functions, as abstract code. Printed by program. -/
import Derived.Test.YtnhedjpghpdbdaaAv2
import Derived.Test.YtnhedjpghpdbdaaProg
namespace Go.Proofs.Ytnhedjpghpdbdaa
open Av
set_option linter.unusedVariables false
set_option maxRecDepth 100000
def kd_CSense (f : Nat) : Nat := if f = 33 then 1 else if f = 1000000 + 53 then 1 else 0
/- touchstone/sense.ask: slots c, 0, a, 1, c, 2, a, 3, q, 6, m, 7, i, 8, x, 9 -/
def c_sense_ask : AFunc := ⟨84, [.tmp 4, .tmp 5],
  .seq (.region (⟨some 2, .box 4 (.tmp 0), none⟩ ::
    ⟨some 4, .mov (.val .nilp), none⟩ ::
    ⟨some 5, .mov (.val (.bool false)), none⟩ :: [])) <|
  .seq (.seq (.region (⟨some 10, .faddr 1 (.tmp 2), none⟩ ::
    ⟨some 11, .load false 1 (.tmp 10), none⟩ ::
    ⟨some 12, .len false (.tmp 11), none⟩ ::
    ⟨some 13, .bin .gtr (.tmp 12) (.val (.int .i64 32)), none⟩ :: [])) <|
  .cond (.tmp 13) (.seq (.region (⟨some 4, .mov (.val .nilp), none⟩ ::
      ⟨some 5, .mov (.val (.bool false)), none⟩ :: [])) <|
    .ret) <|
  .skip) <|
  .seq (.region (⟨some 14, .load true 4 (.tmp 2), none⟩ ::
    ⟨some 15, .build [(.int .i64 0), .nils, .nils, (.int .i64 0), .nils] [(0, 4, (.tmp 14)), (4, 1, (.val .nils))], none⟩ ::
    ⟨some 16, .box 5 (.tmp 15), none⟩ ::
    ⟨some 6, .mov (.tmp 16), none⟩ :: [])) <|
  .seq (.region (⟨some 17, .load true 4 (.tmp 2), none⟩ ::
    ⟨some 18, .bslm 4 [(.tmp 17)], none⟩ ::
    ⟨some 19, .build [.nils, .nils, (.int .i64 0), (.int .i64 0)] [(1, 1, (.tmp 18))], none⟩ ::
    ⟨some 7, .alloc (.agg [.nils, .nils, (.int .i64 0), (.int .i64 0)]), none⟩ ::
    ⟨none, .store 4 (.tmp 7) (.tmp 19), none⟩ :: [])) <|
  .seq (.region (⟨some 20, .faddr 1 (.tmp 7), none⟩ ::
    ⟨some 21, .load false 1 (.tmp 20), none⟩ ::
    ⟨some 22, .iaddr 4 (.tmp 21) (.val (.int .i64 0)), none⟩ ::
    ⟨some 23, .faddr 1 (.tmp 22), none⟩ ::
    ⟨none, .store 1 (.tmp 23) (.val .nils), none⟩ :: [])) <|
  .seq (.seq (.region (⟨some 24, .faddr 1 (.tmp 2), none⟩ ::
    ⟨some 25, .load false 1 (.tmp 24), none⟩ ::
    ⟨some 26, .len false (.tmp 25), none⟩ ::
    ⟨some 27, .mov (.val (.int .i64 0)), none⟩ :: [])) <|
  .block 0 (.loop (.seq (.region (⟨some 28, .bin .lss (.tmp 27) (.tmp 26), none⟩ :: [])) <|
      .seq (.cond (.tmp 28) (.skip) <|
      .exit 0) <|
      .seq (.block 1 (.seq (.region (⟨some 29, .mov (.tmp 27), none⟩ ::
          ⟨some 30, .iaddr 1 (.tmp 25) (.tmp 27), none⟩ ::
          ⟨some 31, .load false 1 (.tmp 30), none⟩ ::
          ⟨some 8, .mov (.tmp 29), none⟩ ::
          ⟨some 9, .mov (.tmp 31), none⟩ :: [])) <|
        .seq (.seq (.region (⟨some 32, .mov (.tmp 9), none⟩ ::
          ⟨some 33, .bin .lss (.tmp 32) (.val (.int .i64 0)), none⟩ ::
          ⟨some 34, .mov (.tmp 33), none⟩ ::
          ⟨some 35, .mov (.tmp 9), some (34, false)⟩ ::
          ⟨some 36, .mov (.tmp 1), some (34, false)⟩ ::
          ⟨some 37, .len false (.tmp 36), some (34, false)⟩ ::
          ⟨some 38, .bin .geq (.tmp 35) (.tmp 37), some (34, false)⟩ ::
          ⟨some 39, .pick (.tmp 34) (.val (.bool true)) (.tmp 38), none⟩ :: [])) <|
        .cond (.tmp 39) (.seq (.region (⟨some 4, .mov (.val .nilp), none⟩ ::
            ⟨some 5, .mov (.val (.bool false)), none⟩ :: [])) <|
          .ret) <|
        .skip) <|
        .seq (.region (⟨some 40, .mov (.tmp 6), none⟩ ::
          ⟨some 41, .mov (.tmp 6), none⟩ ::
          ⟨some 42, .nilc (.tmp 41), none⟩ ::
          ⟨some 43, .faddr 4 (.tmp 42), none⟩ ::
          ⟨some 44, .load false 1 (.tmp 43), none⟩ ::
          ⟨some 45, .mov (.tmp 1), none⟩ ::
          ⟨some 46, .mov (.tmp 9), none⟩ ::
          ⟨some 47, .iaddr 1 (.tmp 45) (.tmp 46), none⟩ ::
          ⟨some 48, .load false 1 (.tmp 47), none⟩ ::
          ⟨some 49, .bslice 1 [(.tmp 48)], none⟩ ::
          ⟨some 50, .app 1 8 (.tmp 44) (.tmp 49), none⟩ ::
          ⟨some 51, .nilc (.tmp 40), none⟩ ::
          ⟨some 52, .faddr 4 (.tmp 51), none⟩ ::
          ⟨none, .store 1 (.tmp 52) (.tmp 50), none⟩ :: [])) <|
        .seq (.region (⟨some 53, .faddr 0 (.tmp 7), none⟩ ::
          ⟨some 54, .load false 1 (.tmp 53), none⟩ ::
          ⟨some 55, .mov (.tmp 1), none⟩ ::
          ⟨some 56, .mov (.tmp 9), none⟩ ::
          ⟨some 57, .iaddr 1 (.tmp 55) (.tmp 56), none⟩ ::
          ⟨some 58, .load false 1 (.tmp 57), none⟩ ::
          ⟨some 59, .mov (.tmp 1), none⟩ ::
          ⟨some 60, .mov (.tmp 9), none⟩ ::
          ⟨some 61, .iaddr 1 (.tmp 59) (.tmp 60), none⟩ ::
          ⟨some 62, .load false 1 (.tmp 61), none⟩ ::
          ⟨some 63, .build [(.int .i64 0), (.int .i64 0)] [(0, 1, (.tmp 58)), (1, 1, (.tmp 62))], none⟩ ::
          ⟨some 64, .bslice 2 [(.tmp 63)], none⟩ ::
          ⟨some 65, .bslice 1 [(.tmp 64)], none⟩ ::
          ⟨some 66, .app 1 24 (.tmp 54) (.tmp 65), none⟩ ::
          ⟨some 67, .faddr 0 (.tmp 7), none⟩ ::
          ⟨none, .store 1 (.tmp 67) (.tmp 66), none⟩ :: [])) <|
        .region (⟨some 68, .faddr 1 (.tmp 7), none⟩ ::
          ⟨some 69, .load false 1 (.tmp 68), none⟩ ::
          ⟨some 70, .faddr 1 (.tmp 7), none⟩ ::
          ⟨some 71, .load false 1 (.tmp 70), none⟩ ::
          ⟨some 72, .iaddr 4 (.tmp 71) (.val (.int .i64 0)), none⟩ ::
          ⟨some 73, .faddr 1 (.tmp 72), none⟩ ::
          ⟨some 74, .load false 1 (.tmp 73), none⟩ ::
          ⟨some 75, .mov (.tmp 8), none⟩ ::
          ⟨some 76, .bslice 1 [(.tmp 75)], none⟩ ::
          ⟨some 77, .app 1 8 (.tmp 74) (.tmp 76), none⟩ ::
          ⟨none, .same false 1 (.tmp 68) (.tmp 69), none⟩ ::
          ⟨some 78, .iaddr 4 (.tmp 69) (.val (.int .i64 0)), none⟩ ::
          ⟨some 79, .faddr 1 (.tmp 78), none⟩ ::
          ⟨none, .store 1 (.tmp 79) (.tmp 77), none⟩ :: []))) <|
      .region (⟨some 80, .bin .add (.tmp 27) (.val (.int .i64 1)), none⟩ ::
        ⟨some 27, .mov (.tmp 80), none⟩ :: [])))) <|
  .seq (.region (⟨some 81, .mov (.tmp 6), none⟩ ::
    ⟨some 82, .load true 4 (.tmp 7), none⟩ ::
    ⟨some 83, .callv (.val (.fn (.func 33) [])) [(.tmp 82)], none⟩ ::
    ⟨some 4, .mov (.tmp 81), none⟩ ::
    ⟨some 5, .mov (.tmp 83), none⟩ :: [])) <|
  .ret⟩
theorem e_sense_ask : cFunc Try.prog kd_CSense Try.f31 = some c_sense_ask := by kernel_rfl
/- (*touchstone/sense.asked).sum: slots q, 0, q, 1, n, 3, i, 4, a, 5 -/
def c_sense_asked_sum : AFunc := ⟨30, [.tmp 2],
  .seq (.region (⟨some 2, .mov (.val (.int .i64 0)), none⟩ :: [])) <|
  .seq (.region (⟨some 3, .mov (.val (.int .i64 0)), none⟩ :: [])) <|
  .seq (.seq (.region (⟨some 6, .mov (.tmp 0), none⟩ ::
    ⟨some 7, .nilc (.tmp 6), none⟩ ::
    ⟨some 8, .faddr 0 (.tmp 7), none⟩ ::
    ⟨some 9, .faddr 2 (.tmp 8), none⟩ ::
    ⟨some 10, .load false 1 (.tmp 9), none⟩ ::
    ⟨some 11, .len false (.tmp 10), none⟩ ::
    ⟨some 12, .mov (.val (.int .i64 0)), none⟩ :: [])) <|
  .block 0 (.loop (.seq (.region (⟨some 13, .bin .lss (.tmp 12) (.tmp 11), none⟩ :: [])) <|
      .seq (.cond (.tmp 13) (.skip) <|
      .exit 0) <|
      .seq (.block 1 (.seq (.region (⟨some 14, .mov (.tmp 12), none⟩ ::
          ⟨some 15, .iaddr 1 (.tmp 10) (.tmp 12), none⟩ ::
          ⟨some 16, .load false 1 (.tmp 15), none⟩ ::
          ⟨some 4, .mov (.tmp 14), none⟩ ::
          ⟨some 5, .mov (.tmp 16), none⟩ :: [])) <|
        .region (⟨some 17, .mov (.tmp 3), none⟩ ::
          ⟨some 18, .mov (.tmp 5), none⟩ ::
          ⟨some 19, .mov (.tmp 0), none⟩ ::
          ⟨some 20, .nilc (.tmp 19), none⟩ ::
          ⟨some 21, .faddr 4 (.tmp 20), none⟩ ::
          ⟨some 22, .load false 1 (.tmp 21), none⟩ ::
          ⟨some 23, .mov (.tmp 4), none⟩ ::
          ⟨some 24, .iaddr 1 (.tmp 22) (.tmp 23), none⟩ ::
          ⟨some 25, .load false 1 (.tmp 24), none⟩ ::
          ⟨some 26, .bin .mul (.tmp 18) (.tmp 25), none⟩ ::
          ⟨some 27, .bin .add (.tmp 17) (.tmp 26), none⟩ ::
          ⟨some 3, .mov (.tmp 27), none⟩ :: []))) <|
      .region (⟨some 28, .bin .add (.tmp 12) (.val (.int .i64 1)), none⟩ ::
        ⟨some 12, .mov (.tmp 28), none⟩ :: [])))) <|
  .seq (.region (⟨some 29, .mov (.tmp 3), none⟩ ::
    ⟨some 2, .mov (.tmp 29), none⟩ :: [])) <|
  .ret⟩
theorem e_sense_asked_sum : cFunc Try.prog kd_CSense Try.f107 = some c_sense_asked_sum := by kernel_rfl
/- (*touchstone/sense.asked).flag: slots q, 0, q, 1 -/
def c_sense_asked_flag : AFunc := ⟨16, [.tmp 2],
  .seq (.region (⟨some 2, .mov (.val (.bool false)), none⟩ :: [])) <|
  .seq (.region (⟨some 3, .mov (.tmp 0), none⟩ ::
    ⟨some 4, .nilc (.tmp 3), none⟩ ::
    ⟨some 5, .faddr 4 (.tmp 4), none⟩ ::
    ⟨some 6, .load false 1 (.tmp 5), none⟩ ::
    ⟨some 7, .mov (.tmp 0), none⟩ ::
    ⟨some 8, .nilc (.tmp 7), none⟩ ::
    ⟨some 9, .faddr 4 (.tmp 8), none⟩ ::
    ⟨some 10, .load false 1 (.tmp 9), none⟩ ::
    ⟨some 11, .len false (.tmp 10), none⟩ ::
    ⟨some 12, .bin .sub (.tmp 11) (.val (.int .i64 1)), none⟩ ::
    ⟨some 13, .iaddr 1 (.tmp 6) (.tmp 12), none⟩ ::
    ⟨some 14, .load false 1 (.tmp 13), none⟩ ::
    ⟨some 15, .bin .eql (.tmp 14) (.val (.int .i64 1)), none⟩ ::
    ⟨some 2, .mov (.tmp 15), none⟩ :: [])) <|
  .ret⟩
theorem e_sense_asked_flag : cFunc Try.prog kd_CSense Try.f70 = some c_sense_asked_flag := by kernel_rfl
/- (*touchstone/sense.asked).rest: slots q, 0, q, 1 -/
def c_sense_asked_rest : AFunc := ⟨14, [.tmp 2],
  .seq (.region (⟨some 2, .mov (.val .nils), none⟩ :: [])) <|
  .seq (.region (⟨some 3, .mov (.tmp 0), none⟩ ::
    ⟨some 4, .nilc (.tmp 3), none⟩ ::
    ⟨some 5, .faddr 4 (.tmp 4), none⟩ ::
    ⟨some 6, .load false 1 (.tmp 5), none⟩ ::
    ⟨some 7, .mov (.tmp 0), none⟩ ::
    ⟨some 8, .nilc (.tmp 7), none⟩ ::
    ⟨some 9, .faddr 4 (.tmp 8), none⟩ ::
    ⟨some 10, .load false 1 (.tmp 9), none⟩ ::
    ⟨some 11, .len false (.tmp 10), none⟩ ::
    ⟨some 12, .bin .sub (.tmp 11) (.val (.int .i64 1)), none⟩ ::
    ⟨some 13, .slc 1 (.tmp 6) none (some (.tmp 12)), none⟩ ::
    ⟨some 2, .mov (.tmp 13), none⟩ :: [])) <|
  .ret⟩
theorem e_sense_asked_rest : cFunc Try.prog kd_CSense Try.f72 = some c_sense_asked_rest := by kernel_rfl
/- (*touchstone/sense.asked).clause: slots q, 0, q, 1, i, 3, v, 4 -/
def c_sense_asked_clause : AFunc := ⟨28, [.tmp 2],
  .seq (.region (⟨some 2, .mov (.val (.bool false)), none⟩ :: [])) <|
  .seq (.seq (.region (⟨some 5, .mov (.tmp 0), none⟩ ::
    ⟨some 6, .nilc (.tmp 5), none⟩ ::
    ⟨some 7, .faddr 4 (.tmp 6), none⟩ ::
    ⟨some 8, .load false 1 (.tmp 7), none⟩ ::
    ⟨some 9, .len false (.tmp 8), none⟩ ::
    ⟨some 10, .mov (.val (.int .i64 0)), none⟩ :: [])) <|
  .block 0 (.loop (.seq (.region (⟨some 11, .bin .lss (.tmp 10) (.tmp 9), none⟩ :: [])) <|
      .seq (.cond (.tmp 11) (.skip) <|
      .exit 0) <|
      .seq (.block 1 (.seq (.region (⟨some 12, .mov (.tmp 10), none⟩ ::
          ⟨some 13, .iaddr 1 (.tmp 8) (.tmp 10), none⟩ ::
          ⟨some 14, .load false 1 (.tmp 13), none⟩ ::
          ⟨some 3, .mov (.tmp 12), none⟩ ::
          ⟨some 4, .mov (.tmp 14), none⟩ :: [])) <|
        .seq (.region (⟨some 15, .mov (.tmp 0), none⟩ ::
          ⟨some 16, .nilc (.tmp 15), none⟩ ::
          ⟨some 17, .faddr 0 (.tmp 16), none⟩ ::
          ⟨some 18, .faddr 2 (.tmp 17), none⟩ ::
          ⟨some 19, .load false 1 (.tmp 18), none⟩ ::
          ⟨some 20, .mov (.tmp 3), none⟩ ::
          ⟨some 21, .iaddr 1 (.tmp 19) (.tmp 20), none⟩ ::
          ⟨some 22, .load false 1 (.tmp 21), none⟩ ::
          ⟨some 23, .bin .gtr (.tmp 22) (.val (.int .i64 0)), none⟩ ::
          ⟨some 24, .mov (.tmp 4), none⟩ ::
          ⟨some 25, .bin .eql (.tmp 24) (.val (.int .i64 1)), none⟩ ::
          ⟨some 26, .eqb false (.tmp 23) (.tmp 25), none⟩ :: [])) <|
        .cond (.tmp 26) (.seq (.region (⟨some 2, .mov (.val (.bool true)), none⟩ :: [])) <|
          .ret) <|
        .skip)) <|
      .region (⟨some 27, .bin .add (.tmp 10) (.val (.int .i64 1)), none⟩ ::
        ⟨some 10, .mov (.tmp 27), none⟩ :: [])))) <|
  .seq (.region (⟨some 2, .mov (.val (.bool false)), none⟩ :: [])) <|
  .ret⟩
theorem e_sense_asked_clause : cFunc Try.prog kd_CSense Try.f69 = some c_sense_asked_clause := by kernel_rfl
/- (*touchstone/sense.asked).element: slots q, 0, l, 1, q, 2, l, 3, k, 5 -/
def c_sense_asked_element : AFunc := ⟨40, [.tmp 4],
  .seq (.region (⟨some 4, .mov (.val (.bool false)), none⟩ :: [])) <|
  .seq (.region (⟨some 6, .mov (.tmp 0), none⟩ ::
    ⟨some 7, .nilc (.tmp 6), none⟩ ::
    ⟨some 8, .faddr 4 (.tmp 7), none⟩ ::
    ⟨some 9, .load false 1 (.tmp 8), none⟩ ::
    ⟨some 10, .iaddr 1 (.tmp 9) (.val (.int .i64 0)), none⟩ ::
    ⟨some 11, .load false 1 (.tmp 10), none⟩ ::
    ⟨some 5, .mov (.tmp 11), none⟩ :: [])) <|
  .seq (.region (⟨some 12, .mov (.tmp 5), none⟩ ::
    ⟨some 13, .bin .geq (.tmp 12) (.val (.int .i64 1)), none⟩ ::
    ⟨some 14, .mov (.tmp 13), none⟩ ::
    ⟨some 15, .mov (.tmp 5), some (14, true)⟩ ::
    ⟨some 16, .mov (.tmp 1), some (14, true)⟩ ::
    ⟨some 17, .len false (.tmp 16), some (14, true)⟩ ::
    ⟨some 18, .bin .leq (.tmp 15) (.tmp 17), some (14, true)⟩ ::
    ⟨some 19, .pick (.tmp 14) (.tmp 18) (.val (.bool false)), none⟩ ::
    ⟨some 20, .mov (.tmp 19), none⟩ ::
    ⟨some 21, .mov (.tmp 1), some (20, true)⟩ ::
    ⟨some 22, .mov (.tmp 5), some (20, true)⟩ ::
    ⟨some 23, .bin .sub (.tmp 22) (.val (.int .i64 1)), some (20, true)⟩ ::
    ⟨some 24, .iaddr 1 (.tmp 21) (.tmp 23), some (20, true)⟩ ::
    ⟨some 25, .load false 1 (.tmp 24), some (20, true)⟩ ::
    ⟨some 26, .mov (.tmp 0), some (20, true)⟩ ::
    ⟨some 27, .nilc (.tmp 26), some (20, true)⟩ ::
    ⟨some 28, .faddr 4 (.tmp 27), some (20, true)⟩ ::
    ⟨some 29, .load false 1 (.tmp 28), some (20, true)⟩ ::
    ⟨some 30, .mov (.tmp 0), some (20, true)⟩ ::
    ⟨some 31, .nilc (.tmp 30), some (20, true)⟩ ::
    ⟨some 32, .faddr 4 (.tmp 31), some (20, true)⟩ ::
    ⟨some 33, .load false 1 (.tmp 32), some (20, true)⟩ ::
    ⟨some 34, .len false (.tmp 33), some (20, true)⟩ ::
    ⟨some 35, .bin .sub (.tmp 34) (.val (.int .i64 1)), some (20, true)⟩ ::
    ⟨some 36, .iaddr 1 (.tmp 29) (.tmp 35), some (20, true)⟩ ::
    ⟨some 37, .load false 1 (.tmp 36), some (20, true)⟩ ::
    ⟨some 38, .bin .eql (.tmp 25) (.tmp 37), some (20, true)⟩ ::
    ⟨some 39, .pick (.tmp 20) (.tmp 38) (.val (.bool false)), none⟩ ::
    ⟨some 4, .mov (.tmp 39), none⟩ :: [])) <|
  .ret⟩
theorem e_sense_asked_element : cFunc Try.prog kd_CSense Try.f73 = some c_sense_asked_element := by kernel_rfl
/- (*touchstone/sense.asked).tasks: slots q, 0, q, 1, n, 3, i, 4, t, 5, load, 6, k, 7, s, 8 -/
def c_sense_asked_tasks : AFunc := ⟨81, [.tmp 2],
  .seq (.region (⟨some 2, .mov (.val (.bool false)), none⟩ :: [])) <|
  .seq (.region (⟨some 9, .mov (.tmp 0), none⟩ ::
    ⟨some 10, .nilc (.tmp 9), none⟩ ::
    ⟨some 11, .faddr 4 (.tmp 10), none⟩ ::
    ⟨some 12, .load false 1 (.tmp 11), none⟩ ::
    ⟨some 13, .len false (.tmp 12), none⟩ ::
    ⟨some 3, .mov (.tmp 13), none⟩ :: [])) <|
  .seq (.seq (.region (⟨some 14, .mov (.tmp 0), none⟩ ::
    ⟨some 15, .nilc (.tmp 14), none⟩ ::
    ⟨some 16, .faddr 4 (.tmp 15), none⟩ ::
    ⟨some 17, .load false 1 (.tmp 16), none⟩ ::
    ⟨some 18, .len false (.tmp 17), none⟩ ::
    ⟨some 19, .mov (.val (.int .i64 0)), none⟩ :: [])) <|
  .block 0 (.loop (.seq (.region (⟨some 20, .bin .lss (.tmp 19) (.tmp 18), none⟩ :: [])) <|
      .seq (.cond (.tmp 20) (.skip) <|
      .exit 0) <|
      .seq (.block 1 (.seq (.region (⟨some 21, .mov (.tmp 19), none⟩ ::
          ⟨some 22, .iaddr 1 (.tmp 17) (.tmp 19), none⟩ ::
          ⟨some 23, .load false 1 (.tmp 22), none⟩ ::
          ⟨some 4, .mov (.tmp 21), none⟩ ::
          ⟨some 5, .mov (.tmp 23), none⟩ :: [])) <|
        .seq (.seq (.region (⟨some 24, .mov (.tmp 0), none⟩ ::
          ⟨some 25, .nilc (.tmp 24), none⟩ ::
          ⟨some 26, .faddr 0 (.tmp 25), none⟩ ::
          ⟨some 27, .faddr 2 (.tmp 26), none⟩ ::
          ⟨some 28, .load false 1 (.tmp 27), none⟩ ::
          ⟨some 29, .mov (.tmp 4), none⟩ ::
          ⟨some 30, .iaddr 1 (.tmp 28) (.tmp 29), none⟩ ::
          ⟨some 31, .load false 1 (.tmp 30), none⟩ ::
          ⟨some 32, .bin .eql (.tmp 31) (.val (.int .i64 0)), none⟩ :: [])) <|
        .cond (.tmp 32) (.exit 1) <|
        .skip) <|
        .seq (.region (⟨some 6, .mov (.val (.int .i64 0)), none⟩ :: [])) <|
        .seq (.seq (.region (⟨some 33, .mov (.tmp 0), none⟩ ::
          ⟨some 34, .nilc (.tmp 33), none⟩ ::
          ⟨some 35, .faddr 4 (.tmp 34), none⟩ ::
          ⟨some 36, .load false 1 (.tmp 35), none⟩ ::
          ⟨some 37, .len false (.tmp 36), none⟩ ::
          ⟨some 38, .mov (.val (.int .i64 0)), none⟩ :: [])) <|
        .block 2 (.loop (.seq (.region (⟨some 39, .bin .lss (.tmp 38) (.tmp 37), none⟩ :: [])) <|
            .seq (.cond (.tmp 39) (.skip) <|
            .exit 2) <|
            .seq (.block 3 (.seq (.region (⟨some 40, .mov (.tmp 38), none⟩ ::
                ⟨some 41, .iaddr 1 (.tmp 36) (.tmp 38), none⟩ ::
                ⟨some 42, .load false 1 (.tmp 41), none⟩ ::
                ⟨some 7, .mov (.tmp 40), none⟩ ::
                ⟨some 8, .mov (.tmp 42), none⟩ :: [])) <|
              .seq (.region (⟨some 43, .mov (.tmp 8), none⟩ ::
                ⟨some 44, .mov (.tmp 5), none⟩ ::
                ⟨some 45, .bin .leq (.tmp 43) (.tmp 44), none⟩ ::
                ⟨some 46, .mov (.tmp 45), none⟩ ::
                ⟨some 47, .mov (.tmp 5), some (46, true)⟩ ::
                ⟨some 48, .mov (.tmp 8), some (46, true)⟩ ::
                ⟨some 49, .mov (.tmp 0), some (46, true)⟩ ::
                ⟨some 50, .nilc (.tmp 49), some (46, true)⟩ ::
                ⟨some 51, .faddr 0 (.tmp 50), some (46, true)⟩ ::
                ⟨some 52, .faddr 2 (.tmp 51), some (46, true)⟩ ::
                ⟨some 53, .load false 1 (.tmp 52), some (46, true)⟩ ::
                ⟨some 54, .mov (.tmp 7), some (46, true)⟩ ::
                ⟨some 55, .iaddr 1 (.tmp 53) (.tmp 54), some (46, true)⟩ ::
                ⟨some 56, .load false 1 (.tmp 55), some (46, true)⟩ ::
                ⟨some 57, .bin .add (.tmp 48) (.tmp 56), some (46, true)⟩ ::
                ⟨some 58, .bin .lss (.tmp 47) (.tmp 57), some (46, true)⟩ ::
                ⟨some 59, .pick (.tmp 46) (.tmp 58) (.val (.bool false)), none⟩ :: [])) <|
              .cond (.tmp 59) (.region (⟨some 60, .mov (.tmp 6), none⟩ ::
                  ⟨some 61, .mov (.tmp 0), none⟩ ::
                  ⟨some 62, .nilc (.tmp 61), none⟩ ::
                  ⟨some 63, .faddr 0 (.tmp 62), none⟩ ::
                  ⟨some 64, .faddr 2 (.tmp 63), none⟩ ::
                  ⟨some 65, .load false 1 (.tmp 64), none⟩ ::
                  ⟨some 66, .mov (.tmp 3), none⟩ ::
                  ⟨some 67, .mov (.tmp 7), none⟩ ::
                  ⟨some 68, .bin .add (.tmp 66) (.tmp 67), none⟩ ::
                  ⟨some 69, .iaddr 1 (.tmp 65) (.tmp 68), none⟩ ::
                  ⟨some 70, .load false 1 (.tmp 69), none⟩ ::
                  ⟨some 71, .bin .add (.tmp 60) (.tmp 70), none⟩ ::
                  ⟨some 6, .mov (.tmp 71), none⟩ :: [])) <|
              .skip)) <|
            .region (⟨some 72, .bin .add (.tmp 38) (.val (.int .i64 1)), none⟩ ::
              ⟨some 38, .mov (.tmp 72), none⟩ :: [])))) <|
        .seq (.region (⟨some 73, .mov (.tmp 6), none⟩ ::
          ⟨some 74, .mov (.tmp 0), none⟩ ::
          ⟨some 75, .nilc (.tmp 74), none⟩ ::
          ⟨some 76, .faddr 0 (.tmp 75), none⟩ ::
          ⟨some 77, .faddr 3 (.tmp 76), none⟩ ::
          ⟨some 78, .load false 1 (.tmp 77), none⟩ ::
          ⟨some 79, .bin .gtr (.tmp 73) (.tmp 78), none⟩ :: [])) <|
        .cond (.tmp 79) (.seq (.region (⟨some 2, .mov (.val (.bool false)), none⟩ :: [])) <|
          .ret) <|
        .skip)) <|
      .region (⟨some 80, .bin .add (.tmp 19) (.val (.int .i64 1)), none⟩ ::
        ⟨some 19, .mov (.tmp 80), none⟩ :: [])))) <|
  .seq (.region (⟨some 2, .mov (.val (.bool true)), none⟩ :: [])) <|
  .ret⟩
theorem e_sense_asked_tasks : cFunc Try.prog kd_CSense Try.f75 = some c_sense_asked_tasks := by kernel_rfl
/- (*touchstone/sense.asked).linear: slots q, 0, q, 1, n, 3 -/
def c_sense_asked_linear : AFunc := ⟨74, [.tmp 2],
  .seq (.region (⟨some 2, .mov (.val (.bool false)), none⟩ :: [])) <|
  .seq (.region (⟨some 4, .mov (.tmp 0), none⟩ ::
    ⟨some 5, .call (.val (.fn (.func 107) [])) [(.tmp 4)], none⟩ ::
    ⟨some 3, .mov (.tmp 5), none⟩ :: [])) <|
  .seq (.seq (.region (⟨some 6, .mov (.tmp 0), none⟩ ::
    ⟨some 7, .nilc (.tmp 6), none⟩ ::
    ⟨some 8, .faddr 0 (.tmp 7), none⟩ ::
    ⟨some 9, .faddr 0 (.tmp 8), none⟩ ::
    ⟨some 10, .load false 1 (.tmp 9), none⟩ :: [])) <|
  .block 0 (.seq (.region (⟨some 12, .bin .eql (.tmp 10) (.val (.int .i64 1)), none⟩ ::
      ⟨some 11, .mov (.tmp 12), none⟩ :: [])) <|
    .cond (.tmp 11) (.seq (.region (⟨some 13, .mov (.tmp 3), none⟩ ::
        ⟨some 14, .mov (.tmp 0), none⟩ ::
        ⟨some 15, .nilc (.tmp 14), none⟩ ::
        ⟨some 16, .faddr 0 (.tmp 15), none⟩ ::
        ⟨some 17, .faddr 3 (.tmp 16), none⟩ ::
        ⟨some 18, .load false 1 (.tmp 17), none⟩ ::
        ⟨some 19, .bin .eql (.tmp 13) (.tmp 18), none⟩ ::
        ⟨some 2, .mov (.tmp 19), none⟩ :: [])) <|
      .ret) <|
    .seq (.region (⟨some 21, .bin .eql (.tmp 10) (.val (.int .i64 2)), none⟩ ::
      ⟨some 20, .mov (.tmp 21), none⟩ :: [])) <|
    .cond (.tmp 20) (.seq (.region (⟨some 22, .mov (.tmp 3), none⟩ ::
        ⟨some 23, .mov (.tmp 0), none⟩ ::
        ⟨some 24, .nilc (.tmp 23), none⟩ ::
        ⟨some 25, .faddr 0 (.tmp 24), none⟩ ::
        ⟨some 26, .faddr 3 (.tmp 25), none⟩ ::
        ⟨some 27, .load false 1 (.tmp 26), none⟩ ::
        ⟨some 28, .bin .leq (.tmp 22) (.tmp 27), none⟩ ::
        ⟨some 2, .mov (.tmp 28), none⟩ :: [])) <|
      .ret) <|
    .seq (.region (⟨some 30, .bin .eql (.tmp 10) (.val (.int .i64 3)), none⟩ ::
      ⟨some 29, .mov (.tmp 30), none⟩ :: [])) <|
    .cond (.tmp 29) (.seq (.region (⟨some 31, .mov (.tmp 3), none⟩ ::
        ⟨some 32, .mov (.tmp 0), none⟩ ::
        ⟨some 33, .nilc (.tmp 32), none⟩ ::
        ⟨some 34, .faddr 0 (.tmp 33), none⟩ ::
        ⟨some 35, .faddr 3 (.tmp 34), none⟩ ::
        ⟨some 36, .load false 1 (.tmp 35), none⟩ ::
        ⟨some 37, .bin .neq (.tmp 31) (.tmp 36), none⟩ ::
        ⟨some 2, .mov (.tmp 37), none⟩ :: [])) <|
      .ret) <|
    .seq (.region (⟨some 39, .bin .eql (.tmp 10) (.val (.int .i64 4)), none⟩ ::
      ⟨some 38, .mov (.tmp 39), none⟩ :: [])) <|
    .cond (.tmp 38) (.seq (.region (⟨some 40, .mov (.tmp 0), none⟩ ::
        ⟨some 41, .call (.val (.fn (.func 70) [])) [(.tmp 40)], none⟩ ::
        ⟨some 42, .mov (.tmp 3), none⟩ ::
        ⟨some 43, .mov (.tmp 0), none⟩ ::
        ⟨some 44, .nilc (.tmp 43), none⟩ ::
        ⟨some 45, .faddr 0 (.tmp 44), none⟩ ::
        ⟨some 46, .faddr 3 (.tmp 45), none⟩ ::
        ⟨some 47, .load false 1 (.tmp 46), none⟩ ::
        ⟨some 48, .bin .eql (.tmp 42) (.tmp 47), none⟩ ::
        ⟨some 49, .eqb false (.tmp 41) (.tmp 48), none⟩ ::
        ⟨some 2, .mov (.tmp 49), none⟩ :: [])) <|
      .ret) <|
    .seq (.region (⟨some 51, .bin .eql (.tmp 10) (.val (.int .i64 5)), none⟩ ::
      ⟨some 50, .mov (.tmp 51), none⟩ :: [])) <|
    .cond (.tmp 50) (.seq (.region (⟨some 52, .mov (.tmp 0), none⟩ ::
        ⟨some 53, .call (.val (.fn (.func 70) [])) [(.tmp 52)], none⟩ ::
        ⟨some 54, .mov (.tmp 3), none⟩ ::
        ⟨some 55, .mov (.tmp 0), none⟩ ::
        ⟨some 56, .nilc (.tmp 55), none⟩ ::
        ⟨some 57, .faddr 0 (.tmp 56), none⟩ ::
        ⟨some 58, .faddr 3 (.tmp 57), none⟩ ::
        ⟨some 59, .load false 1 (.tmp 58), none⟩ ::
        ⟨some 60, .bin .leq (.tmp 54) (.tmp 59), none⟩ ::
        ⟨some 61, .eqb false (.tmp 53) (.tmp 60), none⟩ ::
        ⟨some 2, .mov (.tmp 61), none⟩ :: [])) <|
      .ret) <|
    .skip)) <|
  .seq (.region (⟨some 62, .mov (.tmp 0), none⟩ ::
    ⟨some 63, .call (.val (.fn (.func 70) [])) [(.tmp 62)], none⟩ ::
    ⟨some 64, .un .not (.tmp 63), none⟩ ::
    ⟨some 65, .mov (.tmp 64), none⟩ ::
    ⟨some 66, .mov (.tmp 3), some (65, false)⟩ ::
    ⟨some 67, .mov (.tmp 0), some (65, false)⟩ ::
    ⟨some 68, .nilc (.tmp 67), some (65, false)⟩ ::
    ⟨some 69, .faddr 0 (.tmp 68), some (65, false)⟩ ::
    ⟨some 70, .faddr 3 (.tmp 69), some (65, false)⟩ ::
    ⟨some 71, .load false 1 (.tmp 70), some (65, false)⟩ ::
    ⟨some 72, .bin .leq (.tmp 66) (.tmp 71), some (65, false)⟩ ::
    ⟨some 73, .pick (.tmp 65) (.val (.bool true)) (.tmp 72), none⟩ ::
    ⟨some 2, .mov (.tmp 73), none⟩ :: [])) <|
  .ret⟩
theorem e_sense_asked_linear : cFunc Try.prog kd_CSense Try.f76 = some c_sense_asked_linear := by kernel_rfl
/- (*touchstone/sense.asked).holds: slots q, 0, q, 1, one, 3, nought, 4, v, 5 -/
def c_sense_asked_holds : AFunc := ⟨137, [.tmp 2],
  .seq (.region (⟨some 2, .mov (.val (.bool false)), none⟩ :: [])) <|
  .seq (.region (⟨some 3, .mov (.val (.fn (.func 67) [])), none⟩ :: [])) <|
  .seq (.region (⟨some 4, .mov (.val (.fn (.func 68) [])), none⟩ :: [])) <|
  .seq (.region (⟨some 6, .mov (.tmp 0), none⟩ ::
    ⟨some 7, .nilc (.tmp 6), none⟩ ::
    ⟨some 8, .faddr 4 (.tmp 7), none⟩ ::
    ⟨some 9, .load false 1 (.tmp 8), none⟩ ::
    ⟨some 5, .mov (.tmp 9), none⟩ :: [])) <|
  .seq (.seq (.region (⟨some 10, .mov (.tmp 0), none⟩ ::
    ⟨some 11, .nilc (.tmp 10), none⟩ ::
    ⟨some 12, .faddr 0 (.tmp 11), none⟩ ::
    ⟨some 13, .faddr 0 (.tmp 12), none⟩ ::
    ⟨some 14, .load false 1 (.tmp 13), none⟩ :: [])) <|
  .block 0 (.seq (.region (⟨some 16, .bin .eql (.tmp 14) (.val (.int .i64 7)), none⟩ ::
      ⟨some 15, .mov (.tmp 16), none⟩ :: [])) <|
    .cond (.tmp 15) (.seq (.region (⟨some 17, .mov (.tmp 5), none⟩ ::
        ⟨some 18, .iaddr 1 (.tmp 17) (.val (.int .i64 0)), none⟩ ::
        ⟨some 19, .load false 1 (.tmp 18), none⟩ ::
        ⟨some 20, .mov (.tmp 5), none⟩ ::
        ⟨some 21, .iaddr 1 (.tmp 20) (.val (.int .i64 1)), none⟩ ::
        ⟨some 22, .load false 1 (.tmp 21), none⟩ ::
        ⟨some 23, .bin .mul (.tmp 19) (.tmp 22), none⟩ ::
        ⟨some 24, .mov (.tmp 5), none⟩ ::
        ⟨some 25, .iaddr 1 (.tmp 24) (.val (.int .i64 2)), none⟩ ::
        ⟨some 26, .load false 1 (.tmp 25), none⟩ ::
        ⟨some 27, .bin .eql (.tmp 23) (.tmp 26), none⟩ ::
        ⟨some 2, .mov (.tmp 27), none⟩ :: [])) <|
      .ret) <|
    .seq (.region (⟨some 29, .bin .eql (.tmp 14) (.val (.int .i64 8)), none⟩ ::
      ⟨some 28, .mov (.tmp 29), none⟩ :: [])) <|
    .cond (.tmp 28) (.seq (.region (⟨some 30, .mov (.tmp 5), none⟩ ::
        ⟨some 31, .iaddr 1 (.tmp 30) (.val (.int .i64 0)), none⟩ ::
        ⟨some 32, .load false 1 (.tmp 31), none⟩ ::
        ⟨some 33, .mov (.tmp 5), none⟩ ::
        ⟨some 34, .iaddr 1 (.tmp 33) (.val (.int .i64 1)), none⟩ ::
        ⟨some 35, .load false 1 (.tmp 34), none⟩ ::
        ⟨some 36, .mn (.tmp 32) [(.tmp 35)], none⟩ ::
        ⟨some 37, .mov (.tmp 5), none⟩ ::
        ⟨some 38, .iaddr 1 (.tmp 37) (.val (.int .i64 2)), none⟩ ::
        ⟨some 39, .load false 1 (.tmp 38), none⟩ ::
        ⟨some 40, .bin .eql (.tmp 36) (.tmp 39), none⟩ ::
        ⟨some 2, .mov (.tmp 40), none⟩ :: [])) <|
      .ret) <|
    .seq (.region (⟨some 42, .bin .eql (.tmp 14) (.val (.int .i64 9)), none⟩ ::
      ⟨some 41, .mov (.tmp 42), none⟩ :: [])) <|
    .cond (.tmp 41) (.seq (.region (⟨some 43, .mov (.tmp 5), none⟩ ::
        ⟨some 44, .iaddr 1 (.tmp 43) (.val (.int .i64 0)), none⟩ ::
        ⟨some 45, .load false 1 (.tmp 44), none⟩ ::
        ⟨some 46, .mov (.tmp 5), none⟩ ::
        ⟨some 47, .iaddr 1 (.tmp 46) (.val (.int .i64 1)), none⟩ ::
        ⟨some 48, .load false 1 (.tmp 47), none⟩ ::
        ⟨some 49, .mx (.tmp 45) [(.tmp 48)], none⟩ ::
        ⟨some 50, .mov (.tmp 5), none⟩ ::
        ⟨some 51, .iaddr 1 (.tmp 50) (.val (.int .i64 2)), none⟩ ::
        ⟨some 52, .load false 1 (.tmp 51), none⟩ ::
        ⟨some 53, .bin .eql (.tmp 49) (.tmp 52), none⟩ ::
        ⟨some 2, .mov (.tmp 53), none⟩ :: [])) <|
      .ret) <|
    .seq (.region (⟨some 55, .bin .eql (.tmp 14) (.val (.int .i64 10)), none⟩ ::
      ⟨some 54, .mov (.tmp 55), none⟩ :: [])) <|
    .cond (.tmp 54) (.seq (.region (⟨some 56, .mov (.tmp 5), none⟩ ::
        ⟨some 57, .iaddr 1 (.tmp 56) (.val (.int .i64 0)), none⟩ ::
        ⟨some 58, .load false 1 (.tmp 57), none⟩ ::
        ⟨some 59, .mov (.tmp 5), none⟩ ::
        ⟨some 60, .iaddr 1 (.tmp 59) (.val (.int .i64 0)), none⟩ ::
        ⟨some 61, .load false 1 (.tmp 60), none⟩ ::
        ⟨some 62, .un .neg (.tmp 61), none⟩ ::
        ⟨some 63, .mx (.tmp 58) [(.tmp 62)], none⟩ ::
        ⟨some 64, .mov (.tmp 5), none⟩ ::
        ⟨some 65, .iaddr 1 (.tmp 64) (.val (.int .i64 1)), none⟩ ::
        ⟨some 66, .load false 1 (.tmp 65), none⟩ ::
        ⟨some 67, .bin .eql (.tmp 63) (.tmp 66), none⟩ ::
        ⟨some 2, .mov (.tmp 67), none⟩ :: [])) <|
      .ret) <|
    .seq (.region (⟨some 69, .bin .eql (.tmp 14) (.val (.int .i64 15)), none⟩ ::
      ⟨some 68, .mov (.tmp 69), none⟩ :: [])) <|
    .cond (.tmp 68) (.seq (.region (⟨some 70, .mov (.tmp 5), none⟩ ::
        ⟨some 71, .iaddr 1 (.tmp 70) (.val (.int .i64 0)), none⟩ ::
        ⟨some 72, .load false 1 (.tmp 71), none⟩ ::
        ⟨some 73, .mov (.tmp 5), none⟩ ::
        ⟨some 74, .iaddr 1 (.tmp 73) (.val (.int .i64 1)), none⟩ ::
        ⟨some 75, .load false 1 (.tmp 74), none⟩ ::
        ⟨some 76, .bin .eql (.tmp 72) (.tmp 75), none⟩ ::
        ⟨some 2, .mov (.tmp 76), none⟩ :: [])) <|
      .ret) <|
    .seq (.region (⟨some 78, .bin .eql (.tmp 14) (.val (.int .i64 11)), none⟩ ::
      ⟨some 77, .mov (.tmp 78), none⟩ :: [])) <|
    .cond (.tmp 77) (.seq (.region (⟨some 79, .mov (.tmp 0), none⟩ ::
        ⟨some 80, .call (.val (.fn (.func 69) [])) [(.tmp 79)], none⟩ ::
        ⟨some 2, .mov (.tmp 80), none⟩ :: [])) <|
      .ret) <|
    .seq (.region (⟨some 82, .bin .eql (.tmp 14) (.val (.int .i64 12)), none⟩ ::
      ⟨some 81, .mov (.tmp 82), none⟩ :: [])) <|
    .cond (.tmp 81) (.seq (.region (⟨some 83, .mov (.tmp 0), none⟩ ::
        ⟨some 84, .call (.val (.fn (.func 70) [])) [(.tmp 83)], none⟩ ::
        ⟨some 85, .mov (.tmp 0), none⟩ ::
        ⟨some 86, .call (.val (.fn (.func 72) [])) [(.tmp 85)], none⟩ ::
        ⟨some 87, .mov (.tmp 4), none⟩ ::
        ⟨some 88, .call (.val (.fn (.func 71) [])) [(.tmp 86), (.tmp 87)], none⟩ ::
        ⟨some 89, .eqb true (.tmp 84) (.tmp 88), none⟩ ::
        ⟨some 2, .mov (.tmp 89), none⟩ :: [])) <|
      .ret) <|
    .seq (.region (⟨some 91, .bin .eql (.tmp 14) (.val (.int .i64 13)), none⟩ ::
      ⟨some 90, .mov (.tmp 91), none⟩ :: [])) <|
    .cond (.tmp 90) (.seq (.region (⟨some 92, .mov (.tmp 0), none⟩ ::
        ⟨some 93, .call (.val (.fn (.func 70) [])) [(.tmp 92)], none⟩ ::
        ⟨some 94, .mov (.tmp 0), none⟩ ::
        ⟨some 95, .call (.val (.fn (.func 72) [])) [(.tmp 94)], none⟩ ::
        ⟨some 96, .mov (.tmp 3), none⟩ ::
        ⟨some 97, .call (.val (.fn (.func 71) [])) [(.tmp 95), (.tmp 96)], none⟩ ::
        ⟨some 98, .eqb false (.tmp 93) (.tmp 97), none⟩ ::
        ⟨some 2, .mov (.tmp 98), none⟩ :: [])) <|
      .ret) <|
    .seq (.region (⟨some 100, .bin .eql (.tmp 14) (.val (.int .i64 14)), none⟩ ::
      ⟨some 99, .mov (.tmp 100), none⟩ :: [])) <|
    .cond (.tmp 99) (.seq (.region (⟨some 101, .mov (.tmp 0), none⟩ ::
        ⟨some 102, .call (.val (.fn (.func 70) [])) [(.tmp 101)], none⟩ ::
        ⟨some 103, .mov (.tmp 5), none⟩ ::
        ⟨some 104, .iaddr 1 (.tmp 103) (.val (.int .i64 0)), none⟩ ::
        ⟨some 105, .load false 1 (.tmp 104), none⟩ ::
        ⟨some 106, .mov (.tmp 5), none⟩ ::
        ⟨some 107, .iaddr 1 (.tmp 106) (.val (.int .i64 1)), none⟩ ::
        ⟨some 108, .load false 1 (.tmp 107), none⟩ ::
        ⟨some 109, .bin .neq (.tmp 105) (.tmp 108), none⟩ ::
        ⟨some 110, .eqb false (.tmp 102) (.tmp 109), none⟩ ::
        ⟨some 2, .mov (.tmp 110), none⟩ :: [])) <|
      .ret) <|
    .seq (.region (⟨some 112, .bin .eql (.tmp 14) (.val (.int .i64 16)), none⟩ ::
      ⟨some 111, .mov (.tmp 112), none⟩ :: [])) <|
    .cond (.tmp 111) (.seq (.region (⟨some 113, .mov (.tmp 0), none⟩ ::
        ⟨some 114, .mov (.tmp 0), none⟩ ::
        ⟨some 115, .nilc (.tmp 114), none⟩ ::
        ⟨some 116, .faddr 0 (.tmp 115), none⟩ ::
        ⟨some 117, .faddr 2 (.tmp 116), none⟩ ::
        ⟨some 118, .load false 1 (.tmp 117), none⟩ ::
        ⟨some 119, .call (.val (.fn (.func 73) [])) [(.tmp 113), (.tmp 118)], none⟩ ::
        ⟨some 2, .mov (.tmp 119), none⟩ :: [])) <|
      .ret) <|
    .seq (.region (⟨some 121, .bin .eql (.tmp 14) (.val (.int .i64 17)), none⟩ ::
      ⟨some 120, .mov (.tmp 121), none⟩ :: [])) <|
    .cond (.tmp 120) (.seq (.region (⟨some 122, .mov (.tmp 0), none⟩ ::
        ⟨some 123, .mov (.tmp 0), none⟩ ::
        ⟨some 124, .call (.val (.fn (.func 72) [])) [(.tmp 123)], none⟩ ::
        ⟨some 125, .slc 1 (.tmp 124) (some (.val (.int .i64 1))) none, none⟩ ::
        ⟨some 126, .call (.val (.fn (.func 73) [])) [(.tmp 122), (.tmp 125)], none⟩ ::
        ⟨some 2, .mov (.tmp 126), none⟩ :: [])) <|
      .ret) <|
    .seq (.region (⟨some 128, .bin .eql (.tmp 14) (.val (.int .i64 18)), none⟩ ::
      ⟨some 127, .mov (.tmp 128), none⟩ :: [])) <|
    .cond (.tmp 127) (.seq (.region (⟨some 129, .mov (.tmp 0), none⟩ ::
        ⟨some 130, .call (.val (.fn (.func 74) [])) [(.tmp 129)], none⟩ ::
        ⟨some 2, .mov (.tmp 130), none⟩ :: [])) <|
      .ret) <|
    .seq (.region (⟨some 132, .bin .eql (.tmp 14) (.val (.int .i64 19)), none⟩ ::
      ⟨some 131, .mov (.tmp 132), none⟩ :: [])) <|
    .cond (.tmp 131) (.seq (.region (⟨some 133, .mov (.tmp 0), none⟩ ::
        ⟨some 134, .call (.val (.fn (.func 75) [])) [(.tmp 133)], none⟩ ::
        ⟨some 2, .mov (.tmp 134), none⟩ :: [])) <|
      .ret) <|
    .skip)) <|
  .seq (.region (⟨some 135, .mov (.tmp 0), none⟩ ::
    ⟨some 136, .call (.val (.fn (.func 76) [])) [(.tmp 135)], none⟩ ::
    ⟨some 2, .mov (.tmp 136), none⟩ :: [])) <|
  .ret⟩
theorem e_sense_asked_holds : cFunc Try.prog kd_CSense Try.f32 = some c_sense_asked_holds := by kernel_rfl
/- (*touchstone/sense.asked).holds$1: slots v, 0, v, 1 -/
def c_sense_asked_holds_1 : AFunc := ⟨5, [.tmp 2],
  .seq (.region (⟨some 2, .mov (.val (.bool false)), none⟩ :: [])) <|
  .seq (.region (⟨some 3, .mov (.tmp 0), none⟩ ::
    ⟨some 4, .bin .eql (.tmp 3) (.val (.int .i64 1)), none⟩ ::
    ⟨some 2, .mov (.tmp 4), none⟩ :: [])) <|
  .ret⟩
theorem e_sense_asked_holds_1 : cFunc Try.prog kd_CSense Try.f67 = some c_sense_asked_holds_1 := by kernel_rfl
/- (*touchstone/sense.asked).holds$2: slots v, 0, v, 1 -/
def c_sense_asked_holds_2 : AFunc := ⟨5, [.tmp 2],
  .seq (.region (⟨some 2, .mov (.val (.bool false)), none⟩ :: [])) <|
  .seq (.region (⟨some 3, .mov (.tmp 0), none⟩ ::
    ⟨some 4, .bin .eql (.tmp 3) (.val (.int .i64 0)), none⟩ ::
    ⟨some 2, .mov (.tmp 4), none⟩ :: [])) <|
  .ret⟩
theorem e_sense_asked_holds_2 : cFunc Try.prog kd_CSense Try.f68 = some c_sense_asked_holds_2 := by kernel_rfl
/- touchstone/sense.Holds: slots c, 0, a, 1, c, 2, a, 3, q, 5, ok, 6 -/
def c_sense_Holds : AFunc := ⟨18, [.tmp 4],
  .seq (.region (⟨some 2, .box 4 (.tmp 0), none⟩ ::
    ⟨some 4, .mov (.val (.bool false)), none⟩ :: [])) <|
  .seq (.region (⟨some 8, .load true 4 (.tmp 2), none⟩ ::
    ⟨some 9, .mov (.tmp 1), none⟩ ::
    ⟨some 10, .call (.val (.fn (.func 31) [])) [(.tmp 8), (.tmp 9)], none⟩ ::
    ⟨some 7, .mov (.tmp 10), none⟩ ::
    ⟨some 11, .ext (.tmp 7) 0, none⟩ ::
    ⟨some 12, .ext (.tmp 7) 1, none⟩ ::
    ⟨some 5, .mov (.tmp 11), none⟩ ::
    ⟨some 6, .mov (.tmp 12), none⟩ :: [])) <|
  .seq (.region (⟨some 13, .mov (.tmp 6), none⟩ ::
    ⟨some 14, .mov (.tmp 13), none⟩ ::
    ⟨some 15, .mov (.tmp 5), some (14, true)⟩ ::
    ⟨some 16, .call (.val (.fn (.func 32) [])) [(.tmp 15)], some (14, true)⟩ ::
    ⟨some 17, .pick (.tmp 14) (.tmp 16) (.val (.bool false)), none⟩ ::
    ⟨some 4, .mov (.tmp 17), none⟩ :: [])) <|
  .ret⟩
theorem e_sense_Holds : cFunc Try.prog kd_CSense Try.f12 = some c_sense_Holds := by kernel_rfl
/- touchstone/sense.Sum: slots c, 0, a, 1, c, 2, a, 3, q, 6, ok, 7 -/
/- touchstone/sense.All: slots m, 0, a, 1, m, 2, a, 3, x, 5, d, 6 -/
/- touchstone/sense.All$1: slots c, 0, c, 2 -/
/- touchstone/sense.Better: slots m, 0, a, 1, b, 2, m, 3, a, 4, b, 5 -/
end Go.Proofs.Ytnhedjpghpdbdaa
