/- The code of functions, as abstract code. Printed by program. -/
import Derived.Test.YtonkcemcledhiaaAv2
import Derived.Test.YtonkcemcledhiaaProg
namespace Go.Proofs.Ytonkcemcledhiaa
open Av
set_option linter.unusedVariables false
set_option maxRecDepth 100000
def kd_CCheck (f : Nat) : Nat := 0
/- touchstone/check.may: slots a, 0, b, 1, a, 2, b, 3 -/
def c_check_may : AFunc := ⟨15, [.tmp 4],
  .seq (.region (⟨some 4, .mov (.val (.int .i64 0)), none⟩ :: [])) <|
  .seq (.block 0 (.seq (.region (⟨some 6, .mov (.tmp 1), none⟩ ::
      ⟨some 7, .bin .eql (.tmp 6) (.val (.int .i64 0)), none⟩ ::
      ⟨some 5, .mov (.tmp 7), none⟩ :: [])) <|
    .cond (.tmp 5) (.seq (.region (⟨some 4, .mov (.val (.int .i64 2)), none⟩ :: [])) <|
      .ret) <|
    .seq (.region (⟨some 9, .mov (.tmp 1), none⟩ ::
      ⟨some 10, .bin .eql (.tmp 9) (.val (.int .i64 (-1))), none⟩ ::
      ⟨some 11, .mov (.tmp 10), none⟩ ::
      ⟨some 12, .mov (.tmp 0), some (11, true)⟩ ::
      ⟨some 13, .bin .eql (.tmp 12) (.val (.int .i64 (-9223372036854775808))), some (11, true)⟩ ::
      ⟨some 14, .pick (.tmp 11) (.tmp 13) (.val (.bool false)), none⟩ ::
      ⟨some 8, .mov (.tmp 14), none⟩ :: [])) <|
    .cond (.tmp 8) (.seq (.region (⟨some 4, .mov (.val (.int .i64 4)), none⟩ :: [])) <|
      .ret) <|
    .skip)) <|
  .seq (.region (⟨some 4, .mov (.val (.int .i64 0)), none⟩ :: [])) <|
  .ret⟩
theorem e_check_may : cFunc Try.prog kd_CCheck Try.f180 = some c_check_may := by kernel_rfl
/- touchstone/check.Floor: slots a, 0, b, 1, a, 2, b, 3, e, 6, q, 7, r, 8 -/
def c_check_Floor : AFunc := ⟨33, [.tmp 4, .tmp 5],
  .seq (.region (⟨some 4, .mov (.val (.int .i64 0)), none⟩ ::
    ⟨some 5, .mov (.val (.int .i64 0)), none⟩ :: [])) <|
  .seq (.seq (.region (⟨some 9, .mov (.tmp 0), none⟩ ::
    ⟨some 10, .mov (.tmp 1), none⟩ ::
    ⟨some 11, .call (.val (.fn (.func 180) [])) [(.tmp 9), (.tmp 10)], none⟩ ::
    ⟨some 6, .mov (.tmp 11), none⟩ :: [])) <|
  .seq (.region (⟨some 12, .mov (.tmp 6), none⟩ ::
    ⟨some 13, .bin .neq (.tmp 12) (.val (.int .i64 0)), none⟩ :: [])) <|
  .cond (.tmp 13) (.seq (.region (⟨some 14, .mov (.tmp 6), none⟩ ::
      ⟨some 4, .mov (.val (.int .i64 0)), none⟩ ::
      ⟨some 5, .mov (.tmp 14), none⟩ :: [])) <|
    .ret) <|
  .skip) <|
  .seq (.region (⟨some 15, .mov (.tmp 0), none⟩ ::
    ⟨some 16, .mov (.tmp 1), none⟩ ::
    ⟨some 17, .bin .quo (.tmp 15) (.tmp 16), none⟩ ::
    ⟨some 18, .mov (.tmp 0), none⟩ ::
    ⟨some 19, .mov (.tmp 1), none⟩ ::
    ⟨some 20, .bin .rem (.tmp 18) (.tmp 19), none⟩ ::
    ⟨some 7, .mov (.tmp 17), none⟩ ::
    ⟨some 8, .mov (.tmp 20), none⟩ :: [])) <|
  .seq (.seq (.region (⟨some 21, .mov (.tmp 8), none⟩ ::
    ⟨some 22, .bin .neq (.tmp 21) (.val (.int .i64 0)), none⟩ ::
    ⟨some 23, .mov (.tmp 22), none⟩ ::
    ⟨some 24, .mov (.tmp 8), some (23, true)⟩ ::
    ⟨some 25, .bin .lss (.tmp 24) (.val (.int .i64 0)), some (23, true)⟩ ::
    ⟨some 26, .mov (.tmp 1), some (23, true)⟩ ::
    ⟨some 27, .bin .lss (.tmp 26) (.val (.int .i64 0)), some (23, true)⟩ ::
    ⟨some 28, .eqb true (.tmp 25) (.tmp 27), some (23, true)⟩ ::
    ⟨some 29, .pick (.tmp 23) (.tmp 28) (.val (.bool false)), none⟩ :: [])) <|
  .cond (.tmp 29) (.region (⟨some 30, .mov (.tmp 7), none⟩ ::
      ⟨some 31, .bin .sub (.tmp 30) (.val (.int .i64 1)), none⟩ ::
      ⟨some 7, .mov (.tmp 31), none⟩ :: [])) <|
  .skip) <|
  .seq (.region (⟨some 32, .mov (.tmp 7), none⟩ ::
    ⟨some 4, .mov (.tmp 32), none⟩ ::
    ⟨some 5, .mov (.val (.int .i64 0)), none⟩ :: [])) <|
  .ret⟩
theorem e_check_Floor : cFunc Try.prog kd_CCheck Try.f167 = some c_check_Floor := by kernel_rfl
/- touchstone/check.Ceil: slots a, 0, b, 1, a, 2, b, 3, e, 6, q, 7, r, 8 -/
def c_check_Ceil : AFunc := ⟨33, [.tmp 4, .tmp 5],
  .seq (.region (⟨some 4, .mov (.val (.int .i64 0)), none⟩ ::
    ⟨some 5, .mov (.val (.int .i64 0)), none⟩ :: [])) <|
  .seq (.seq (.region (⟨some 9, .mov (.tmp 0), none⟩ ::
    ⟨some 10, .mov (.tmp 1), none⟩ ::
    ⟨some 11, .call (.val (.fn (.func 180) [])) [(.tmp 9), (.tmp 10)], none⟩ ::
    ⟨some 6, .mov (.tmp 11), none⟩ :: [])) <|
  .seq (.region (⟨some 12, .mov (.tmp 6), none⟩ ::
    ⟨some 13, .bin .neq (.tmp 12) (.val (.int .i64 0)), none⟩ :: [])) <|
  .cond (.tmp 13) (.seq (.region (⟨some 14, .mov (.tmp 6), none⟩ ::
      ⟨some 4, .mov (.val (.int .i64 0)), none⟩ ::
      ⟨some 5, .mov (.tmp 14), none⟩ :: [])) <|
    .ret) <|
  .skip) <|
  .seq (.region (⟨some 15, .mov (.tmp 0), none⟩ ::
    ⟨some 16, .mov (.tmp 1), none⟩ ::
    ⟨some 17, .bin .quo (.tmp 15) (.tmp 16), none⟩ ::
    ⟨some 18, .mov (.tmp 0), none⟩ ::
    ⟨some 19, .mov (.tmp 1), none⟩ ::
    ⟨some 20, .bin .rem (.tmp 18) (.tmp 19), none⟩ ::
    ⟨some 7, .mov (.tmp 17), none⟩ ::
    ⟨some 8, .mov (.tmp 20), none⟩ :: [])) <|
  .seq (.seq (.region (⟨some 21, .mov (.tmp 8), none⟩ ::
    ⟨some 22, .bin .neq (.tmp 21) (.val (.int .i64 0)), none⟩ ::
    ⟨some 23, .mov (.tmp 22), none⟩ ::
    ⟨some 24, .mov (.tmp 8), some (23, true)⟩ ::
    ⟨some 25, .bin .lss (.tmp 24) (.val (.int .i64 0)), some (23, true)⟩ ::
    ⟨some 26, .mov (.tmp 1), some (23, true)⟩ ::
    ⟨some 27, .bin .lss (.tmp 26) (.val (.int .i64 0)), some (23, true)⟩ ::
    ⟨some 28, .eqb false (.tmp 25) (.tmp 27), some (23, true)⟩ ::
    ⟨some 29, .pick (.tmp 23) (.tmp 28) (.val (.bool false)), none⟩ :: [])) <|
  .cond (.tmp 29) (.region (⟨some 30, .mov (.tmp 7), none⟩ ::
      ⟨some 31, .bin .add (.tmp 30) (.val (.int .i64 1)), none⟩ ::
      ⟨some 7, .mov (.tmp 31), none⟩ :: [])) <|
  .skip) <|
  .seq (.region (⟨some 32, .mov (.tmp 7), none⟩ ::
    ⟨some 4, .mov (.tmp 32), none⟩ ::
    ⟨some 5, .mov (.val (.int .i64 0)), none⟩ :: [])) <|
  .ret⟩
theorem e_check_Ceil : cFunc Try.prog kd_CCheck Try.f166 = some c_check_Ceil := by kernel_rfl
/- slices.Min[[]int64,int64]: slots x, 0, x, 1, m, 3, i, 4 -/
def c_slices_Min_sint64_int64 : AFunc := ⟨25, [.tmp 2],
  .seq (.region (⟨some 2, .mov (.val (.int .i64 0)), none⟩ :: [])) <|
  .seq (.seq (.region (⟨some 5, .mov (.tmp 0), none⟩ ::
    ⟨some 6, .len false (.tmp 5), none⟩ ::
    ⟨some 7, .bin .lss (.tmp 6) (.val (.int .i64 1)), none⟩ :: [])) <|
  .cond (.tmp 7) (.region (⟨some 8, .bad, none⟩ ::
      ⟨none, .bad, none⟩ :: [])) <|
  .skip) <|
  .seq (.region (⟨some 9, .mov (.tmp 0), none⟩ ::
    ⟨some 10, .iaddr 1 (.tmp 9) (.val (.int .i64 0)), none⟩ ::
    ⟨some 11, .load false 1 (.tmp 10), none⟩ ::
    ⟨some 3, .mov (.tmp 11), none⟩ :: [])) <|
  .seq (.seq (.region (⟨some 4, .mov (.val (.int .i64 1)), none⟩ :: [])) <|
  .block 0 (.loop (.seq (.seq (.region (⟨some 12, .mov (.tmp 4), none⟩ ::
        ⟨some 13, .mov (.tmp 0), none⟩ ::
        ⟨some 14, .len false (.tmp 13), none⟩ ::
        ⟨some 15, .bin .lss (.tmp 12) (.tmp 14), none⟩ :: [])) <|
      .cond (.tmp 15) (.skip) <|
      .exit 0) <|
      .seq (.block 1 (.region (⟨some 18, .mov (.tmp 3), none⟩ ::
          ⟨some 19, .mov (.tmp 0), none⟩ ::
          ⟨some 20, .mov (.tmp 4), none⟩ ::
          ⟨some 21, .iaddr 1 (.tmp 19) (.tmp 20), none⟩ ::
          ⟨some 22, .load false 1 (.tmp 21), none⟩ ::
          ⟨some 23, .mn (.tmp 18) [(.tmp 22)], none⟩ ::
          ⟨some 3, .mov (.tmp 23), none⟩ :: []))) <|
      .region (⟨some 16, .mov (.tmp 4), none⟩ ::
        ⟨some 17, .bin .add (.tmp 16) (.val (.int .i64 1)), none⟩ ::
        ⟨some 4, .mov (.tmp 17), none⟩ :: [])))) <|
  .seq (.region (⟨some 24, .mov (.tmp 3), none⟩ ::
    ⟨some 2, .mov (.tmp 24), none⟩ :: [])) <|
  .ret⟩
theorem e_slices_Min_sint64_int64 : cFunc Try.prog kd_CCheck Try.f136 = some c_slices_Min_sint64_int64 := by kernel_rfl
/- slices.Max[[]int64,int64]: slots x, 0, x, 1, m, 3, i, 4 -/
def c_slices_Max_sint64_int64 : AFunc := ⟨25, [.tmp 2],
  .seq (.region (⟨some 2, .mov (.val (.int .i64 0)), none⟩ :: [])) <|
  .seq (.seq (.region (⟨some 5, .mov (.tmp 0), none⟩ ::
    ⟨some 6, .len false (.tmp 5), none⟩ ::
    ⟨some 7, .bin .lss (.tmp 6) (.val (.int .i64 1)), none⟩ :: [])) <|
  .cond (.tmp 7) (.region (⟨some 8, .bad, none⟩ ::
      ⟨none, .bad, none⟩ :: [])) <|
  .skip) <|
  .seq (.region (⟨some 9, .mov (.tmp 0), none⟩ ::
    ⟨some 10, .iaddr 1 (.tmp 9) (.val (.int .i64 0)), none⟩ ::
    ⟨some 11, .load false 1 (.tmp 10), none⟩ ::
    ⟨some 3, .mov (.tmp 11), none⟩ :: [])) <|
  .seq (.seq (.region (⟨some 4, .mov (.val (.int .i64 1)), none⟩ :: [])) <|
  .block 0 (.loop (.seq (.seq (.region (⟨some 12, .mov (.tmp 4), none⟩ ::
        ⟨some 13, .mov (.tmp 0), none⟩ ::
        ⟨some 14, .len false (.tmp 13), none⟩ ::
        ⟨some 15, .bin .lss (.tmp 12) (.tmp 14), none⟩ :: [])) <|
      .cond (.tmp 15) (.skip) <|
      .exit 0) <|
      .seq (.block 1 (.region (⟨some 18, .mov (.tmp 3), none⟩ ::
          ⟨some 19, .mov (.tmp 0), none⟩ ::
          ⟨some 20, .mov (.tmp 4), none⟩ ::
          ⟨some 21, .iaddr 1 (.tmp 19) (.tmp 20), none⟩ ::
          ⟨some 22, .load false 1 (.tmp 21), none⟩ ::
          ⟨some 23, .mx (.tmp 18) [(.tmp 22)], none⟩ ::
          ⟨some 3, .mov (.tmp 23), none⟩ :: []))) <|
      .region (⟨some 16, .mov (.tmp 4), none⟩ ::
        ⟨some 17, .bin .add (.tmp 16) (.val (.int .i64 1)), none⟩ ::
        ⟨some 4, .mov (.tmp 17), none⟩ :: [])))) <|
  .seq (.region (⟨some 24, .mov (.tmp 3), none⟩ ::
    ⟨some 2, .mov (.tmp 24), none⟩ :: [])) <|
  .ret⟩
theorem e_slices_Max_sint64_int64 : cFunc Try.prog kd_CCheck Try.f137 = some c_slices_Max_sint64_int64 := by kernel_rfl
end Go.Proofs.Ytonkcemcledhiaa
