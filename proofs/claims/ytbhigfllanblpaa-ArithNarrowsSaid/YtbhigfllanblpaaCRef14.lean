/- The code of functions, as abstract code. Printed by program. -/
import Derived.Test.YtbhigfllanblpaaAv2
import Derived.Test.YtbhigfllanblpaaProg
namespace Go.Proofs.Ytbhigfllanblpaa
open Av
set_option linter.unusedVariables false
set_option maxRecDepth 100000
def kd_CRef14 (f : Nat) : Nat := 0
/- touchstone/touchstoneref14.put: slots s, 0, x, 1, l, 2, s, 3, x, 4, l, 5 -/
def c_ref14_put : AFunc := ⟨21, [.cell 6 true 2],
  .seq (.region (⟨some 3, .box 2 (.tmp 0), none⟩ ::
    ⟨some 6, .alloc (.agg [.nils, (.bool false)]), none⟩ :: [])) <|
  .seq (.seq (.region (⟨some 7, .faddr 1 (.tmp 3), none⟩ ::
    ⟨some 8, .load false 1 (.tmp 7), none⟩ :: [])) <|
  .cond (.tmp 8) (.seq (.region (⟨some 9, .load true 2 (.tmp 3), none⟩ ::
      ⟨none, .store 2 (.tmp 6) (.tmp 9), none⟩ :: [])) <|
    .ret) <|
  .skip) <|
  .seq (.region (⟨some 10, .faddr 0 (.tmp 3), none⟩ ::
    ⟨some 11, .load false 1 (.tmp 10), none⟩ ::
    ⟨some 12, .mov (.tmp 1), none⟩ ::
    ⟨some 13, .mov (.tmp 2), none⟩ ::
    ⟨some 14, .call (.val (.fn (.func 148) [])) [(.tmp 11), (.tmp 12), (.tmp 13)], none⟩ ::
    ⟨some 15, .faddr 0 (.tmp 3), none⟩ ::
    ⟨none, .store 1 (.tmp 15) (.tmp 14), none⟩ :: [])) <|
  .seq (.region (⟨some 16, .mov (.tmp 2), none⟩ ::
    ⟨some 17, .len false (.tmp 16), none⟩ ::
    ⟨some 18, .bin .eql (.tmp 17) (.val (.int .i64 0)), none⟩ ::
    ⟨some 19, .faddr 1 (.tmp 3), none⟩ ::
    ⟨none, .store 1 (.tmp 19) (.tmp 18), none⟩ :: [])) <|
  .seq (.region (⟨some 20, .load true 2 (.tmp 3), none⟩ ::
    ⟨none, .store 2 (.tmp 6) (.tmp 20), none⟩ :: [])) <|
  .ret⟩
theorem e_ref14_put : cFunc Try.prog kd_CRef14 Try.f126 = some c_ref14_put := by kernel_rfl
/- touchstone/touchstoneref14.cut: slots s, 0, x, 1, lo, 2, hi, 3, s, 4, x, 5, lo, 6, hi, 7 -/
def c_ref14_cut : AFunc := ⟨23, [.cell 8 true 2],
  .seq (.region (⟨some 4, .box 2 (.tmp 0), none⟩ ::
    ⟨some 8, .alloc (.agg [.nils, (.bool false)]), none⟩ :: [])) <|
  .seq (.seq (.region (⟨some 9, .faddr 1 (.tmp 4), none⟩ ::
    ⟨some 10, .load false 1 (.tmp 9), none⟩ :: [])) <|
  .cond (.tmp 10) (.seq (.region (⟨some 11, .load true 2 (.tmp 4), none⟩ ::
      ⟨none, .store 2 (.tmp 8) (.tmp 11), none⟩ :: [])) <|
    .ret) <|
  .skip) <|
  .seq (.region (⟨some 12, .load true 2 (.tmp 4), none⟩ ::
    ⟨some 13, .mov (.tmp 1), none⟩ ::
    ⟨some 14, .faddr 0 (.tmp 4), none⟩ ::
    ⟨some 15, .load false 1 (.tmp 14), none⟩ ::
    ⟨some 16, .mov (.tmp 1), none⟩ ::
    ⟨some 17, .iaddr 1 (.tmp 15) (.tmp 16), none⟩ ::
    ⟨some 18, .load false 1 (.tmp 17), none⟩ ::
    ⟨some 19, .mov (.tmp 2), none⟩ ::
    ⟨some 20, .mov (.tmp 3), none⟩ ::
    ⟨some 21, .call (.val (.fn (.func 109) [])) [(.tmp 18), (.tmp 19), (.tmp 20)], none⟩ ::
    ⟨some 22, .call (.val (.fn (.func 126) [])) [(.tmp 12), (.tmp 13), (.tmp 21)], none⟩ ::
    ⟨none, .store 2 (.tmp 8) (.tmp 22), none⟩ :: [])) <|
  .ret⟩
theorem e_ref14_cut : cFunc Try.prog kd_CRef14 Try.f123 = some c_ref14_cut := by kernel_rfl
/- touchstone/touchstoneref14.lo: slots s, 0, x, 1, s, 2, x, 3 -/
def c_ref14_lo : AFunc := ⟨13, [.tmp 4],
  .seq (.region (⟨some 2, .box 2 (.tmp 0), none⟩ ::
    ⟨some 4, .mov (.val (.int .i64 0)), none⟩ :: [])) <|
  .seq (.seq (.region (⟨some 5, .faddr 1 (.tmp 2), none⟩ ::
    ⟨some 6, .load false 1 (.tmp 5), none⟩ :: [])) <|
  .cond (.tmp 6) (.seq (.region (⟨some 4, .mov (.val (.int .i64 0)), none⟩ :: [])) <|
    .ret) <|
  .skip) <|
  .seq (.region (⟨some 7, .faddr 0 (.tmp 2), none⟩ ::
    ⟨some 8, .load false 1 (.tmp 7), none⟩ ::
    ⟨some 9, .mov (.tmp 1), none⟩ ::
    ⟨some 10, .iaddr 1 (.tmp 8) (.tmp 9), none⟩ ::
    ⟨some 11, .load false 1 (.tmp 10), none⟩ ::
    ⟨some 12, .call (.val (.fn (.func 26) [])) [(.tmp 11)], none⟩ ::
    ⟨some 4, .mov (.tmp 12), none⟩ :: [])) <|
  .ret⟩
theorem e_ref14_lo : cFunc Try.prog kd_CRef14 Try.f121 = some c_ref14_lo := by kernel_rfl
/- touchstone/touchstoneref14.hi: slots s, 0, x, 1, s, 2, x, 3 -/
def c_ref14_hi : AFunc := ⟨13, [.tmp 4],
  .seq (.region (⟨some 2, .box 2 (.tmp 0), none⟩ ::
    ⟨some 4, .mov (.val (.int .i64 0)), none⟩ :: [])) <|
  .seq (.seq (.region (⟨some 5, .faddr 1 (.tmp 2), none⟩ ::
    ⟨some 6, .load false 1 (.tmp 5), none⟩ :: [])) <|
  .cond (.tmp 6) (.seq (.region (⟨some 4, .mov (.val (.int .i64 0)), none⟩ :: [])) <|
    .ret) <|
  .skip) <|
  .seq (.region (⟨some 7, .faddr 0 (.tmp 2), none⟩ ::
    ⟨some 8, .load false 1 (.tmp 7), none⟩ ::
    ⟨some 9, .mov (.tmp 1), none⟩ ::
    ⟨some 10, .iaddr 1 (.tmp 8) (.tmp 9), none⟩ ::
    ⟨some 11, .load false 1 (.tmp 10), none⟩ ::
    ⟨some 12, .call (.val (.fn (.func 74) [])) [(.tmp 11)], none⟩ ::
    ⟨some 4, .mov (.tmp 12), none⟩ :: [])) <|
  .ret⟩
theorem e_ref14_hi : cFunc Try.prog kd_CRef14 Try.f122 = some c_ref14_hi := by kernel_rfl
/- touchstone/touchstoneref14.lose: slots s, 0, x, 1, s, 2, x, 3 -/
def c_ref14_lose : AFunc := ⟨17, [.cell 4 true 2],
  .seq (.region (⟨some 2, .box 2 (.tmp 0), none⟩ ::
    ⟨some 4, .alloc (.agg [.nils, (.bool false)]), none⟩ :: [])) <|
  .seq (.seq (.region (⟨some 5, .faddr 1 (.tmp 2), none⟩ ::
    ⟨some 6, .load false 1 (.tmp 5), none⟩ :: [])) <|
  .cond (.tmp 6) (.seq (.region (⟨some 7, .load true 2 (.tmp 2), none⟩ ::
      ⟨none, .store 2 (.tmp 4) (.tmp 7), none⟩ :: [])) <|
    .ret) <|
  .skip) <|
  .seq (.region (⟨some 8, .load true 2 (.tmp 2), none⟩ ::
    ⟨some 9, .mov (.tmp 1), none⟩ ::
    ⟨some 10, .faddr 0 (.tmp 2), none⟩ ::
    ⟨some 11, .load false 1 (.tmp 10), none⟩ ::
    ⟨some 12, .mov (.tmp 1), none⟩ ::
    ⟨some 13, .iaddr 1 (.tmp 11) (.tmp 12), none⟩ ::
    ⟨some 14, .load false 1 (.tmp 13), none⟩ ::
    ⟨some 15, .call (.val (.fn (.func 150) [])) [(.tmp 14), (.val (.int .i64 0))], none⟩ ::
    ⟨some 16, .call (.val (.fn (.func 126) [])) [(.tmp 8), (.tmp 9), (.tmp 15)], none⟩ ::
    ⟨none, .store 2 (.tmp 4) (.tmp 16), none⟩ :: [])) <|
  .ret⟩
theorem e_ref14_lose : cFunc Try.prog kd_CRef14 Try.f124 = some c_ref14_lose := by kernel_rfl
/- touchstone/touchstoneref14.quotient: slots s, 0, x, 1, y, 2, z, 3, s, 4, x, 5, y, 6, z, 7, least, 9, most, 10, i, 11, n, 12, m, 13, p, 14, _, 15, q, 16, _, 17 -/
def c_ref14_quotient : AFunc := ⟨78, [.cell 8 true 2],
  .seq (.region (⟨some 4, .box 2 (.tmp 0), none⟩ ::
    ⟨some 8, .alloc (.agg [.nils, (.bool false)]), none⟩ :: [])) <|
  .seq (.seq (.region (⟨some 18, .faddr 1 (.tmp 4), none⟩ ::
    ⟨some 19, .load false 1 (.tmp 18), none⟩ ::
    ⟨some 20, .mov (.tmp 19), none⟩ ::
    ⟨some 21, .load true 2 (.tmp 4), some (20, false)⟩ ::
    ⟨some 22, .mov (.tmp 2), some (20, false)⟩ ::
    ⟨some 23, .call (.val (.fn (.func 121) [])) [(.tmp 21), (.tmp 22)], some (20, false)⟩ ::
    ⟨some 24, .bin .leq (.tmp 23) (.val (.int .i64 0)), some (20, false)⟩ ::
    ⟨some 25, .mov (.tmp 24), some (20, false)⟩ ::
    ⟨some 26, .load true 2 (.tmp 4), some (25, true)⟩ ::
    ⟨some 27, .mov (.tmp 2), some (25, true)⟩ ::
    ⟨some 28, .call (.val (.fn (.func 122) [])) [(.tmp 26), (.tmp 27)], some (25, true)⟩ ::
    ⟨some 29, .bin .geq (.tmp 28) (.val (.int .i64 0)), some (25, true)⟩ ::
    ⟨some 30, .pick (.tmp 25) (.tmp 29) (.val (.bool false)), some (20, false)⟩ ::
    ⟨some 31, .pick (.tmp 20) (.val (.bool true)) (.tmp 30), none⟩ :: [])) <|
  .cond (.tmp 31) (.seq (.region (⟨some 32, .load true 2 (.tmp 4), none⟩ ::
      ⟨none, .store 2 (.tmp 8) (.tmp 32), none⟩ :: [])) <|
    .ret) <|
  .skip) <|
  .seq (.region (⟨some 9, .mov (.val (.int .i64 1099511627776)), none⟩ ::
    ⟨some 10, .mov (.val (.int .i64 (-1099511627776))), none⟩ :: [])) <|
  .seq (.seq (.region (⟨some 11, .mov (.val (.int .i64 0)), none⟩ :: [])) <|
  .block 0 (.loop (.seq (.seq (.region (⟨some 33, .mov (.tmp 11), none⟩ ::
        ⟨some 34, .bin .lss (.tmp 33) (.val (.int .i64 4)), none⟩ :: [])) <|
      .cond (.tmp 34) (.skip) <|
      .exit 0) <|
      .seq (.block 1 (.seq (.region (⟨some 37, .load true 2 (.tmp 4), none⟩ ::
          ⟨some 38, .mov (.tmp 3), none⟩ ::
          ⟨some 39, .call (.val (.fn (.func 121) [])) [(.tmp 37), (.tmp 38)], none⟩ ::
          ⟨some 40, .load true 2 (.tmp 4), none⟩ ::
          ⟨some 41, .mov (.tmp 2), none⟩ ::
          ⟨some 42, .call (.val (.fn (.func 121) [])) [(.tmp 40), (.tmp 41)], none⟩ ::
          ⟨some 12, .mov (.tmp 39), none⟩ ::
          ⟨some 13, .mov (.tmp 42), none⟩ :: [])) <|
        .seq (.seq (.region (⟨some 43, .mov (.tmp 11), none⟩ ::
          ⟨some 44, .bin .rem (.tmp 43) (.val (.int .i64 2)), none⟩ ::
          ⟨some 45, .bin .eql (.tmp 44) (.val (.int .i64 1)), none⟩ :: [])) <|
        .cond (.tmp 45) (.region (⟨some 46, .load true 2 (.tmp 4), none⟩ ::
            ⟨some 47, .mov (.tmp 3), none⟩ ::
            ⟨some 48, .call (.val (.fn (.func 122) [])) [(.tmp 46), (.tmp 47)], none⟩ ::
            ⟨some 12, .mov (.tmp 48), none⟩ :: [])) <|
        .skip) <|
        .seq (.seq (.region (⟨some 49, .mov (.tmp 11), none⟩ ::
          ⟨some 50, .bin .quo (.tmp 49) (.val (.int .i64 2)), none⟩ ::
          ⟨some 51, .bin .eql (.tmp 50) (.val (.int .i64 1)), none⟩ :: [])) <|
        .cond (.tmp 51) (.region (⟨some 52, .load true 2 (.tmp 4), none⟩ ::
            ⟨some 53, .mov (.tmp 2), none⟩ ::
            ⟨some 54, .call (.val (.fn (.func 122) [])) [(.tmp 52), (.tmp 53)], none⟩ ::
            ⟨some 13, .mov (.tmp 54), none⟩ :: [])) <|
        .skip) <|
        .seq (.region (⟨some 56, .mov (.tmp 12), none⟩ ::
          ⟨some 57, .mov (.tmp 13), none⟩ ::
          ⟨some 58, .call (.val (.fn (.func 157) [])) [(.tmp 56), (.tmp 57)], none⟩ ::
          ⟨some 55, .mov (.tmp 58), none⟩ ::
          ⟨some 59, .ext (.tmp 55) 0, none⟩ ::
          ⟨some 60, .ext (.tmp 55) 1, none⟩ ::
          ⟨some 14, .mov (.tmp 59), none⟩ ::
          ⟨some 15, .mov (.tmp 60), none⟩ :: [])) <|
        .seq (.region (⟨some 62, .mov (.tmp 12), none⟩ ::
          ⟨some 63, .mov (.tmp 13), none⟩ ::
          ⟨some 64, .call (.val (.fn (.func 147) [])) [(.tmp 62), (.tmp 63)], none⟩ ::
          ⟨some 61, .mov (.tmp 64), none⟩ ::
          ⟨some 65, .ext (.tmp 61) 0, none⟩ ::
          ⟨some 66, .ext (.tmp 61) 1, none⟩ ::
          ⟨some 16, .mov (.tmp 65), none⟩ ::
          ⟨some 17, .mov (.tmp 66), none⟩ :: [])) <|
        .seq (.region (⟨some 67, .mov (.tmp 9), none⟩ ::
          ⟨some 68, .mov (.tmp 14), none⟩ ::
          ⟨some 69, .mn (.tmp 67) [(.tmp 68)], none⟩ ::
          ⟨some 9, .mov (.tmp 69), none⟩ :: [])) <|
        .region (⟨some 70, .mov (.tmp 10), none⟩ ::
          ⟨some 71, .mov (.tmp 16), none⟩ ::
          ⟨some 72, .mx (.tmp 70) [(.tmp 71)], none⟩ ::
          ⟨some 10, .mov (.tmp 72), none⟩ :: []))) <|
      .region (⟨some 35, .mov (.tmp 11), none⟩ ::
        ⟨some 36, .bin .add (.tmp 35) (.val (.int .i64 1)), none⟩ ::
        ⟨some 11, .mov (.tmp 36), none⟩ :: [])))) <|
  .seq (.region (⟨some 73, .load true 2 (.tmp 4), none⟩ ::
    ⟨some 74, .mov (.tmp 1), none⟩ ::
    ⟨some 75, .mov (.tmp 9), none⟩ ::
    ⟨some 76, .mov (.tmp 10), none⟩ ::
    ⟨some 77, .call (.val (.fn (.func 123) [])) [(.tmp 73), (.tmp 74), (.tmp 75), (.tmp 76)], none⟩ ::
    ⟨none, .store 2 (.tmp 8) (.tmp 77), none⟩ :: [])) <|
  .ret⟩
theorem e_ref14_quotient : cFunc Try.prog kd_CRef14 Try.f125 = some c_ref14_quotient := by kernel_rfl
/- touchstone/touchstoneref14.times: slots s, 0, x, 1, y, 2, z, 3, s, 4, x, 5, y, 6, z, 7, a, 9, b, 10, c, 11, e, 12 -/
def c_ref14_times : AFunc := ⟨84, [.cell 8 true 2],
  .seq (.region (⟨some 4, .box 2 (.tmp 0), none⟩ ::
    ⟨some 8, .alloc (.agg [.nils, (.bool false)]), none⟩ :: [])) <|
  .seq (.region (⟨some 13, .load true 2 (.tmp 4), none⟩ ::
    ⟨some 14, .mov (.tmp 1), none⟩ ::
    ⟨some 15, .call (.val (.fn (.func 121) [])) [(.tmp 13), (.tmp 14)], none⟩ ::
    ⟨some 16, .load true 2 (.tmp 4), none⟩ ::
    ⟨some 17, .mov (.tmp 2), none⟩ ::
    ⟨some 18, .call (.val (.fn (.func 121) [])) [(.tmp 16), (.tmp 17)], none⟩ ::
    ⟨some 19, .bin .mul (.tmp 15) (.tmp 18), none⟩ ::
    ⟨some 20, .load true 2 (.tmp 4), none⟩ ::
    ⟨some 21, .mov (.tmp 1), none⟩ ::
    ⟨some 22, .call (.val (.fn (.func 121) [])) [(.tmp 20), (.tmp 21)], none⟩ ::
    ⟨some 23, .load true 2 (.tmp 4), none⟩ ::
    ⟨some 24, .mov (.tmp 2), none⟩ ::
    ⟨some 25, .call (.val (.fn (.func 122) [])) [(.tmp 23), (.tmp 24)], none⟩ ::
    ⟨some 26, .bin .mul (.tmp 22) (.tmp 25), none⟩ ::
    ⟨some 27, .load true 2 (.tmp 4), none⟩ ::
    ⟨some 28, .mov (.tmp 1), none⟩ ::
    ⟨some 29, .call (.val (.fn (.func 122) [])) [(.tmp 27), (.tmp 28)], none⟩ ::
    ⟨some 30, .load true 2 (.tmp 4), none⟩ ::
    ⟨some 31, .mov (.tmp 2), none⟩ ::
    ⟨some 32, .call (.val (.fn (.func 121) [])) [(.tmp 30), (.tmp 31)], none⟩ ::
    ⟨some 33, .bin .mul (.tmp 29) (.tmp 32), none⟩ ::
    ⟨some 34, .load true 2 (.tmp 4), none⟩ ::
    ⟨some 35, .mov (.tmp 1), none⟩ ::
    ⟨some 36, .call (.val (.fn (.func 122) [])) [(.tmp 34), (.tmp 35)], none⟩ ::
    ⟨some 37, .load true 2 (.tmp 4), none⟩ ::
    ⟨some 38, .mov (.tmp 2), none⟩ ::
    ⟨some 39, .call (.val (.fn (.func 122) [])) [(.tmp 37), (.tmp 38)], none⟩ ::
    ⟨some 40, .bin .mul (.tmp 36) (.tmp 39), none⟩ ::
    ⟨some 9, .mov (.tmp 19), none⟩ ::
    ⟨some 10, .mov (.tmp 26), none⟩ ::
    ⟨some 11, .mov (.tmp 33), none⟩ ::
    ⟨some 12, .mov (.tmp 40), none⟩ :: [])) <|
  .seq (.region (⟨some 41, .load true 2 (.tmp 4), none⟩ ::
    ⟨some 42, .mov (.tmp 3), none⟩ ::
    ⟨some 43, .mov (.tmp 9), none⟩ ::
    ⟨some 44, .mov (.tmp 10), none⟩ ::
    ⟨some 45, .mn (.tmp 43) [(.tmp 44)], none⟩ ::
    ⟨some 46, .mov (.tmp 11), none⟩ ::
    ⟨some 47, .mov (.tmp 12), none⟩ ::
    ⟨some 48, .mn (.tmp 46) [(.tmp 47)], none⟩ ::
    ⟨some 49, .mn (.tmp 45) [(.tmp 48)], none⟩ ::
    ⟨some 50, .mov (.tmp 9), none⟩ ::
    ⟨some 51, .mov (.tmp 10), none⟩ ::
    ⟨some 52, .mx (.tmp 50) [(.tmp 51)], none⟩ ::
    ⟨some 53, .mov (.tmp 11), none⟩ ::
    ⟨some 54, .mov (.tmp 12), none⟩ ::
    ⟨some 55, .mx (.tmp 53) [(.tmp 54)], none⟩ ::
    ⟨some 56, .mx (.tmp 52) [(.tmp 55)], none⟩ ::
    ⟨some 57, .call (.val (.fn (.func 123) [])) [(.tmp 41), (.tmp 42), (.tmp 49), (.tmp 56)], none⟩ ::
    ⟨none, .store 2 (.tmp 4) (.tmp 57), none⟩ :: [])) <|
  .seq (.seq (.region (⟨some 58, .faddr 1 (.tmp 4), none⟩ ::
    ⟨some 59, .load false 1 (.tmp 58), none⟩ ::
    ⟨some 60, .un .not (.tmp 59), none⟩ ::
    ⟨some 61, .mov (.tmp 60), none⟩ ::
    ⟨some 62, .faddr 0 (.tmp 4), some (61, true)⟩ ::
    ⟨some 63, .load false 1 (.tmp 62), some (61, true)⟩ ::
    ⟨some 64, .mov (.tmp 3), some (61, true)⟩ ::
    ⟨some 65, .iaddr 1 (.tmp 63) (.tmp 64), some (61, true)⟩ ::
    ⟨some 66, .load false 1 (.tmp 65), some (61, true)⟩ ::
    ⟨some 67, .call (.val (.fn (.func 63) [])) [(.tmp 66), (.val (.int .i64 0))], some (61, true)⟩ ::
    ⟨some 68, .un .not (.tmp 67), some (61, true)⟩ ::
    ⟨some 69, .pick (.tmp 61) (.tmp 68) (.val (.bool false)), none⟩ :: [])) <|
  .cond (.tmp 69) (.region (⟨some 70, .load true 2 (.tmp 4), none⟩ ::
      ⟨some 71, .mov (.tmp 1), none⟩ ::
      ⟨some 72, .call (.val (.fn (.func 124) [])) [(.tmp 70), (.tmp 71)], none⟩ ::
      ⟨some 73, .mov (.tmp 2), none⟩ ::
      ⟨some 74, .call (.val (.fn (.func 124) [])) [(.tmp 72), (.tmp 73)], none⟩ ::
      ⟨none, .store 2 (.tmp 4) (.tmp 74), none⟩ :: [])) <|
  .skip) <|
  .seq (.region (⟨some 75, .load true 2 (.tmp 4), none⟩ ::
    ⟨some 76, .mov (.tmp 1), none⟩ ::
    ⟨some 77, .mov (.tmp 2), none⟩ ::
    ⟨some 78, .mov (.tmp 3), none⟩ ::
    ⟨some 79, .call (.val (.fn (.func 125) [])) [(.tmp 75), (.tmp 76), (.tmp 77), (.tmp 78)], none⟩ ::
    ⟨some 80, .mov (.tmp 2), none⟩ ::
    ⟨some 81, .mov (.tmp 1), none⟩ ::
    ⟨some 82, .mov (.tmp 3), none⟩ ::
    ⟨some 83, .call (.val (.fn (.func 125) [])) [(.tmp 79), (.tmp 80), (.tmp 81), (.tmp 82)], none⟩ ::
    ⟨none, .store 2 (.tmp 8) (.tmp 83), none⟩ :: [])) <|
  .ret⟩
theorem e_ref14_times : cFunc Try.prog kd_CRef14 Try.f69 = some c_ref14_times := by kernel_rfl
/- touchstone/touchstoneref14.lesser: slots s, 0, x, 1, y, 2, z, 3, s, 4, x, 5, y, 6, z, 7 -/
def c_ref14_lesser : AFunc := ⟨65, [.cell 8 true 2],
  .seq (.region (⟨some 4, .box 2 (.tmp 0), none⟩ ::
    ⟨some 8, .alloc (.agg [.nils, (.bool false)]), none⟩ :: [])) <|
  .seq (.region (⟨some 9, .load true 2 (.tmp 4), none⟩ ::
    ⟨some 10, .mov (.tmp 3), none⟩ ::
    ⟨some 11, .load true 2 (.tmp 4), none⟩ ::
    ⟨some 12, .mov (.tmp 1), none⟩ ::
    ⟨some 13, .call (.val (.fn (.func 121) [])) [(.tmp 11), (.tmp 12)], none⟩ ::
    ⟨some 14, .load true 2 (.tmp 4), none⟩ ::
    ⟨some 15, .mov (.tmp 2), none⟩ ::
    ⟨some 16, .call (.val (.fn (.func 121) [])) [(.tmp 14), (.tmp 15)], none⟩ ::
    ⟨some 17, .mn (.tmp 13) [(.tmp 16)], none⟩ ::
    ⟨some 18, .load true 2 (.tmp 4), none⟩ ::
    ⟨some 19, .mov (.tmp 1), none⟩ ::
    ⟨some 20, .call (.val (.fn (.func 122) [])) [(.tmp 18), (.tmp 19)], none⟩ ::
    ⟨some 21, .load true 2 (.tmp 4), none⟩ ::
    ⟨some 22, .mov (.tmp 2), none⟩ ::
    ⟨some 23, .call (.val (.fn (.func 122) [])) [(.tmp 21), (.tmp 22)], none⟩ ::
    ⟨some 24, .mn (.tmp 20) [(.tmp 23)], none⟩ ::
    ⟨some 25, .call (.val (.fn (.func 123) [])) [(.tmp 9), (.tmp 10), (.tmp 17), (.tmp 24)], none⟩ ::
    ⟨none, .store 2 (.tmp 4) (.tmp 25), none⟩ :: [])) <|
  .seq (.region (⟨some 26, .load true 2 (.tmp 4), none⟩ ::
    ⟨some 27, .mov (.tmp 1), none⟩ ::
    ⟨some 28, .load true 2 (.tmp 4), none⟩ ::
    ⟨some 29, .mov (.tmp 3), none⟩ ::
    ⟨some 30, .call (.val (.fn (.func 121) [])) [(.tmp 28), (.tmp 29)], none⟩ ::
    ⟨some 31, .call (.val (.fn (.func 123) [])) [(.tmp 26), (.tmp 27), (.tmp 30), (.val (.int .i64 1099511627776))], none⟩ ::
    ⟨none, .store 2 (.tmp 4) (.tmp 31), none⟩ :: [])) <|
  .seq (.region (⟨some 32, .load true 2 (.tmp 4), none⟩ ::
    ⟨some 33, .mov (.tmp 2), none⟩ ::
    ⟨some 34, .load true 2 (.tmp 4), none⟩ ::
    ⟨some 35, .mov (.tmp 3), none⟩ ::
    ⟨some 36, .call (.val (.fn (.func 121) [])) [(.tmp 34), (.tmp 35)], none⟩ ::
    ⟨some 37, .call (.val (.fn (.func 123) [])) [(.tmp 32), (.tmp 33), (.tmp 36), (.val (.int .i64 1099511627776))], none⟩ ::
    ⟨none, .store 2 (.tmp 4) (.tmp 37), none⟩ :: [])) <|
  .seq (.seq (.region (⟨some 38, .load true 2 (.tmp 4), none⟩ ::
    ⟨some 39, .mov (.tmp 1), none⟩ ::
    ⟨some 40, .call (.val (.fn (.func 121) [])) [(.tmp 38), (.tmp 39)], none⟩ ::
    ⟨some 41, .load true 2 (.tmp 4), none⟩ ::
    ⟨some 42, .mov (.tmp 3), none⟩ ::
    ⟨some 43, .call (.val (.fn (.func 122) [])) [(.tmp 41), (.tmp 42)], none⟩ ::
    ⟨some 44, .bin .gtr (.tmp 40) (.tmp 43), none⟩ :: [])) <|
  .cond (.tmp 44) (.region (⟨some 45, .load true 2 (.tmp 4), none⟩ ::
      ⟨some 46, .mov (.tmp 2), none⟩ ::
      ⟨some 47, .load true 2 (.tmp 4), none⟩ ::
      ⟨some 48, .mov (.tmp 3), none⟩ ::
      ⟨some 49, .call (.val (.fn (.func 122) [])) [(.tmp 47), (.tmp 48)], none⟩ ::
      ⟨some 50, .call (.val (.fn (.func 123) [])) [(.tmp 45), (.tmp 46), (.val (.int .i64 (-1099511627776))), (.tmp 49)], none⟩ ::
      ⟨none, .store 2 (.tmp 4) (.tmp 50), none⟩ :: [])) <|
  .skip) <|
  .seq (.seq (.region (⟨some 51, .load true 2 (.tmp 4), none⟩ ::
    ⟨some 52, .mov (.tmp 2), none⟩ ::
    ⟨some 53, .call (.val (.fn (.func 121) [])) [(.tmp 51), (.tmp 52)], none⟩ ::
    ⟨some 54, .load true 2 (.tmp 4), none⟩ ::
    ⟨some 55, .mov (.tmp 3), none⟩ ::
    ⟨some 56, .call (.val (.fn (.func 122) [])) [(.tmp 54), (.tmp 55)], none⟩ ::
    ⟨some 57, .bin .gtr (.tmp 53) (.tmp 56), none⟩ :: [])) <|
  .cond (.tmp 57) (.region (⟨some 58, .load true 2 (.tmp 4), none⟩ ::
      ⟨some 59, .mov (.tmp 1), none⟩ ::
      ⟨some 60, .load true 2 (.tmp 4), none⟩ ::
      ⟨some 61, .mov (.tmp 3), none⟩ ::
      ⟨some 62, .call (.val (.fn (.func 122) [])) [(.tmp 60), (.tmp 61)], none⟩ ::
      ⟨some 63, .call (.val (.fn (.func 123) [])) [(.tmp 58), (.tmp 59), (.val (.int .i64 (-1099511627776))), (.tmp 62)], none⟩ ::
      ⟨none, .store 2 (.tmp 4) (.tmp 63), none⟩ :: [])) <|
  .skip) <|
  .seq (.region (⟨some 64, .load true 2 (.tmp 4), none⟩ ::
    ⟨none, .store 2 (.tmp 8) (.tmp 64), none⟩ :: [])) <|
  .ret⟩
theorem e_ref14_lesser : cFunc Try.prog kd_CRef14 Try.f70 = some c_ref14_lesser := by kernel_rfl
/- touchstone/touchstoneref14.greater: slots s, 0, x, 1, y, 2, z, 3, s, 4, x, 5, y, 6, z, 7 -/
def c_ref14_greater : AFunc := ⟨65, [.cell 8 true 2],
  .seq (.region (⟨some 4, .box 2 (.tmp 0), none⟩ ::
    ⟨some 8, .alloc (.agg [.nils, (.bool false)]), none⟩ :: [])) <|
  .seq (.region (⟨some 9, .load true 2 (.tmp 4), none⟩ ::
    ⟨some 10, .mov (.tmp 3), none⟩ ::
    ⟨some 11, .load true 2 (.tmp 4), none⟩ ::
    ⟨some 12, .mov (.tmp 1), none⟩ ::
    ⟨some 13, .call (.val (.fn (.func 121) [])) [(.tmp 11), (.tmp 12)], none⟩ ::
    ⟨some 14, .load true 2 (.tmp 4), none⟩ ::
    ⟨some 15, .mov (.tmp 2), none⟩ ::
    ⟨some 16, .call (.val (.fn (.func 121) [])) [(.tmp 14), (.tmp 15)], none⟩ ::
    ⟨some 17, .mx (.tmp 13) [(.tmp 16)], none⟩ ::
    ⟨some 18, .load true 2 (.tmp 4), none⟩ ::
    ⟨some 19, .mov (.tmp 1), none⟩ ::
    ⟨some 20, .call (.val (.fn (.func 122) [])) [(.tmp 18), (.tmp 19)], none⟩ ::
    ⟨some 21, .load true 2 (.tmp 4), none⟩ ::
    ⟨some 22, .mov (.tmp 2), none⟩ ::
    ⟨some 23, .call (.val (.fn (.func 122) [])) [(.tmp 21), (.tmp 22)], none⟩ ::
    ⟨some 24, .mx (.tmp 20) [(.tmp 23)], none⟩ ::
    ⟨some 25, .call (.val (.fn (.func 123) [])) [(.tmp 9), (.tmp 10), (.tmp 17), (.tmp 24)], none⟩ ::
    ⟨none, .store 2 (.tmp 4) (.tmp 25), none⟩ :: [])) <|
  .seq (.region (⟨some 26, .load true 2 (.tmp 4), none⟩ ::
    ⟨some 27, .mov (.tmp 1), none⟩ ::
    ⟨some 28, .load true 2 (.tmp 4), none⟩ ::
    ⟨some 29, .mov (.tmp 3), none⟩ ::
    ⟨some 30, .call (.val (.fn (.func 122) [])) [(.tmp 28), (.tmp 29)], none⟩ ::
    ⟨some 31, .call (.val (.fn (.func 123) [])) [(.tmp 26), (.tmp 27), (.val (.int .i64 (-1099511627776))), (.tmp 30)], none⟩ ::
    ⟨none, .store 2 (.tmp 4) (.tmp 31), none⟩ :: [])) <|
  .seq (.region (⟨some 32, .load true 2 (.tmp 4), none⟩ ::
    ⟨some 33, .mov (.tmp 2), none⟩ ::
    ⟨some 34, .load true 2 (.tmp 4), none⟩ ::
    ⟨some 35, .mov (.tmp 3), none⟩ ::
    ⟨some 36, .call (.val (.fn (.func 122) [])) [(.tmp 34), (.tmp 35)], none⟩ ::
    ⟨some 37, .call (.val (.fn (.func 123) [])) [(.tmp 32), (.tmp 33), (.val (.int .i64 (-1099511627776))), (.tmp 36)], none⟩ ::
    ⟨none, .store 2 (.tmp 4) (.tmp 37), none⟩ :: [])) <|
  .seq (.seq (.region (⟨some 38, .load true 2 (.tmp 4), none⟩ ::
    ⟨some 39, .mov (.tmp 1), none⟩ ::
    ⟨some 40, .call (.val (.fn (.func 122) [])) [(.tmp 38), (.tmp 39)], none⟩ ::
    ⟨some 41, .load true 2 (.tmp 4), none⟩ ::
    ⟨some 42, .mov (.tmp 3), none⟩ ::
    ⟨some 43, .call (.val (.fn (.func 121) [])) [(.tmp 41), (.tmp 42)], none⟩ ::
    ⟨some 44, .bin .lss (.tmp 40) (.tmp 43), none⟩ :: [])) <|
  .cond (.tmp 44) (.region (⟨some 45, .load true 2 (.tmp 4), none⟩ ::
      ⟨some 46, .mov (.tmp 2), none⟩ ::
      ⟨some 47, .load true 2 (.tmp 4), none⟩ ::
      ⟨some 48, .mov (.tmp 3), none⟩ ::
      ⟨some 49, .call (.val (.fn (.func 121) [])) [(.tmp 47), (.tmp 48)], none⟩ ::
      ⟨some 50, .call (.val (.fn (.func 123) [])) [(.tmp 45), (.tmp 46), (.tmp 49), (.val (.int .i64 1099511627776))], none⟩ ::
      ⟨none, .store 2 (.tmp 4) (.tmp 50), none⟩ :: [])) <|
  .skip) <|
  .seq (.seq (.region (⟨some 51, .load true 2 (.tmp 4), none⟩ ::
    ⟨some 52, .mov (.tmp 2), none⟩ ::
    ⟨some 53, .call (.val (.fn (.func 122) [])) [(.tmp 51), (.tmp 52)], none⟩ ::
    ⟨some 54, .load true 2 (.tmp 4), none⟩ ::
    ⟨some 55, .mov (.tmp 3), none⟩ ::
    ⟨some 56, .call (.val (.fn (.func 121) [])) [(.tmp 54), (.tmp 55)], none⟩ ::
    ⟨some 57, .bin .lss (.tmp 53) (.tmp 56), none⟩ :: [])) <|
  .cond (.tmp 57) (.region (⟨some 58, .load true 2 (.tmp 4), none⟩ ::
      ⟨some 59, .mov (.tmp 1), none⟩ ::
      ⟨some 60, .load true 2 (.tmp 4), none⟩ ::
      ⟨some 61, .mov (.tmp 3), none⟩ ::
      ⟨some 62, .call (.val (.fn (.func 121) [])) [(.tmp 60), (.tmp 61)], none⟩ ::
      ⟨some 63, .call (.val (.fn (.func 123) [])) [(.tmp 58), (.tmp 59), (.tmp 62), (.val (.int .i64 1099511627776))], none⟩ ::
      ⟨none, .store 2 (.tmp 4) (.tmp 63), none⟩ :: [])) <|
  .skip) <|
  .seq (.region (⟨some 64, .load true 2 (.tmp 4), none⟩ ::
    ⟨none, .store 2 (.tmp 8) (.tmp 64), none⟩ :: [])) <|
  .ret⟩
theorem e_ref14_greater : cFunc Try.prog kd_CRef14 Try.f71 = some c_ref14_greater := by kernel_rfl
/- touchstone/touchstoneref14.same: slots s, 0, x, 1, y, 2, s, 3, x, 4, y, 5 -/
def c_ref14_same : AFunc := ⟨32, [.cell 6 true 2],
  .seq (.region (⟨some 3, .box 2 (.tmp 0), none⟩ ::
    ⟨some 6, .alloc (.agg [.nils, (.bool false)]), none⟩ :: [])) <|
  .seq (.region (⟨some 7, .load true 2 (.tmp 3), none⟩ ::
    ⟨some 8, .mov (.tmp 1), none⟩ ::
    ⟨some 9, .faddr 0 (.tmp 3), none⟩ ::
    ⟨some 10, .load false 1 (.tmp 9), none⟩ ::
    ⟨some 11, .mov (.tmp 1), none⟩ ::
    ⟨some 12, .iaddr 1 (.tmp 10) (.tmp 11), none⟩ ::
    ⟨some 13, .load false 1 (.tmp 12), none⟩ ::
    ⟨some 14, .faddr 0 (.tmp 3), none⟩ ::
    ⟨some 15, .load false 1 (.tmp 14), none⟩ ::
    ⟨some 16, .mov (.tmp 2), none⟩ ::
    ⟨some 17, .iaddr 1 (.tmp 15) (.tmp 16), none⟩ ::
    ⟨some 18, .load false 1 (.tmp 17), none⟩ ::
    ⟨some 19, .call (.val (.fn (.func 62) [])) [(.tmp 13), (.tmp 18)], none⟩ ::
    ⟨some 20, .call (.val (.fn (.func 126) [])) [(.tmp 7), (.tmp 8), (.tmp 19)], none⟩ ::
    ⟨none, .store 2 (.tmp 3) (.tmp 20), none⟩ :: [])) <|
  .seq (.seq (.region (⟨some 21, .faddr 1 (.tmp 3), none⟩ ::
    ⟨some 22, .load false 1 (.tmp 21), none⟩ :: [])) <|
  .cond (.tmp 22) (.seq (.region (⟨some 23, .load true 2 (.tmp 3), none⟩ ::
      ⟨none, .store 2 (.tmp 6) (.tmp 23), none⟩ :: [])) <|
    .ret) <|
  .skip) <|
  .seq (.region (⟨some 24, .load true 2 (.tmp 3), none⟩ ::
    ⟨some 25, .mov (.tmp 2), none⟩ ::
    ⟨some 26, .faddr 0 (.tmp 3), none⟩ ::
    ⟨some 27, .load false 1 (.tmp 26), none⟩ ::
    ⟨some 28, .mov (.tmp 1), none⟩ ::
    ⟨some 29, .iaddr 1 (.tmp 27) (.tmp 28), none⟩ ::
    ⟨some 30, .load false 1 (.tmp 29), none⟩ ::
    ⟨some 31, .call (.val (.fn (.func 126) [])) [(.tmp 24), (.tmp 25), (.tmp 30)], none⟩ ::
    ⟨none, .store 2 (.tmp 6) (.tmp 31), none⟩ :: [])) <|
  .ret⟩
theorem e_ref14_same : cFunc Try.prog kd_CRef14 Try.f73 = some c_ref14_same := by kernel_rfl
/- touchstone/touchstoneref14.Narrow: slots c, 0, d, 1, c, 2, d, 3, s, 6 -/
def c_ref14_Narrow : AFunc := ⟨91, [.tmp 4, .tmp 5],
  .seq (.region (⟨some 2, .box 4 (.tmp 0), none⟩ ::
    ⟨some 4, .mov (.val .nils), none⟩ ::
    ⟨some 5, .mov (.val (.int .i64 0)), none⟩ :: [])) <|
  .seq (.seq (.region (⟨some 7, .load true 4 (.tmp 2), none⟩ ::
    ⟨some 8, .mov (.tmp 1), none⟩ ::
    ⟨some 9, .call (.val (.fn (.func 23) [])) [(.tmp 7), (.tmp 8)], none⟩ ::
    ⟨some 10, .un .not (.tmp 9), none⟩ :: [])) <|
  .cond (.tmp 10) (.seq (.region (⟨some 4, .mov (.val .nils), none⟩ ::
      ⟨some 5, .mov (.val (.int .i64 2)), none⟩ :: [])) <|
    .ret) <|
  .skip) <|
  .seq (.region (⟨some 11, .mov (.tmp 1), none⟩ ::
    ⟨some 12, .build [.nils, (.bool false)] [(0, 1, (.tmp 11))], none⟩ ::
    ⟨some 6, .alloc (.agg [.nils, (.bool false)]), none⟩ ::
    ⟨none, .store 2 (.tmp 6) (.tmp 12), none⟩ :: [])) <|
  .seq (.seq (.region (⟨some 13, .faddr 0 (.tmp 2), none⟩ ::
    ⟨some 14, .load false 1 (.tmp 13), none⟩ :: [])) <|
  .block 0 (.seq (.region (⟨some 16, .bin .eql (.tmp 14) (.val (.int .i64 7)), none⟩ ::
      ⟨some 15, .mov (.tmp 16), none⟩ :: [])) <|
    .cond (.tmp 15) (.region (⟨some 17, .load true 2 (.tmp 6), none⟩ ::
        ⟨some 18, .faddr 1 (.tmp 2), none⟩ ::
        ⟨some 19, .load false 1 (.tmp 18), none⟩ ::
        ⟨some 20, .iaddr 1 (.tmp 19) (.val (.int .i64 0)), none⟩ ::
        ⟨some 21, .load false 1 (.tmp 20), none⟩ ::
        ⟨some 22, .faddr 1 (.tmp 2), none⟩ ::
        ⟨some 23, .load false 1 (.tmp 22), none⟩ ::
        ⟨some 24, .iaddr 1 (.tmp 23) (.val (.int .i64 1)), none⟩ ::
        ⟨some 25, .load false 1 (.tmp 24), none⟩ ::
        ⟨some 26, .faddr 1 (.tmp 2), none⟩ ::
        ⟨some 27, .load false 1 (.tmp 26), none⟩ ::
        ⟨some 28, .iaddr 1 (.tmp 27) (.val (.int .i64 2)), none⟩ ::
        ⟨some 29, .load false 1 (.tmp 28), none⟩ ::
        ⟨some 30, .call (.val (.fn (.func 69) [])) [(.tmp 17), (.tmp 21), (.tmp 25), (.tmp 29)], none⟩ ::
        ⟨none, .store 2 (.tmp 6) (.tmp 30), none⟩ :: [])) <|
    .seq (.region (⟨some 32, .bin .eql (.tmp 14) (.val (.int .i64 8)), none⟩ ::
      ⟨some 31, .mov (.tmp 32), none⟩ :: [])) <|
    .cond (.tmp 31) (.region (⟨some 33, .load true 2 (.tmp 6), none⟩ ::
        ⟨some 34, .faddr 1 (.tmp 2), none⟩ ::
        ⟨some 35, .load false 1 (.tmp 34), none⟩ ::
        ⟨some 36, .iaddr 1 (.tmp 35) (.val (.int .i64 0)), none⟩ ::
        ⟨some 37, .load false 1 (.tmp 36), none⟩ ::
        ⟨some 38, .faddr 1 (.tmp 2), none⟩ ::
        ⟨some 39, .load false 1 (.tmp 38), none⟩ ::
        ⟨some 40, .iaddr 1 (.tmp 39) (.val (.int .i64 1)), none⟩ ::
        ⟨some 41, .load false 1 (.tmp 40), none⟩ ::
        ⟨some 42, .faddr 1 (.tmp 2), none⟩ ::
        ⟨some 43, .load false 1 (.tmp 42), none⟩ ::
        ⟨some 44, .iaddr 1 (.tmp 43) (.val (.int .i64 2)), none⟩ ::
        ⟨some 45, .load false 1 (.tmp 44), none⟩ ::
        ⟨some 46, .call (.val (.fn (.func 70) [])) [(.tmp 33), (.tmp 37), (.tmp 41), (.tmp 45)], none⟩ ::
        ⟨none, .store 2 (.tmp 6) (.tmp 46), none⟩ :: [])) <|
    .seq (.region (⟨some 48, .bin .eql (.tmp 14) (.val (.int .i64 9)), none⟩ ::
      ⟨some 47, .mov (.tmp 48), none⟩ :: [])) <|
    .cond (.tmp 47) (.region (⟨some 49, .load true 2 (.tmp 6), none⟩ ::
        ⟨some 50, .faddr 1 (.tmp 2), none⟩ ::
        ⟨some 51, .load false 1 (.tmp 50), none⟩ ::
        ⟨some 52, .iaddr 1 (.tmp 51) (.val (.int .i64 0)), none⟩ ::
        ⟨some 53, .load false 1 (.tmp 52), none⟩ ::
        ⟨some 54, .faddr 1 (.tmp 2), none⟩ ::
        ⟨some 55, .load false 1 (.tmp 54), none⟩ ::
        ⟨some 56, .iaddr 1 (.tmp 55) (.val (.int .i64 1)), none⟩ ::
        ⟨some 57, .load false 1 (.tmp 56), none⟩ ::
        ⟨some 58, .faddr 1 (.tmp 2), none⟩ ::
        ⟨some 59, .load false 1 (.tmp 58), none⟩ ::
        ⟨some 60, .iaddr 1 (.tmp 59) (.val (.int .i64 2)), none⟩ ::
        ⟨some 61, .load false 1 (.tmp 60), none⟩ ::
        ⟨some 62, .call (.val (.fn (.func 71) [])) [(.tmp 49), (.tmp 53), (.tmp 57), (.tmp 61)], none⟩ ::
        ⟨none, .store 2 (.tmp 6) (.tmp 62), none⟩ :: [])) <|
    .seq (.region (⟨some 64, .bin .eql (.tmp 14) (.val (.int .i64 10)), none⟩ ::
      ⟨some 63, .mov (.tmp 64), none⟩ :: [])) <|
    .cond (.tmp 63) (.region (⟨some 65, .load true 2 (.tmp 6), none⟩ ::
        ⟨some 66, .faddr 1 (.tmp 2), none⟩ ::
        ⟨some 67, .load false 1 (.tmp 66), none⟩ ::
        ⟨some 68, .iaddr 1 (.tmp 67) (.val (.int .i64 0)), none⟩ ::
        ⟨some 69, .load false 1 (.tmp 68), none⟩ ::
        ⟨some 70, .faddr 1 (.tmp 2), none⟩ ::
        ⟨some 71, .load false 1 (.tmp 70), none⟩ ::
        ⟨some 72, .iaddr 1 (.tmp 71) (.val (.int .i64 1)), none⟩ ::
        ⟨some 73, .load false 1 (.tmp 72), none⟩ ::
        ⟨some 74, .call (.val (.fn (.func 72) [])) [(.tmp 65), (.tmp 69), (.tmp 73)], none⟩ ::
        ⟨none, .store 2 (.tmp 6) (.tmp 74), none⟩ :: [])) <|
    .seq (.region (⟨some 76, .bin .eql (.tmp 14) (.val (.int .i64 15)), none⟩ ::
      ⟨some 75, .mov (.tmp 76), none⟩ :: [])) <|
    .cond (.tmp 75) (.region (⟨some 77, .load true 2 (.tmp 6), none⟩ ::
        ⟨some 78, .faddr 1 (.tmp 2), none⟩ ::
        ⟨some 79, .load false 1 (.tmp 78), none⟩ ::
        ⟨some 80, .iaddr 1 (.tmp 79) (.val (.int .i64 0)), none⟩ ::
        ⟨some 81, .load false 1 (.tmp 80), none⟩ ::
        ⟨some 82, .faddr 1 (.tmp 2), none⟩ ::
        ⟨some 83, .load false 1 (.tmp 82), none⟩ ::
        ⟨some 84, .iaddr 1 (.tmp 83) (.val (.int .i64 1)), none⟩ ::
        ⟨some 85, .load false 1 (.tmp 84), none⟩ ::
        ⟨some 86, .call (.val (.fn (.func 73) [])) [(.tmp 77), (.tmp 81), (.tmp 85)], none⟩ ::
        ⟨none, .store 2 (.tmp 6) (.tmp 86), none⟩ :: [])) <|
    .seq (.region (⟨some 4, .mov (.val .nils), none⟩ ::
      ⟨some 5, .mov (.val (.int .i64 10)), none⟩ :: [])) <|
    .ret)) <|
  .seq (.seq (.region (⟨some 87, .faddr 1 (.tmp 6), none⟩ ::
    ⟨some 88, .load false 1 (.tmp 87), none⟩ :: [])) <|
  .cond (.tmp 88) (.seq (.region (⟨some 4, .mov (.val .nils), none⟩ ::
      ⟨some 5, .mov (.val (.int .i64 12)), none⟩ :: [])) <|
    .ret) <|
  .skip) <|
  .seq (.region (⟨some 89, .faddr 0 (.tmp 6), none⟩ ::
    ⟨some 90, .load false 1 (.tmp 89), none⟩ ::
    ⟨some 4, .mov (.tmp 90), none⟩ ::
    ⟨some 5, .mov (.val (.int .i64 0)), none⟩ :: [])) <|
  .ret⟩
theorem e_ref14_Narrow : cFunc Try.prog kd_CRef14 Try.f34 = some c_ref14_Narrow := by kernel_rfl
end Go.Proofs.Ytbhigfllanblpaa
