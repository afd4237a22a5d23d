/- The code of functions, as abstract code. Printed by program. -/
import Derived.Test.YtfcphijidcfboaaAv2
import Derived.Test.YtfcphijidcfboaaProg
namespace Go.Proofs.Ytfcphijidcfboaa
open Av
set_option linter.unusedVariables false
set_option maxRecDepth 100000
def kd_CRef16 (f : Nat) : Nat := if f = 82 then 2 else 0
/- touchstone/touchstoneref16.choices: slots c, 0, c, 1 -/
def c_ref16_choices : AFunc := ⟨13, [.tmp 2],
  .seq (.region (⟨some 1, .box 4 (.tmp 0), none⟩ ::
    ⟨some 2, .mov (.val (.int .i64 0)), none⟩ :: [])) <|
  .seq (.seq (.region (⟨some 3, .faddr 0 (.tmp 1), none⟩ ::
    ⟨some 4, .load false 1 (.tmp 3), none⟩ ::
    ⟨some 5, .bin .eql (.tmp 4) (.val (.int .i64 16)), none⟩ :: [])) <|
  .cond (.tmp 5) (.seq (.region (⟨some 6, .faddr 2 (.tmp 1), none⟩ ::
      ⟨some 7, .load false 1 (.tmp 6), none⟩ ::
      ⟨some 8, .len false (.tmp 7), none⟩ ::
      ⟨some 2, .mov (.tmp 8), none⟩ :: [])) <|
    .ret) <|
  .skip) <|
  .seq (.region (⟨some 9, .faddr 1 (.tmp 1), none⟩ ::
    ⟨some 10, .load false 1 (.tmp 9), none⟩ ::
    ⟨some 11, .len false (.tmp 10), none⟩ ::
    ⟨some 12, .bin .sub (.tmp 11) (.val (.int .i64 2)), none⟩ ::
    ⟨some 2, .mov (.tmp 12), none⟩ :: [])) <|
  .ret⟩
theorem e_ref16_choices : cFunc Try.prog kd_CRef16 Try.f80 = some c_ref16_choices := by kernel_rfl
/- touchstone/touchstoneref16.choice: slots c, 0, d, 1, k, 2, c, 3, d, 4, k, 5 -/
def c_ref16_choice : AFunc := ⟨32, [.tmp 6],
  .seq (.region (⟨some 3, .box 4 (.tmp 0), none⟩ ::
    ⟨some 6, .mov (.val .nils), none⟩ :: [])) <|
  .seq (.seq (.region (⟨some 7, .faddr 0 (.tmp 3), none⟩ ::
    ⟨some 8, .load false 1 (.tmp 7), none⟩ ::
    ⟨some 9, .bin .eql (.tmp 8) (.val (.int .i64 16)), none⟩ :: [])) <|
  .cond (.tmp 9) (.seq (.region (⟨some 10, .faddr 2 (.tmp 3), none⟩ ::
      ⟨some 11, .load false 1 (.tmp 10), none⟩ ::
      ⟨some 12, .mov (.tmp 2), none⟩ ::
      ⟨some 13, .bin .sub (.tmp 12) (.val (.int .i64 1)), none⟩ ::
      ⟨some 14, .iaddr 1 (.tmp 11) (.tmp 13), none⟩ ::
      ⟨some 15, .load false 1 (.tmp 14), none⟩ ::
      ⟨some 16, .faddr 2 (.tmp 3), none⟩ ::
      ⟨some 17, .load false 1 (.tmp 16), none⟩ ::
      ⟨some 18, .mov (.tmp 2), none⟩ ::
      ⟨some 19, .bin .sub (.tmp 18) (.val (.int .i64 1)), none⟩ ::
      ⟨some 20, .iaddr 1 (.tmp 17) (.tmp 19), none⟩ ::
      ⟨some 21, .load false 1 (.tmp 20), none⟩ ::
      ⟨some 22, .build [(.int .i64 0), (.int .i64 0)] [(0, 1, (.tmp 15)), (1, 1, (.tmp 21))], none⟩ ::
      ⟨some 23, .bslice 2 [(.tmp 22)], none⟩ ::
      ⟨some 6, .mov (.tmp 23), none⟩ :: [])) <|
    .ret) <|
  .skip) <|
  .seq (.region (⟨some 24, .mov (.tmp 1), none⟩ ::
    ⟨some 25, .faddr 1 (.tmp 3), none⟩ ::
    ⟨some 26, .load false 1 (.tmp 25), none⟩ ::
    ⟨some 27, .mov (.tmp 2), none⟩ ::
    ⟨some 28, .iaddr 1 (.tmp 26) (.tmp 27), none⟩ ::
    ⟨some 29, .load false 1 (.tmp 28), none⟩ ::
    ⟨some 30, .iaddr 1 (.tmp 24) (.tmp 29), none⟩ ::
    ⟨some 31, .load false 1 (.tmp 30), none⟩ ::
    ⟨some 6, .mov (.tmp 31), none⟩ :: [])) <|
  .ret⟩
theorem e_ref16_choice : cFunc Try.prog kd_CRef16 Try.f81 = some c_ref16_choice := by kernel_rfl
/- touchstone/touchstoneref16.narrow: slots c, 0, d, 1, c, 2, d, 3, index, 5, result, 6, left, 7, all, 8, k, 9, x, 10, i, 11, _, 12, r, 13, _, 14, e, 15, k, 16, m, 17 -/
def c_ref16_narrow : AFunc := ⟨133, [.tmp 4],
  .seq (.region (⟨some 2, .box 4 (.tmp 0), none⟩ ::
    ⟨some 4, .mov (.val .nils), none⟩ :: [])) <|
  .seq (.region (⟨some 18, .faddr 1 (.tmp 2), none⟩ ::
    ⟨some 19, .load false 1 (.tmp 18), none⟩ ::
    ⟨some 20, .iaddr 1 (.tmp 19) (.val (.int .i64 0)), none⟩ ::
    ⟨some 21, .load false 1 (.tmp 20), none⟩ ::
    ⟨some 22, .faddr 1 (.tmp 2), none⟩ ::
    ⟨some 23, .load false 1 (.tmp 22), none⟩ ::
    ⟨some 24, .faddr 1 (.tmp 2), none⟩ ::
    ⟨some 25, .load false 1 (.tmp 24), none⟩ ::
    ⟨some 26, .len false (.tmp 25), none⟩ ::
    ⟨some 27, .bin .sub (.tmp 26) (.val (.int .i64 1)), none⟩ ::
    ⟨some 28, .iaddr 1 (.tmp 23) (.tmp 27), none⟩ ::
    ⟨some 29, .load false 1 (.tmp 28), none⟩ ::
    ⟨some 5, .mov (.tmp 21), none⟩ ::
    ⟨some 6, .mov (.tmp 29), none⟩ :: [])) <|
  .seq (.region (⟨some 7, .mov (.val .nils), none⟩ :: [])) <|
  .seq (.region (⟨some 8, .mov (.val .nils), none⟩ :: [])) <|
  .seq (.seq (.region (⟨some 9, .mov (.val (.int .i64 1)), none⟩ :: [])) <|
  .block 0 (.loop (.seq (.seq (.region (⟨some 30, .mov (.tmp 9), none⟩ ::
        ⟨some 31, .load true 4 (.tmp 2), none⟩ ::
        ⟨some 32, .call (.val (.fn (.func 80) [])) [(.tmp 31)], none⟩ ::
        ⟨some 33, .bin .leq (.tmp 30) (.tmp 32), none⟩ :: [])) <|
      .cond (.tmp 33) (.skip) <|
      .exit 0) <|
      .seq (.block 1 (.seq (.region (⟨some 36, .load true 4 (.tmp 2), none⟩ ::
          ⟨some 37, .mov (.tmp 1), none⟩ ::
          ⟨some 38, .mov (.tmp 9), none⟩ ::
          ⟨some 39, .call (.val (.fn (.func 81) [])) [(.tmp 36), (.tmp 37), (.tmp 38)], none⟩ ::
          ⟨some 10, .mov (.tmp 39), none⟩ :: [])) <|
        .seq (.region (⟨some 40, .mov (.tmp 1), none⟩ ::
          ⟨some 41, .mov (.tmp 5), none⟩ ::
          ⟨some 42, .iaddr 1 (.tmp 40) (.tmp 41), none⟩ ::
          ⟨some 43, .load false 1 (.tmp 42), none⟩ ::
          ⟨some 44, .mov (.tmp 9), none⟩ ::
          ⟨some 45, .call (.val (.fn (.func 54) [])) [(.tmp 43), (.tmp 44)], none⟩ ::
          ⟨some 46, .mov (.tmp 45), none⟩ ::
          ⟨some 47, .mov (.tmp 10), some (46, true)⟩ ::
          ⟨some 48, .mov (.tmp 1), some (46, true)⟩ ::
          ⟨some 49, .mov (.tmp 6), some (46, true)⟩ ::
          ⟨some 50, .iaddr 1 (.tmp 48) (.tmp 49), some (46, true)⟩ ::
          ⟨some 51, .load false 1 (.tmp 50), some (46, true)⟩ ::
          ⟨some 52, .call (.val (.fn (.func 53) [])) [(.tmp 47), (.tmp 51)], some (46, true)⟩ ::
          ⟨some 53, .len false (.tmp 52), some (46, true)⟩ ::
          ⟨some 54, .bin .gtr (.tmp 53) (.val (.int .i64 0)), some (46, true)⟩ ::
          ⟨some 55, .pick (.tmp 46) (.tmp 54) (.val (.bool false)), none⟩ :: [])) <|
        .cond (.tmp 55) (.seq (.region (⟨some 56, .mov (.tmp 7), none⟩ ::
            ⟨some 57, .mov (.tmp 9), none⟩ ::
            ⟨some 58, .mov (.tmp 9), none⟩ ::
            ⟨some 59, .build [(.int .i64 0), (.int .i64 0)] [(0, 1, (.tmp 57)), (1, 1, (.tmp 58))], none⟩ ::
            ⟨some 60, .bslice 2 [(.tmp 59)], none⟩ ::
            ⟨some 61, .app 2 16 (.tmp 56) (.tmp 60), none⟩ ::
            ⟨some 7, .mov (.tmp 61), none⟩ :: [])) <|
          .region (⟨some 62, .mov (.tmp 8), none⟩ ::
            ⟨some 63, .mov (.tmp 10), none⟩ ::
            ⟨some 64, .app 2 16 (.tmp 62) (.tmp 63), none⟩ ::
            ⟨some 8, .mov (.tmp 64), none⟩ :: [])) <|
        .skip)) <|
      .region (⟨some 34, .mov (.tmp 9), none⟩ ::
        ⟨some 35, .bin .add (.tmp 34) (.val (.int .i64 1)), none⟩ ::
        ⟨some 9, .mov (.tmp 35), none⟩ :: [])))) <|
  .seq (.region (⟨some 66, .mov (.tmp 7), none⟩ ::
    ⟨some 67, .callm (.val (.fn (.func 82) [])) [(.tmp 66)], none⟩ ::
    ⟨some 65, .mov (.tmp 67), none⟩ ::
    ⟨some 68, .ext (.tmp 65) 0, none⟩ ::
    ⟨some 69, .ext (.tmp 65) 1, none⟩ ::
    ⟨some 11, .mov (.tmp 68), none⟩ ::
    ⟨some 12, .mov (.tmp 69), none⟩ :: [])) <|
  .seq (.region (⟨some 71, .mov (.tmp 8), none⟩ ::
    ⟨some 72, .callm (.val (.fn (.func 82) [])) [(.tmp 71)], none⟩ ::
    ⟨some 70, .mov (.tmp 72), none⟩ ::
    ⟨some 73, .ext (.tmp 70) 0, none⟩ ::
    ⟨some 74, .ext (.tmp 70) 1, none⟩ ::
    ⟨some 13, .mov (.tmp 73), none⟩ ::
    ⟨some 14, .mov (.tmp 74), none⟩ :: [])) <|
  .seq (.region (⟨some 75, .mov (.tmp 1), none⟩ ::
    ⟨some 76, .mov (.tmp 5), none⟩ ::
    ⟨some 77, .mov (.tmp 11), none⟩ ::
    ⟨some 78, .call (.val (.fn (.func 83) [])) [(.tmp 75), (.tmp 76), (.tmp 77)], none⟩ ::
    ⟨some 15, .mov (.tmp 78), none⟩ :: [])) <|
  .seq (.region (⟨some 79, .mov (.tmp 15), none⟩ ::
    ⟨some 80, .mov (.tmp 6), none⟩ ::
    ⟨some 81, .mov (.tmp 15), none⟩ ::
    ⟨some 82, .mov (.tmp 6), none⟩ ::
    ⟨some 83, .iaddr 1 (.tmp 81) (.tmp 82), none⟩ ::
    ⟨some 84, .load false 1 (.tmp 83), none⟩ ::
    ⟨some 85, .mov (.tmp 13), none⟩ ::
    ⟨some 86, .call (.val (.fn (.func 53) [])) [(.tmp 84), (.tmp 85)], none⟩ ::
    ⟨some 87, .call (.val (.fn (.func 83) [])) [(.tmp 79), (.tmp 80), (.tmp 86)], none⟩ ::
    ⟨some 15, .mov (.tmp 87), none⟩ :: [])) <|
  .seq (.seq (.region (⟨some 88, .mov (.tmp 15), none⟩ ::
    ⟨some 89, .call (.val (.fn (.func 79) [])) [(.tmp 88)], none⟩ ::
    ⟨some 90, .mov (.tmp 89), none⟩ ::
    ⟨some 91, .faddr 0 (.tmp 2), some (90, false)⟩ ::
    ⟨some 92, .load false 1 (.tmp 91), some (90, false)⟩ ::
    ⟨some 93, .bin .eql (.tmp 92) (.val (.int .i64 16)), some (90, false)⟩ ::
    ⟨some 94, .pick (.tmp 90) (.val (.bool true)) (.tmp 93), none⟩ ::
    ⟨some 95, .mov (.tmp 94), none⟩ ::
    ⟨some 96, .mov (.tmp 15), some (95, false)⟩ ::
    ⟨some 97, .mov (.tmp 5), some (95, false)⟩ ::
    ⟨some 98, .iaddr 1 (.tmp 96) (.tmp 97), some (95, false)⟩ ::
    ⟨some 99, .load false 1 (.tmp 98), some (95, false)⟩ ::
    ⟨some 100, .call (.val (.fn (.func 84) [])) [(.tmp 99)], some (95, false)⟩ ::
    ⟨some 101, .un .not (.tmp 100), some (95, false)⟩ ::
    ⟨some 102, .pick (.tmp 95) (.val (.bool true)) (.tmp 101), none⟩ :: [])) <|
  .cond (.tmp 102) (.seq (.region (⟨some 103, .mov (.tmp 15), none⟩ ::
      ⟨some 4, .mov (.tmp 103), none⟩ :: [])) <|
    .ret) <|
  .skip) <|
  .seq (.region (⟨some 104, .mov (.tmp 15), none⟩ ::
    ⟨some 105, .mov (.tmp 5), none⟩ ::
    ⟨some 106, .iaddr 1 (.tmp 104) (.tmp 105), none⟩ ::
    ⟨some 107, .load false 1 (.tmp 106), none⟩ ::
    ⟨some 108, .call (.val (.fn (.func 85) [])) [(.tmp 107)], none⟩ ::
    ⟨some 16, .mov (.tmp 108), none⟩ :: [])) <|
  .seq (.region (⟨some 109, .mov (.tmp 15), none⟩ ::
    ⟨some 110, .faddr 1 (.tmp 2), none⟩ ::
    ⟨some 111, .load false 1 (.tmp 110), none⟩ ::
    ⟨some 112, .mov (.tmp 16), none⟩ ::
    ⟨some 113, .iaddr 1 (.tmp 111) (.tmp 112), none⟩ ::
    ⟨some 114, .load false 1 (.tmp 113), none⟩ ::
    ⟨some 115, .iaddr 1 (.tmp 109) (.tmp 114), none⟩ ::
    ⟨some 116, .load false 1 (.tmp 115), none⟩ ::
    ⟨some 117, .mov (.tmp 15), none⟩ ::
    ⟨some 118, .mov (.tmp 6), none⟩ ::
    ⟨some 119, .iaddr 1 (.tmp 117) (.tmp 118), none⟩ ::
    ⟨some 120, .load false 1 (.tmp 119), none⟩ ::
    ⟨some 121, .call (.val (.fn (.func 53) [])) [(.tmp 116), (.tmp 120)], none⟩ ::
    ⟨some 17, .mov (.tmp 121), none⟩ :: [])) <|
  .seq (.region (⟨some 122, .mov (.tmp 15), none⟩ ::
    ⟨some 123, .faddr 1 (.tmp 2), none⟩ ::
    ⟨some 124, .load false 1 (.tmp 123), none⟩ ::
    ⟨some 125, .mov (.tmp 16), none⟩ ::
    ⟨some 126, .iaddr 1 (.tmp 124) (.tmp 125), none⟩ ::
    ⟨some 127, .load false 1 (.tmp 126), none⟩ ::
    ⟨some 128, .mov (.tmp 17), none⟩ ::
    ⟨some 129, .call (.val (.fn (.func 83) [])) [(.tmp 122), (.tmp 127), (.tmp 128)], none⟩ ::
    ⟨some 130, .mov (.tmp 6), none⟩ ::
    ⟨some 131, .mov (.tmp 17), none⟩ ::
    ⟨some 132, .call (.val (.fn (.func 83) [])) [(.tmp 129), (.tmp 130), (.tmp 131)], none⟩ ::
    ⟨some 4, .mov (.tmp 132), none⟩ :: [])) <|
  .ret⟩
theorem e_ref16_narrow : cFunc Try.prog kd_CRef16 Try.f48 = some c_ref16_narrow := by kernel_rfl
/- touchstone/touchstoneref16.Narrow: slots c, 0, d, 1, c, 2, d, 3 -/
def c_ref16_Narrow : AFunc := ⟨24, [.tmp 4, .tmp 5],
  .seq (.region (⟨some 2, .box 4 (.tmp 0), none⟩ ::
    ⟨some 4, .mov (.val .nils), none⟩ ::
    ⟨some 5, .mov (.val (.int .i64 0)), none⟩ :: [])) <|
  .seq (.seq (.region (⟨some 6, .load true 4 (.tmp 2), none⟩ ::
    ⟨some 7, .mov (.tmp 1), none⟩ ::
    ⟨some 8, .call (.val (.fn (.func 18) [])) [(.tmp 6), (.tmp 7)], none⟩ ::
    ⟨some 9, .un .not (.tmp 8), none⟩ :: [])) <|
  .cond (.tmp 9) (.seq (.region (⟨some 4, .mov (.val .nils), none⟩ ::
      ⟨some 5, .mov (.val (.int .i64 2)), none⟩ :: [])) <|
    .ret) <|
  .skip) <|
  .seq (.seq (.region (⟨some 10, .faddr 0 (.tmp 2), none⟩ ::
    ⟨some 11, .load false 1 (.tmp 10), none⟩ ::
    ⟨some 12, .bin .neq (.tmp 11) (.val (.int .i64 16)), none⟩ ::
    ⟨some 13, .mov (.tmp 12), none⟩ ::
    ⟨some 14, .faddr 0 (.tmp 2), some (13, true)⟩ ::
    ⟨some 15, .load false 1 (.tmp 14), some (13, true)⟩ ::
    ⟨some 16, .bin .neq (.tmp 15) (.val (.int .i64 17)), some (13, true)⟩ ::
    ⟨some 17, .pick (.tmp 13) (.tmp 16) (.val (.bool false)), none⟩ :: [])) <|
  .cond (.tmp 17) (.seq (.region (⟨some 4, .mov (.val .nils), none⟩ ::
      ⟨some 5, .mov (.val (.int .i64 10)), none⟩ :: [])) <|
    .ret) <|
  .skip) <|
  .seq (.region (⟨some 18, .load true 4 (.tmp 2), none⟩ ::
    ⟨some 19, .mov (.tmp 1), none⟩ ::
    ⟨some 20, .call (.val (.fn (.func 48) [])) [(.tmp 18), (.tmp 19)], none⟩ ::
    ⟨some 21, .call (.val (.fn (.func 47) [])) [(.tmp 20)], none⟩ ::
    ⟨some 22, .ext (.tmp 21) 0, none⟩ ::
    ⟨some 23, .ext (.tmp 21) 1, none⟩ ::
    ⟨some 4, .mov (.tmp 22), none⟩ ::
    ⟨some 5, .mov (.tmp 23), none⟩ :: [])) <|
  .ret⟩
theorem e_ref16_Narrow : cFunc Try.prog kd_CRef16 Try.f21 = some c_ref16_Narrow := by kernel_rfl
end Go.Proofs.Ytfcphijidcfboaa
