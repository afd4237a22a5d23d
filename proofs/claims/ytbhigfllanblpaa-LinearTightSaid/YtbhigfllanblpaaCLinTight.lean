/- The code of functions, as abstract code. Printed by program. -/
import Derived.Test.YtbhigfllanblpaaAv2
import Derived.Test.YtbhigfllanblpaaProg
namespace Go.Proofs.Ytbhigfllanblpaa
open Av
set_option linter.unusedVariables false
set_option maxRecDepth 100000
def kd_CLinTight (f : Nat) : Nat := 0
/- touchstone/touchstonelaw12.LinearTight: slots c, 0, d, 1, c, 2, d, 3, i, 5, k, 6, out, 7, e, 8, l, 9, x, 10, lo, 11, hi, 12, _, 13, a, 14 -/
def c_law12_LinearTight : AFunc := ⟨129, [.tmp 4],
  .seq (.region (⟨some 2, .box 4 (.tmp 0), none⟩ ::
    ⟨some 4, .mov (.val (.bool false)), none⟩ :: [])) <|
  .seq (.seq (.region (⟨some 15, .call (.val (.fn (.func 20) [])) [], none⟩ ::
    ⟨some 16, .un .not (.tmp 15), none⟩ :: [])) <|
  .cond (.tmp 16) (.seq (.region (⟨some 4, .mov (.val (.bool false)), none⟩ :: [])) <|
    .ret) <|
  .skip) <|
  .seq (.seq (.region (⟨some 17, .load true 4 (.tmp 2), none⟩ ::
    ⟨some 18, .mov (.tmp 1), none⟩ ::
    ⟨some 19, .call (.val (.fn (.func 21) [])) [(.tmp 17), (.tmp 18)], none⟩ ::
    ⟨some 20, .un .not (.tmp 19), none⟩ ::
    ⟨some 21, .mov (.tmp 20), none⟩ ::
    ⟨some 22, .mov (.tmp 1), some (21, false)⟩ ::
    ⟨some 23, .call (.val (.fn (.func 22) [])) [(.tmp 22)], some (21, false)⟩ ::
    ⟨some 24, .un .not (.tmp 23), some (21, false)⟩ ::
    ⟨some 25, .pick (.tmp 21) (.val (.bool true)) (.tmp 24), none⟩ ::
    ⟨some 26, .mov (.tmp 25), none⟩ ::
    ⟨some 27, .faddr 0 (.tmp 2), some (26, false)⟩ ::
    ⟨some 28, .load false 1 (.tmp 27), some (26, false)⟩ ::
    ⟨some 29, .bin .neq (.tmp 28) (.val (.int .i64 2)), some (26, false)⟩ ::
    ⟨some 30, .pick (.tmp 26) (.val (.bool true)) (.tmp 29), none⟩ ::
    ⟨some 31, .mov (.tmp 30), none⟩ ::
    ⟨some 32, .load true 4 (.tmp 2), some (31, false)⟩ ::
    ⟨some 33, .mov (.tmp 1), some (31, false)⟩ ::
    ⟨some 34, .call (.val (.fn (.func 23) [])) [(.tmp 32), (.tmp 33)], some (31, false)⟩ ::
    ⟨some 35, .un .not (.tmp 34), some (31, false)⟩ ::
    ⟨some 36, .pick (.tmp 31) (.val (.bool true)) (.tmp 35), none⟩ :: [])) <|
  .cond (.tmp 36) (.seq (.region (⟨some 4, .mov (.val (.bool true)), none⟩ :: [])) <|
    .ret) <|
  .skip) <|
  .seq (.seq (.region (⟨some 37, .faddr 1 (.tmp 2), none⟩ ::
    ⟨some 38, .load false 1 (.tmp 37), none⟩ ::
    ⟨some 39, .len false (.tmp 38), none⟩ ::
    ⟨some 40, .mov (.val (.int .i64 0)), none⟩ :: [])) <|
  .block 0 (.loop (.seq (.region (⟨some 41, .bin .lss (.tmp 40) (.tmp 39), none⟩ :: [])) <|
      .seq (.cond (.tmp 41) (.skip) <|
      .exit 0) <|
      .seq (.block 1 (.seq (.region (⟨some 42, .mov (.tmp 40), none⟩ ::
          ⟨some 5, .mov (.tmp 42), none⟩ :: [])) <|
        .seq (.region (⟨some 43, .mov (.tmp 5), none⟩ ::
          ⟨some 44, .mov (.val (.int .i64 0)), none⟩ :: [])) <|
        .block 2 (.loop (.seq (.region (⟨some 45, .bin .lss (.tmp 44) (.tmp 43), none⟩ :: [])) <|
            .seq (.cond (.tmp 45) (.skip) <|
            .exit 2) <|
            .seq (.block 3 (.seq (.region (⟨some 46, .mov (.tmp 44), none⟩ ::
                ⟨some 6, .mov (.tmp 46), none⟩ :: [])) <|
              .seq (.region (⟨some 47, .faddr 1 (.tmp 2), none⟩ ::
                ⟨some 48, .load false 1 (.tmp 47), none⟩ ::
                ⟨some 49, .mov (.tmp 5), none⟩ ::
                ⟨some 50, .iaddr 1 (.tmp 48) (.tmp 49), none⟩ ::
                ⟨some 51, .load false 1 (.tmp 50), none⟩ ::
                ⟨some 52, .faddr 1 (.tmp 2), none⟩ ::
                ⟨some 53, .load false 1 (.tmp 52), none⟩ ::
                ⟨some 54, .mov (.tmp 6), none⟩ ::
                ⟨some 55, .iaddr 1 (.tmp 53) (.tmp 54), none⟩ ::
                ⟨some 56, .load false 1 (.tmp 55), none⟩ ::
                ⟨some 57, .bin .eql (.tmp 51) (.tmp 56), none⟩ :: [])) <|
              .cond (.tmp 57) (.seq (.region (⟨some 4, .mov (.val (.bool true)), none⟩ :: [])) <|
                .ret) <|
              .skip)) <|
            .region (⟨some 58, .bin .add (.tmp 44) (.val (.int .i64 1)), none⟩ ::
              ⟨some 44, .mov (.tmp 58), none⟩ :: []))))) <|
      .region (⟨some 59, .bin .add (.tmp 40) (.val (.int .i64 1)), none⟩ ::
        ⟨some 40, .mov (.tmp 59), none⟩ :: [])))) <|
  .seq (.region (⟨some 61, .load true 4 (.tmp 2), none⟩ ::
    ⟨some 62, .mov (.tmp 1), none⟩ ::
    ⟨some 63, .call (.val (.fn (.func 24) [])) [(.tmp 61), (.tmp 62)], none⟩ ::
    ⟨some 60, .mov (.tmp 63), none⟩ ::
    ⟨some 64, .ext (.tmp 60) 0, none⟩ ::
    ⟨some 65, .ext (.tmp 60) 1, none⟩ ::
    ⟨some 7, .mov (.tmp 64), none⟩ ::
    ⟨some 8, .mov (.tmp 65), none⟩ :: [])) <|
  .seq (.seq (.region (⟨some 66, .mov (.tmp 8), none⟩ ::
    ⟨some 67, .bin .neq (.tmp 66) (.val (.int .i64 0)), none⟩ :: [])) <|
  .cond (.tmp 67) (.seq (.region (⟨some 68, .mov (.tmp 8), none⟩ ::
      ⟨some 69, .bin .eql (.tmp 68) (.val (.int .i64 12)), none⟩ ::
      ⟨some 4, .mov (.tmp 69), none⟩ :: [])) <|
    .ret) <|
  .skip) <|
  .seq (.region (⟨some 70, .mov (.tmp 7), none⟩ ::
    ⟨some 71, .load true 4 (.tmp 2), none⟩ ::
    ⟨some 72, .bslice 4 [(.tmp 71)], none⟩ ::
    ⟨some 73, .call (.val (.fn (.func 25) [])) [(.tmp 70), (.tmp 72)], none⟩ ::
    ⟨some 9, .mov (.tmp 73), none⟩ :: [])) <|
  .seq (.seq (.region (⟨some 74, .mov (.tmp 7), none⟩ ::
    ⟨some 75, .len false (.tmp 74), none⟩ ::
    ⟨some 76, .mov (.val (.int .i64 0)), none⟩ :: [])) <|
  .block 4 (.loop (.seq (.region (⟨some 77, .bin .lss (.tmp 76) (.tmp 75), none⟩ :: [])) <|
      .seq (.cond (.tmp 77) (.skip) <|
      .exit 4) <|
      .seq (.block 5 (.seq (.region (⟨some 78, .mov (.tmp 76), none⟩ ::
          ⟨some 10, .mov (.tmp 78), none⟩ :: [])) <|
        .seq (.region (⟨some 11, .mov (.val (.bool false)), none⟩ ::
          ⟨some 12, .mov (.val (.bool false)), none⟩ :: [])) <|
        .seq (.seq (.region (⟨some 79, .mov (.tmp 9), none⟩ ::
          ⟨some 80, .len false (.tmp 79), none⟩ ::
          ⟨some 81, .mov (.val (.int .i64 0)), none⟩ :: [])) <|
        .block 6 (.loop (.seq (.region (⟨some 82, .bin .lss (.tmp 81) (.tmp 80), none⟩ :: [])) <|
            .seq (.cond (.tmp 82) (.skip) <|
            .exit 6) <|
            .seq (.block 7 (.seq (.region (⟨some 83, .iaddr 1 (.tmp 79) (.tmp 81), none⟩ ::
                ⟨some 84, .load false 1 (.tmp 83), none⟩ ::
                ⟨some 14, .mov (.tmp 84), none⟩ :: [])) <|
              .seq (.region (⟨some 85, .mov (.tmp 11), none⟩ ::
                ⟨some 86, .mov (.tmp 85), none⟩ ::
                ⟨some 87, .mov (.tmp 14), some (86, false)⟩ ::
                ⟨some 88, .mov (.tmp 10), some (86, false)⟩ ::
                ⟨some 89, .iaddr 1 (.tmp 87) (.tmp 88), some (86, false)⟩ ::
                ⟨some 90, .load false 1 (.tmp 89), some (86, false)⟩ ::
                ⟨some 91, .mov (.tmp 7), some (86, false)⟩ ::
                ⟨some 92, .mov (.tmp 10), some (86, false)⟩ ::
                ⟨some 93, .iaddr 1 (.tmp 91) (.tmp 92), some (86, false)⟩ ::
                ⟨some 94, .load false 1 (.tmp 93), some (86, false)⟩ ::
                ⟨some 95, .iaddr 2 (.tmp 94) (.val (.int .i64 0)), some (86, false)⟩ ::
                ⟨some 96, .faddr 0 (.tmp 95), some (86, false)⟩ ::
                ⟨some 97, .load false 1 (.tmp 96), some (86, false)⟩ ::
                ⟨some 98, .bin .eql (.tmp 90) (.tmp 97), some (86, false)⟩ ::
                ⟨some 99, .pick (.tmp 86) (.val (.bool true)) (.tmp 98), none⟩ ::
                ⟨some 11, .mov (.tmp 99), none⟩ :: [])) <|
              .region (⟨some 100, .mov (.tmp 12), none⟩ ::
                ⟨some 101, .mov (.tmp 100), none⟩ ::
                ⟨some 102, .mov (.tmp 14), some (101, false)⟩ ::
                ⟨some 103, .mov (.tmp 10), some (101, false)⟩ ::
                ⟨some 104, .iaddr 1 (.tmp 102) (.tmp 103), some (101, false)⟩ ::
                ⟨some 105, .load false 1 (.tmp 104), some (101, false)⟩ ::
                ⟨some 106, .mov (.tmp 7), some (101, false)⟩ ::
                ⟨some 107, .mov (.tmp 10), some (101, false)⟩ ::
                ⟨some 108, .iaddr 1 (.tmp 106) (.tmp 107), some (101, false)⟩ ::
                ⟨some 109, .load false 1 (.tmp 108), some (101, false)⟩ ::
                ⟨some 110, .mov (.tmp 7), some (101, false)⟩ ::
                ⟨some 111, .mov (.tmp 10), some (101, false)⟩ ::
                ⟨some 112, .iaddr 1 (.tmp 110) (.tmp 111), some (101, false)⟩ ::
                ⟨some 113, .load false 1 (.tmp 112), some (101, false)⟩ ::
                ⟨some 114, .len false (.tmp 113), some (101, false)⟩ ::
                ⟨some 115, .bin .sub (.tmp 114) (.val (.int .i64 1)), some (101, false)⟩ ::
                ⟨some 116, .iaddr 2 (.tmp 109) (.tmp 115), some (101, false)⟩ ::
                ⟨some 117, .faddr 1 (.tmp 116), some (101, false)⟩ ::
                ⟨some 118, .load false 1 (.tmp 117), some (101, false)⟩ ::
                ⟨some 119, .bin .eql (.tmp 105) (.tmp 118), some (101, false)⟩ ::
                ⟨some 120, .pick (.tmp 101) (.val (.bool true)) (.tmp 119), none⟩ ::
                ⟨some 12, .mov (.tmp 120), none⟩ :: []))) <|
            .region (⟨some 121, .bin .add (.tmp 81) (.val (.int .i64 1)), none⟩ ::
              ⟨some 81, .mov (.tmp 121), none⟩ :: [])))) <|
        .seq (.region (⟨some 122, .mov (.tmp 11), none⟩ ::
          ⟨some 123, .un .not (.tmp 122), none⟩ ::
          ⟨some 124, .mov (.tmp 123), none⟩ ::
          ⟨some 125, .mov (.tmp 12), some (124, false)⟩ ::
          ⟨some 126, .un .not (.tmp 125), some (124, false)⟩ ::
          ⟨some 127, .pick (.tmp 124) (.val (.bool true)) (.tmp 126), none⟩ :: [])) <|
        .cond (.tmp 127) (.seq (.region (⟨some 4, .mov (.val (.bool false)), none⟩ :: [])) <|
          .ret) <|
        .skip)) <|
      .region (⟨some 128, .bin .add (.tmp 76) (.val (.int .i64 1)), none⟩ ::
        ⟨some 76, .mov (.tmp 128), none⟩ :: [])))) <|
  .seq (.region (⟨some 4, .mov (.val (.bool true)), none⟩ :: [])) <|
  .ret⟩
theorem e_law12_LinearTight : cFunc Try.prog kd_CLinTight Try.f4 = some c_law12_LinearTight := by kernel_rfl
end Go.Proofs.Ytbhigfllanblpaa
