/- The code of functions, as abstract code. Printed by program. -/
import Derived.Test.YtbhigfllanblpaaAv2
import Derived.Test.YtbhigfllanblpaaProg
namespace Go.Proofs.Ytbhigfllanblpaa
open Av
set_option linter.unusedVariables false
set_option maxRecDepth 100000
def kd_CRef12k (f : Nat) : Nat := 0
/- touchstone/touchstoneref12.Keep: slots a, 0, x, 1, n, 2, d, 3, a, 4, x, 5, n, 6, d, 7, m, 10, out, 11, i, 12, k, 13, q, 14, _, 15, q, 16, _, 17 -/
def c_ref12_Keep : AFunc := ⟨105, [.tmp 8, .tmp 9],
  .seq (.region (⟨some 8, .mov (.val .nils), none⟩ ::
    ⟨some 9, .mov (.val (.bool false)), none⟩ :: [])) <|
  .seq (.region (⟨some 18, .mov (.tmp 0), none⟩ ::
    ⟨some 19, .mov (.tmp 1), none⟩ ::
    ⟨some 20, .mov (.tmp 3), none⟩ ::
    ⟨some 21, .call (.val (.fn (.func 103) [])) [(.tmp 18), (.tmp 19), (.tmp 20)], none⟩ ::
    ⟨some 10, .mov (.tmp 21), none⟩ :: [])) <|
  .seq (.seq (.region (⟨some 22, .mov (.tmp 10), none⟩ ::
    ⟨some 23, .mov (.tmp 2), none⟩ ::
    ⟨some 24, .bin .gtr (.tmp 22) (.tmp 23), none⟩ :: [])) <|
  .cond (.tmp 24) (.seq (.region (⟨some 8, .mov (.val .nils), none⟩ ::
      ⟨some 9, .mov (.val (.bool false)), none⟩ :: [])) <|
    .ret) <|
  .skip) <|
  .seq (.region (⟨some 25, .mov (.tmp 3), none⟩ ::
    ⟨some 11, .mov (.tmp 25), none⟩ :: [])) <|
  .seq (.seq (.region (⟨some 12, .mov (.val (.int .i64 0)), none⟩ :: [])) <|
  .block 0 (.loop (.seq (.seq (.region (⟨some 26, .mov (.tmp 12), none⟩ ::
        ⟨some 27, .mov (.tmp 0), none⟩ ::
        ⟨some 28, .len false (.tmp 27), none⟩ ::
        ⟨some 29, .bin .lss (.tmp 26) (.tmp 28), none⟩ :: [])) <|
      .cond (.tmp 29) (.skip) <|
      .exit 0) <|
      .seq (.block 1 (.seq (.region (⟨some 32, .mov (.tmp 1), none⟩ ::
          ⟨some 33, .mov (.tmp 12), none⟩ ::
          ⟨some 34, .iaddr 1 (.tmp 32) (.tmp 33), none⟩ ::
          ⟨some 35, .load false 1 (.tmp 34), none⟩ ::
          ⟨some 13, .mov (.tmp 35), none⟩ :: [])) <|
        .block 2 (.seq (.region (⟨some 37, .mov (.tmp 0), none⟩ ::
            ⟨some 38, .mov (.tmp 12), none⟩ ::
            ⟨some 39, .iaddr 1 (.tmp 37) (.tmp 38), none⟩ ::
            ⟨some 40, .load false 1 (.tmp 39), none⟩ ::
            ⟨some 41, .bin .gtr (.tmp 40) (.val (.int .i64 0)), none⟩ ::
            ⟨some 36, .mov (.tmp 41), none⟩ :: [])) <|
          .cond (.tmp 36) (.seq (.region (⟨some 43, .mov (.tmp 2), none⟩ ::
              ⟨some 44, .mov (.tmp 10), none⟩ ::
              ⟨some 45, .bin .sub (.tmp 43) (.tmp 44), none⟩ ::
              ⟨some 46, .mov (.tmp 0), none⟩ ::
              ⟨some 47, .mov (.tmp 12), none⟩ ::
              ⟨some 48, .iaddr 1 (.tmp 46) (.tmp 47), none⟩ ::
              ⟨some 49, .load false 1 (.tmp 48), none⟩ ::
              ⟨some 50, .call (.val (.fn (.func 147) [])) [(.tmp 45), (.tmp 49)], none⟩ ::
              ⟨some 42, .mov (.tmp 50), none⟩ ::
              ⟨some 51, .ext (.tmp 42) 0, none⟩ ::
              ⟨some 52, .ext (.tmp 42) 1, none⟩ ::
              ⟨some 14, .mov (.tmp 51), none⟩ ::
              ⟨some 15, .mov (.tmp 52), none⟩ :: [])) <|
            .region (⟨some 53, .mov (.tmp 11), none⟩ ::
              ⟨some 54, .mov (.tmp 13), none⟩ ::
              ⟨some 55, .mov (.tmp 11), none⟩ ::
              ⟨some 56, .mov (.tmp 13), none⟩ ::
              ⟨some 57, .iaddr 1 (.tmp 55) (.tmp 56), none⟩ ::
              ⟨some 58, .load false 1 (.tmp 57), none⟩ ::
              ⟨some 59, .mov (.tmp 3), none⟩ ::
              ⟨some 60, .mov (.tmp 13), none⟩ ::
              ⟨some 61, .iaddr 1 (.tmp 59) (.tmp 60), none⟩ ::
              ⟨some 62, .load false 1 (.tmp 61), none⟩ ::
              ⟨some 63, .call (.val (.fn (.func 26) [])) [(.tmp 62)], none⟩ ::
              ⟨some 64, .mov (.tmp 14), none⟩ ::
              ⟨some 65, .bin .add (.tmp 63) (.tmp 64), none⟩ ::
              ⟨some 66, .call (.val (.fn (.func 109) [])) [(.tmp 58), (.val (.int .i64 (-1099511627776))), (.tmp 65)], none⟩ ::
              ⟨some 67, .call (.val (.fn (.func 148) [])) [(.tmp 53), (.tmp 54), (.tmp 66)], none⟩ ::
              ⟨some 11, .mov (.tmp 67), none⟩ :: [])) <|
          .seq (.region (⟨some 69, .mov (.tmp 0), none⟩ ::
            ⟨some 70, .mov (.tmp 12), none⟩ ::
            ⟨some 71, .iaddr 1 (.tmp 69) (.tmp 70), none⟩ ::
            ⟨some 72, .load false 1 (.tmp 71), none⟩ ::
            ⟨some 73, .bin .lss (.tmp 72) (.val (.int .i64 0)), none⟩ ::
            ⟨some 68, .mov (.tmp 73), none⟩ :: [])) <|
          .cond (.tmp 68) (.seq (.region (⟨some 75, .mov (.tmp 2), none⟩ ::
              ⟨some 76, .mov (.tmp 10), none⟩ ::
              ⟨some 77, .bin .sub (.tmp 75) (.tmp 76), none⟩ ::
              ⟨some 78, .mov (.tmp 0), none⟩ ::
              ⟨some 79, .mov (.tmp 12), none⟩ ::
              ⟨some 80, .iaddr 1 (.tmp 78) (.tmp 79), none⟩ ::
              ⟨some 81, .load false 1 (.tmp 80), none⟩ ::
              ⟨some 82, .un .neg (.tmp 81), none⟩ ::
              ⟨some 83, .call (.val (.fn (.func 147) [])) [(.tmp 77), (.tmp 82)], none⟩ ::
              ⟨some 74, .mov (.tmp 83), none⟩ ::
              ⟨some 84, .ext (.tmp 74) 0, none⟩ ::
              ⟨some 85, .ext (.tmp 74) 1, none⟩ ::
              ⟨some 16, .mov (.tmp 84), none⟩ ::
              ⟨some 17, .mov (.tmp 85), none⟩ :: [])) <|
            .region (⟨some 86, .mov (.tmp 11), none⟩ ::
              ⟨some 87, .mov (.tmp 13), none⟩ ::
              ⟨some 88, .mov (.tmp 11), none⟩ ::
              ⟨some 89, .mov (.tmp 13), none⟩ ::
              ⟨some 90, .iaddr 1 (.tmp 88) (.tmp 89), none⟩ ::
              ⟨some 91, .load false 1 (.tmp 90), none⟩ ::
              ⟨some 92, .mov (.tmp 3), none⟩ ::
              ⟨some 93, .mov (.tmp 13), none⟩ ::
              ⟨some 94, .iaddr 1 (.tmp 92) (.tmp 93), none⟩ ::
              ⟨some 95, .load false 1 (.tmp 94), none⟩ ::
              ⟨some 96, .call (.val (.fn (.func 74) [])) [(.tmp 95)], none⟩ ::
              ⟨some 97, .mov (.tmp 16), none⟩ ::
              ⟨some 98, .bin .sub (.tmp 96) (.tmp 97), none⟩ ::
              ⟨some 99, .call (.val (.fn (.func 109) [])) [(.tmp 91), (.tmp 98), (.val (.int .i64 1099511627776))], none⟩ ::
              ⟨some 100, .call (.val (.fn (.func 148) [])) [(.tmp 86), (.tmp 87), (.tmp 99)], none⟩ ::
              ⟨some 11, .mov (.tmp 100), none⟩ :: [])) <|
          .skip))) <|
      .region (⟨some 30, .mov (.tmp 12), none⟩ ::
        ⟨some 31, .bin .add (.tmp 30) (.val (.int .i64 1)), none⟩ ::
        ⟨some 12, .mov (.tmp 31), none⟩ :: [])))) <|
  .seq (.region (⟨some 101, .mov (.tmp 11), none⟩ ::
    ⟨some 102, .mov (.tmp 11), none⟩ ::
    ⟨some 103, .call (.val (.fn (.func 149) [])) [(.tmp 102)], none⟩ ::
    ⟨some 104, .un .not (.tmp 103), none⟩ ::
    ⟨some 8, .mov (.tmp 101), none⟩ ::
    ⟨some 9, .mov (.tmp 104), none⟩ :: [])) <|
  .ret⟩
theorem e_ref12_Keep : cFunc Try.prog kd_CRef12k Try.f106 = some c_ref12_Keep := by kernel_rfl
/- touchstone/touchstoneref12.KeepIs: slots a, 0, x, 1, n, 2, d, 3, a, 4, x, 5, n, 6, d, 7, e, 10, ok, 11 -/
def c_ref12_KeepIs : AFunc := ⟨31, [.tmp 8, .tmp 9],
  .seq (.region (⟨some 8, .mov (.val .nils), none⟩ ::
    ⟨some 9, .mov (.val (.bool false)), none⟩ :: [])) <|
  .seq (.region (⟨some 13, .mov (.tmp 0), none⟩ ::
    ⟨some 14, .mov (.tmp 1), none⟩ ::
    ⟨some 15, .mov (.tmp 2), none⟩ ::
    ⟨some 16, .mov (.tmp 3), none⟩ ::
    ⟨some 17, .call (.val (.fn (.func 106) [])) [(.tmp 13), (.tmp 14), (.tmp 15), (.tmp 16)], none⟩ ::
    ⟨some 12, .mov (.tmp 17), none⟩ ::
    ⟨some 18, .ext (.tmp 12) 0, none⟩ ::
    ⟨some 19, .ext (.tmp 12) 1, none⟩ ::
    ⟨some 10, .mov (.tmp 18), none⟩ ::
    ⟨some 11, .mov (.tmp 19), none⟩ :: [])) <|
  .seq (.seq (.region (⟨some 20, .mov (.tmp 11), none⟩ ::
    ⟨some 21, .un .not (.tmp 20), none⟩ :: [])) <|
  .cond (.tmp 21) (.seq (.region (⟨some 8, .mov (.val .nils), none⟩ ::
      ⟨some 9, .mov (.val (.bool false)), none⟩ :: [])) <|
    .ret) <|
  .skip) <|
  .seq (.region (⟨some 22, .mov (.tmp 0), none⟩ ::
    ⟨some 23, .call (.val (.fn (.func 104) [])) [(.tmp 22)], none⟩ ::
    ⟨some 24, .mov (.tmp 1), none⟩ ::
    ⟨some 25, .mov (.tmp 2), none⟩ ::
    ⟨some 26, .un .neg (.tmp 25), none⟩ ::
    ⟨some 27, .mov (.tmp 10), none⟩ ::
    ⟨some 28, .call (.val (.fn (.func 106) [])) [(.tmp 23), (.tmp 24), (.tmp 26), (.tmp 27)], none⟩ ::
    ⟨some 29, .ext (.tmp 28) 0, none⟩ ::
    ⟨some 30, .ext (.tmp 28) 1, none⟩ ::
    ⟨some 8, .mov (.tmp 29), none⟩ ::
    ⟨some 9, .mov (.tmp 30), none⟩ :: [])) <|
  .ret⟩
theorem e_ref12_KeepIs : cFunc Try.prog kd_CRef12k Try.f105 = some c_ref12_KeepIs := by kernel_rfl
/- touchstone/touchstoneref12.KeepNot: slots a, 0, x, 1, n, 2, d, 3, a, 4, x, 5, n, 6, d, 7, open, 10, at, 11, s, 12, i, 13, k, 14, out, 15 -/
def c_ref12_KeepNot : AFunc := ⟨101, [.tmp 8, .tmp 9],
  .seq (.region (⟨some 8, .mov (.val .nils), none⟩ ::
    ⟨some 9, .mov (.val (.bool false)), none⟩ :: [])) <|
  .seq (.region (⟨some 10, .mov (.val (.int .i64 0)), none⟩ ::
    ⟨some 11, .mov (.val (.int .i64 0)), none⟩ ::
    ⟨some 12, .mov (.val (.int .i64 0)), none⟩ :: [])) <|
  .seq (.seq (.region (⟨some 13, .mov (.val (.int .i64 0)), none⟩ :: [])) <|
  .block 0 (.loop (.seq (.seq (.region (⟨some 16, .mov (.tmp 13), none⟩ ::
        ⟨some 17, .mov (.tmp 0), none⟩ ::
        ⟨some 18, .len false (.tmp 17), none⟩ ::
        ⟨some 19, .bin .lss (.tmp 16) (.tmp 18), none⟩ :: [])) <|
      .cond (.tmp 19) (.skip) <|
      .exit 0) <|
      .seq (.block 1 (.seq (.region (⟨some 22, .mov (.tmp 0), none⟩ ::
          ⟨some 23, .mov (.tmp 13), none⟩ ::
          ⟨some 24, .iaddr 1 (.tmp 22) (.tmp 23), none⟩ ::
          ⟨some 25, .load false 1 (.tmp 24), none⟩ ::
          ⟨some 26, .bin .eql (.tmp 25) (.val (.int .i64 0)), none⟩ ::
          ⟨some 27, .mov (.tmp 26), none⟩ ::
          ⟨some 28, .mov (.tmp 3), some (27, false)⟩ ::
          ⟨some 29, .mov (.tmp 1), some (27, false)⟩ ::
          ⟨some 30, .mov (.tmp 13), some (27, false)⟩ ::
          ⟨some 31, .iaddr 1 (.tmp 29) (.tmp 30), some (27, false)⟩ ::
          ⟨some 32, .load false 1 (.tmp 31), some (27, false)⟩ ::
          ⟨some 33, .iaddr 1 (.tmp 28) (.tmp 32), some (27, false)⟩ ::
          ⟨some 34, .load false 1 (.tmp 33), some (27, false)⟩ ::
          ⟨some 35, .call (.val (.fn (.func 38) [])) [(.tmp 34)], some (27, false)⟩ ::
          ⟨some 36, .pick (.tmp 27) (.val (.bool true)) (.tmp 35), none⟩ :: [])) <|
        .cond (.tmp 36) (.region (⟨some 37, .mov (.tmp 12), none⟩ ::
            ⟨some 38, .mov (.tmp 0), none⟩ ::
            ⟨some 39, .mov (.tmp 13), none⟩ ::
            ⟨some 40, .iaddr 1 (.tmp 38) (.tmp 39), none⟩ ::
            ⟨some 41, .load false 1 (.tmp 40), none⟩ ::
            ⟨some 42, .mov (.tmp 3), none⟩ ::
            ⟨some 43, .mov (.tmp 1), none⟩ ::
            ⟨some 44, .mov (.tmp 13), none⟩ ::
            ⟨some 45, .iaddr 1 (.tmp 43) (.tmp 44), none⟩ ::
            ⟨some 46, .load false 1 (.tmp 45), none⟩ ::
            ⟨some 47, .iaddr 1 (.tmp 42) (.tmp 46), none⟩ ::
            ⟨some 48, .load false 1 (.tmp 47), none⟩ ::
            ⟨some 49, .call (.val (.fn (.func 26) [])) [(.tmp 48)], none⟩ ::
            ⟨some 50, .bin .mul (.tmp 41) (.tmp 49), none⟩ ::
            ⟨some 51, .bin .add (.tmp 37) (.tmp 50), none⟩ ::
            ⟨some 12, .mov (.tmp 51), none⟩ :: [])) <|
        .seq (.region (⟨some 52, .mov (.tmp 10), none⟩ ::
          ⟨some 53, .bin .add (.tmp 52) (.val (.int .i64 1)), none⟩ ::
          ⟨some 10, .mov (.tmp 53), none⟩ :: [])) <|
        .region (⟨some 54, .mov (.tmp 13), none⟩ ::
          ⟨some 11, .mov (.tmp 54), none⟩ :: []))) <|
      .region (⟨some 20, .mov (.tmp 13), none⟩ ::
        ⟨some 21, .bin .add (.tmp 20) (.val (.int .i64 1)), none⟩ ::
        ⟨some 13, .mov (.tmp 21), none⟩ :: [])))) <|
  .seq (.block 2 (.seq (.region (⟨some 56, .mov (.tmp 10), none⟩ ::
      ⟨some 57, .bin .eql (.tmp 56) (.val (.int .i64 0)), none⟩ ::
      ⟨some 55, .mov (.tmp 57), none⟩ :: [])) <|
    .cond (.tmp 55) (.seq (.region (⟨some 58, .mov (.tmp 3), none⟩ ::
        ⟨some 59, .mov (.tmp 12), none⟩ ::
        ⟨some 60, .mov (.tmp 2), none⟩ ::
        ⟨some 61, .bin .neq (.tmp 59) (.tmp 60), none⟩ ::
        ⟨some 8, .mov (.tmp 58), none⟩ ::
        ⟨some 9, .mov (.tmp 61), none⟩ :: [])) <|
      .ret) <|
    .seq (.region (⟨some 63, .mov (.tmp 10), none⟩ ::
      ⟨some 64, .bin .gtr (.tmp 63) (.val (.int .i64 1)), none⟩ ::
      ⟨some 62, .mov (.tmp 64), none⟩ :: [])) <|
    .cond (.tmp 62) (.seq (.region (⟨some 65, .mov (.tmp 3), none⟩ ::
        ⟨some 8, .mov (.tmp 65), none⟩ ::
        ⟨some 9, .mov (.val (.bool true)), none⟩ :: [])) <|
      .ret) <|
    .seq (.region (⟨some 67, .mov (.tmp 2), none⟩ ::
      ⟨some 68, .mov (.tmp 12), none⟩ ::
      ⟨some 69, .bin .sub (.tmp 67) (.tmp 68), none⟩ ::
      ⟨some 70, .mov (.tmp 0), none⟩ ::
      ⟨some 71, .mov (.tmp 11), none⟩ ::
      ⟨some 72, .iaddr 1 (.tmp 70) (.tmp 71), none⟩ ::
      ⟨some 73, .load false 1 (.tmp 72), none⟩ ::
      ⟨some 74, .bin .rem (.tmp 69) (.tmp 73), none⟩ ::
      ⟨some 75, .bin .neq (.tmp 74) (.val (.int .i64 0)), none⟩ ::
      ⟨some 66, .mov (.tmp 75), none⟩ :: [])) <|
    .cond (.tmp 66) (.seq (.region (⟨some 76, .mov (.tmp 3), none⟩ ::
        ⟨some 8, .mov (.tmp 76), none⟩ ::
        ⟨some 9, .mov (.val (.bool true)), none⟩ :: [])) <|
      .ret) <|
    .skip)) <|
  .seq (.region (⟨some 77, .mov (.tmp 1), none⟩ ::
    ⟨some 78, .mov (.tmp 11), none⟩ ::
    ⟨some 79, .iaddr 1 (.tmp 77) (.tmp 78), none⟩ ::
    ⟨some 80, .load false 1 (.tmp 79), none⟩ ::
    ⟨some 14, .mov (.tmp 80), none⟩ :: [])) <|
  .seq (.region (⟨some 81, .mov (.tmp 3), none⟩ ::
    ⟨some 82, .mov (.tmp 14), none⟩ ::
    ⟨some 83, .mov (.tmp 3), none⟩ ::
    ⟨some 84, .mov (.tmp 14), none⟩ ::
    ⟨some 85, .iaddr 1 (.tmp 83) (.tmp 84), none⟩ ::
    ⟨some 86, .load false 1 (.tmp 85), none⟩ ::
    ⟨some 87, .mov (.tmp 2), none⟩ ::
    ⟨some 88, .mov (.tmp 12), none⟩ ::
    ⟨some 89, .bin .sub (.tmp 87) (.tmp 88), none⟩ ::
    ⟨some 90, .mov (.tmp 0), none⟩ ::
    ⟨some 91, .mov (.tmp 11), none⟩ ::
    ⟨some 92, .iaddr 1 (.tmp 90) (.tmp 91), none⟩ ::
    ⟨some 93, .load false 1 (.tmp 92), none⟩ ::
    ⟨some 94, .bin .quo (.tmp 89) (.tmp 93), none⟩ ::
    ⟨some 95, .call (.val (.fn (.func 150) [])) [(.tmp 86), (.tmp 94)], none⟩ ::
    ⟨some 96, .call (.val (.fn (.func 148) [])) [(.tmp 81), (.tmp 82), (.tmp 95)], none⟩ ::
    ⟨some 15, .mov (.tmp 96), none⟩ :: [])) <|
  .seq (.region (⟨some 97, .mov (.tmp 15), none⟩ ::
    ⟨some 98, .mov (.tmp 15), none⟩ ::
    ⟨some 99, .call (.val (.fn (.func 149) [])) [(.tmp 98)], none⟩ ::
    ⟨some 100, .un .not (.tmp 99), none⟩ ::
    ⟨some 8, .mov (.tmp 97), none⟩ ::
    ⟨some 9, .mov (.tmp 100), none⟩ :: [])) <|
  .ret⟩
theorem e_ref12_KeepNot : cFunc Try.prog kd_CRef12k Try.f107 = some c_ref12_KeepNot := by kernel_rfl
/- touchstone/touchstoneref12.Empty: slots d, 0, d, 1, i, 3 -/
def c_ref12_Empty : AFunc := ⟨16, [.tmp 2],
  .seq (.region (⟨some 2, .mov (.val (.bool false)), none⟩ :: [])) <|
  .seq (.seq (.region (⟨some 3, .mov (.val (.int .i64 0)), none⟩ :: [])) <|
  .block 0 (.loop (.seq (.seq (.region (⟨some 4, .mov (.tmp 3), none⟩ ::
        ⟨some 5, .mov (.tmp 0), none⟩ ::
        ⟨some 6, .len false (.tmp 5), none⟩ ::
        ⟨some 7, .bin .lss (.tmp 4) (.tmp 6), none⟩ :: [])) <|
      .cond (.tmp 7) (.skip) <|
      .exit 0) <|
      .seq (.block 1 (.seq (.region (⟨some 10, .mov (.tmp 0), none⟩ ::
          ⟨some 11, .mov (.tmp 3), none⟩ ::
          ⟨some 12, .iaddr 1 (.tmp 10) (.tmp 11), none⟩ ::
          ⟨some 13, .load false 1 (.tmp 12), none⟩ ::
          ⟨some 14, .len false (.tmp 13), none⟩ ::
          ⟨some 15, .bin .eql (.tmp 14) (.val (.int .i64 0)), none⟩ :: [])) <|
        .cond (.tmp 15) (.seq (.region (⟨some 2, .mov (.val (.bool true)), none⟩ :: [])) <|
          .ret) <|
        .skip)) <|
      .region (⟨some 8, .mov (.tmp 3), none⟩ ::
        ⟨some 9, .bin .add (.tmp 8) (.val (.int .i64 1)), none⟩ ::
        ⟨some 3, .mov (.tmp 9), none⟩ :: [])))) <|
  .seq (.region (⟨some 2, .mov (.val (.bool false)), none⟩ :: [])) <|
  .ret⟩
theorem e_ref12_Empty : cFunc Try.prog kd_CRef12k Try.f149 = some c_ref12_Empty := by kernel_rfl
end Go.Proofs.Ytbhigfllanblpaa
