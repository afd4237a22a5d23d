/- The code of functions, as abstract code. Printed by program. -/
import Derived.Test.YtclpkkbamgmooaaAv2
import Derived.Test.YtclpkkbamgmooaaProg
namespace Go.Proofs.Ytclpkkbamgmooaa
open Av
set_option linter.unusedVariables false
set_option maxRecDepth 100000
def kd_CRef08 (f : Nat) : Nat := 0
/- touchstone/touchstoneref08.truths: slots m, 0, x, 1, m, 2, x, 3, i, 5 -/
def c_ref08_truths : AFunc := ⟨22, [.tmp 4],
  .seq (.region (⟨some 2, .box 4 (.tmp 0), none⟩ ::
    ⟨some 4, .mov (.val (.bool false)), none⟩ :: [])) <|
  .seq (.seq (.region (⟨some 5, .mov (.val (.int .i64 0)), none⟩ :: [])) <|
  .block 0 (.loop (.seq (.seq (.region (⟨some 6, .mov (.tmp 5), none⟩ ::
        ⟨some 7, .mov (.tmp 1), none⟩ ::
        ⟨some 8, .len false (.tmp 7), none⟩ ::
        ⟨some 9, .bin .lss (.tmp 6) (.tmp 8), none⟩ :: [])) <|
      .cond (.tmp 9) (.skip) <|
      .exit 0) <|
      .seq (.block 1 (.seq (.region (⟨some 12, .faddr 0 (.tmp 2), none⟩ ::
          ⟨some 13, .load false 1 (.tmp 12), none⟩ ::
          ⟨some 14, .mov (.tmp 1), none⟩ ::
          ⟨some 15, .mov (.tmp 5), none⟩ ::
          ⟨some 16, .iaddr 1 (.tmp 14) (.tmp 15), none⟩ ::
          ⟨some 17, .load false 1 (.tmp 16), none⟩ ::
          ⟨some 18, .iaddr 1 (.tmp 13) (.tmp 17), none⟩ ::
          ⟨some 19, .load false 1 (.tmp 18), none⟩ ::
          ⟨some 20, .call (.val (.fn (.func 117) [])) [(.tmp 19)], none⟩ ::
          ⟨some 21, .un .not (.tmp 20), none⟩ :: [])) <|
        .cond (.tmp 21) (.seq (.region (⟨some 4, .mov (.val (.bool false)), none⟩ :: [])) <|
          .ret) <|
        .skip)) <|
      .region (⟨some 10, .mov (.tmp 5), none⟩ ::
        ⟨some 11, .bin .add (.tmp 10) (.val (.int .i64 1)), none⟩ ::
        ⟨some 5, .mov (.tmp 11), none⟩ :: [])))) <|
  .seq (.region (⟨some 4, .mov (.val (.bool true)), none⟩ :: [])) <|
  .ret⟩
theorem e_ref08_truths : cFunc Try.prog kd_CRef08 Try.f118 = some c_ref08_truths := by kernel_rfl
/- touchstone/touchstoneref08.truth: slots l, 0, l, 1 -/
def c_ref08_truth : AFunc := ⟨23, [.tmp 2],
  .seq (.region (⟨some 2, .mov (.val (.bool false)), none⟩ :: [])) <|
  .seq (.region (⟨some 3, .mov (.tmp 0), none⟩ ::
    ⟨some 4, .len false (.tmp 3), none⟩ ::
    ⟨some 5, .bin .gtr (.tmp 4) (.val (.int .i64 0)), none⟩ ::
    ⟨some 6, .mov (.tmp 5), none⟩ ::
    ⟨some 7, .mov (.tmp 0), some (6, true)⟩ ::
    ⟨some 8, .iaddr 2 (.tmp 7) (.val (.int .i64 0)), some (6, true)⟩ ::
    ⟨some 9, .faddr 0 (.tmp 8), some (6, true)⟩ ::
    ⟨some 10, .load false 1 (.tmp 9), some (6, true)⟩ ::
    ⟨some 11, .bin .geq (.tmp 10) (.val (.int .i64 0)), some (6, true)⟩ ::
    ⟨some 12, .pick (.tmp 6) (.tmp 11) (.val (.bool false)), none⟩ ::
    ⟨some 13, .mov (.tmp 12), none⟩ ::
    ⟨some 14, .mov (.tmp 0), some (13, true)⟩ ::
    ⟨some 15, .mov (.tmp 0), some (13, true)⟩ ::
    ⟨some 16, .len false (.tmp 15), some (13, true)⟩ ::
    ⟨some 17, .bin .sub (.tmp 16) (.val (.int .i64 1)), some (13, true)⟩ ::
    ⟨some 18, .iaddr 2 (.tmp 14) (.tmp 17), some (13, true)⟩ ::
    ⟨some 19, .faddr 1 (.tmp 18), some (13, true)⟩ ::
    ⟨some 20, .load false 1 (.tmp 19), some (13, true)⟩ ::
    ⟨some 21, .bin .leq (.tmp 20) (.val (.int .i64 1)), some (13, true)⟩ ::
    ⟨some 22, .pick (.tmp 13) (.tmp 21) (.val (.bool false)), none⟩ ::
    ⟨some 2, .mov (.tmp 22), none⟩ :: [])) <|
  .ret⟩
theorem e_ref08_truth : cFunc Try.prog kd_CRef08 Try.f117 = some c_ref08_truth := by kernel_rfl
/- touchstone/touchstoneref08.signs: slots a, 0, a, 1, i, 3 -/
def c_ref08_signs : AFunc := ⟨22, [.tmp 2],
  .seq (.region (⟨some 2, .mov (.val (.bool false)), none⟩ :: [])) <|
  .seq (.seq (.region (⟨some 3, .mov (.val (.int .i64 0)), none⟩ :: [])) <|
  .block 0 (.loop (.seq (.seq (.region (⟨some 4, .mov (.tmp 3), none⟩ ::
        ⟨some 5, .mov (.tmp 0), none⟩ ::
        ⟨some 6, .len false (.tmp 5), none⟩ ::
        ⟨some 7, .bin .lss (.tmp 4) (.tmp 6), none⟩ :: [])) <|
      .cond (.tmp 7) (.skip) <|
      .exit 0) <|
      .seq (.block 1 (.seq (.region (⟨some 10, .mov (.tmp 0), none⟩ ::
          ⟨some 11, .mov (.tmp 3), none⟩ ::
          ⟨some 12, .iaddr 1 (.tmp 10) (.tmp 11), none⟩ ::
          ⟨some 13, .load false 1 (.tmp 12), none⟩ ::
          ⟨some 14, .bin .neq (.tmp 13) (.val (.int .i64 1)), none⟩ ::
          ⟨some 15, .mov (.tmp 14), none⟩ ::
          ⟨some 16, .mov (.tmp 0), some (15, true)⟩ ::
          ⟨some 17, .mov (.tmp 3), some (15, true)⟩ ::
          ⟨some 18, .iaddr 1 (.tmp 16) (.tmp 17), some (15, true)⟩ ::
          ⟨some 19, .load false 1 (.tmp 18), some (15, true)⟩ ::
          ⟨some 20, .bin .neq (.tmp 19) (.val (.int .i64 (-1))), some (15, true)⟩ ::
          ⟨some 21, .pick (.tmp 15) (.tmp 20) (.val (.bool false)), none⟩ :: [])) <|
        .cond (.tmp 21) (.seq (.region (⟨some 2, .mov (.val (.bool false)), none⟩ :: [])) <|
          .ret) <|
        .skip)) <|
      .region (⟨some 8, .mov (.tmp 3), none⟩ ::
        ⟨some 9, .bin .add (.tmp 8) (.val (.int .i64 1)), none⟩ ::
        ⟨some 3, .mov (.tmp 9), none⟩ :: [])))) <|
  .seq (.region (⟨some 2, .mov (.val (.bool true)), none⟩ :: [])) <|
  .ret⟩
theorem e_ref08_signs : cFunc Try.prog kd_CRef08 Try.f131 = some c_ref08_signs := by kernel_rfl
/- touchstone/touchstoneref08.shape: slots c, 0, c, 1, n, 3, k, 4 -/
def c_ref08_shape : AFunc := ⟨107, [.tmp 2],
  .seq (.region (⟨some 1, .box 4 (.tmp 0), none⟩ ::
    ⟨some 2, .mov (.val (.bool false)), none⟩ :: [])) <|
  .seq (.region (⟨some 5, .faddr 1 (.tmp 1), none⟩ ::
    ⟨some 6, .load false 1 (.tmp 5), none⟩ ::
    ⟨some 7, .len false (.tmp 6), none⟩ ::
    ⟨some 8, .faddr 2 (.tmp 1), none⟩ ::
    ⟨some 9, .load false 1 (.tmp 8), none⟩ ::
    ⟨some 10, .len false (.tmp 9), none⟩ ::
    ⟨some 3, .mov (.tmp 7), none⟩ ::
    ⟨some 4, .mov (.tmp 10), none⟩ :: [])) <|
  .seq (.seq (.region (⟨some 11, .faddr 0 (.tmp 1), none⟩ ::
    ⟨some 12, .load false 1 (.tmp 11), none⟩ :: [])) <|
  .block 0 (.seq (.seq (.region (⟨some 14, .bin .eql (.tmp 12) (.val (.int .i64 1)), none⟩ ::
      ⟨some 13, .mov (.tmp 14), none⟩ :: [])) <|
    .cond (.tmp 13) (.skip) <|
    .seq (.region (⟨some 15, .bin .eql (.tmp 12) (.val (.int .i64 2)), none⟩ ::
      ⟨some 13, .mov (.tmp 15), none⟩ :: [])) <|
    .cond (.tmp 13) (.skip) <|
    .region (⟨some 16, .bin .eql (.tmp 12) (.val (.int .i64 3)), none⟩ ::
      ⟨some 13, .mov (.tmp 16), none⟩ :: [])) <|
    .cond (.tmp 13) (.seq (.region (⟨some 17, .mov (.tmp 3), none⟩ ::
        ⟨some 18, .mov (.tmp 4), none⟩ ::
        ⟨some 19, .bin .eql (.tmp 17) (.tmp 18), none⟩ ::
        ⟨some 2, .mov (.tmp 19), none⟩ :: [])) <|
      .ret) <|
    .seq (.seq (.region (⟨some 21, .bin .eql (.tmp 12) (.val (.int .i64 4)), none⟩ ::
      ⟨some 20, .mov (.tmp 21), none⟩ :: [])) <|
    .cond (.tmp 20) (.skip) <|
    .seq (.region (⟨some 22, .bin .eql (.tmp 12) (.val (.int .i64 5)), none⟩ ::
      ⟨some 20, .mov (.tmp 22), none⟩ :: [])) <|
    .cond (.tmp 20) (.skip) <|
    .region (⟨some 23, .bin .eql (.tmp 12) (.val (.int .i64 6)), none⟩ ::
      ⟨some 20, .mov (.tmp 23), none⟩ :: [])) <|
    .cond (.tmp 20) (.seq (.region (⟨some 24, .mov (.tmp 3), none⟩ ::
        ⟨some 25, .mov (.tmp 4), none⟩ ::
        ⟨some 26, .bin .add (.tmp 25) (.val (.int .i64 1)), none⟩ ::
        ⟨some 27, .bin .eql (.tmp 24) (.tmp 26), none⟩ ::
        ⟨some 2, .mov (.tmp 27), none⟩ :: [])) <|
      .ret) <|
    .seq (.seq (.region (⟨some 29, .bin .eql (.tmp 12) (.val (.int .i64 7)), none⟩ ::
      ⟨some 28, .mov (.tmp 29), none⟩ :: [])) <|
    .cond (.tmp 28) (.skip) <|
    .seq (.region (⟨some 30, .bin .eql (.tmp 12) (.val (.int .i64 8)), none⟩ ::
      ⟨some 28, .mov (.tmp 30), none⟩ :: [])) <|
    .cond (.tmp 28) (.skip) <|
    .seq (.region (⟨some 31, .bin .eql (.tmp 12) (.val (.int .i64 9)), none⟩ ::
      ⟨some 28, .mov (.tmp 31), none⟩ :: [])) <|
    .cond (.tmp 28) (.skip) <|
    .region (⟨some 32, .bin .eql (.tmp 12) (.val (.int .i64 14)), none⟩ ::
      ⟨some 28, .mov (.tmp 32), none⟩ :: [])) <|
    .cond (.tmp 28) (.seq (.region (⟨some 33, .mov (.tmp 3), none⟩ ::
        ⟨some 34, .bin .eql (.tmp 33) (.val (.int .i64 3)), none⟩ ::
        ⟨some 35, .mov (.tmp 34), none⟩ ::
        ⟨some 36, .mov (.tmp 4), some (35, true)⟩ ::
        ⟨some 37, .bin .eql (.tmp 36) (.val (.int .i64 0)), some (35, true)⟩ ::
        ⟨some 38, .pick (.tmp 35) (.tmp 37) (.val (.bool false)), none⟩ ::
        ⟨some 2, .mov (.tmp 38), none⟩ :: [])) <|
      .ret) <|
    .seq (.seq (.region (⟨some 40, .bin .eql (.tmp 12) (.val (.int .i64 10)), none⟩ ::
      ⟨some 39, .mov (.tmp 40), none⟩ :: [])) <|
    .cond (.tmp 39) (.skip) <|
    .region (⟨some 41, .bin .eql (.tmp 12) (.val (.int .i64 15)), none⟩ ::
      ⟨some 39, .mov (.tmp 41), none⟩ :: [])) <|
    .cond (.tmp 39) (.seq (.region (⟨some 42, .mov (.tmp 3), none⟩ ::
        ⟨some 43, .bin .eql (.tmp 42) (.val (.int .i64 2)), none⟩ ::
        ⟨some 44, .mov (.tmp 43), none⟩ ::
        ⟨some 45, .mov (.tmp 4), some (44, true)⟩ ::
        ⟨some 46, .bin .eql (.tmp 45) (.val (.int .i64 0)), some (44, true)⟩ ::
        ⟨some 47, .pick (.tmp 44) (.tmp 46) (.val (.bool false)), none⟩ ::
        ⟨some 2, .mov (.tmp 47), none⟩ :: [])) <|
      .ret) <|
    .seq (.region (⟨some 49, .bin .eql (.tmp 12) (.val (.int .i64 11)), none⟩ ::
      ⟨some 48, .mov (.tmp 49), none⟩ :: [])) <|
    .cond (.tmp 48) (.seq (.region (⟨some 50, .mov (.tmp 3), none⟩ ::
        ⟨some 51, .mov (.tmp 4), none⟩ ::
        ⟨some 52, .bin .eql (.tmp 50) (.tmp 51), none⟩ ::
        ⟨some 53, .mov (.tmp 52), none⟩ ::
        ⟨some 54, .faddr 2 (.tmp 1), some (53, true)⟩ ::
        ⟨some 55, .load false 1 (.tmp 54), some (53, true)⟩ ::
        ⟨some 56, .call (.val (.fn (.func 131) [])) [(.tmp 55)], some (53, true)⟩ ::
        ⟨some 57, .pick (.tmp 53) (.tmp 56) (.val (.bool false)), none⟩ ::
        ⟨some 2, .mov (.tmp 57), none⟩ :: [])) <|
      .ret) <|
    .seq (.seq (.region (⟨some 59, .bin .eql (.tmp 12) (.val (.int .i64 12)), none⟩ ::
      ⟨some 58, .mov (.tmp 59), none⟩ :: [])) <|
    .cond (.tmp 58) (.skip) <|
    .region (⟨some 60, .bin .eql (.tmp 12) (.val (.int .i64 13)), none⟩ ::
      ⟨some 58, .mov (.tmp 60), none⟩ :: [])) <|
    .cond (.tmp 58) (.seq (.region (⟨some 61, .mov (.tmp 3), none⟩ ::
        ⟨some 62, .bin .geq (.tmp 61) (.val (.int .i64 1)), none⟩ ::
        ⟨some 63, .mov (.tmp 62), none⟩ ::
        ⟨some 64, .mov (.tmp 4), some (63, true)⟩ ::
        ⟨some 65, .bin .eql (.tmp 64) (.val (.int .i64 0)), some (63, true)⟩ ::
        ⟨some 66, .pick (.tmp 63) (.tmp 65) (.val (.bool false)), none⟩ ::
        ⟨some 2, .mov (.tmp 66), none⟩ :: [])) <|
      .ret) <|
    .seq (.region (⟨some 68, .bin .eql (.tmp 12) (.val (.int .i64 16)), none⟩ ::
      ⟨some 67, .mov (.tmp 68), none⟩ :: [])) <|
    .cond (.tmp 67) (.seq (.region (⟨some 69, .mov (.tmp 3), none⟩ ::
        ⟨some 70, .bin .eql (.tmp 69) (.val (.int .i64 2)), none⟩ ::
        ⟨some 71, .mov (.tmp 70), none⟩ ::
        ⟨some 72, .mov (.tmp 4), some (71, true)⟩ ::
        ⟨some 73, .bin .geq (.tmp 72) (.val (.int .i64 1)), some (71, true)⟩ ::
        ⟨some 74, .pick (.tmp 71) (.tmp 73) (.val (.bool false)), none⟩ ::
        ⟨some 75, .mov (.tmp 74), none⟩ ::
        ⟨some 76, .mov (.tmp 4), some (75, true)⟩ ::
        ⟨some 77, .bin .leq (.tmp 76) (.val (.int .i64 64)), some (75, true)⟩ ::
        ⟨some 78, .pick (.tmp 75) (.tmp 77) (.val (.bool false)), none⟩ ::
        ⟨some 2, .mov (.tmp 78), none⟩ :: [])) <|
      .ret) <|
    .seq (.region (⟨some 80, .bin .eql (.tmp 12) (.val (.int .i64 17)), none⟩ ::
      ⟨some 79, .mov (.tmp 80), none⟩ :: [])) <|
    .cond (.tmp 79) (.seq (.region (⟨some 81, .mov (.tmp 3), none⟩ ::
        ⟨some 82, .bin .geq (.tmp 81) (.val (.int .i64 3)), none⟩ ::
        ⟨some 83, .mov (.tmp 82), none⟩ ::
        ⟨some 84, .mov (.tmp 4), some (83, true)⟩ ::
        ⟨some 85, .bin .eql (.tmp 84) (.val (.int .i64 0)), some (83, true)⟩ ::
        ⟨some 86, .pick (.tmp 83) (.tmp 85) (.val (.bool false)), none⟩ ::
        ⟨some 2, .mov (.tmp 86), none⟩ :: [])) <|
      .ret) <|
    .seq (.region (⟨some 88, .bin .eql (.tmp 12) (.val (.int .i64 18)), none⟩ ::
      ⟨some 87, .mov (.tmp 88), none⟩ :: [])) <|
    .cond (.tmp 87) (.seq (.region (⟨some 89, .mov (.tmp 4), none⟩ ::
        ⟨some 90, .bin .eql (.tmp 89) (.val (.int .i64 0)), none⟩ ::
        ⟨some 2, .mov (.tmp 90), none⟩ :: [])) <|
      .ret) <|
    .seq (.region (⟨some 92, .bin .eql (.tmp 12) (.val (.int .i64 19)), none⟩ ::
      ⟨some 91, .mov (.tmp 92), none⟩ :: [])) <|
    .cond (.tmp 91) (.seq (.region (⟨some 93, .mov (.tmp 4), none⟩ ::
        ⟨some 94, .mov (.tmp 3), none⟩ ::
        ⟨some 95, .bin .mul (.val (.int .i64 2)) (.tmp 94), none⟩ ::
        ⟨some 96, .bin .eql (.tmp 93) (.tmp 95), none⟩ ::
        ⟨some 97, .mov (.tmp 96), none⟩ ::
        ⟨some 98, .faddr 2 (.tmp 1), some (97, true)⟩ ::
        ⟨some 99, .load false 1 (.tmp 98), some (97, true)⟩ ::
        ⟨some 100, .call (.val (.fn (.func 132) [])) [(.tmp 99)], some (97, true)⟩ ::
        ⟨some 101, .pick (.tmp 97) (.tmp 100) (.val (.bool false)), none⟩ ::
        ⟨some 102, .mov (.tmp 101), none⟩ ::
        ⟨some 103, .faddr 3 (.tmp 1), some (102, true)⟩ ::
        ⟨some 104, .load false 1 (.tmp 103), some (102, true)⟩ ::
        ⟨some 105, .bin .geq (.tmp 104) (.val (.int .i64 0)), some (102, true)⟩ ::
        ⟨some 106, .pick (.tmp 102) (.tmp 105) (.val (.bool false)), none⟩ ::
        ⟨some 2, .mov (.tmp 106), none⟩ :: [])) <|
      .ret) <|
    .skip)) <|
  .seq (.region (⟨some 2, .mov (.val (.bool false)), none⟩ :: [])) <|
  .ret⟩
theorem e_ref08_shape : cFunc Try.prog kd_CRef08 Try.f115 = some c_ref08_shape := by kernel_rfl
/- touchstone/touchstoneref08.none: slots a, 0, a, 1, i, 3 -/
def c_ref08_none : AFunc := ⟨15, [.tmp 2],
  .seq (.region (⟨some 2, .mov (.val (.bool false)), none⟩ :: [])) <|
  .seq (.seq (.region (⟨some 3, .mov (.val (.int .i64 0)), none⟩ :: [])) <|
  .block 0 (.loop (.seq (.seq (.region (⟨some 4, .mov (.tmp 3), none⟩ ::
        ⟨some 5, .mov (.tmp 0), none⟩ ::
        ⟨some 6, .len false (.tmp 5), none⟩ ::
        ⟨some 7, .bin .lss (.tmp 4) (.tmp 6), none⟩ :: [])) <|
      .cond (.tmp 7) (.skip) <|
      .exit 0) <|
      .seq (.block 1 (.seq (.region (⟨some 10, .mov (.tmp 0), none⟩ ::
          ⟨some 11, .mov (.tmp 3), none⟩ ::
          ⟨some 12, .iaddr 1 (.tmp 10) (.tmp 11), none⟩ ::
          ⟨some 13, .load false 1 (.tmp 12), none⟩ ::
          ⟨some 14, .bin .lss (.tmp 13) (.val (.int .i64 0)), none⟩ :: [])) <|
        .cond (.tmp 14) (.seq (.region (⟨some 2, .mov (.val (.bool false)), none⟩ :: [])) <|
          .ret) <|
        .skip)) <|
      .region (⟨some 8, .mov (.tmp 3), none⟩ ::
        ⟨some 9, .bin .add (.tmp 8) (.val (.int .i64 1)), none⟩ ::
        ⟨some 3, .mov (.tmp 9), none⟩ :: [])))) <|
  .seq (.region (⟨some 2, .mov (.val (.bool true)), none⟩ :: [])) <|
  .ret⟩
theorem e_ref08_none : cFunc Try.prog kd_CRef08 Try.f132 = some c_ref08_none := by kernel_rfl
/- touchstone/touchstoneref08.named: slots kind, 0, kind, 1 -/
def c_ref08_named : AFunc := ⟨13, [.tmp 2],
  .seq (.region (⟨some 2, .mov (.val (.bool false)), none⟩ :: [])) <|
  .seq (.region (⟨some 3, .mov (.tmp 0), none⟩ ::
    ⟨some 4, .bin .geq (.tmp 3) (.val (.int .i64 1)), none⟩ ::
    ⟨some 5, .mov (.tmp 4), none⟩ ::
    ⟨some 6, .mov (.tmp 0), some (5, true)⟩ ::
    ⟨some 7, .bin .leq (.tmp 6) (.val (.int .i64 6)), some (5, true)⟩ ::
    ⟨some 8, .pick (.tmp 5) (.tmp 7) (.val (.bool false)), none⟩ ::
    ⟨some 9, .mov (.tmp 8), none⟩ ::
    ⟨some 10, .mov (.tmp 0), some (9, false)⟩ ::
    ⟨some 11, .bin .eql (.tmp 10) (.val (.int .i64 19)), some (9, false)⟩ ::
    ⟨some 12, .pick (.tmp 9) (.val (.bool true)) (.tmp 11), none⟩ ::
    ⟨some 2, .mov (.tmp 12), none⟩ :: [])) <|
  .ret⟩
theorem e_ref08_named : cFunc Try.prog kd_CRef08 Try.f116 = some c_ref08_named := by kernel_rfl
/- touchstone/touchstoneref08.Con: slots m, 0, c, 1, m, 2, c, 3, i, 5, i, 6 -/
def c_ref08_Con : AFunc := ⟨99, [.tmp 4],
  .seq (.region (⟨some 2, .box 4 (.tmp 0), none⟩ ::
    ⟨some 3, .box 4 (.tmp 1), none⟩ ::
    ⟨some 4, .mov (.val (.bool false)), none⟩ :: [])) <|
  .seq (.seq (.region (⟨some 7, .load true 4 (.tmp 3), none⟩ ::
    ⟨some 8, .call (.val (.fn (.func 115) [])) [(.tmp 7)], none⟩ ::
    ⟨some 9, .un .not (.tmp 8), none⟩ ::
    ⟨some 10, .mov (.tmp 9), none⟩ ::
    ⟨some 11, .faddr 1 (.tmp 3), some (10, false)⟩ ::
    ⟨some 12, .load false 1 (.tmp 11), some (10, false)⟩ ::
    ⟨some 13, .len false (.tmp 12), some (10, false)⟩ ::
    ⟨some 14, .bin .gtr (.tmp 13) (.val (.int .i64 32)), some (10, false)⟩ ::
    ⟨some 15, .pick (.tmp 10) (.val (.bool true)) (.tmp 14), none⟩ ::
    ⟨some 16, .mov (.tmp 15), none⟩ ::
    ⟨some 17, .faddr 3 (.tmp 3), some (16, false)⟩ ::
    ⟨some 18, .load false 1 (.tmp 17), some (16, false)⟩ ::
    ⟨some 19, .call (.val (.fn (.func 76) [])) [(.tmp 18)], some (16, false)⟩ ::
    ⟨some 20, .un .not (.tmp 19), some (16, false)⟩ ::
    ⟨some 21, .pick (.tmp 16) (.val (.bool true)) (.tmp 20), none⟩ ::
    ⟨some 22, .mov (.tmp 21), none⟩ ::
    ⟨some 23, .faddr 3 (.tmp 3), some (22, false)⟩ ::
    ⟨some 24, .load false 1 (.tmp 23), some (22, false)⟩ ::
    ⟨some 25, .bin .neq (.tmp 24) (.val (.int .i64 0)), some (22, false)⟩ ::
    ⟨some 26, .mov (.tmp 25), some (22, false)⟩ ::
    ⟨some 27, .faddr 0 (.tmp 3), some (26, true)⟩ ::
    ⟨some 28, .load false 1 (.tmp 27), some (26, true)⟩ ::
    ⟨some 29, .call (.val (.fn (.func 116) [])) [(.tmp 28)], some (26, true)⟩ ::
    ⟨some 30, .un .not (.tmp 29), some (26, true)⟩ ::
    ⟨some 31, .pick (.tmp 26) (.tmp 30) (.val (.bool false)), some (22, false)⟩ ::
    ⟨some 32, .pick (.tmp 22) (.val (.bool true)) (.tmp 31), none⟩ :: [])) <|
  .cond (.tmp 32) (.seq (.region (⟨some 4, .mov (.val (.bool false)), none⟩ :: [])) <|
    .ret) <|
  .skip) <|
  .seq (.seq (.region (⟨some 5, .mov (.val (.int .i64 0)), none⟩ :: [])) <|
  .block 0 (.loop (.seq (.seq (.region (⟨some 33, .mov (.tmp 5), none⟩ ::
        ⟨some 34, .faddr 1 (.tmp 3), none⟩ ::
        ⟨some 35, .load false 1 (.tmp 34), none⟩ ::
        ⟨some 36, .len false (.tmp 35), none⟩ ::
        ⟨some 37, .bin .lss (.tmp 33) (.tmp 36), none⟩ :: [])) <|
      .cond (.tmp 37) (.skip) <|
      .exit 0) <|
      .seq (.block 1 (.seq (.region (⟨some 40, .faddr 1 (.tmp 3), none⟩ ::
          ⟨some 41, .load false 1 (.tmp 40), none⟩ ::
          ⟨some 42, .mov (.tmp 5), none⟩ ::
          ⟨some 43, .iaddr 1 (.tmp 41) (.tmp 42), none⟩ ::
          ⟨some 44, .load false 1 (.tmp 43), none⟩ ::
          ⟨some 45, .bin .lss (.tmp 44) (.val (.int .i64 0)), none⟩ ::
          ⟨some 46, .mov (.tmp 45), none⟩ ::
          ⟨some 47, .faddr 1 (.tmp 3), some (46, false)⟩ ::
          ⟨some 48, .load false 1 (.tmp 47), some (46, false)⟩ ::
          ⟨some 49, .mov (.tmp 5), some (46, false)⟩ ::
          ⟨some 50, .iaddr 1 (.tmp 48) (.tmp 49), some (46, false)⟩ ::
          ⟨some 51, .load false 1 (.tmp 50), some (46, false)⟩ ::
          ⟨some 52, .faddr 0 (.tmp 2), some (46, false)⟩ ::
          ⟨some 53, .load false 1 (.tmp 52), some (46, false)⟩ ::
          ⟨some 54, .len false (.tmp 53), some (46, false)⟩ ::
          ⟨some 55, .bin .geq (.tmp 51) (.tmp 54), some (46, false)⟩ ::
          ⟨some 56, .pick (.tmp 46) (.val (.bool true)) (.tmp 55), none⟩ :: [])) <|
        .cond (.tmp 56) (.seq (.region (⟨some 4, .mov (.val (.bool false)), none⟩ :: [])) <|
          .ret) <|
        .skip)) <|
      .region (⟨some 38, .mov (.tmp 5), none⟩ ::
        ⟨some 39, .bin .add (.tmp 38) (.val (.int .i64 1)), none⟩ ::
        ⟨some 5, .mov (.tmp 39), none⟩ :: [])))) <|
  .seq (.seq (.region (⟨some 6, .mov (.val (.int .i64 0)), none⟩ :: [])) <|
  .block 2 (.loop (.seq (.seq (.region (⟨some 57, .mov (.tmp 6), none⟩ ::
        ⟨some 58, .faddr 2 (.tmp 3), none⟩ ::
        ⟨some 59, .load false 1 (.tmp 58), none⟩ ::
        ⟨some 60, .len false (.tmp 59), none⟩ ::
        ⟨some 61, .bin .lss (.tmp 57) (.tmp 60), none⟩ :: [])) <|
      .cond (.tmp 61) (.skip) <|
      .exit 2) <|
      .seq (.block 3 (.seq (.region (⟨some 64, .faddr 2 (.tmp 3), none⟩ ::
          ⟨some 65, .load false 1 (.tmp 64), none⟩ ::
          ⟨some 66, .mov (.tmp 6), none⟩ ::
          ⟨some 67, .iaddr 1 (.tmp 65) (.tmp 66), none⟩ ::
          ⟨some 68, .load false 1 (.tmp 67), none⟩ ::
          ⟨some 69, .call (.val (.fn (.func 76) [])) [(.tmp 68)], none⟩ ::
          ⟨some 70, .un .not (.tmp 69), none⟩ :: [])) <|
        .cond (.tmp 70) (.seq (.region (⟨some 4, .mov (.val (.bool false)), none⟩ :: [])) <|
          .ret) <|
        .skip)) <|
      .region (⟨some 62, .mov (.tmp 6), none⟩ ::
        ⟨some 63, .bin .add (.tmp 62) (.val (.int .i64 1)), none⟩ ::
        ⟨some 6, .mov (.tmp 63), none⟩ :: [])))) <|
  .seq (.seq (.region (⟨some 71, .faddr 0 (.tmp 3), none⟩ ::
    ⟨some 72, .load false 1 (.tmp 71), none⟩ :: [])) <|
  .block 4 (.seq (.seq (.region (⟨some 74, .bin .eql (.tmp 72) (.val (.int .i64 4)), none⟩ ::
      ⟨some 73, .mov (.tmp 74), none⟩ :: [])) <|
    .cond (.tmp 73) (.skip) <|
    .seq (.region (⟨some 75, .bin .eql (.tmp 72) (.val (.int .i64 5)), none⟩ ::
      ⟨some 73, .mov (.tmp 75), none⟩ :: [])) <|
    .cond (.tmp 73) (.skip) <|
    .region (⟨some 76, .bin .eql (.tmp 72) (.val (.int .i64 6)), none⟩ ::
      ⟨some 73, .mov (.tmp 76), none⟩ :: [])) <|
    .cond (.tmp 73) (.seq (.region (⟨some 77, .faddr 0 (.tmp 2), none⟩ ::
        ⟨some 78, .load false 1 (.tmp 77), none⟩ ::
        ⟨some 79, .faddr 1 (.tmp 3), none⟩ ::
        ⟨some 80, .load false 1 (.tmp 79), none⟩ ::
        ⟨some 81, .faddr 1 (.tmp 3), none⟩ ::
        ⟨some 82, .load false 1 (.tmp 81), none⟩ ::
        ⟨some 83, .len false (.tmp 82), none⟩ ::
        ⟨some 84, .bin .sub (.tmp 83) (.val (.int .i64 1)), none⟩ ::
        ⟨some 85, .iaddr 1 (.tmp 80) (.tmp 84), none⟩ ::
        ⟨some 86, .load false 1 (.tmp 85), none⟩ ::
        ⟨some 87, .iaddr 1 (.tmp 78) (.tmp 86), none⟩ ::
        ⟨some 88, .load false 1 (.tmp 87), none⟩ ::
        ⟨some 89, .call (.val (.fn (.func 117) [])) [(.tmp 88)], none⟩ ::
        ⟨some 4, .mov (.tmp 89), none⟩ :: [])) <|
      .ret) <|
    .seq (.seq (.region (⟨some 91, .bin .eql (.tmp 72) (.val (.int .i64 11)), none⟩ ::
      ⟨some 90, .mov (.tmp 91), none⟩ :: [])) <|
    .cond (.tmp 90) (.skip) <|
    .seq (.region (⟨some 92, .bin .eql (.tmp 72) (.val (.int .i64 12)), none⟩ ::
      ⟨some 90, .mov (.tmp 92), none⟩ :: [])) <|
    .cond (.tmp 90) (.skip) <|
    .seq (.region (⟨some 93, .bin .eql (.tmp 72) (.val (.int .i64 13)), none⟩ ::
      ⟨some 90, .mov (.tmp 93), none⟩ :: [])) <|
    .cond (.tmp 90) (.skip) <|
    .region (⟨some 94, .bin .eql (.tmp 72) (.val (.int .i64 14)), none⟩ ::
      ⟨some 90, .mov (.tmp 94), none⟩ :: [])) <|
    .cond (.tmp 90) (.seq (.region (⟨some 95, .load true 4 (.tmp 2), none⟩ ::
        ⟨some 96, .faddr 1 (.tmp 3), none⟩ ::
        ⟨some 97, .load false 1 (.tmp 96), none⟩ ::
        ⟨some 98, .call (.val (.fn (.func 118) [])) [(.tmp 95), (.tmp 97)], none⟩ ::
        ⟨some 4, .mov (.tmp 98), none⟩ :: [])) <|
      .ret) <|
    .skip)) <|
  .seq (.region (⟨some 4, .mov (.val (.bool true)), none⟩ :: [])) <|
  .ret⟩
theorem e_ref08_Con : cFunc Try.prog kd_CRef08 Try.f92 = some c_ref08_Con := by kernel_rfl
/- touchstone/touchstoneref08.Right: slots m, 0, m, 1, i, 3, i, 4 -/
def c_ref08_Right : AFunc := ⟨71, [.tmp 2],
  .seq (.region (⟨some 1, .box 4 (.tmp 0), none⟩ ::
    ⟨some 2, .mov (.val (.bool false)), none⟩ :: [])) <|
  .seq (.seq (.region (⟨some 5, .faddr 0 (.tmp 1), none⟩ ::
    ⟨some 6, .load false 1 (.tmp 5), none⟩ ::
    ⟨some 7, .len false (.tmp 6), none⟩ ::
    ⟨some 8, .bin .gtr (.tmp 7) (.val (.int .i64 64)), none⟩ ::
    ⟨some 9, .mov (.tmp 8), none⟩ ::
    ⟨some 10, .faddr 1 (.tmp 1), some (9, false)⟩ ::
    ⟨some 11, .load false 1 (.tmp 10), some (9, false)⟩ ::
    ⟨some 12, .len false (.tmp 11), some (9, false)⟩ ::
    ⟨some 13, .bin .gtr (.tmp 12) (.val (.int .i64 64)), some (9, false)⟩ ::
    ⟨some 14, .pick (.tmp 9) (.val (.bool true)) (.tmp 13), none⟩ :: [])) <|
  .cond (.tmp 14) (.seq (.region (⟨some 2, .mov (.val (.bool false)), none⟩ :: [])) <|
    .ret) <|
  .skip) <|
  .seq (.seq (.region (⟨some 3, .mov (.val (.int .i64 0)), none⟩ :: [])) <|
  .block 0 (.loop (.seq (.seq (.region (⟨some 15, .mov (.tmp 3), none⟩ ::
        ⟨some 16, .faddr 0 (.tmp 1), none⟩ ::
        ⟨some 17, .load false 1 (.tmp 16), none⟩ ::
        ⟨some 18, .len false (.tmp 17), none⟩ ::
        ⟨some 19, .bin .lss (.tmp 15) (.tmp 18), none⟩ :: [])) <|
      .cond (.tmp 19) (.skip) <|
      .exit 0) <|
      .seq (.block 1 (.seq (.region (⟨some 22, .faddr 0 (.tmp 1), none⟩ ::
          ⟨some 23, .load false 1 (.tmp 22), none⟩ ::
          ⟨some 24, .mov (.tmp 3), none⟩ ::
          ⟨some 25, .iaddr 1 (.tmp 23) (.tmp 24), none⟩ ::
          ⟨some 26, .load false 1 (.tmp 25), none⟩ ::
          ⟨some 27, .call (.val (.fn (.func 91) [])) [(.tmp 26)], none⟩ ::
          ⟨some 28, .un .not (.tmp 27), none⟩ :: [])) <|
        .cond (.tmp 28) (.seq (.region (⟨some 2, .mov (.val (.bool false)), none⟩ :: [])) <|
          .ret) <|
        .skip)) <|
      .region (⟨some 20, .mov (.tmp 3), none⟩ ::
        ⟨some 21, .bin .add (.tmp 20) (.val (.int .i64 1)), none⟩ ::
        ⟨some 3, .mov (.tmp 21), none⟩ :: [])))) <|
  .seq (.seq (.region (⟨some 4, .mov (.val (.int .i64 0)), none⟩ :: [])) <|
  .block 2 (.loop (.seq (.seq (.region (⟨some 29, .mov (.tmp 4), none⟩ ::
        ⟨some 30, .faddr 1 (.tmp 1), none⟩ ::
        ⟨some 31, .load false 1 (.tmp 30), none⟩ ::
        ⟨some 32, .len false (.tmp 31), none⟩ ::
        ⟨some 33, .bin .lss (.tmp 29) (.tmp 32), none⟩ :: [])) <|
      .cond (.tmp 33) (.skip) <|
      .exit 2) <|
      .seq (.block 3 (.seq (.region (⟨some 36, .load true 4 (.tmp 1), none⟩ ::
          ⟨some 37, .faddr 1 (.tmp 1), none⟩ ::
          ⟨some 38, .load false 1 (.tmp 37), none⟩ ::
          ⟨some 39, .mov (.tmp 4), none⟩ ::
          ⟨some 40, .iaddr 4 (.tmp 38) (.tmp 39), none⟩ ::
          ⟨some 41, .load true 4 (.tmp 40), none⟩ ::
          ⟨some 42, .call (.val (.fn (.func 92) [])) [(.tmp 36), (.tmp 41)], none⟩ ::
          ⟨some 43, .un .not (.tmp 42), none⟩ :: [])) <|
        .cond (.tmp 43) (.seq (.region (⟨some 2, .mov (.val (.bool false)), none⟩ :: [])) <|
          .ret) <|
        .skip)) <|
      .region (⟨some 34, .mov (.tmp 4), none⟩ ::
        ⟨some 35, .bin .add (.tmp 34) (.val (.int .i64 1)), none⟩ ::
        ⟨some 4, .mov (.tmp 35), none⟩ :: [])))) <|
  .seq (.seq (.region (⟨some 44, .faddr 2 (.tmp 1), none⟩ ::
    ⟨some 45, .load false 1 (.tmp 44), none⟩ ::
    ⟨some 46, .bin .eql (.tmp 45) (.val (.int .i64 0)), none⟩ :: [])) <|
  .cond (.tmp 46) (.seq (.region (⟨some 47, .faddr 3 (.tmp 1), none⟩ ::
      ⟨some 48, .load false 1 (.tmp 47), none⟩ ::
      ⟨some 49, .bin .eql (.tmp 48) (.val (.int .i64 0)), none⟩ ::
      ⟨some 2, .mov (.tmp 49), none⟩ :: [])) <|
    .ret) <|
  .skip) <|
  .seq (.region (⟨some 50, .faddr 2 (.tmp 1), none⟩ ::
    ⟨some 51, .load false 1 (.tmp 50), none⟩ ::
    ⟨some 52, .bin .eql (.tmp 51) (.val (.int .i64 1)), none⟩ ::
    ⟨some 53, .mov (.tmp 52), none⟩ ::
    ⟨some 54, .faddr 2 (.tmp 1), some (53, false)⟩ ::
    ⟨some 55, .load false 1 (.tmp 54), some (53, false)⟩ ::
    ⟨some 56, .bin .eql (.tmp 55) (.val (.int .i64 2)), some (53, false)⟩ ::
    ⟨some 57, .pick (.tmp 53) (.val (.bool true)) (.tmp 56), none⟩ ::
    ⟨some 58, .mov (.tmp 57), none⟩ ::
    ⟨some 59, .faddr 3 (.tmp 1), some (58, true)⟩ ::
    ⟨some 60, .load false 1 (.tmp 59), some (58, true)⟩ ::
    ⟨some 61, .bin .geq (.tmp 60) (.val (.int .i64 0)), some (58, true)⟩ ::
    ⟨some 62, .pick (.tmp 58) (.tmp 61) (.val (.bool false)), none⟩ ::
    ⟨some 63, .mov (.tmp 62), none⟩ ::
    ⟨some 64, .faddr 3 (.tmp 1), some (63, true)⟩ ::
    ⟨some 65, .load false 1 (.tmp 64), some (63, true)⟩ ::
    ⟨some 66, .faddr 0 (.tmp 1), some (63, true)⟩ ::
    ⟨some 67, .load false 1 (.tmp 66), some (63, true)⟩ ::
    ⟨some 68, .len false (.tmp 67), some (63, true)⟩ ::
    ⟨some 69, .bin .lss (.tmp 65) (.tmp 68), some (63, true)⟩ ::
    ⟨some 70, .pick (.tmp 63) (.tmp 69) (.val (.bool false)), none⟩ ::
    ⟨some 2, .mov (.tmp 70), none⟩ :: [])) <|
  .ret⟩
theorem e_ref08_Right : cFunc Try.prog kd_CRef08 Try.f61 = some c_ref08_Right := by kernel_rfl
/- touchstone/touchstoneref08.Dom: slots l, 0, l, 1, i, 3 -/
def c_ref08_Dom : AFunc := ⟨61, [.tmp 2],
  .seq (.region (⟨some 2, .mov (.val (.bool false)), none⟩ :: [])) <|
  .seq (.seq (.region (⟨some 3, .mov (.val (.int .i64 0)), none⟩ :: [])) <|
  .block 0 (.loop (.seq (.seq (.region (⟨some 4, .mov (.tmp 3), none⟩ ::
        ⟨some 5, .mov (.tmp 0), none⟩ ::
        ⟨some 6, .len false (.tmp 5), none⟩ ::
        ⟨some 7, .bin .lss (.tmp 4) (.tmp 6), none⟩ :: [])) <|
      .cond (.tmp 7) (.skip) <|
      .exit 0) <|
      .seq (.block 1 (.seq (.region (⟨some 10, .mov (.tmp 0), none⟩ ::
          ⟨some 11, .mov (.tmp 3), none⟩ ::
          ⟨some 12, .iaddr 2 (.tmp 10) (.tmp 11), none⟩ ::
          ⟨some 13, .faddr 0 (.tmp 12), none⟩ ::
          ⟨some 14, .load false 1 (.tmp 13), none⟩ ::
          ⟨some 15, .mov (.tmp 0), none⟩ ::
          ⟨some 16, .mov (.tmp 3), none⟩ ::
          ⟨some 17, .iaddr 2 (.tmp 15) (.tmp 16), none⟩ ::
          ⟨some 18, .faddr 1 (.tmp 17), none⟩ ::
          ⟨some 19, .load false 1 (.tmp 18), none⟩ ::
          ⟨some 20, .bin .gtr (.tmp 14) (.tmp 19), none⟩ ::
          ⟨some 21, .mov (.tmp 20), none⟩ ::
          ⟨some 22, .mov (.tmp 0), some (21, false)⟩ ::
          ⟨some 23, .mov (.tmp 3), some (21, false)⟩ ::
          ⟨some 24, .iaddr 2 (.tmp 22) (.tmp 23), some (21, false)⟩ ::
          ⟨some 25, .faddr 0 (.tmp 24), some (21, false)⟩ ::
          ⟨some 26, .load false 1 (.tmp 25), some (21, false)⟩ ::
          ⟨some 27, .call (.val (.fn (.func 76) [])) [(.tmp 26)], some (21, false)⟩ ::
          ⟨some 28, .un .not (.tmp 27), some (21, false)⟩ ::
          ⟨some 29, .pick (.tmp 21) (.val (.bool true)) (.tmp 28), none⟩ ::
          ⟨some 30, .mov (.tmp 29), none⟩ ::
          ⟨some 31, .mov (.tmp 0), some (30, false)⟩ ::
          ⟨some 32, .mov (.tmp 3), some (30, false)⟩ ::
          ⟨some 33, .iaddr 2 (.tmp 31) (.tmp 32), some (30, false)⟩ ::
          ⟨some 34, .faddr 1 (.tmp 33), some (30, false)⟩ ::
          ⟨some 35, .load false 1 (.tmp 34), some (30, false)⟩ ::
          ⟨some 36, .call (.val (.fn (.func 76) [])) [(.tmp 35)], some (30, false)⟩ ::
          ⟨some 37, .un .not (.tmp 36), some (30, false)⟩ ::
          ⟨some 38, .pick (.tmp 30) (.val (.bool true)) (.tmp 37), none⟩ ::
          ⟨some 39, .mov (.tmp 38), none⟩ ::
          ⟨some 40, .mov (.tmp 3), some (39, false)⟩ ::
          ⟨some 41, .bin .gtr (.tmp 40) (.val (.int .i64 0)), some (39, false)⟩ ::
          ⟨some 42, .mov (.tmp 41), some (39, false)⟩ ::
          ⟨some 43, .mov (.tmp 0), some (42, true)⟩ ::
          ⟨some 44, .mov (.tmp 3), some (42, true)⟩ ::
          ⟨some 45, .iaddr 2 (.tmp 43) (.tmp 44), some (42, true)⟩ ::
          ⟨some 46, .faddr 0 (.tmp 45), some (42, true)⟩ ::
          ⟨some 47, .load false 1 (.tmp 46), some (42, true)⟩ ::
          ⟨some 48, .mov (.tmp 0), some (42, true)⟩ ::
          ⟨some 49, .mov (.tmp 3), some (42, true)⟩ ::
          ⟨some 50, .bin .sub (.tmp 49) (.val (.int .i64 1)), some (42, true)⟩ ::
          ⟨some 51, .iaddr 2 (.tmp 48) (.tmp 50), some (42, true)⟩ ::
          ⟨some 52, .faddr 1 (.tmp 51), some (42, true)⟩ ::
          ⟨some 53, .load false 1 (.tmp 52), some (42, true)⟩ ::
          ⟨some 54, .bin .add (.tmp 53) (.val (.int .i64 2)), some (42, true)⟩ ::
          ⟨some 55, .bin .lss (.tmp 47) (.tmp 54), some (42, true)⟩ ::
          ⟨some 56, .pick (.tmp 42) (.tmp 55) (.val (.bool false)), some (39, false)⟩ ::
          ⟨some 57, .pick (.tmp 39) (.val (.bool true)) (.tmp 56), none⟩ :: [])) <|
        .cond (.tmp 57) (.seq (.region (⟨some 2, .mov (.val (.bool false)), none⟩ :: [])) <|
          .ret) <|
        .skip)) <|
      .region (⟨some 8, .mov (.tmp 3), none⟩ ::
        ⟨some 9, .bin .add (.tmp 8) (.val (.int .i64 1)), none⟩ ::
        ⟨some 3, .mov (.tmp 9), none⟩ :: [])))) <|
  .seq (.region (⟨some 58, .mov (.tmp 0), none⟩ ::
    ⟨some 59, .len false (.tmp 58), none⟩ ::
    ⟨some 60, .bin .geq (.tmp 59) (.val (.int .i64 1)), none⟩ ::
    ⟨some 2, .mov (.tmp 60), none⟩ :: [])) <|
  .ret⟩
theorem e_ref08_Dom : cFunc Try.prog kd_CRef08 Try.f91 = some c_ref08_Dom := by kernel_rfl
/- touchstone/touchstonelaw08.Small: slots m, 0, m, 1, _, 3, d, 4, _, 5, c, 6 -/
def c_law08_Small : AFunc := ⟨46, [.tmp 2],
  .seq (.region (⟨some 1, .box 4 (.tmp 0), none⟩ ::
    ⟨some 2, .mov (.val (.bool false)), none⟩ :: [])) <|
  .seq (.seq (.region (⟨some 7, .faddr 0 (.tmp 1), none⟩ ::
    ⟨some 8, .load false 1 (.tmp 7), none⟩ ::
    ⟨some 9, .len false (.tmp 8), none⟩ ::
    ⟨some 10, .bin .gtr (.tmp 9) (.val (.int .i64 200)), none⟩ ::
    ⟨some 11, .mov (.tmp 10), none⟩ ::
    ⟨some 12, .faddr 1 (.tmp 1), some (11, false)⟩ ::
    ⟨some 13, .load false 1 (.tmp 12), some (11, false)⟩ ::
    ⟨some 14, .len false (.tmp 13), some (11, false)⟩ ::
    ⟨some 15, .bin .gtr (.tmp 14) (.val (.int .i64 200)), some (11, false)⟩ ::
    ⟨some 16, .pick (.tmp 11) (.val (.bool true)) (.tmp 15), none⟩ :: [])) <|
  .cond (.tmp 16) (.seq (.region (⟨some 2, .mov (.val (.bool false)), none⟩ :: [])) <|
    .ret) <|
  .skip) <|
  .seq (.seq (.region (⟨some 17, .faddr 0 (.tmp 1), none⟩ ::
    ⟨some 18, .load false 1 (.tmp 17), none⟩ ::
    ⟨some 19, .len false (.tmp 18), none⟩ ::
    ⟨some 20, .mov (.val (.int .i64 0)), none⟩ :: [])) <|
  .block 0 (.loop (.seq (.region (⟨some 21, .bin .lss (.tmp 20) (.tmp 19), none⟩ :: [])) <|
      .seq (.cond (.tmp 21) (.skip) <|
      .exit 0) <|
      .seq (.block 1 (.seq (.region (⟨some 22, .iaddr 1 (.tmp 18) (.tmp 20), none⟩ ::
          ⟨some 23, .load false 1 (.tmp 22), none⟩ ::
          ⟨some 4, .mov (.tmp 23), none⟩ :: [])) <|
        .seq (.region (⟨some 24, .mov (.tmp 4), none⟩ ::
          ⟨some 25, .len false (.tmp 24), none⟩ ::
          ⟨some 26, .bin .gtr (.tmp 25) (.val (.int .i64 400)), none⟩ :: [])) <|
        .cond (.tmp 26) (.seq (.region (⟨some 2, .mov (.val (.bool false)), none⟩ :: [])) <|
          .ret) <|
        .skip)) <|
      .region (⟨some 27, .bin .add (.tmp 20) (.val (.int .i64 1)), none⟩ ::
        ⟨some 20, .mov (.tmp 27), none⟩ :: [])))) <|
  .seq (.seq (.region (⟨some 28, .faddr 1 (.tmp 1), none⟩ ::
    ⟨some 29, .load false 1 (.tmp 28), none⟩ ::
    ⟨some 30, .len false (.tmp 29), none⟩ ::
    ⟨some 31, .mov (.val (.int .i64 0)), none⟩ :: [])) <|
  .block 2 (.loop (.seq (.region (⟨some 32, .bin .lss (.tmp 31) (.tmp 30), none⟩ :: [])) <|
      .seq (.cond (.tmp 32) (.skip) <|
      .exit 2) <|
      .seq (.block 3 (.seq (.region (⟨some 33, .iaddr 4 (.tmp 29) (.tmp 31), none⟩ ::
          ⟨some 34, .load true 4 (.tmp 33), none⟩ ::
          ⟨some 6, .alloc (.agg [(.int .i64 0), .nils, .nils, (.int .i64 0)]), none⟩ ::
          ⟨none, .store 4 (.tmp 6) (.tmp 34), none⟩ :: [])) <|
        .seq (.region (⟨some 35, .faddr 1 (.tmp 6), none⟩ ::
          ⟨some 36, .load false 1 (.tmp 35), none⟩ ::
          ⟨some 37, .len false (.tmp 36), none⟩ ::
          ⟨some 38, .bin .gtr (.tmp 37) (.val (.int .i64 200)), none⟩ ::
          ⟨some 39, .mov (.tmp 38), none⟩ ::
          ⟨some 40, .faddr 2 (.tmp 6), some (39, false)⟩ ::
          ⟨some 41, .load false 1 (.tmp 40), some (39, false)⟩ ::
          ⟨some 42, .len false (.tmp 41), some (39, false)⟩ ::
          ⟨some 43, .bin .gtr (.tmp 42) (.val (.int .i64 200)), some (39, false)⟩ ::
          ⟨some 44, .pick (.tmp 39) (.val (.bool true)) (.tmp 43), none⟩ :: [])) <|
        .cond (.tmp 44) (.seq (.region (⟨some 2, .mov (.val (.bool false)), none⟩ :: [])) <|
          .ret) <|
        .skip)) <|
      .region (⟨some 45, .bin .add (.tmp 31) (.val (.int .i64 1)), none⟩ ::
        ⟨some 31, .mov (.tmp 45), none⟩ :: [])))) <|
  .seq (.region (⟨some 2, .mov (.val (.bool true)), none⟩ :: [])) <|
  .ret⟩
theorem e_law08_Small : cFunc Try.prog kd_CRef08 Try.f33 = some c_law08_Small := by kernel_rfl
/- touchstone/touchstonelaw08.Doms: slots a, 0, b, 1, a, 2, b, 3, i, 5 -/
def c_law08_Doms : AFunc := ⟨27, [.tmp 4],
  .seq (.region (⟨some 4, .mov (.val (.bool false)), none⟩ :: [])) <|
  .seq (.seq (.region (⟨some 6, .mov (.tmp 0), none⟩ ::
    ⟨some 7, .len false (.tmp 6), none⟩ ::
    ⟨some 8, .mov (.tmp 1), none⟩ ::
    ⟨some 9, .len false (.tmp 8), none⟩ ::
    ⟨some 10, .bin .neq (.tmp 7) (.tmp 9), none⟩ :: [])) <|
  .cond (.tmp 10) (.seq (.region (⟨some 4, .mov (.val (.bool false)), none⟩ :: [])) <|
    .ret) <|
  .skip) <|
  .seq (.seq (.region (⟨some 11, .mov (.tmp 0), none⟩ ::
    ⟨some 12, .len false (.tmp 11), none⟩ ::
    ⟨some 13, .mov (.val (.int .i64 0)), none⟩ :: [])) <|
  .block 0 (.loop (.seq (.region (⟨some 14, .bin .lss (.tmp 13) (.tmp 12), none⟩ :: [])) <|
      .seq (.cond (.tmp 14) (.skip) <|
      .exit 0) <|
      .seq (.block 1 (.seq (.region (⟨some 15, .mov (.tmp 13), none⟩ ::
          ⟨some 5, .mov (.tmp 15), none⟩ :: [])) <|
        .seq (.region (⟨some 16, .mov (.tmp 0), none⟩ ::
          ⟨some 17, .mov (.tmp 5), none⟩ ::
          ⟨some 18, .iaddr 1 (.tmp 16) (.tmp 17), none⟩ ::
          ⟨some 19, .load false 1 (.tmp 18), none⟩ ::
          ⟨some 20, .mov (.tmp 1), none⟩ ::
          ⟨some 21, .mov (.tmp 5), none⟩ ::
          ⟨some 22, .iaddr 1 (.tmp 20) (.tmp 21), none⟩ ::
          ⟨some 23, .load false 1 (.tmp 22), none⟩ ::
          ⟨some 24, .call (.val (.fn (.func 24) [])) [(.tmp 19), (.tmp 23)], none⟩ ::
          ⟨some 25, .un .not (.tmp 24), none⟩ :: [])) <|
        .cond (.tmp 25) (.seq (.region (⟨some 4, .mov (.val (.bool false)), none⟩ :: [])) <|
          .ret) <|
        .skip)) <|
      .region (⟨some 26, .bin .add (.tmp 13) (.val (.int .i64 1)), none⟩ ::
        ⟨some 13, .mov (.tmp 26), none⟩ :: [])))) <|
  .seq (.region (⟨some 4, .mov (.val (.bool true)), none⟩ :: [])) <|
  .ret⟩
theorem e_law08_Doms : cFunc Try.prog kd_CRef08 Try.f18 = some c_law08_Doms := by kernel_rfl
/- touchstone/touchstonelaw12.Fits: slots c, 0, d, 1, c, 2, d, 3 -/
def c_law12_Fits : AFunc := ⟨15, [.tmp 4],
  .seq (.region (⟨some 2, .box 4 (.tmp 0), none⟩ ::
    ⟨some 4, .mov (.val (.bool false)), none⟩ :: [])) <|
  .seq (.region (⟨some 5, .mov (.tmp 1), none⟩ ::
    ⟨some 6, .load true 4 (.tmp 2), none⟩ ::
    ⟨some 7, .bslice 4 [(.tmp 6)], none⟩ ::
    ⟨some 8, .build [.nils, .nils, (.int .i64 0), (.int .i64 0)] [(0, 1, (.tmp 5)), (1, 1, (.tmp 7))], none⟩ ::
    ⟨some 9, .call (.val (.fn (.func 33) [])) [(.tmp 8)], none⟩ ::
    ⟨some 10, .mov (.tmp 9), none⟩ ::
    ⟨some 11, .mov (.tmp 1), some (10, true)⟩ ::
    ⟨some 12, .len false (.tmp 11), some (10, true)⟩ ::
    ⟨some 13, .bin .leq (.tmp 12) (.val (.int .i64 100)), some (10, true)⟩ ::
    ⟨some 14, .pick (.tmp 10) (.tmp 13) (.val (.bool false)), none⟩ ::
    ⟨some 4, .mov (.tmp 14), none⟩ :: [])) <|
  .ret⟩
theorem e_law12_Fits : cFunc Try.prog kd_CRef08 Try.f15 = some c_law12_Fits := by kernel_rfl
/- touchstone/touchstoneref12.Fit: slots c, 0, d, 1, c, 2, d, 3 -/
def c_ref12_Fit : AFunc := ⟨10, [.tmp 4],
  .seq (.region (⟨some 2, .box 4 (.tmp 0), none⟩ ::
    ⟨some 4, .mov (.val (.bool false)), none⟩ :: [])) <|
  .seq (.region (⟨some 5, .mov (.tmp 1), none⟩ ::
    ⟨some 6, .load true 4 (.tmp 2), none⟩ ::
    ⟨some 7, .bslice 4 [(.tmp 6)], none⟩ ::
    ⟨some 8, .build [.nils, .nils, (.int .i64 0), (.int .i64 0)] [(0, 1, (.tmp 5)), (1, 1, (.tmp 7))], none⟩ ::
    ⟨some 9, .call (.val (.fn (.func 61) [])) [(.tmp 8)], none⟩ ::
    ⟨some 4, .mov (.tmp 9), none⟩ :: [])) <|
  .ret⟩
theorem e_ref12_Fit : cFunc Try.prog kd_CRef08 Try.f30 = some c_ref12_Fit := by kernel_rfl
end Go.Proofs.Ytclpkkbamgmooaa
