/- The code of functions, as abstract code. Printed by program. What the functions of package touchstoneref08 compute. What the functions of package touchstoneref08 compute: shape. What the functions of package touchstoneref08 compute: truths, Con. What the functions of package touchstoneref08 compute: Con. What the functions of package touchstoneref08 compute: Right. What the functions of package touchstonelaw08 compute that other chapters ask; Fits, Fit. -/
import Derived.Test.YtnhedjpghpdbdaaAv2
import Derived.Test.YtnhedjpghpdbdaaProg
import Derived.Test.YtnhedjpghpdbdaaGMod
import Derived.Test.YtnhedjpghpdbdaaGSet
namespace Go.Proofs.Ytnhedjpghpdbdaa
open Av
set_option linter.unusedVariables false
set_option maxRecDepth 100000
def kd_CRef08 (f : Nat) : Nat := 0
/- touchstone/touchstoneref08.truths: slots m, 0, x, 1, m, 2, x, 3, i, 5 -/
def c_ref08_truths : AFunc := ⟨22, [.tmp 4],
  .seq (.region (⟨some 2, .box 4 (.tmp 0), none⟩ ::
    ⟨some 4, .mov (.val (.bool false)), none⟩ :: [])) <|
  .seq (.seq (.region (⟨some 5, .mov (.val (.int .i64 0)), none⟩ :: [])) <|
  .block 0 (.loop (.seq (.seq (.region (⟨some 6, .mov (.tmp 5), none⟩ ::
        ⟨some 7, .mov (.tmp 1), none⟩ ::
        ⟨some 8, .len false (.tmp 7), none⟩ ::
        ⟨some 9, .bin .lss (.tmp 6) (.tmp 8), none⟩ :: [])) <|
      .cond (.tmp 9) (.skip) <|
      .exit 0) <|
      .seq (.block 1 (.seq (.region (⟨some 12, .faddr 0 (.tmp 2), none⟩ ::
          ⟨some 13, .load false 1 (.tmp 12), none⟩ ::
          ⟨some 14, .mov (.tmp 1), none⟩ ::
          ⟨some 15, .mov (.tmp 5), none⟩ ::
          ⟨some 16, .iaddr 1 (.tmp 14) (.tmp 15), none⟩ ::
          ⟨some 17, .load false 1 (.tmp 16), none⟩ ::
          ⟨some 18, .iaddr 1 (.tmp 13) (.tmp 17), none⟩ ::
          ⟨some 19, .load false 1 (.tmp 18), none⟩ ::
          ⟨some 20, .call (.val (.fn (.func 99) [])) [(.tmp 19)], none⟩ ::
          ⟨some 21, .un .not (.tmp 20), none⟩ :: [])) <|
        .cond (.tmp 21) (.seq (.region (⟨some 4, .mov (.val (.bool false)), none⟩ :: [])) <|
          .ret) <|
        .skip)) <|
      .region (⟨some 10, .mov (.tmp 5), none⟩ ::
        ⟨some 11, .bin .add (.tmp 10) (.val (.int .i64 1)), none⟩ ::
        ⟨some 5, .mov (.tmp 11), none⟩ :: [])))) <|
  .seq (.region (⟨some 4, .mov (.val (.bool true)), none⟩ :: [])) <|
  .ret⟩
theorem e_ref08_truths : cFunc Try.prog kd_CRef08 Try.f100 = some c_ref08_truths := by kernel_rfl
/- touchstone/touchstoneref08.truth: slots l, 0, l, 1 -/
def c_ref08_truth : AFunc := ⟨23, [.tmp 2],
  .seq (.region (⟨some 2, .mov (.val (.bool false)), none⟩ :: [])) <|
  .seq (.region (⟨some 3, .mov (.tmp 0), none⟩ ::
    ⟨some 4, .len false (.tmp 3), none⟩ ::
    ⟨some 5, .bin .gtr (.tmp 4) (.val (.int .i64 0)), none⟩ ::
    ⟨some 6, .mov (.tmp 5), none⟩ ::
    ⟨some 7, .mov (.tmp 0), some (6, true)⟩ ::
    ⟨some 8, .iaddr 2 (.tmp 7) (.val (.int .i64 0)), some (6, true)⟩ ::
    ⟨some 9, .faddr 0 (.tmp 8), some (6, true)⟩ ::
    ⟨some 10, .load false 1 (.tmp 9), some (6, true)⟩ ::
    ⟨some 11, .bin .geq (.tmp 10) (.val (.int .i64 0)), some (6, true)⟩ ::
    ⟨some 12, .pick (.tmp 6) (.tmp 11) (.val (.bool false)), none⟩ ::
    ⟨some 13, .mov (.tmp 12), none⟩ ::
    ⟨some 14, .mov (.tmp 0), some (13, true)⟩ ::
    ⟨some 15, .mov (.tmp 0), some (13, true)⟩ ::
    ⟨some 16, .len false (.tmp 15), some (13, true)⟩ ::
    ⟨some 17, .bin .sub (.tmp 16) (.val (.int .i64 1)), some (13, true)⟩ ::
    ⟨some 18, .iaddr 2 (.tmp 14) (.tmp 17), some (13, true)⟩ ::
    ⟨some 19, .faddr 1 (.tmp 18), some (13, true)⟩ ::
    ⟨some 20, .load false 1 (.tmp 19), some (13, true)⟩ ::
    ⟨some 21, .bin .leq (.tmp 20) (.val (.int .i64 1)), some (13, true)⟩ ::
    ⟨some 22, .pick (.tmp 13) (.tmp 21) (.val (.bool false)), none⟩ ::
    ⟨some 2, .mov (.tmp 22), none⟩ :: [])) <|
  .ret⟩
theorem e_ref08_truth : cFunc Try.prog kd_CRef08 Try.f99 = some c_ref08_truth := by kernel_rfl
/- touchstone/touchstoneref08.signs: slots a, 0, a, 1, i, 3 -/
def c_ref08_signs : AFunc := ⟨22, [.tmp 2],
  .seq (.region (⟨some 2, .mov (.val (.bool false)), none⟩ :: [])) <|
  .seq (.seq (.region (⟨some 3, .mov (.val (.int .i64 0)), none⟩ :: [])) <|
  .block 0 (.loop (.seq (.seq (.region (⟨some 4, .mov (.tmp 3), none⟩ ::
        ⟨some 5, .mov (.tmp 0), none⟩ ::
        ⟨some 6, .len false (.tmp 5), none⟩ ::
        ⟨some 7, .bin .lss (.tmp 4) (.tmp 6), none⟩ :: [])) <|
      .cond (.tmp 7) (.skip) <|
      .exit 0) <|
      .seq (.block 1 (.seq (.region (⟨some 10, .mov (.tmp 0), none⟩ ::
          ⟨some 11, .mov (.tmp 3), none⟩ ::
          ⟨some 12, .iaddr 1 (.tmp 10) (.tmp 11), none⟩ ::
          ⟨some 13, .load false 1 (.tmp 12), none⟩ ::
          ⟨some 14, .bin .neq (.tmp 13) (.val (.int .i64 1)), none⟩ ::
          ⟨some 15, .mov (.tmp 14), none⟩ ::
          ⟨some 16, .mov (.tmp 0), some (15, true)⟩ ::
          ⟨some 17, .mov (.tmp 3), some (15, true)⟩ ::
          ⟨some 18, .iaddr 1 (.tmp 16) (.tmp 17), some (15, true)⟩ ::
          ⟨some 19, .load false 1 (.tmp 18), some (15, true)⟩ ::
          ⟨some 20, .bin .neq (.tmp 19) (.val (.int .i64 (-1))), some (15, true)⟩ ::
          ⟨some 21, .pick (.tmp 15) (.tmp 20) (.val (.bool false)), none⟩ :: [])) <|
        .cond (.tmp 21) (.seq (.region (⟨some 2, .mov (.val (.bool false)), none⟩ :: [])) <|
          .ret) <|
        .skip)) <|
      .region (⟨some 8, .mov (.tmp 3), none⟩ ::
        ⟨some 9, .bin .add (.tmp 8) (.val (.int .i64 1)), none⟩ ::
        ⟨some 3, .mov (.tmp 9), none⟩ :: [])))) <|
  .seq (.region (⟨some 2, .mov (.val (.bool true)), none⟩ :: [])) <|
  .ret⟩
theorem e_ref08_signs : cFunc Try.prog kd_CRef08 Try.f125 = some c_ref08_signs := by kernel_rfl
/- touchstone/touchstoneref08.shape: slots c, 0, c, 1, n, 3, k, 4 -/
def c_ref08_shape : AFunc := ⟨107, [.tmp 2],
  .seq (.region (⟨some 1, .box 4 (.tmp 0), none⟩ ::
    ⟨some 2, .mov (.val (.bool false)), none⟩ :: [])) <|
  .seq (.region (⟨some 5, .faddr 1 (.tmp 1), none⟩ ::
    ⟨some 6, .load false 1 (.tmp 5), none⟩ ::
    ⟨some 7, .len false (.tmp 6), none⟩ ::
    ⟨some 8, .faddr 2 (.tmp 1), none⟩ ::
    ⟨some 9, .load false 1 (.tmp 8), none⟩ ::
    ⟨some 10, .len false (.tmp 9), none⟩ ::
    ⟨some 3, .mov (.tmp 7), none⟩ ::
    ⟨some 4, .mov (.tmp 10), none⟩ :: [])) <|
  .seq (.seq (.region (⟨some 11, .faddr 0 (.tmp 1), none⟩ ::
    ⟨some 12, .load false 1 (.tmp 11), none⟩ :: [])) <|
  .block 0 (.seq (.seq (.region (⟨some 14, .bin .eql (.tmp 12) (.val (.int .i64 1)), none⟩ ::
      ⟨some 13, .mov (.tmp 14), none⟩ :: [])) <|
    .cond (.tmp 13) (.skip) <|
    .seq (.region (⟨some 15, .bin .eql (.tmp 12) (.val (.int .i64 2)), none⟩ ::
      ⟨some 13, .mov (.tmp 15), none⟩ :: [])) <|
    .cond (.tmp 13) (.skip) <|
    .region (⟨some 16, .bin .eql (.tmp 12) (.val (.int .i64 3)), none⟩ ::
      ⟨some 13, .mov (.tmp 16), none⟩ :: [])) <|
    .cond (.tmp 13) (.seq (.region (⟨some 17, .mov (.tmp 3), none⟩ ::
        ⟨some 18, .mov (.tmp 4), none⟩ ::
        ⟨some 19, .bin .eql (.tmp 17) (.tmp 18), none⟩ ::
        ⟨some 2, .mov (.tmp 19), none⟩ :: [])) <|
      .ret) <|
    .seq (.seq (.region (⟨some 21, .bin .eql (.tmp 12) (.val (.int .i64 4)), none⟩ ::
      ⟨some 20, .mov (.tmp 21), none⟩ :: [])) <|
    .cond (.tmp 20) (.skip) <|
    .seq (.region (⟨some 22, .bin .eql (.tmp 12) (.val (.int .i64 5)), none⟩ ::
      ⟨some 20, .mov (.tmp 22), none⟩ :: [])) <|
    .cond (.tmp 20) (.skip) <|
    .region (⟨some 23, .bin .eql (.tmp 12) (.val (.int .i64 6)), none⟩ ::
      ⟨some 20, .mov (.tmp 23), none⟩ :: [])) <|
    .cond (.tmp 20) (.seq (.region (⟨some 24, .mov (.tmp 3), none⟩ ::
        ⟨some 25, .mov (.tmp 4), none⟩ ::
        ⟨some 26, .bin .add (.tmp 25) (.val (.int .i64 1)), none⟩ ::
        ⟨some 27, .bin .eql (.tmp 24) (.tmp 26), none⟩ ::
        ⟨some 2, .mov (.tmp 27), none⟩ :: [])) <|
      .ret) <|
    .seq (.seq (.region (⟨some 29, .bin .eql (.tmp 12) (.val (.int .i64 7)), none⟩ ::
      ⟨some 28, .mov (.tmp 29), none⟩ :: [])) <|
    .cond (.tmp 28) (.skip) <|
    .seq (.region (⟨some 30, .bin .eql (.tmp 12) (.val (.int .i64 8)), none⟩ ::
      ⟨some 28, .mov (.tmp 30), none⟩ :: [])) <|
    .cond (.tmp 28) (.skip) <|
    .seq (.region (⟨some 31, .bin .eql (.tmp 12) (.val (.int .i64 9)), none⟩ ::
      ⟨some 28, .mov (.tmp 31), none⟩ :: [])) <|
    .cond (.tmp 28) (.skip) <|
    .region (⟨some 32, .bin .eql (.tmp 12) (.val (.int .i64 14)), none⟩ ::
      ⟨some 28, .mov (.tmp 32), none⟩ :: [])) <|
    .cond (.tmp 28) (.seq (.region (⟨some 33, .mov (.tmp 3), none⟩ ::
        ⟨some 34, .bin .eql (.tmp 33) (.val (.int .i64 3)), none⟩ ::
        ⟨some 35, .mov (.tmp 34), none⟩ ::
        ⟨some 36, .mov (.tmp 4), some (35, true)⟩ ::
        ⟨some 37, .bin .eql (.tmp 36) (.val (.int .i64 0)), some (35, true)⟩ ::
        ⟨some 38, .pick (.tmp 35) (.tmp 37) (.val (.bool false)), none⟩ ::
        ⟨some 2, .mov (.tmp 38), none⟩ :: [])) <|
      .ret) <|
    .seq (.seq (.region (⟨some 40, .bin .eql (.tmp 12) (.val (.int .i64 10)), none⟩ ::
      ⟨some 39, .mov (.tmp 40), none⟩ :: [])) <|
    .cond (.tmp 39) (.skip) <|
    .region (⟨some 41, .bin .eql (.tmp 12) (.val (.int .i64 15)), none⟩ ::
      ⟨some 39, .mov (.tmp 41), none⟩ :: [])) <|
    .cond (.tmp 39) (.seq (.region (⟨some 42, .mov (.tmp 3), none⟩ ::
        ⟨some 43, .bin .eql (.tmp 42) (.val (.int .i64 2)), none⟩ ::
        ⟨some 44, .mov (.tmp 43), none⟩ ::
        ⟨some 45, .mov (.tmp 4), some (44, true)⟩ ::
        ⟨some 46, .bin .eql (.tmp 45) (.val (.int .i64 0)), some (44, true)⟩ ::
        ⟨some 47, .pick (.tmp 44) (.tmp 46) (.val (.bool false)), none⟩ ::
        ⟨some 2, .mov (.tmp 47), none⟩ :: [])) <|
      .ret) <|
    .seq (.region (⟨some 49, .bin .eql (.tmp 12) (.val (.int .i64 11)), none⟩ ::
      ⟨some 48, .mov (.tmp 49), none⟩ :: [])) <|
    .cond (.tmp 48) (.seq (.region (⟨some 50, .mov (.tmp 3), none⟩ ::
        ⟨some 51, .mov (.tmp 4), none⟩ ::
        ⟨some 52, .bin .eql (.tmp 50) (.tmp 51), none⟩ ::
        ⟨some 53, .mov (.tmp 52), none⟩ ::
        ⟨some 54, .faddr 2 (.tmp 1), some (53, true)⟩ ::
        ⟨some 55, .load false 1 (.tmp 54), some (53, true)⟩ ::
        ⟨some 56, .call (.val (.fn (.func 125) [])) [(.tmp 55)], some (53, true)⟩ ::
        ⟨some 57, .pick (.tmp 53) (.tmp 56) (.val (.bool false)), none⟩ ::
        ⟨some 2, .mov (.tmp 57), none⟩ :: [])) <|
      .ret) <|
    .seq (.seq (.region (⟨some 59, .bin .eql (.tmp 12) (.val (.int .i64 12)), none⟩ ::
      ⟨some 58, .mov (.tmp 59), none⟩ :: [])) <|
    .cond (.tmp 58) (.skip) <|
    .region (⟨some 60, .bin .eql (.tmp 12) (.val (.int .i64 13)), none⟩ ::
      ⟨some 58, .mov (.tmp 60), none⟩ :: [])) <|
    .cond (.tmp 58) (.seq (.region (⟨some 61, .mov (.tmp 3), none⟩ ::
        ⟨some 62, .bin .geq (.tmp 61) (.val (.int .i64 1)), none⟩ ::
        ⟨some 63, .mov (.tmp 62), none⟩ ::
        ⟨some 64, .mov (.tmp 4), some (63, true)⟩ ::
        ⟨some 65, .bin .eql (.tmp 64) (.val (.int .i64 0)), some (63, true)⟩ ::
        ⟨some 66, .pick (.tmp 63) (.tmp 65) (.val (.bool false)), none⟩ ::
        ⟨some 2, .mov (.tmp 66), none⟩ :: [])) <|
      .ret) <|
    .seq (.region (⟨some 68, .bin .eql (.tmp 12) (.val (.int .i64 16)), none⟩ ::
      ⟨some 67, .mov (.tmp 68), none⟩ :: [])) <|
    .cond (.tmp 67) (.seq (.region (⟨some 69, .mov (.tmp 3), none⟩ ::
        ⟨some 70, .bin .eql (.tmp 69) (.val (.int .i64 2)), none⟩ ::
        ⟨some 71, .mov (.tmp 70), none⟩ ::
        ⟨some 72, .mov (.tmp 4), some (71, true)⟩ ::
        ⟨some 73, .bin .geq (.tmp 72) (.val (.int .i64 1)), some (71, true)⟩ ::
        ⟨some 74, .pick (.tmp 71) (.tmp 73) (.val (.bool false)), none⟩ ::
        ⟨some 75, .mov (.tmp 74), none⟩ ::
        ⟨some 76, .mov (.tmp 4), some (75, true)⟩ ::
        ⟨some 77, .bin .leq (.tmp 76) (.val (.int .i64 64)), some (75, true)⟩ ::
        ⟨some 78, .pick (.tmp 75) (.tmp 77) (.val (.bool false)), none⟩ ::
        ⟨some 2, .mov (.tmp 78), none⟩ :: [])) <|
      .ret) <|
    .seq (.region (⟨some 80, .bin .eql (.tmp 12) (.val (.int .i64 17)), none⟩ ::
      ⟨some 79, .mov (.tmp 80), none⟩ :: [])) <|
    .cond (.tmp 79) (.seq (.region (⟨some 81, .mov (.tmp 3), none⟩ ::
        ⟨some 82, .bin .geq (.tmp 81) (.val (.int .i64 3)), none⟩ ::
        ⟨some 83, .mov (.tmp 82), none⟩ ::
        ⟨some 84, .mov (.tmp 4), some (83, true)⟩ ::
        ⟨some 85, .bin .eql (.tmp 84) (.val (.int .i64 0)), some (83, true)⟩ ::
        ⟨some 86, .pick (.tmp 83) (.tmp 85) (.val (.bool false)), none⟩ ::
        ⟨some 2, .mov (.tmp 86), none⟩ :: [])) <|
      .ret) <|
    .seq (.region (⟨some 88, .bin .eql (.tmp 12) (.val (.int .i64 18)), none⟩ ::
      ⟨some 87, .mov (.tmp 88), none⟩ :: [])) <|
    .cond (.tmp 87) (.seq (.region (⟨some 89, .mov (.tmp 4), none⟩ ::
        ⟨some 90, .bin .eql (.tmp 89) (.val (.int .i64 0)), none⟩ ::
        ⟨some 2, .mov (.tmp 90), none⟩ :: [])) <|
      .ret) <|
    .seq (.region (⟨some 92, .bin .eql (.tmp 12) (.val (.int .i64 19)), none⟩ ::
      ⟨some 91, .mov (.tmp 92), none⟩ :: [])) <|
    .cond (.tmp 91) (.seq (.region (⟨some 93, .mov (.tmp 4), none⟩ ::
        ⟨some 94, .mov (.tmp 3), none⟩ ::
        ⟨some 95, .bin .mul (.val (.int .i64 2)) (.tmp 94), none⟩ ::
        ⟨some 96, .bin .eql (.tmp 93) (.tmp 95), none⟩ ::
        ⟨some 97, .mov (.tmp 96), none⟩ ::
        ⟨some 98, .faddr 2 (.tmp 1), some (97, true)⟩ ::
        ⟨some 99, .load false 1 (.tmp 98), some (97, true)⟩ ::
        ⟨some 100, .call (.val (.fn (.func 126) [])) [(.tmp 99)], some (97, true)⟩ ::
        ⟨some 101, .pick (.tmp 97) (.tmp 100) (.val (.bool false)), none⟩ ::
        ⟨some 102, .mov (.tmp 101), none⟩ ::
        ⟨some 103, .faddr 3 (.tmp 1), some (102, true)⟩ ::
        ⟨some 104, .load false 1 (.tmp 103), some (102, true)⟩ ::
        ⟨some 105, .bin .geq (.tmp 104) (.val (.int .i64 0)), some (102, true)⟩ ::
        ⟨some 106, .pick (.tmp 102) (.tmp 105) (.val (.bool false)), none⟩ ::
        ⟨some 2, .mov (.tmp 106), none⟩ :: [])) <|
      .ret) <|
    .skip)) <|
  .seq (.region (⟨some 2, .mov (.val (.bool false)), none⟩ :: [])) <|
  .ret⟩
theorem e_ref08_shape : cFunc Try.prog kd_CRef08 Try.f97 = some c_ref08_shape := by kernel_rfl
/- touchstone/touchstoneref08.none: slots a, 0, a, 1, i, 3 -/
def c_ref08_none : AFunc := ⟨15, [.tmp 2],
  .seq (.region (⟨some 2, .mov (.val (.bool false)), none⟩ :: [])) <|
  .seq (.seq (.region (⟨some 3, .mov (.val (.int .i64 0)), none⟩ :: [])) <|
  .block 0 (.loop (.seq (.seq (.region (⟨some 4, .mov (.tmp 3), none⟩ ::
        ⟨some 5, .mov (.tmp 0), none⟩ ::
        ⟨some 6, .len false (.tmp 5), none⟩ ::
        ⟨some 7, .bin .lss (.tmp 4) (.tmp 6), none⟩ :: [])) <|
      .cond (.tmp 7) (.skip) <|
      .exit 0) <|
      .seq (.block 1 (.seq (.region (⟨some 10, .mov (.tmp 0), none⟩ ::
          ⟨some 11, .mov (.tmp 3), none⟩ ::
          ⟨some 12, .iaddr 1 (.tmp 10) (.tmp 11), none⟩ ::
          ⟨some 13, .load false 1 (.tmp 12), none⟩ ::
          ⟨some 14, .bin .lss (.tmp 13) (.val (.int .i64 0)), none⟩ :: [])) <|
        .cond (.tmp 14) (.seq (.region (⟨some 2, .mov (.val (.bool false)), none⟩ :: [])) <|
          .ret) <|
        .skip)) <|
      .region (⟨some 8, .mov (.tmp 3), none⟩ ::
        ⟨some 9, .bin .add (.tmp 8) (.val (.int .i64 1)), none⟩ ::
        ⟨some 3, .mov (.tmp 9), none⟩ :: [])))) <|
  .seq (.region (⟨some 2, .mov (.val (.bool true)), none⟩ :: [])) <|
  .ret⟩
theorem e_ref08_none : cFunc Try.prog kd_CRef08 Try.f126 = some c_ref08_none := by kernel_rfl
/- touchstone/touchstoneref08.named: slots kind, 0, kind, 1 -/
def c_ref08_named : AFunc := ⟨13, [.tmp 2],
  .seq (.region (⟨some 2, .mov (.val (.bool false)), none⟩ :: [])) <|
  .seq (.region (⟨some 3, .mov (.tmp 0), none⟩ ::
    ⟨some 4, .bin .geq (.tmp 3) (.val (.int .i64 1)), none⟩ ::
    ⟨some 5, .mov (.tmp 4), none⟩ ::
    ⟨some 6, .mov (.tmp 0), some (5, true)⟩ ::
    ⟨some 7, .bin .leq (.tmp 6) (.val (.int .i64 6)), some (5, true)⟩ ::
    ⟨some 8, .pick (.tmp 5) (.tmp 7) (.val (.bool false)), none⟩ ::
    ⟨some 9, .mov (.tmp 8), none⟩ ::
    ⟨some 10, .mov (.tmp 0), some (9, false)⟩ ::
    ⟨some 11, .bin .eql (.tmp 10) (.val (.int .i64 19)), some (9, false)⟩ ::
    ⟨some 12, .pick (.tmp 9) (.val (.bool true)) (.tmp 11), none⟩ ::
    ⟨some 2, .mov (.tmp 12), none⟩ :: [])) <|
  .ret⟩
theorem e_ref08_named : cFunc Try.prog kd_CRef08 Try.f98 = some c_ref08_named := by kernel_rfl
/- touchstone/touchstoneref08.Con: slots m, 0, c, 1, m, 2, c, 3, i, 5, i, 6 -/
def c_ref08_Con : AFunc := ⟨99, [.tmp 4],
  .seq (.region (⟨some 2, .box 4 (.tmp 0), none⟩ ::
    ⟨some 3, .box 4 (.tmp 1), none⟩ ::
    ⟨some 4, .mov (.val (.bool false)), none⟩ :: [])) <|
  .seq (.seq (.region (⟨some 7, .load true 4 (.tmp 3), none⟩ ::
    ⟨some 8, .call (.val (.fn (.func 97) [])) [(.tmp 7)], none⟩ ::
    ⟨some 9, .un .not (.tmp 8), none⟩ ::
    ⟨some 10, .mov (.tmp 9), none⟩ ::
    ⟨some 11, .faddr 1 (.tmp 3), some (10, false)⟩ ::
    ⟨some 12, .load false 1 (.tmp 11), some (10, false)⟩ ::
    ⟨some 13, .len false (.tmp 12), some (10, false)⟩ ::
    ⟨some 14, .bin .gtr (.tmp 13) (.val (.int .i64 32)), some (10, false)⟩ ::
    ⟨some 15, .pick (.tmp 10) (.val (.bool true)) (.tmp 14), none⟩ ::
    ⟨some 16, .mov (.tmp 15), none⟩ ::
    ⟨some 17, .faddr 3 (.tmp 3), some (16, false)⟩ ::
    ⟨some 18, .load false 1 (.tmp 17), some (16, false)⟩ ::
    ⟨some 19, .call (.val (.fn (.func 58) [])) [(.tmp 18)], some (16, false)⟩ ::
    ⟨some 20, .un .not (.tmp 19), some (16, false)⟩ ::
    ⟨some 21, .pick (.tmp 16) (.val (.bool true)) (.tmp 20), none⟩ ::
    ⟨some 22, .mov (.tmp 21), none⟩ ::
    ⟨some 23, .faddr 3 (.tmp 3), some (22, false)⟩ ::
    ⟨some 24, .load false 1 (.tmp 23), some (22, false)⟩ ::
    ⟨some 25, .bin .neq (.tmp 24) (.val (.int .i64 0)), some (22, false)⟩ ::
    ⟨some 26, .mov (.tmp 25), some (22, false)⟩ ::
    ⟨some 27, .faddr 0 (.tmp 3), some (26, true)⟩ ::
    ⟨some 28, .load false 1 (.tmp 27), some (26, true)⟩ ::
    ⟨some 29, .call (.val (.fn (.func 98) [])) [(.tmp 28)], some (26, true)⟩ ::
    ⟨some 30, .un .not (.tmp 29), some (26, true)⟩ ::
    ⟨some 31, .pick (.tmp 26) (.tmp 30) (.val (.bool false)), some (22, false)⟩ ::
    ⟨some 32, .pick (.tmp 22) (.val (.bool true)) (.tmp 31), none⟩ :: [])) <|
  .cond (.tmp 32) (.seq (.region (⟨some 4, .mov (.val (.bool false)), none⟩ :: [])) <|
    .ret) <|
  .skip) <|
  .seq (.seq (.region (⟨some 5, .mov (.val (.int .i64 0)), none⟩ :: [])) <|
  .block 0 (.loop (.seq (.seq (.region (⟨some 33, .mov (.tmp 5), none⟩ ::
        ⟨some 34, .faddr 1 (.tmp 3), none⟩ ::
        ⟨some 35, .load false 1 (.tmp 34), none⟩ ::
        ⟨some 36, .len false (.tmp 35), none⟩ ::
        ⟨some 37, .bin .lss (.tmp 33) (.tmp 36), none⟩ :: [])) <|
      .cond (.tmp 37) (.skip) <|
      .exit 0) <|
      .seq (.block 1 (.seq (.region (⟨some 40, .faddr 1 (.tmp 3), none⟩ ::
          ⟨some 41, .load false 1 (.tmp 40), none⟩ ::
          ⟨some 42, .mov (.tmp 5), none⟩ ::
          ⟨some 43, .iaddr 1 (.tmp 41) (.tmp 42), none⟩ ::
          ⟨some 44, .load false 1 (.tmp 43), none⟩ ::
          ⟨some 45, .bin .lss (.tmp 44) (.val (.int .i64 0)), none⟩ ::
          ⟨some 46, .mov (.tmp 45), none⟩ ::
          ⟨some 47, .faddr 1 (.tmp 3), some (46, false)⟩ ::
          ⟨some 48, .load false 1 (.tmp 47), some (46, false)⟩ ::
          ⟨some 49, .mov (.tmp 5), some (46, false)⟩ ::
          ⟨some 50, .iaddr 1 (.tmp 48) (.tmp 49), some (46, false)⟩ ::
          ⟨some 51, .load false 1 (.tmp 50), some (46, false)⟩ ::
          ⟨some 52, .faddr 0 (.tmp 2), some (46, false)⟩ ::
          ⟨some 53, .load false 1 (.tmp 52), some (46, false)⟩ ::
          ⟨some 54, .len false (.tmp 53), some (46, false)⟩ ::
          ⟨some 55, .bin .geq (.tmp 51) (.tmp 54), some (46, false)⟩ ::
          ⟨some 56, .pick (.tmp 46) (.val (.bool true)) (.tmp 55), none⟩ :: [])) <|
        .cond (.tmp 56) (.seq (.region (⟨some 4, .mov (.val (.bool false)), none⟩ :: [])) <|
          .ret) <|
        .skip)) <|
      .region (⟨some 38, .mov (.tmp 5), none⟩ ::
        ⟨some 39, .bin .add (.tmp 38) (.val (.int .i64 1)), none⟩ ::
        ⟨some 5, .mov (.tmp 39), none⟩ :: [])))) <|
  .seq (.seq (.region (⟨some 6, .mov (.val (.int .i64 0)), none⟩ :: [])) <|
  .block 2 (.loop (.seq (.seq (.region (⟨some 57, .mov (.tmp 6), none⟩ ::
        ⟨some 58, .faddr 2 (.tmp 3), none⟩ ::
        ⟨some 59, .load false 1 (.tmp 58), none⟩ ::
        ⟨some 60, .len false (.tmp 59), none⟩ ::
        ⟨some 61, .bin .lss (.tmp 57) (.tmp 60), none⟩ :: [])) <|
      .cond (.tmp 61) (.skip) <|
      .exit 2) <|
      .seq (.block 3 (.seq (.region (⟨some 64, .faddr 2 (.tmp 3), none⟩ ::
          ⟨some 65, .load false 1 (.tmp 64), none⟩ ::
          ⟨some 66, .mov (.tmp 6), none⟩ ::
          ⟨some 67, .iaddr 1 (.tmp 65) (.tmp 66), none⟩ ::
          ⟨some 68, .load false 1 (.tmp 67), none⟩ ::
          ⟨some 69, .call (.val (.fn (.func 58) [])) [(.tmp 68)], none⟩ ::
          ⟨some 70, .un .not (.tmp 69), none⟩ :: [])) <|
        .cond (.tmp 70) (.seq (.region (⟨some 4, .mov (.val (.bool false)), none⟩ :: [])) <|
          .ret) <|
        .skip)) <|
      .region (⟨some 62, .mov (.tmp 6), none⟩ ::
        ⟨some 63, .bin .add (.tmp 62) (.val (.int .i64 1)), none⟩ ::
        ⟨some 6, .mov (.tmp 63), none⟩ :: [])))) <|
  .seq (.seq (.region (⟨some 71, .faddr 0 (.tmp 3), none⟩ ::
    ⟨some 72, .load false 1 (.tmp 71), none⟩ :: [])) <|
  .block 4 (.seq (.seq (.region (⟨some 74, .bin .eql (.tmp 72) (.val (.int .i64 4)), none⟩ ::
      ⟨some 73, .mov (.tmp 74), none⟩ :: [])) <|
    .cond (.tmp 73) (.skip) <|
    .seq (.region (⟨some 75, .bin .eql (.tmp 72) (.val (.int .i64 5)), none⟩ ::
      ⟨some 73, .mov (.tmp 75), none⟩ :: [])) <|
    .cond (.tmp 73) (.skip) <|
    .region (⟨some 76, .bin .eql (.tmp 72) (.val (.int .i64 6)), none⟩ ::
      ⟨some 73, .mov (.tmp 76), none⟩ :: [])) <|
    .cond (.tmp 73) (.seq (.region (⟨some 77, .faddr 0 (.tmp 2), none⟩ ::
        ⟨some 78, .load false 1 (.tmp 77), none⟩ ::
        ⟨some 79, .faddr 1 (.tmp 3), none⟩ ::
        ⟨some 80, .load false 1 (.tmp 79), none⟩ ::
        ⟨some 81, .faddr 1 (.tmp 3), none⟩ ::
        ⟨some 82, .load false 1 (.tmp 81), none⟩ ::
        ⟨some 83, .len false (.tmp 82), none⟩ ::
        ⟨some 84, .bin .sub (.tmp 83) (.val (.int .i64 1)), none⟩ ::
        ⟨some 85, .iaddr 1 (.tmp 80) (.tmp 84), none⟩ ::
        ⟨some 86, .load false 1 (.tmp 85), none⟩ ::
        ⟨some 87, .iaddr 1 (.tmp 78) (.tmp 86), none⟩ ::
        ⟨some 88, .load false 1 (.tmp 87), none⟩ ::
        ⟨some 89, .call (.val (.fn (.func 99) [])) [(.tmp 88)], none⟩ ::
        ⟨some 4, .mov (.tmp 89), none⟩ :: [])) <|
      .ret) <|
    .seq (.seq (.region (⟨some 91, .bin .eql (.tmp 72) (.val (.int .i64 11)), none⟩ ::
      ⟨some 90, .mov (.tmp 91), none⟩ :: [])) <|
    .cond (.tmp 90) (.skip) <|
    .seq (.region (⟨some 92, .bin .eql (.tmp 72) (.val (.int .i64 12)), none⟩ ::
      ⟨some 90, .mov (.tmp 92), none⟩ :: [])) <|
    .cond (.tmp 90) (.skip) <|
    .seq (.region (⟨some 93, .bin .eql (.tmp 72) (.val (.int .i64 13)), none⟩ ::
      ⟨some 90, .mov (.tmp 93), none⟩ :: [])) <|
    .cond (.tmp 90) (.skip) <|
    .region (⟨some 94, .bin .eql (.tmp 72) (.val (.int .i64 14)), none⟩ ::
      ⟨some 90, .mov (.tmp 94), none⟩ :: [])) <|
    .cond (.tmp 90) (.seq (.region (⟨some 95, .load true 4 (.tmp 2), none⟩ ::
        ⟨some 96, .faddr 1 (.tmp 3), none⟩ ::
        ⟨some 97, .load false 1 (.tmp 96), none⟩ ::
        ⟨some 98, .call (.val (.fn (.func 100) [])) [(.tmp 95), (.tmp 97)], none⟩ ::
        ⟨some 4, .mov (.tmp 98), none⟩ :: [])) <|
      .ret) <|
    .skip)) <|
  .seq (.region (⟨some 4, .mov (.val (.bool true)), none⟩ :: [])) <|
  .ret⟩
theorem e_ref08_Con : cFunc Try.prog kd_CRef08 Try.f59 = some c_ref08_Con := by kernel_rfl
/- touchstone/touchstoneref08.Right: slots m, 0, m, 1, i, 3, i, 4 -/
def c_ref08_Right : AFunc := ⟨71, [.tmp 2],
  .seq (.region (⟨some 1, .box 4 (.tmp 0), none⟩ ::
    ⟨some 2, .mov (.val (.bool false)), none⟩ :: [])) <|
  .seq (.seq (.region (⟨some 5, .faddr 0 (.tmp 1), none⟩ ::
    ⟨some 6, .load false 1 (.tmp 5), none⟩ ::
    ⟨some 7, .len false (.tmp 6), none⟩ ::
    ⟨some 8, .bin .gtr (.tmp 7) (.val (.int .i64 64)), none⟩ ::
    ⟨some 9, .mov (.tmp 8), none⟩ ::
    ⟨some 10, .faddr 1 (.tmp 1), some (9, false)⟩ ::
    ⟨some 11, .load false 1 (.tmp 10), some (9, false)⟩ ::
    ⟨some 12, .len false (.tmp 11), some (9, false)⟩ ::
    ⟨some 13, .bin .gtr (.tmp 12) (.val (.int .i64 64)), some (9, false)⟩ ::
    ⟨some 14, .pick (.tmp 9) (.val (.bool true)) (.tmp 13), none⟩ :: [])) <|
  .cond (.tmp 14) (.seq (.region (⟨some 2, .mov (.val (.bool false)), none⟩ :: [])) <|
    .ret) <|
  .skip) <|
  .seq (.seq (.region (⟨some 3, .mov (.val (.int .i64 0)), none⟩ :: [])) <|
  .block 0 (.loop (.seq (.seq (.region (⟨some 15, .mov (.tmp 3), none⟩ ::
        ⟨some 16, .faddr 0 (.tmp 1), none⟩ ::
        ⟨some 17, .load false 1 (.tmp 16), none⟩ ::
        ⟨some 18, .len false (.tmp 17), none⟩ ::
        ⟨some 19, .bin .lss (.tmp 15) (.tmp 18), none⟩ :: [])) <|
      .cond (.tmp 19) (.skip) <|
      .exit 0) <|
      .seq (.block 1 (.seq (.region (⟨some 22, .faddr 0 (.tmp 1), none⟩ ::
          ⟨some 23, .load false 1 (.tmp 22), none⟩ ::
          ⟨some 24, .mov (.tmp 3), none⟩ ::
          ⟨some 25, .iaddr 1 (.tmp 23) (.tmp 24), none⟩ ::
          ⟨some 26, .load false 1 (.tmp 25), none⟩ ::
          ⟨some 27, .call (.val (.fn (.func 83) [])) [(.tmp 26)], none⟩ ::
          ⟨some 28, .un .not (.tmp 27), none⟩ :: [])) <|
        .cond (.tmp 28) (.seq (.region (⟨some 2, .mov (.val (.bool false)), none⟩ :: [])) <|
          .ret) <|
        .skip)) <|
      .region (⟨some 20, .mov (.tmp 3), none⟩ ::
        ⟨some 21, .bin .add (.tmp 20) (.val (.int .i64 1)), none⟩ ::
        ⟨some 3, .mov (.tmp 21), none⟩ :: [])))) <|
  .seq (.seq (.region (⟨some 4, .mov (.val (.int .i64 0)), none⟩ :: [])) <|
  .block 2 (.loop (.seq (.seq (.region (⟨some 29, .mov (.tmp 4), none⟩ ::
        ⟨some 30, .faddr 1 (.tmp 1), none⟩ ::
        ⟨some 31, .load false 1 (.tmp 30), none⟩ ::
        ⟨some 32, .len false (.tmp 31), none⟩ ::
        ⟨some 33, .bin .lss (.tmp 29) (.tmp 32), none⟩ :: [])) <|
      .cond (.tmp 33) (.skip) <|
      .exit 2) <|
      .seq (.block 3 (.seq (.region (⟨some 36, .load true 4 (.tmp 1), none⟩ ::
          ⟨some 37, .faddr 1 (.tmp 1), none⟩ ::
          ⟨some 38, .load false 1 (.tmp 37), none⟩ ::
          ⟨some 39, .mov (.tmp 4), none⟩ ::
          ⟨some 40, .iaddr 4 (.tmp 38) (.tmp 39), none⟩ ::
          ⟨some 41, .load true 4 (.tmp 40), none⟩ ::
          ⟨some 42, .call (.val (.fn (.func 59) [])) [(.tmp 36), (.tmp 41)], none⟩ ::
          ⟨some 43, .un .not (.tmp 42), none⟩ :: [])) <|
        .cond (.tmp 43) (.seq (.region (⟨some 2, .mov (.val (.bool false)), none⟩ :: [])) <|
          .ret) <|
        .skip)) <|
      .region (⟨some 34, .mov (.tmp 4), none⟩ ::
        ⟨some 35, .bin .add (.tmp 34) (.val (.int .i64 1)), none⟩ ::
        ⟨some 4, .mov (.tmp 35), none⟩ :: [])))) <|
  .seq (.seq (.region (⟨some 44, .faddr 2 (.tmp 1), none⟩ ::
    ⟨some 45, .load false 1 (.tmp 44), none⟩ ::
    ⟨some 46, .bin .eql (.tmp 45) (.val (.int .i64 0)), none⟩ :: [])) <|
  .cond (.tmp 46) (.seq (.region (⟨some 47, .faddr 3 (.tmp 1), none⟩ ::
      ⟨some 48, .load false 1 (.tmp 47), none⟩ ::
      ⟨some 49, .bin .eql (.tmp 48) (.val (.int .i64 0)), none⟩ ::
      ⟨some 2, .mov (.tmp 49), none⟩ :: [])) <|
    .ret) <|
  .skip) <|
  .seq (.region (⟨some 50, .faddr 2 (.tmp 1), none⟩ ::
    ⟨some 51, .load false 1 (.tmp 50), none⟩ ::
    ⟨some 52, .bin .eql (.tmp 51) (.val (.int .i64 1)), none⟩ ::
    ⟨some 53, .mov (.tmp 52), none⟩ ::
    ⟨some 54, .faddr 2 (.tmp 1), some (53, false)⟩ ::
    ⟨some 55, .load false 1 (.tmp 54), some (53, false)⟩ ::
    ⟨some 56, .bin .eql (.tmp 55) (.val (.int .i64 2)), some (53, false)⟩ ::
    ⟨some 57, .pick (.tmp 53) (.val (.bool true)) (.tmp 56), none⟩ ::
    ⟨some 58, .mov (.tmp 57), none⟩ ::
    ⟨some 59, .faddr 3 (.tmp 1), some (58, true)⟩ ::
    ⟨some 60, .load false 1 (.tmp 59), some (58, true)⟩ ::
    ⟨some 61, .bin .geq (.tmp 60) (.val (.int .i64 0)), some (58, true)⟩ ::
    ⟨some 62, .pick (.tmp 58) (.tmp 61) (.val (.bool false)), none⟩ ::
    ⟨some 63, .mov (.tmp 62), none⟩ ::
    ⟨some 64, .faddr 3 (.tmp 1), some (63, true)⟩ ::
    ⟨some 65, .load false 1 (.tmp 64), some (63, true)⟩ ::
    ⟨some 66, .faddr 0 (.tmp 1), some (63, true)⟩ ::
    ⟨some 67, .load false 1 (.tmp 66), some (63, true)⟩ ::
    ⟨some 68, .len false (.tmp 67), some (63, true)⟩ ::
    ⟨some 69, .bin .lss (.tmp 65) (.tmp 68), some (63, true)⟩ ::
    ⟨some 70, .pick (.tmp 63) (.tmp 69) (.val (.bool false)), none⟩ ::
    ⟨some 2, .mov (.tmp 70), none⟩ :: [])) <|
  .ret⟩
theorem e_ref08_Right : cFunc Try.prog kd_CRef08 Try.f39 = some c_ref08_Right := by kernel_rfl
/- touchstone/touchstoneref08.Dom: slots l, 0, l, 1, i, 3 -/
def c_ref08_Dom : AFunc := ⟨61, [.tmp 2],
  .seq (.region (⟨some 2, .mov (.val (.bool false)), none⟩ :: [])) <|
  .seq (.seq (.region (⟨some 3, .mov (.val (.int .i64 0)), none⟩ :: [])) <|
  .block 0 (.loop (.seq (.seq (.region (⟨some 4, .mov (.tmp 3), none⟩ ::
        ⟨some 5, .mov (.tmp 0), none⟩ ::
        ⟨some 6, .len false (.tmp 5), none⟩ ::
        ⟨some 7, .bin .lss (.tmp 4) (.tmp 6), none⟩ :: [])) <|
      .cond (.tmp 7) (.skip) <|
      .exit 0) <|
      .seq (.block 1 (.seq (.region (⟨some 10, .mov (.tmp 0), none⟩ ::
          ⟨some 11, .mov (.tmp 3), none⟩ ::
          ⟨some 12, .iaddr 2 (.tmp 10) (.tmp 11), none⟩ ::
          ⟨some 13, .faddr 0 (.tmp 12), none⟩ ::
          ⟨some 14, .load false 1 (.tmp 13), none⟩ ::
          ⟨some 15, .mov (.tmp 0), none⟩ ::
          ⟨some 16, .mov (.tmp 3), none⟩ ::
          ⟨some 17, .iaddr 2 (.tmp 15) (.tmp 16), none⟩ ::
          ⟨some 18, .faddr 1 (.tmp 17), none⟩ ::
          ⟨some 19, .load false 1 (.tmp 18), none⟩ ::
          ⟨some 20, .bin .gtr (.tmp 14) (.tmp 19), none⟩ ::
          ⟨some 21, .mov (.tmp 20), none⟩ ::
          ⟨some 22, .mov (.tmp 0), some (21, false)⟩ ::
          ⟨some 23, .mov (.tmp 3), some (21, false)⟩ ::
          ⟨some 24, .iaddr 2 (.tmp 22) (.tmp 23), some (21, false)⟩ ::
          ⟨some 25, .faddr 0 (.tmp 24), some (21, false)⟩ ::
          ⟨some 26, .load false 1 (.tmp 25), some (21, false)⟩ ::
          ⟨some 27, .call (.val (.fn (.func 58) [])) [(.tmp 26)], some (21, false)⟩ ::
          ⟨some 28, .un .not (.tmp 27), some (21, false)⟩ ::
          ⟨some 29, .pick (.tmp 21) (.val (.bool true)) (.tmp 28), none⟩ ::
          ⟨some 30, .mov (.tmp 29), none⟩ ::
          ⟨some 31, .mov (.tmp 0), some (30, false)⟩ ::
          ⟨some 32, .mov (.tmp 3), some (30, false)⟩ ::
          ⟨some 33, .iaddr 2 (.tmp 31) (.tmp 32), some (30, false)⟩ ::
          ⟨some 34, .faddr 1 (.tmp 33), some (30, false)⟩ ::
          ⟨some 35, .load false 1 (.tmp 34), some (30, false)⟩ ::
          ⟨some 36, .call (.val (.fn (.func 58) [])) [(.tmp 35)], some (30, false)⟩ ::
          ⟨some 37, .un .not (.tmp 36), some (30, false)⟩ ::
          ⟨some 38, .pick (.tmp 30) (.val (.bool true)) (.tmp 37), none⟩ ::
          ⟨some 39, .mov (.tmp 38), none⟩ ::
          ⟨some 40, .mov (.tmp 3), some (39, false)⟩ ::
          ⟨some 41, .bin .gtr (.tmp 40) (.val (.int .i64 0)), some (39, false)⟩ ::
          ⟨some 42, .mov (.tmp 41), some (39, false)⟩ ::
          ⟨some 43, .mov (.tmp 0), some (42, true)⟩ ::
          ⟨some 44, .mov (.tmp 3), some (42, true)⟩ ::
          ⟨some 45, .iaddr 2 (.tmp 43) (.tmp 44), some (42, true)⟩ ::
          ⟨some 46, .faddr 0 (.tmp 45), some (42, true)⟩ ::
          ⟨some 47, .load false 1 (.tmp 46), some (42, true)⟩ ::
          ⟨some 48, .mov (.tmp 0), some (42, true)⟩ ::
          ⟨some 49, .mov (.tmp 3), some (42, true)⟩ ::
          ⟨some 50, .bin .sub (.tmp 49) (.val (.int .i64 1)), some (42, true)⟩ ::
          ⟨some 51, .iaddr 2 (.tmp 48) (.tmp 50), some (42, true)⟩ ::
          ⟨some 52, .faddr 1 (.tmp 51), some (42, true)⟩ ::
          ⟨some 53, .load false 1 (.tmp 52), some (42, true)⟩ ::
          ⟨some 54, .bin .add (.tmp 53) (.val (.int .i64 2)), some (42, true)⟩ ::
          ⟨some 55, .bin .lss (.tmp 47) (.tmp 54), some (42, true)⟩ ::
          ⟨some 56, .pick (.tmp 42) (.tmp 55) (.val (.bool false)), some (39, false)⟩ ::
          ⟨some 57, .pick (.tmp 39) (.val (.bool true)) (.tmp 56), none⟩ :: [])) <|
        .cond (.tmp 57) (.seq (.region (⟨some 2, .mov (.val (.bool false)), none⟩ :: [])) <|
          .ret) <|
        .skip)) <|
      .region (⟨some 8, .mov (.tmp 3), none⟩ ::
        ⟨some 9, .bin .add (.tmp 8) (.val (.int .i64 1)), none⟩ ::
        ⟨some 3, .mov (.tmp 9), none⟩ :: [])))) <|
  .seq (.region (⟨some 58, .mov (.tmp 0), none⟩ ::
    ⟨some 59, .len false (.tmp 58), none⟩ ::
    ⟨some 60, .bin .geq (.tmp 59) (.val (.int .i64 1)), none⟩ ::
    ⟨some 2, .mov (.tmp 60), none⟩ :: [])) <|
  .ret⟩
theorem e_ref08_Dom : cFunc Try.prog kd_CRef08 Try.f83 = some c_ref08_Dom := by kernel_rfl
/- touchstone/touchstonelaw08.Small: slots m, 0, m, 1, _, 3, d, 4, _, 5, c, 6 -/
def c_law08_Small : AFunc := ⟨46, [.tmp 2],
  .seq (.region (⟨some 1, .box 4 (.tmp 0), none⟩ ::
    ⟨some 2, .mov (.val (.bool false)), none⟩ :: [])) <|
  .seq (.seq (.region (⟨some 7, .faddr 0 (.tmp 1), none⟩ ::
    ⟨some 8, .load false 1 (.tmp 7), none⟩ ::
    ⟨some 9, .len false (.tmp 8), none⟩ ::
    ⟨some 10, .bin .gtr (.tmp 9) (.val (.int .i64 200)), none⟩ ::
    ⟨some 11, .mov (.tmp 10), none⟩ ::
    ⟨some 12, .faddr 1 (.tmp 1), some (11, false)⟩ ::
    ⟨some 13, .load false 1 (.tmp 12), some (11, false)⟩ ::
    ⟨some 14, .len false (.tmp 13), some (11, false)⟩ ::
    ⟨some 15, .bin .gtr (.tmp 14) (.val (.int .i64 200)), some (11, false)⟩ ::
    ⟨some 16, .pick (.tmp 11) (.val (.bool true)) (.tmp 15), none⟩ :: [])) <|
  .cond (.tmp 16) (.seq (.region (⟨some 2, .mov (.val (.bool false)), none⟩ :: [])) <|
    .ret) <|
  .skip) <|
  .seq (.seq (.region (⟨some 17, .faddr 0 (.tmp 1), none⟩ ::
    ⟨some 18, .load false 1 (.tmp 17), none⟩ ::
    ⟨some 19, .len false (.tmp 18), none⟩ ::
    ⟨some 20, .mov (.val (.int .i64 0)), none⟩ :: [])) <|
  .block 0 (.loop (.seq (.region (⟨some 21, .bin .lss (.tmp 20) (.tmp 19), none⟩ :: [])) <|
      .seq (.cond (.tmp 21) (.skip) <|
      .exit 0) <|
      .seq (.block 1 (.seq (.region (⟨some 22, .iaddr 1 (.tmp 18) (.tmp 20), none⟩ ::
          ⟨some 23, .load false 1 (.tmp 22), none⟩ ::
          ⟨some 4, .mov (.tmp 23), none⟩ :: [])) <|
        .seq (.region (⟨some 24, .mov (.tmp 4), none⟩ ::
          ⟨some 25, .len false (.tmp 24), none⟩ ::
          ⟨some 26, .bin .gtr (.tmp 25) (.val (.int .i64 400)), none⟩ :: [])) <|
        .cond (.tmp 26) (.seq (.region (⟨some 2, .mov (.val (.bool false)), none⟩ :: [])) <|
          .ret) <|
        .skip)) <|
      .region (⟨some 27, .bin .add (.tmp 20) (.val (.int .i64 1)), none⟩ ::
        ⟨some 20, .mov (.tmp 27), none⟩ :: [])))) <|
  .seq (.seq (.region (⟨some 28, .faddr 1 (.tmp 1), none⟩ ::
    ⟨some 29, .load false 1 (.tmp 28), none⟩ ::
    ⟨some 30, .len false (.tmp 29), none⟩ ::
    ⟨some 31, .mov (.val (.int .i64 0)), none⟩ :: [])) <|
  .block 2 (.loop (.seq (.region (⟨some 32, .bin .lss (.tmp 31) (.tmp 30), none⟩ :: [])) <|
      .seq (.cond (.tmp 32) (.skip) <|
      .exit 2) <|
      .seq (.block 3 (.seq (.region (⟨some 33, .iaddr 4 (.tmp 29) (.tmp 31), none⟩ ::
          ⟨some 34, .load true 4 (.tmp 33), none⟩ ::
          ⟨some 6, .alloc (.agg [(.int .i64 0), .nils, .nils, (.int .i64 0)]), none⟩ ::
          ⟨none, .store 4 (.tmp 6) (.tmp 34), none⟩ :: [])) <|
        .seq (.region (⟨some 35, .faddr 1 (.tmp 6), none⟩ ::
          ⟨some 36, .load false 1 (.tmp 35), none⟩ ::
          ⟨some 37, .len false (.tmp 36), none⟩ ::
          ⟨some 38, .bin .gtr (.tmp 37) (.val (.int .i64 200)), none⟩ ::
          ⟨some 39, .mov (.tmp 38), none⟩ ::
          ⟨some 40, .faddr 2 (.tmp 6), some (39, false)⟩ ::
          ⟨some 41, .load false 1 (.tmp 40), some (39, false)⟩ ::
          ⟨some 42, .len false (.tmp 41), some (39, false)⟩ ::
          ⟨some 43, .bin .gtr (.tmp 42) (.val (.int .i64 200)), some (39, false)⟩ ::
          ⟨some 44, .pick (.tmp 39) (.val (.bool true)) (.tmp 43), none⟩ :: [])) <|
        .cond (.tmp 44) (.seq (.region (⟨some 2, .mov (.val (.bool false)), none⟩ :: [])) <|
          .ret) <|
        .skip)) <|
      .region (⟨some 45, .bin .add (.tmp 31) (.val (.int .i64 1)), none⟩ ::
        ⟨some 31, .mov (.tmp 45), none⟩ :: [])))) <|
  .seq (.region (⟨some 2, .mov (.val (.bool true)), none⟩ :: [])) <|
  .ret⟩
theorem e_law08_Small : cFunc Try.prog kd_CRef08 Try.f38 = some c_law08_Small := by kernel_rfl
/- touchstone/touchstonelaw08.Doms: slots a, 0, b, 1, a, 2, b, 3, i, 5 -/
def c_law08_Doms : AFunc := ⟨27, [.tmp 4],
  .seq (.region (⟨some 4, .mov (.val (.bool false)), none⟩ :: [])) <|
  .seq (.seq (.region (⟨some 6, .mov (.tmp 0), none⟩ ::
    ⟨some 7, .len false (.tmp 6), none⟩ ::
    ⟨some 8, .mov (.tmp 1), none⟩ ::
    ⟨some 9, .len false (.tmp 8), none⟩ ::
    ⟨some 10, .bin .neq (.tmp 7) (.tmp 9), none⟩ :: [])) <|
  .cond (.tmp 10) (.seq (.region (⟨some 4, .mov (.val (.bool false)), none⟩ :: [])) <|
    .ret) <|
  .skip) <|
  .seq (.seq (.region (⟨some 11, .mov (.tmp 0), none⟩ ::
    ⟨some 12, .len false (.tmp 11), none⟩ ::
    ⟨some 13, .mov (.val (.int .i64 0)), none⟩ :: [])) <|
  .block 0 (.loop (.seq (.region (⟨some 14, .bin .lss (.tmp 13) (.tmp 12), none⟩ :: [])) <|
      .seq (.cond (.tmp 14) (.skip) <|
      .exit 0) <|
      .seq (.block 1 (.seq (.region (⟨some 15, .mov (.tmp 13), none⟩ ::
          ⟨some 5, .mov (.tmp 15), none⟩ :: [])) <|
        .seq (.region (⟨some 16, .mov (.tmp 0), none⟩ ::
          ⟨some 17, .mov (.tmp 5), none⟩ ::
          ⟨some 18, .iaddr 1 (.tmp 16) (.tmp 17), none⟩ ::
          ⟨some 19, .load false 1 (.tmp 18), none⟩ ::
          ⟨some 20, .mov (.tmp 1), none⟩ ::
          ⟨some 21, .mov (.tmp 5), none⟩ ::
          ⟨some 22, .iaddr 1 (.tmp 20) (.tmp 21), none⟩ ::
          ⟨some 23, .load false 1 (.tmp 22), none⟩ ::
          ⟨some 24, .call (.val (.fn (.func 14) [])) [(.tmp 19), (.tmp 23)], none⟩ ::
          ⟨some 25, .un .not (.tmp 24), none⟩ :: [])) <|
        .cond (.tmp 25) (.seq (.region (⟨some 4, .mov (.val (.bool false)), none⟩ :: [])) <|
          .ret) <|
        .skip)) <|
      .region (⟨some 26, .bin .add (.tmp 13) (.val (.int .i64 1)), none⟩ ::
        ⟨some 13, .mov (.tmp 26), none⟩ :: [])))) <|
  .seq (.region (⟨some 4, .mov (.val (.bool true)), none⟩ :: [])) <|
  .ret⟩
theorem e_law08_Doms : cFunc Try.prog kd_CRef08 Try.f17 = some c_law08_Doms := by kernel_rfl
/- touchstone/touchstonelaw12.Fits: slots c, 0, d, 1, c, 2, d, 3 -/
def c_law12_Fits : AFunc := ⟨15, [.tmp 4],
  .seq (.region (⟨some 2, .box 4 (.tmp 0), none⟩ ::
    ⟨some 4, .mov (.val (.bool false)), none⟩ :: [])) <|
  .seq (.region (⟨some 5, .mov (.tmp 1), none⟩ ::
    ⟨some 6, .load true 4 (.tmp 2), none⟩ ::
    ⟨some 7, .bslice 4 [(.tmp 6)], none⟩ ::
    ⟨some 8, .build [.nils, .nils, (.int .i64 0), (.int .i64 0)] [(0, 1, (.tmp 5)), (1, 1, (.tmp 7))], none⟩ ::
    ⟨some 9, .call (.val (.fn (.func 38) [])) [(.tmp 8)], none⟩ ::
    ⟨some 10, .mov (.tmp 9), none⟩ ::
    ⟨some 11, .mov (.tmp 1), some (10, true)⟩ ::
    ⟨some 12, .len false (.tmp 11), some (10, true)⟩ ::
    ⟨some 13, .bin .leq (.tmp 12) (.val (.int .i64 100)), some (10, true)⟩ ::
    ⟨some 14, .pick (.tmp 10) (.tmp 13) (.val (.bool false)), none⟩ ::
    ⟨some 4, .mov (.tmp 14), none⟩ :: [])) <|
  .ret⟩
theorem e_law12_Fits : cFunc Try.prog kd_CRef08 Try.f15 = some c_law12_Fits := by kernel_rfl
/- touchstone/touchstoneref12.Fit: slots c, 0, d, 1, c, 2, d, 3 -/
def c_ref12_Fit : AFunc := ⟨10, [.tmp 4],
  .seq (.region (⟨some 2, .box 4 (.tmp 0), none⟩ ::
    ⟨some 4, .mov (.val (.bool false)), none⟩ :: [])) <|
  .seq (.region (⟨some 5, .mov (.tmp 1), none⟩ ::
    ⟨some 6, .load true 4 (.tmp 2), none⟩ ::
    ⟨some 7, .bslice 4 [(.tmp 6)], none⟩ ::
    ⟨some 8, .build [.nils, .nils, (.int .i64 0), (.int .i64 0)] [(0, 1, (.tmp 5)), (1, 1, (.tmp 7))], none⟩ ::
    ⟨some 9, .call (.val (.fn (.func 39) [])) [(.tmp 8)], none⟩ ::
    ⟨some 4, .mov (.tmp 9), none⟩ :: [])) <|
  .ret⟩
theorem e_ref12_Fit : cFunc Try.prog kd_CRef08 Try.f16 = some c_ref12_Fit := by kernel_rfl
end Go.Proofs.Ytnhedjpghpdbdaa
namespace Go.Proofs.Ytnhedjpghpdbdaa
open Av
attribute [local irreducible] awp awpOpers
set_option linter.unusedSimpArgs false
set_option linter.unusedVariables false
set_option maxRecDepth 100000
set_option maxHeartbeats 4000000
theorem ref08_truth (l : List Rg) (hl : l.length ≤ 1000000000000) : Ctr Try.prog 99 [eRgs l] [] (.bool (truthB l)) [] := by
  refine call_pure Try.func99 Try.call99 e_ref08_truth ?_
  by_cases h0 : 0 < l.length
  · obtain ⟨⟨x, y⟩, hxy⟩ : ∃ r, l[0]? = some r := ⟨_, List.getElem?_eq_getElem h0⟩
    obtain ⟨⟨p, q⟩, hpq⟩ : ∃ r, l[l.length - 1]? = some r := ⟨_, List.getElem?_eq_getElem (by omega)⟩
    have e1 : IntKind.i64.wrap ((l.length : Int) - 1) = ((l.length - 1 : Nat) : Int) := by rw [wrap_i64] <;> omega
    have h0' : (0 : Int) < l.length := by omega
    simp +contextual -implicitDefEqProofs (maxSteps := 1000000) only [c_ref08_truth, eRgs, sm, sn, sxx, seval, h0', hxy, hpq, e1]
    simp only [truthB, hxy, hpq]
    split <;> simp_all <;> omega
  · have : l = [] := List.eq_nil_of_length_eq_zero (by omega)
    subst this
    simp +contextual -implicitDefEqProofs (maxSteps := 1000000) only [c_ref08_truth, eRgs, sm, sn, sxx, seval, Int.lt_irrefl, Int.natCast_zero]
    simp [truthB]
def signB (a : Int) : Bool := decide (a = 1) || decide (a = -1)
theorem ref08_signs (l : List Int) (hl : l.length ≤ 1000000000000) : Ctr Try.prog 125 [eIs l] [] (.bool (l.all signB)) [] := by
  refine call_pure Try.func125 Try.call125 e_ref08_signs ?_
  simp +contextual -implicitDefEqProofs (maxSteps := 1000000) only [c_ref08_signs, eIs, sm, sn, sxx, seval]
  refine loop_rule (fun k : Nat => k ≤ l.length ∧ ∀ (j : Nat) x, j < k → l[j]? = some x → signB x = true) (fun k => tm 22 [(0, .list 1 (l.map eI)), (3, .int .i64 k)]) (fun _ => []) (fun k => l.length - k) 0 ⟨by omega, by omega⟩ ⟨[], by decide, rfl, ?_, ?_⟩ ?_
  · simp +contextual -implicitDefEqProofs (maxSteps := 1000000) only [sm, sn, sxx, seval]
  · simp +contextual -implicitDefEqProofs (maxSteps := 1000000) only [sm, sn, sxx, seval, Int.natCast_zero]
  · rintro k ⟨hk, hok⟩
    by_cases hlt : k < l.length
    · obtain ⟨x, hx⟩ : ∃ r, l[k]? = some r := ⟨_, List.getElem?_eq_getElem hlt⟩
      have hlt' : (k : Int) < (l.length : Int) := by omega
      have e2 : IntKind.i64.wrap ((k : Int) + 1) = ((k + 1 : Nat) : Int) := by rw [wrap_i64] <;> omega
      by_cases h1 : x = 1
      · simp +contextual -implicitDefEqProofs (maxSteps := 1000000) only [sm, sn, sxx, seval, hlt', hx, h1, e2]
        refine ⟨k + 1, ⟨by omega, ?_⟩, by omega, [], by decide, rfl, ?_, ?_⟩
        · intro j y hj hy
          rcases Nat.lt_succ_iff_lt_or_eq.1 hj with h | rfl
          · exact hok j y h hy
          · rw [hx] at hy; injection hy with hy; subst hy; simp [signB, h1]
        · simp +contextual -implicitDefEqProofs (maxSteps := 1000000) only [sm, sn, sxx, seval]
        · simp +contextual -implicitDefEqProofs (maxSteps := 1000000) only [sm, sn, sxx, seval]
      by_cases h2 : x = -1
      · simp +contextual -implicitDefEqProofs (maxSteps := 1000000) only [sm, sn, sxx, seval, hlt', hx, h1, h2, e2]
        refine ⟨k + 1, ⟨by omega, ?_⟩, by omega, [], by decide, rfl, ?_, ?_⟩
        · intro j y hj hy
          rcases Nat.lt_succ_iff_lt_or_eq.1 hj with h | rfl
          · exact hok j y h hy
          · rw [hx] at hy; injection hy with hy; subst hy; simp [signB, h2]
        · simp +contextual -implicitDefEqProofs (maxSteps := 1000000) only [sm, sn, sxx, seval]
        · simp +contextual -implicitDefEqProofs (maxSteps := 1000000) only [sm, sn, sxx, seval]
      simp +contextual -implicitDefEqProofs (maxSteps := 1000000) only [sm, sn, sxx, seval, hlt', hx, h1, h2]
      exact listall_no hx (by simp [signB, h1, h2])
    · have : k = l.length := by omega
      subst this
      have hall := listall_yes hok
      simp +contextual -implicitDefEqProofs (maxSteps := 1000000) only [sm, sn, sxx, seval, Int.lt_irrefl]
      exact hall
def nonegB (a : Int) : Bool := !decide (a < 0)
theorem ref08_none (l : List Int) (hl : l.length ≤ 1000000000000) : Ctr Try.prog 126 [eIs l] [] (.bool (l.all nonegB)) [] := by
  refine call_pure Try.func126 Try.call126 e_ref08_none ?_
  simp +contextual -implicitDefEqProofs (maxSteps := 1000000) only [c_ref08_none, eIs, sm, sn, sxx, seval]
  refine loop_rule (fun k : Nat => k ≤ l.length ∧ ∀ (j : Nat) x, j < k → l[j]? = some x → nonegB x = true) (fun k => tm 15 [(0, .list 1 (l.map eI)), (3, .int .i64 k)]) (fun _ => []) (fun k => l.length - k) 0 ⟨by omega, by omega⟩ ⟨[], by decide, rfl, ?_, ?_⟩ ?_
  · simp +contextual -implicitDefEqProofs (maxSteps := 1000000) only [sm, sn, sxx, seval]
  · simp +contextual -implicitDefEqProofs (maxSteps := 1000000) only [sm, sn, sxx, seval, Int.natCast_zero]
  · rintro k ⟨hk, hok⟩
    by_cases hlt : k < l.length
    · obtain ⟨x, hx⟩ : ∃ r, l[k]? = some r := ⟨_, List.getElem?_eq_getElem hlt⟩
      have hlt' : (k : Int) < (l.length : Int) := by omega
      have e2 : IntKind.i64.wrap ((k : Int) + 1) = ((k + 1 : Nat) : Int) := by rw [wrap_i64] <;> omega
      by_cases h1 : x < 0
      · simp +contextual -implicitDefEqProofs (maxSteps := 1000000) only [sm, sn, sxx, seval, hlt', hx, h1]
        exact listall_no hx (by simp [nonegB, h1])
      simp +contextual -implicitDefEqProofs (maxSteps := 1000000) only [sm, sn, sxx, seval, hlt', hx, h1, e2]
      refine ⟨k + 1, ⟨by omega, ?_⟩, by omega, [], by decide, rfl, ?_, ?_⟩
      · intro j y hj hy
        rcases Nat.lt_succ_iff_lt_or_eq.1 hj with h | rfl
        · exact hok j y h hy
        · rw [hx] at hy; injection hy with hy; subst hy; simp [nonegB]; omega
      · simp +contextual -implicitDefEqProofs (maxSteps := 1000000) only [sm, sn, sxx, seval]
      · simp +contextual -implicitDefEqProofs (maxSteps := 1000000) only [sm, sn, sxx, seval]
    · have : k = l.length := by omega
      subst this
      have hall := listall_yes hok
      simp +contextual -implicitDefEqProofs (maxSteps := 1000000) only [sm, sn, sxx, seval, Int.lt_irrefl]
      exact hall
def namedB (K : Int) : Bool := decide (1 ≤ K) && decide (K ≤ 6) || decide (K = 19)
theorem ref08_named (K : Int) : Ctr Try.prog 98 [.int .i64 K] [] (.bool (namedB K)) [] := by
  refine call_pure Try.func98 Try.call98 e_ref08_named ?_
  unfold namedB
  by_cases h1 : 1 ≤ K
  · by_cases h2 : K ≤ 6
    · simp +contextual -implicitDefEqProofs (maxSteps := 1000000) only [c_ref08_named, sm, sn, sxx, seval, h1, h2]
      rfl
    · simp +contextual -implicitDefEqProofs (maxSteps := 1000000) only [c_ref08_named, sm, sn, sxx, seval, h1, h2]
      simp
  · simp +contextual -implicitDefEqProofs (maxSteps := 1000000) only [c_ref08_named, sm, sn, sxx, seval, h1]
    simp
theorem ref08_Dom (l : List Rg) (hl : l.length ≤ 1000000000000) : Ctr Try.prog 83 [eRgs l] [] (.bool (domB l)) [] := by
  refine call_pure Try.func83 Try.call83 e_ref08_Dom ?_
  simp +contextual -implicitDefEqProofs (maxSteps := 1000000) only [c_ref08_Dom, eRgs, sm, sn, sxx, seval]
  refine loop_rule (fun k : Nat => k ≤ l.length ∧ ∀ j, j < k → okAt l j = true) (fun k => tm 61 [(0, .list 2 (l.map eRg)), (3, .int .i64 k)]) (fun _ => []) (fun k => l.length - k) 0 ⟨by omega, by omega⟩ ⟨[], by decide, rfl, trivial, ?_⟩ ?_
  · simp +contextual -implicitDefEqProofs (maxSteps := 1000000) only [sm, sn, sxx, seval, Int.natCast_zero]
  · rintro k ⟨hk, hok⟩
    by_cases hlt : k < l.length
    · obtain ⟨⟨x, y⟩, hxy⟩ : ∃ r, l[k]? = some r := ⟨_, List.getElem?_eq_getElem hlt⟩
      have hlt' : (k : Int) < (l.length : Int) := by omega
      have no : okAt l k = false → domB l = false := fun h => by unfold domB; rw [rightB_no hlt h]; rfl
      by_cases h1 : y < x
      · simp +contextual -implicitDefEqProofs (maxSteps := 1000000) only [sm, sn, sxx, seval, hlt', hxy, h1]
        exact no (by simp [okAt, hxy, h1])
      simp +contextual -implicitDefEqProofs (maxSteps := 1000000) only [sm, sn, sxx, seval, hlt', hxy, h1]
      refine callA_rule (ref08_Within _) (wkL_refl _) rfl ?_
      cases hw1 : withinB x
      · simp +contextual -implicitDefEqProofs (maxSteps := 1000000) only [sm, sn, sxx, seval]
        exact no (by simp [okAt, hxy, hw1])
      simp +contextual -implicitDefEqProofs (maxSteps := 1000000) only [sm, sn, sxx, seval, h1, hlt', hxy]
      refine callA_rule (ref08_Within _) (wkL_refl _) rfl ?_
      cases hw2 : withinB y
      · simp +contextual -implicitDefEqProofs (maxSteps := 1000000) only [sm, sn, sxx, seval]
        exact no (by simp [okAt, hxy, hw2])
      obtain ⟨x1, x2⟩ := (withinB_iff _).1 hw1
      obtain ⟨y1, y2⟩ := (withinB_iff _).1 hw2
      have e2 : IntKind.i64.wrap ((k : Int) + 1) = ((k + 1 : Nat) : Int) := by rw [wrap_i64] <;> omega
      by_cases h0 : k = 0
      · have h0' : ¬ (0 : Int) < k := by omega
        simp +contextual -implicitDefEqProofs (maxSteps := 1000000) only [sm, sn, sxx, seval, h1, h0', e2]
        refine ⟨k + 1, ⟨by omega, ?_⟩, by omega, [], by decide, rfl, trivial, ?_⟩
        · intro j hj
          rcases Nat.lt_succ_iff_lt_or_eq.1 hj with h | rfl
          · exact hok j h
          · simp only [okAt, hxy, h0] at hxy ⊢
            simp [hxy, h1, hw1, hw2]
        · simp +contextual -implicitDefEqProofs (maxSteps := 1000000) only [sm, sn, sxx, seval]
      · have h0' : (0 : Int) < k := by omega
        have e1 : IntKind.i64.wrap ((k : Int) - 1) = ((k - 1 : Nat) : Int) := by rw [wrap_i64] <;> omega
        obtain ⟨⟨p, q⟩, hpq⟩ : ∃ r, l[k - 1]? = some r := ⟨_, List.getElem?_eq_getElem (by omega)⟩
        have hp := hok (k - 1) (by omega)
        simp only [okAt, hpq, Bool.and_eq_true, withinB_iff] at hp
        have e3 : IntKind.i64.wrap (q + 2) = q + 2 := by rw [wrap_i64] <;> omega
        have hk1 : ((k - 1 : Nat) : Int) < l.length := by omega
        simp +contextual -implicitDefEqProofs (maxSteps := 1000000) only [sm, sn, sxx, seval, h1, h0', e1, hpq, e2, e3, hlt', hxy, hk1]
        split
        · exact no (by simp [okAt, hxy, hpq, h1, hw1, hw2, h0]; omega)
        · refine ⟨k + 1, ⟨by omega, ?_⟩, by omega, [], by decide, rfl, trivial, ?_⟩
          · intro j hj
            rcases Nat.lt_succ_iff_lt_or_eq.1 hj with h | rfl
            · exact hok j h
            · simp [okAt, hxy, h1, hw1, hw2, hpq]; omega
          · simp +contextual -implicitDefEqProofs (maxSteps := 1000000) only [sm, sn, sxx, seval]
    · have : k = l.length := by omega
      subst this
      simp +contextual -implicitDefEqProofs (maxSteps := 1000000) only [sm, sn, sxx, seval, Int.lt_irrefl]
      unfold domB
      rw [rightB_yes hok, Bool.true_and]
      simp only [ge_iff_le, decide_eq_decide]
      omega
end Go.Proofs.Ytnhedjpghpdbdaa
namespace Go.Proofs.Ytnhedjpghpdbdaa
open Av
attribute [local irreducible] awp awpOpers
set_option linter.unusedSimpArgs false
set_option linter.unusedVariables false
set_option maxRecDepth 100000
set_option maxHeartbeats 4000000
theorem signs_any (l : List Int) : (l.any fun a => decide (a ≠ 1) && decide (a ≠ -1)) = !l.all signB := by
  rw [← any_not]
  congr 1
  funext a
  simp [signB]
theorem none_any (l : List Int) : (l.any fun a => decide (a < 0)) = !l.all nonegB := by
  rw [← any_not]
  congr 1
  funext a
  simp [nonegB]
theorem ref08_shape (c : Con) (hX : c.2.1.length ≤ 1000000000000) (hA : c.2.2.1.length ≤ 1000000000000) : Ctr Try.prog 97 [eCon c] [] (.bool (formedB c)) [] := by
  obtain ⟨K, X, A, C⟩ := c
  simp only at hX hA
  refine call_pure Try.func97 Try.call97 e_ref08_shape ?_
  have w1 : IntKind.i64.wrap ((A.length : Int) + 1) = (A.length : Int) + 1 := by rw [wrap_i64] <;> omega
  have w2 : IntKind.i64.wrap (2 * (X.length : Int)) = 2 * (X.length : Int) := by rw [wrap_i64] <;> omega
  by_cases h11 : K = 11
  · subst h11
    by_cases hn : (X.length : Int) = (A.length : Int)
    · simp +contextual -implicitDefEqProofs (maxSteps := 1000000) only [c_ref08_shape, eCon, eIs, sm, sn, sxx, seval, hn, or_true, true_or, or_false, false_or]
      refine callA_rule (ref08_signs A hA) (wkL_refl _) rfl ?_
      simp +contextual -implicitDefEqProofs (maxSteps := 1000000) only [sm, sn, sxx, seval]
      have hs := signs_any A
      simp at hs
      simp [formedB, kindB, countsB, shp, hs, hn]
    · simp +contextual -implicitDefEqProofs (maxSteps := 1000000) only [c_ref08_shape, eCon, eIs, sm, sn, sxx, seval, hn, or_true, true_or, or_false, false_or]
      simp [formedB, kindB, countsB, shp, hn]
  by_cases h19 : K = 19
  · subst h19
    by_cases hn : (A.length : Int) = 2 * (X.length : Int)
    · simp +contextual -implicitDefEqProofs (maxSteps := 1000000) only [c_ref08_shape, eCon, eIs, sm, sn, sxx, seval, hn, w2, or_true, true_or, or_false, false_or]
      refine callA_rule (ref08_none A hA) (wkL_refl _) rfl ?_
      cases h0 : A.all nonegB
      · simp +contextual -implicitDefEqProofs (maxSteps := 1000000) only [sm, sn, sxx, seval]
        simp [formedB, kindB, countsB, shp, none_any, hn, h0]
      · simp +contextual -implicitDefEqProofs (maxSteps := 1000000) only [sm, sn, sxx, seval]
        simp [formedB, kindB, countsB, shp, none_any, hn, h0]
    · simp +contextual -implicitDefEqProofs (maxSteps := 1000000) only [c_ref08_shape, eCon, eIs, sm, sn, sxx, seval, hn, w2, or_true, true_or, or_false, false_or]
      simp [formedB, kindB, countsB, shp, hn]
  by_cases hK : 1 ≤ K ∧ K ≤ 19
  · have : K = 1 ∨ K = 2 ∨ K = 3 ∨ K = 4 ∨ K = 5 ∨ K = 6 ∨ K = 7 ∨ K = 8 ∨ K = 9 ∨ K = 10 ∨ K = 12 ∨ K = 13 ∨ K = 14 ∨ K = 15 ∨ K = 16 ∨ K = 17 ∨ K = 18 := by omega
    clear h11 h19 hK
    rcases this with rfl | rfl | rfl | rfl | rfl | rfl | rfl | rfl | rfl | rfl | rfl | rfl | rfl | rfl | rfl | rfl | rfl
    all_goals
      simp +contextual -implicitDefEqProofs (maxSteps := 1000000) only [c_ref08_shape, eCon, eIs, sm, sn, sxx, seval, w1, w2, or_true, true_or, or_false, false_or]
      simp [formedB, kindB, countsB, shp]
      try (repeat' split)
      all_goals (try simp_all)
      all_goals (try omega)
  · have h1 : ∀ n : Int, 1 ≤ n → n ≤ 19 → (K = n) = False := fun n a b => by simp only [eq_iff_iff, iff_false]; omega
    have h2 : kindB K = false := by simp only [kindB, Bool.and_eq_false_iff, decide_eq_false_iff_not]; omega
    simp +contextual -implicitDefEqProofs (maxSteps := 1000000) only [c_ref08_shape, eCon, eIs, h2, sm, sn, sxx, seval, or_true, true_or, or_false, false_or, h1 1, h1 2, h1 3, h1 4, h1 5, h1 6, h1 7, h1 8, h1 9, h1 10, h1 11, h1 12, h1 13, h1 14, h1 15, h1 16, h1 17, h1 18, h1 19]
    simp [formedB, h2]
end Go.Proofs.Ytnhedjpghpdbdaa
namespace Go.Proofs.Ytnhedjpghpdbdaa
open Av
attribute [local irreducible] awp awpOpers
set_option linter.unusedSimpArgs false
set_option linter.unusedVariables false
set_option maxRecDepth 100000
set_option maxHeartbeats 4000000
def inR (D : List (List Rg)) (x : Int) : Bool := decide (0 ≤ x) && decide (x < D.length)
theorem inR_row {D : List (List Rg)} {x : Int} (h : inR D x = true) : D[x.toNat]? = some (rowOf D x) := by
  simp only [inR, Bool.and_eq_true, decide_eq_true_eq] at h
  unfold rowOf
  rw [List.getElem?_eq_getElem (by omega)]; rfl
theorem row_len {D : List (List Rg)} (hd : ∀ d ∈ D, d.length ≤ 1000000000000) (x : Int) : (rowOf D x).length ≤ 1000000000000 := by
  unfold rowOf
  cases h : D[x.toNat]? with
  | none => simp
  | some r => exact hd r (List.mem_of_getElem? h)
def truthAt (D : List (List Rg)) (x : Int) : Bool := truthB (rowOf D x)
theorem xs_zero {D : List (List Rg)} {X : List Int} (h : X.all (inR D) = true) : xsOk D X 0 = true := by
  refine all_yes fun k hk => ?_
  rw [List.all_eq_true] at h
  have := h _ (List.getElem_mem hk)
  simp only [inR, Bool.and_eq_true, decide_eq_true_eq] at this
  simp [xOk, List.getElem?_eq_getElem hk, this]
theorem xs_two {D : List (List Rg)} {X : List Int} (h : X.all (inR D) = true) : xsOk D X 2 = X.all (truthAt D) := by
  rw [List.all_eq_true] at h
  have key : ∀ k, k < X.length → ∀ x, X[k]? = some x → xOk D X 2 k = truthAt D x := by
    intro k hk x hx
    have := h x (List.mem_of_getElem? hx)
    simp only [inR, Bool.and_eq_true, decide_eq_true_eq] at this
    simp [xOk, hx, this, truthAt]
  cases ha : X.all (truthAt D)
  · rw [List.all_eq_false] at ha
    obtain ⟨x, hx, hn⟩ := ha
    obtain ⟨k, hk, rfl⟩ := List.getElem_of_mem hx
    exact all_no hk (by rw [key k hk _ (List.getElem?_eq_getElem hk)]; simpa using hn)
  · rw [List.all_eq_true] at ha
    exact all_yes fun k hk => by rw [key k hk _ (List.getElem?_eq_getElem hk)]; exact ha _ (List.getElem_mem hk)
theorem xs_one {D : List (List Rg)} {X : List Int} {x : Int} (h : X.all (inR D) = true) (hx : X[X.length - 1]? = some x) : xsOk D X 1 = truthAt D x := by
  rw [List.all_eq_true] at h
  have hl : X.length - 1 < X.length := (List.getElem?_eq_some_iff.1 hx).1
  have key : ∀ k, k < X.length → xOk D X 1 k = if k + 1 = X.length then truthAt D x else true := by
    intro k hk
    have := h _ (List.getElem_mem hk)
    simp only [inR, Bool.and_eq_true, decide_eq_true_eq] at this
    by_cases he : k + 1 = X.length
    · have : k = X.length - 1 := by omega
      subst this
      rw [if_pos he]
      have hx' : X[X.length - 1] = x := (List.getElem?_eq_some_iff.1 hx).2
      simp [xOk, List.getElem?_eq_getElem hk, this, he, truthAt, hx'] at *
      simp [this]
    · simp [xOk, List.getElem?_eq_getElem hk, this, he]
  cases ha : truthAt D x
  · exact all_no hl (by rw [key _ hl, if_pos (by omega), ha])
  · exact all_yes fun k hk => by rw [key k hk, ha]; simp
theorem ref08_truths (m : Mod) (X : List Int) (hX : X.length ≤ 1000000000000) (hd : ∀ d ∈ m.1, d.length ≤ 1000000000000) (hin : X.all (inR m.1) = true) :
    Ctr Try.prog 100 [eMod m, eIs X] [] (.bool (X.all (truthAt m.1))) [] := by
  obtain ⟨D, cs, ask, goal⟩ := m
  simp only at hd hin
  refine call_pure Try.func100 Try.call100 e_ref08_truths ?_
  have hin' := hin
  rw [List.all_eq_true] at hin'
  simp +contextual -implicitDefEqProofs (maxSteps := 1000000) only [c_ref08_truths, eMod, eIs, sm, sn, sxx, seval]
  refine loop_rule (fun k : Nat => k ≤ X.length ∧ ∀ (j : Nat) x, j < k → X[j]? = some x → (truthAt D) x = true) (fun k => tm 22 [(1, .list 1 (X.map eI)), (2, .ptr 4 0 0 0), (5, .int .i64 k)]) (fun _ => [some (4, [eMod (D, cs, ask, goal)])]) (fun k => X.length - k) 0 ⟨by omega, by omega⟩ ⟨[0], by decide, rfl, ?_, ?_⟩ ?_
  · simp +contextual -implicitDefEqProofs (maxSteps := 1000000) only [sm, sn, sxx, seval, eMod, eDoms, eCons]
  · simp +contextual -implicitDefEqProofs (maxSteps := 1000000) only [sm, sn, sxx, seval, Int.natCast_zero, eMod, eDoms, eCons]
  · rintro k ⟨hk, hok⟩
    by_cases hlt : k < X.length
    · obtain ⟨x, hx⟩ : ∃ r, X[k]? = some r := ⟨_, List.getElem?_eq_getElem hlt⟩
      have hlt' : (k : Int) < (X.length : Int) := by omega
      have e2 : IntKind.i64.wrap ((k : Int) + 1) = ((k + 1 : Nat) : Int) := by rw [wrap_i64] <;> omega
      have hxr := hin' x (List.mem_of_getElem? hx)
      have hrow := inR_row hxr
      have hx0 : 0 ≤ x := by simp [inR] at hxr; exact hxr.1
      simp +contextual -implicitDefEqProofs (maxSteps := 1000000) only [sm, sn, sxx, seval, hlt', hx, hx0, hrow, eMod, eDoms]
      refine callA_rule (ref08_truth _ (row_len hd x)) (wkL_refl _) rfl ?_
      cases ht : truthB (rowOf D x)
      · simp +contextual -implicitDefEqProofs (maxSteps := 1000000) only [sm, sn, sxx, seval]
        exact listall_no hx ht
      · simp +contextual -implicitDefEqProofs (maxSteps := 1000000) only [sm, sn, sxx, seval, e2]
        refine ⟨k + 1, ⟨by omega, ?_⟩, by omega, [0], by decide, rfl, ?_, ?_⟩
        · intro j y hj hy
          rcases Nat.lt_succ_iff_lt_or_eq.1 hj with h | rfl
          · exact hok j y h hy
          · rw [hx] at hy; injection hy with hy; subst hy; exact ht
        · simp +contextual -implicitDefEqProofs (maxSteps := 1000000) only [sm, sn, sxx, seval, eMod, eDoms, eCons]
        · simp +contextual -implicitDefEqProofs (maxSteps := 1000000) only [sm, sn, sxx, seval, eMod, eDoms, eCons]
    · have : k = X.length := by omega
      subst this
      have hall := listall_yes hok
      simp +contextual -implicitDefEqProofs (maxSteps := 1000000) only [sm, sn, sxx, seval, Int.lt_irrefl]
      exact hall
end Go.Proofs.Ytnhedjpghpdbdaa
namespace Go.Proofs.Ytnhedjpghpdbdaa
open Av
attribute [local irreducible] awp awpOpers
set_option linter.unusedSimpArgs false
set_option linter.unusedVariables false
set_option maxRecDepth 100000
set_option maxHeartbeats 4000000
theorem named_has {K : Int} (h : kindB K = true) : namedB K = (shp K).2.2.2.1 := by
  simp only [kindB, Bool.and_eq_true, decide_eq_true_eq] at h
  have : K = 1 ∨ K = 2 ∨ K = 3 ∨ K = 4 ∨ K = 5 ∨ K = 6 ∨ K = 7 ∨ K = 8 ∨ K = 9 ∨ K = 10 ∨ K = 11 ∨ K = 12 ∨ K = 13 ∨ K = 14 ∨ K = 15 ∨ K = 16 ∨ K = 17 ∨ K = 18 ∨ K = 19 := by omega
  rcases this with rfl | rfl | rfl | rfl | rfl | rfl | rfl | rfl | rfl | rfl | rfl | rfl | rfl | rfl | rfl | rfl | rfl | rfl | rfl <;> decide
theorem ref08_Con (m : Mod) (c : Con) (hD : m.1.length ≤ 1000000000000) (hd : ∀ d ∈ m.1, d.length ≤ 1000000000000) (hX : c.2.1.length ≤ 1000000000000) (hA : c.2.2.1.length ≤ 1000000000000) :
    Ctr Try.prog 59 [eMod m, eCon c] [] (.bool (mayB m.1 c)) [] := by
  obtain ⟨D, cs, ask, goal⟩ := m
  obtain ⟨K, X, A, C⟩ := c
  simp only at hX hA hD hd
  refine call_pure Try.func59 Try.call59 e_ref08_Con ?_
  simp +contextual -implicitDefEqProofs (maxSteps := 1000000) only [c_ref08_Con, eCon, eMod, sm, sn, sxx, seval]
  refine callA_rule (ref08_shape (K, X, A, C) hX hA) (wkL_refl _) rfl ?_
  cases hf : formedB (K, X, A, C)
  · simp +contextual -implicitDefEqProofs (maxSteps := 1000000) only [sm, sn, sxx, seval]
    simp [mayB, hf]
  have hkind : kindB K = true := by
    simp only [formedB, Bool.and_eq_true] at hf
    exact hf.1.1
  by_cases h32 : X.length ≤ 32
  · have h32' : ¬ (32 : Int) < X.length := by omega
    simp +contextual -implicitDefEqProofs (maxSteps := 1000000) only [sm, sn, sxx, seval, eIs, h32']
    refine callA_rule (ref08_Within _) (wkL_refl _) rfl ?_
    cases hw : withinB C
    · simp +contextual -implicitDefEqProofs (maxSteps := 1000000) only [sm, sn, sxx, seval]
      simp [mayB, hw]
    by_cases h0 : C = 0
    · have h0' : (C = 0) = True := eq_true h0
      have hC : (decide (C = 0) || (shp K).2.2.2.1) = true := by simp [h0]
      simp +contextual -implicitDefEqProofs (maxSteps := 1000000) only [sm, sn, sxx, seval, h0']
      refine loop_rule (fun k : Nat => k ≤ X.length ∧ ∀ (j : Nat) x, j < k → X[j]? = some x → (inR D) x = true) (fun k => tm 99 [(2, .ptr 4 0 0 0), (3, .ptr 4 1 0 0), (5, .int .i64 k)]) (fun _ => [some (4, [eMod (D, cs, ask, goal)]), some (4, [eCon (K, X, A, C)])]) (fun k => X.length - k) 0 ⟨by omega, by omega⟩ ⟨[0, 1], by decide, rfl, ?_, ?_⟩ ?_
      · simp +contextual -implicitDefEqProofs (maxSteps := 1000000) only [sm, sn, sxx, seval, eMod, eDoms, eCons, eCon, eIs]
      · simp +contextual -implicitDefEqProofs (maxSteps := 1000000) only [sm, sn, sxx, seval, Int.natCast_zero, eMod, eDoms, eCons, eCon, eIs]
      · rintro k ⟨hk, hok⟩
        by_cases hlt : k < X.length
        · obtain ⟨x, hx⟩ : ∃ r, X[k]? = some r := ⟨_, List.getElem?_eq_getElem hlt⟩
          have hlt' : (k : Int) < (X.length : Int) := by omega
          have e2 : IntKind.i64.wrap ((k : Int) + 1) = ((k + 1 : Nat) : Int) := by rw [wrap_i64] <;> omega
          have no : inR D x = false → mayB D (K, X, A, C) = false := fun h => by
            have : xsOk D X (shp K).2.2.2.2 = false := by
              refine all_no hlt ?_
              simp only [xOk, hx]
              simp only [inR] at h
              rw [h]; rfl
            simp [mayB, this]
          by_cases hx0 : x < 0
          · simp +contextual -implicitDefEqProofs (maxSteps := 1000000) only [sm, sn, sxx, seval, hlt', hx, hx0, eCon, eIs]
            exact no (by simp [inR]; omega)
          by_cases hx1 : (D.length : Int) ≤ x
          · simp +contextual -implicitDefEqProofs (maxSteps := 1000000) only [sm, sn, sxx, seval, hlt', hx, hx0, hx1, eMod, eDoms, eCon, eIs]
            exact no (by simp [inR]; omega)
          simp +contextual -implicitDefEqProofs (maxSteps := 1000000) only [sm, sn, sxx, seval, hlt', hx, hx0, hx1, eMod, eDoms, eCon, eIs, e2]
          refine ⟨k + 1, ⟨by omega, ?_⟩, by omega, [0, 1], by decide, rfl, ?_, ?_⟩
          · intro j y hj hy
            rcases Nat.lt_succ_iff_lt_or_eq.1 hj with h | rfl
            · exact hok j y h hy
            · rw [hx] at hy; injection hy with hy; subst hy; simp [inR]; omega
          · simp +contextual -implicitDefEqProofs (maxSteps := 1000000) only [sm, sn, sxx, seval, eMod, eDoms, eCons, eCon, eIs]
          · simp +contextual -implicitDefEqProofs (maxSteps := 1000000) only [sm, sn, sxx, seval, eMod, eDoms, eCons, eCon, eIs]
        · have : k = X.length := by omega
          subst this
          have hall := listall_yes hok
          have hin := hall
          clear hall hok
          simp +contextual -implicitDefEqProofs (maxSteps := 1000000) only [sm, sn, sxx, seval, Int.lt_irrefl, eCon, eIs]
          refine loop_rule (fun k : Nat => k ≤ A.length ∧ ∀ (j : Nat) x, j < k → A[j]? = some x → withinB x = true) (fun k => tm 99 [(2, .ptr 4 0 0 0), (3, .ptr 4 1 0 0), (6, .int .i64 k)]) (fun _ => [some (4, [eMod (D, cs, ask, goal)]), some (4, [eCon (K, X, A, C)])]) (fun k => A.length - k) 0 ⟨by omega, by omega⟩ ⟨[0, 1], by decide, rfl, ?_, ?_⟩ ?_
          · simp +contextual -implicitDefEqProofs (maxSteps := 1000000) only [sm, sn, sxx, seval, eMod, eDoms, eCons, eCon, eIs]
          · simp +contextual -implicitDefEqProofs (maxSteps := 1000000) only [sm, sn, sxx, seval, Int.natCast_zero, eMod, eDoms, eCons, eCon, eIs]
          · rintro k ⟨hk, hok⟩
            by_cases hlt : k < A.length
            · obtain ⟨x, hx⟩ : ∃ r, A[k]? = some r := ⟨_, List.getElem?_eq_getElem hlt⟩
              have hlt' : (k : Int) < (A.length : Int) := by omega
              have e2 : IntKind.i64.wrap ((k : Int) + 1) = ((k + 1 : Nat) : Int) := by rw [wrap_i64] <;> omega
              simp +contextual -implicitDefEqProofs (maxSteps := 1000000) only [sm, sn, sxx, seval, hlt', hx, eCon, eIs]
              refine callA_rule (ref08_Within _) (wkL_refl _) rfl ?_
              cases ht : withinB x
              · simp +contextual -implicitDefEqProofs (maxSteps := 1000000) only [sm, sn, sxx, seval]
                simp [mayB, listall_no hx ht]
              · simp +contextual -implicitDefEqProofs (maxSteps := 1000000) only [sm, sn, sxx, seval, e2]
                refine ⟨k + 1, ⟨by omega, ?_⟩, by omega, [0, 1], by decide, rfl, ?_, ?_⟩
                · intro j y hj hy
                  rcases Nat.lt_succ_iff_lt_or_eq.1 hj with h | rfl
                  · exact hok j y h hy
                  · rw [hx] at hy; injection hy with hy; subst hy; exact ht
                · simp +contextual -implicitDefEqProofs (maxSteps := 1000000) only [sm, sn, sxx, seval, eMod, eDoms, eCons, eCon, eIs]
                · simp +contextual -implicitDefEqProofs (maxSteps := 1000000) only [sm, sn, sxx, seval, eMod, eDoms, eCons, eCon, eIs]
            · have : k = A.length := by omega
              subst this
              have hall := listall_yes hok
              have hmay : mayB D (K, X, A, C) = xsOk D X (shp K).2.2.2.2 := by
                simp only [mayB, hf, hw, h32, hC, hall, decide_true, Bool.true_and, Bool.and_true]
              by_cases k4 : K = 4 ∨ K = 5 ∨ K = 6
              · have hb : (shp K).2.2.2.2 = 1 := by rcases k4 with rfl | rfl | rfl <;> decide
                obtain ⟨x, hx⟩ : ∃ x, X[X.length - 1]? = some x := by
                  refine ⟨_, List.getElem?_eq_getElem ?_⟩
                  have : X.length = A.length + 1 := by
                    have := hf
                    simp only [formedB, Bool.and_eq_true] at this
                    have := this.1.2
                    rcases k4 with rfl | rfl | rfl <;> simp [countsB, shp] at this <;> omega
                  omega
                have e1 : IntKind.i64.wrap ((X.length : Int) - 1) = ((X.length - 1 : Nat) : Int) := by
                  have := (List.getElem?_eq_some_iff.1 hx).1
                  rw [wrap_i64] <;> omega
                have hxr := (List.all_eq_true.1 hin) x (List.mem_of_getElem? hx)
                have hrow := inR_row hxr
                have hx0 : 0 ≤ x := by simp [inR] at hxr; exact hxr.1
                have hg : mayB D (K, X, A, C) = truthB (rowOf D x) := by
                  rw [hmay, hb, xs_one hin hx]; rfl
                rw [hg]
                clear hmay hg hin hb hf
                rcases k4 with rfl | rfl | rfl <;>
                · simp +contextual -implicitDefEqProofs (maxSteps := 1000000) only [sm, sn, sxx, seval, Int.lt_irrefl, eMod, eCon, eDoms, eIs, e1, hx, hx0, hrow, or_true, true_or, or_false, false_or]
                  refine callA_rule (ref08_truth _ (row_len hd x)) (wkL_refl _) rfl ?_
                  simp +contextual -implicitDefEqProofs (maxSteps := 1000000) only [sm, sn, sxx, seval]
              by_cases k11 : K = 11 ∨ K = 12 ∨ K = 13 ∨ K = 14
              · have hb : (shp K).2.2.2.2 = 2 := by rcases k11 with rfl | rfl | rfl | rfl <;> decide
                rw [hb, xs_two hin] at hmay
                rw [hmay]
                clear hmay hb hf
                rcases k11 with rfl | rfl | rfl | rfl <;>
                · simp +contextual -implicitDefEqProofs (maxSteps := 1000000) only [sm, sn, sxx, seval, Int.lt_irrefl, eMod, eCon, eIs, or_true, true_or, or_false, false_or]
                  refine callA_rule (ref08_truths (D, cs, ask, goal) X hX hd hin) (wkL_refl _) rfl ?_
                  simp +contextual -implicitDefEqProofs (maxSteps := 1000000) only [sm, sn, sxx, seval]
              have hk : 1 ≤ K ∧ K ≤ 19 := by
                simp only [formedB, kindB, Bool.and_eq_true, decide_eq_true_eq] at hf
                exact hf.1.1
              have hb : (shp K).2.2.2.2 = 0 := by
                have : K = 1 ∨ K = 2 ∨ K = 3 ∨ K = 7 ∨ K = 8 ∨ K = 9 ∨ K = 10 ∨ K = 15 ∨ K = 16 ∨ K = 17 ∨ K = 18 ∨ K = 19 := by omega
                rcases this with rfl | rfl | rfl | rfl | rfl | rfl | rfl | rfl | rfl | rfl | rfl | rfl <;> decide
              rw [hb, xs_zero hin] at hmay
              rw [hmay]
              have n4 : (K = 4) = False := by simp only [eq_iff_iff, iff_false]; omega
              have n5 : (K = 5) = False := by simp only [eq_iff_iff, iff_false]; omega
              have n6 : (K = 6) = False := by simp only [eq_iff_iff, iff_false]; omega
              have n11 : (K = 11) = False := by simp only [eq_iff_iff, iff_false]; omega
              have n12 : (K = 12) = False := by simp only [eq_iff_iff, iff_false]; omega
              have n13 : (K = 13) = False := by simp only [eq_iff_iff, iff_false]; omega
              have n14 : (K = 14) = False := by simp only [eq_iff_iff, iff_false]; omega
              simp +contextual -implicitDefEqProofs (maxSteps := 1000000) only [sm, sn, sxx, seval, Int.lt_irrefl, eMod, eCon, eIs, n4, n5, n6, n11, n12, n13, n14, or_true, true_or, or_false, false_or]
    · simp +contextual -implicitDefEqProofs (maxSteps := 1000000) only [sm, sn, sxx, seval, h0]
      refine callA_rule (ref08_named K) (wkL_refl _) rfl ?_
      rw [named_has hkind]
      cases hC0 : (shp K).2.2.2.1
      · simp +contextual -implicitDefEqProofs (maxSteps := 1000000) only [sm, sn, sxx, seval]
        simp [mayB, h0, hC0]
      have hC : (decide (C = 0) || (shp K).2.2.2.1) = true := by simp [hC0]
      simp +contextual -implicitDefEqProofs (maxSteps := 1000000) only [sm, sn, sxx, seval]
      refine loop_rule (fun k : Nat => k ≤ X.length ∧ ∀ (j : Nat) x, j < k → X[j]? = some x → (inR D) x = true) (fun k => tm 99 [(2, .ptr 4 0 0 0), (3, .ptr 4 1 0 0), (5, .int .i64 k)]) (fun _ => [some (4, [eMod (D, cs, ask, goal)]), some (4, [eCon (K, X, A, C)])]) (fun k => X.length - k) 0 ⟨by omega, by omega⟩ ⟨[0, 1], by decide, rfl, ?_, ?_⟩ ?_
      · simp +contextual -implicitDefEqProofs (maxSteps := 1000000) only [sm, sn, sxx, seval, eMod, eDoms, eCons, eCon, eIs]
      · simp +contextual -implicitDefEqProofs (maxSteps := 1000000) only [sm, sn, sxx, seval, Int.natCast_zero, eMod, eDoms, eCons, eCon, eIs]
      · rintro k ⟨hk, hok⟩
        by_cases hlt : k < X.length
        · obtain ⟨x, hx⟩ : ∃ r, X[k]? = some r := ⟨_, List.getElem?_eq_getElem hlt⟩
          have hlt' : (k : Int) < (X.length : Int) := by omega
          have e2 : IntKind.i64.wrap ((k : Int) + 1) = ((k + 1 : Nat) : Int) := by rw [wrap_i64] <;> omega
          have no : inR D x = false → mayB D (K, X, A, C) = false := fun h => by
            have : xsOk D X (shp K).2.2.2.2 = false := by
              refine all_no hlt ?_
              simp only [xOk, hx]
              simp only [inR] at h
              rw [h]; rfl
            simp [mayB, this]
          by_cases hx0 : x < 0
          · simp +contextual -implicitDefEqProofs (maxSteps := 1000000) only [sm, sn, sxx, seval, hlt', hx, hx0, eCon, eIs]
            exact no (by simp [inR]; omega)
          by_cases hx1 : (D.length : Int) ≤ x
          · simp +contextual -implicitDefEqProofs (maxSteps := 1000000) only [sm, sn, sxx, seval, hlt', hx, hx0, hx1, eMod, eDoms, eCon, eIs]
            exact no (by simp [inR]; omega)
          simp +contextual -implicitDefEqProofs (maxSteps := 1000000) only [sm, sn, sxx, seval, hlt', hx, hx0, hx1, eMod, eDoms, eCon, eIs, e2]
          refine ⟨k + 1, ⟨by omega, ?_⟩, by omega, [0, 1], by decide, rfl, ?_, ?_⟩
          · intro j y hj hy
            rcases Nat.lt_succ_iff_lt_or_eq.1 hj with h | rfl
            · exact hok j y h hy
            · rw [hx] at hy; injection hy with hy; subst hy; simp [inR]; omega
          · simp +contextual -implicitDefEqProofs (maxSteps := 1000000) only [sm, sn, sxx, seval, eMod, eDoms, eCons, eCon, eIs]
          · simp +contextual -implicitDefEqProofs (maxSteps := 1000000) only [sm, sn, sxx, seval, eMod, eDoms, eCons, eCon, eIs]
        · have : k = X.length := by omega
          subst this
          have hall := listall_yes hok
          have hin := hall
          clear hall hok
          simp +contextual -implicitDefEqProofs (maxSteps := 1000000) only [sm, sn, sxx, seval, Int.lt_irrefl, eCon, eIs]
          refine loop_rule (fun k : Nat => k ≤ A.length ∧ ∀ (j : Nat) x, j < k → A[j]? = some x → withinB x = true) (fun k => tm 99 [(2, .ptr 4 0 0 0), (3, .ptr 4 1 0 0), (6, .int .i64 k)]) (fun _ => [some (4, [eMod (D, cs, ask, goal)]), some (4, [eCon (K, X, A, C)])]) (fun k => A.length - k) 0 ⟨by omega, by omega⟩ ⟨[0, 1], by decide, rfl, ?_, ?_⟩ ?_
          · simp +contextual -implicitDefEqProofs (maxSteps := 1000000) only [sm, sn, sxx, seval, eMod, eDoms, eCons, eCon, eIs]
          · simp +contextual -implicitDefEqProofs (maxSteps := 1000000) only [sm, sn, sxx, seval, Int.natCast_zero, eMod, eDoms, eCons, eCon, eIs]
          · rintro k ⟨hk, hok⟩
            by_cases hlt : k < A.length
            · obtain ⟨x, hx⟩ : ∃ r, A[k]? = some r := ⟨_, List.getElem?_eq_getElem hlt⟩
              have hlt' : (k : Int) < (A.length : Int) := by omega
              have e2 : IntKind.i64.wrap ((k : Int) + 1) = ((k + 1 : Nat) : Int) := by rw [wrap_i64] <;> omega
              simp +contextual -implicitDefEqProofs (maxSteps := 1000000) only [sm, sn, sxx, seval, hlt', hx, eCon, eIs]
              refine callA_rule (ref08_Within _) (wkL_refl _) rfl ?_
              cases ht : withinB x
              · simp +contextual -implicitDefEqProofs (maxSteps := 1000000) only [sm, sn, sxx, seval]
                simp [mayB, listall_no hx ht]
              · simp +contextual -implicitDefEqProofs (maxSteps := 1000000) only [sm, sn, sxx, seval, e2]
                refine ⟨k + 1, ⟨by omega, ?_⟩, by omega, [0, 1], by decide, rfl, ?_, ?_⟩
                · intro j y hj hy
                  rcases Nat.lt_succ_iff_lt_or_eq.1 hj with h | rfl
                  · exact hok j y h hy
                  · rw [hx] at hy; injection hy with hy; subst hy; exact ht
                · simp +contextual -implicitDefEqProofs (maxSteps := 1000000) only [sm, sn, sxx, seval, eMod, eDoms, eCons, eCon, eIs]
                · simp +contextual -implicitDefEqProofs (maxSteps := 1000000) only [sm, sn, sxx, seval, eMod, eDoms, eCons, eCon, eIs]
            · have : k = A.length := by omega
              subst this
              have hall := listall_yes hok
              have hmay : mayB D (K, X, A, C) = xsOk D X (shp K).2.2.2.2 := by
                simp only [mayB, hf, hw, h32, hC, hall, decide_true, Bool.true_and, Bool.and_true]
              by_cases k4 : K = 4 ∨ K = 5 ∨ K = 6
              · have hb : (shp K).2.2.2.2 = 1 := by rcases k4 with rfl | rfl | rfl <;> decide
                obtain ⟨x, hx⟩ : ∃ x, X[X.length - 1]? = some x := by
                  refine ⟨_, List.getElem?_eq_getElem ?_⟩
                  have : X.length = A.length + 1 := by
                    have := hf
                    simp only [formedB, Bool.and_eq_true] at this
                    have := this.1.2
                    rcases k4 with rfl | rfl | rfl <;> simp [countsB, shp] at this <;> omega
                  omega
                have e1 : IntKind.i64.wrap ((X.length : Int) - 1) = ((X.length - 1 : Nat) : Int) := by
                  have := (List.getElem?_eq_some_iff.1 hx).1
                  rw [wrap_i64] <;> omega
                have hxr := (List.all_eq_true.1 hin) x (List.mem_of_getElem? hx)
                have hrow := inR_row hxr
                have hx0 : 0 ≤ x := by simp [inR] at hxr; exact hxr.1
                have hg : mayB D (K, X, A, C) = truthB (rowOf D x) := by
                  rw [hmay, hb, xs_one hin hx]; rfl
                rw [hg]
                clear hmay hg hin hb hf
                rcases k4 with rfl | rfl | rfl <;>
                · simp +contextual -implicitDefEqProofs (maxSteps := 1000000) only [sm, sn, sxx, seval, Int.lt_irrefl, eMod, eCon, eDoms, eIs, e1, hx, hx0, hrow, or_true, true_or, or_false, false_or]
                  refine callA_rule (ref08_truth _ (row_len hd x)) (wkL_refl _) rfl ?_
                  simp +contextual -implicitDefEqProofs (maxSteps := 1000000) only [sm, sn, sxx, seval]
              by_cases k11 : K = 11 ∨ K = 12 ∨ K = 13 ∨ K = 14
              · have hb : (shp K).2.2.2.2 = 2 := by rcases k11 with rfl | rfl | rfl | rfl <;> decide
                rw [hb, xs_two hin] at hmay
                rw [hmay]
                clear hmay hb hf
                rcases k11 with rfl | rfl | rfl | rfl <;>
                · simp +contextual -implicitDefEqProofs (maxSteps := 1000000) only [sm, sn, sxx, seval, Int.lt_irrefl, eMod, eCon, eIs, or_true, true_or, or_false, false_or]
                  refine callA_rule (ref08_truths (D, cs, ask, goal) X hX hd hin) (wkL_refl _) rfl ?_
                  simp +contextual -implicitDefEqProofs (maxSteps := 1000000) only [sm, sn, sxx, seval]
              have hk : 1 ≤ K ∧ K ≤ 19 := by
                simp only [formedB, kindB, Bool.and_eq_true, decide_eq_true_eq] at hf
                exact hf.1.1
              have hb : (shp K).2.2.2.2 = 0 := by
                have : K = 1 ∨ K = 2 ∨ K = 3 ∨ K = 7 ∨ K = 8 ∨ K = 9 ∨ K = 10 ∨ K = 15 ∨ K = 16 ∨ K = 17 ∨ K = 18 ∨ K = 19 := by omega
                rcases this with rfl | rfl | rfl | rfl | rfl | rfl | rfl | rfl | rfl | rfl | rfl | rfl <;> decide
              rw [hb, xs_zero hin] at hmay
              rw [hmay]
              have n4 : (K = 4) = False := by simp only [eq_iff_iff, iff_false]; omega
              have n5 : (K = 5) = False := by simp only [eq_iff_iff, iff_false]; omega
              have n6 : (K = 6) = False := by simp only [eq_iff_iff, iff_false]; omega
              have n11 : (K = 11) = False := by simp only [eq_iff_iff, iff_false]; omega
              have n12 : (K = 12) = False := by simp only [eq_iff_iff, iff_false]; omega
              have n13 : (K = 13) = False := by simp only [eq_iff_iff, iff_false]; omega
              have n14 : (K = 14) = False := by simp only [eq_iff_iff, iff_false]; omega
              simp +contextual -implicitDefEqProofs (maxSteps := 1000000) only [sm, sn, sxx, seval, Int.lt_irrefl, eMod, eCon, eIs, n4, n5, n6, n11, n12, n13, n14, or_true, true_or, or_false, false_or]
  · have h32' : (32 : Int) < X.length := by omega
    simp +contextual -implicitDefEqProofs (maxSteps := 1000000) only [sm, sn, sxx, seval, eIs, h32']
    simp [mayB, h32]
end Go.Proofs.Ytnhedjpghpdbdaa
namespace Go.Proofs.Ytnhedjpghpdbdaa
open Av
attribute [local irreducible] awp awpOpers
set_option linter.unusedSimpArgs false
set_option linter.unusedVariables false
set_option maxRecDepth 100000
set_option maxHeartbeats 4000000
theorem ref08_Right (m : Mod) (hD : m.1.length ≤ 1000000000000) (hd : ∀ d ∈ m.1, d.length ≤ 1000000000000) (hc : m.2.1.length ≤ 1000000000000) (hcs : ∀ c ∈ m.2.1, conFits c) :
    Ctr Try.prog 39 [eMod m] [] (.bool (modB m)) [] := by
  obtain ⟨D, cs, ask, goal⟩ := m
  simp only at hD hd hc hcs
  refine call_pure Try.func39 Try.call39 e_ref08_Right ?_
  by_cases h64 : D.length ≤ 64
  · have h64' : ¬ (64 : Int) < D.length := by omega
    by_cases g64 : cs.length ≤ 64
    · have g64' : ¬ (64 : Int) < cs.length := by omega
      simp +contextual -implicitDefEqProofs (maxSteps := 1000000) only [c_ref08_Right, eMod, eDoms, eCons, sm, sn, sxx, seval, h64', g64']
      refine loop_rule (fun k : Nat => k ≤ D.length ∧ ∀ (j : Nat) x, j < k → D[j]? = some x → domB x = true) (fun k => tm 71 [(1, .ptr 4 0 0 0), (3, .int .i64 k)]) (fun _ => [some (4, [eMod (D, cs, ask, goal)])]) (fun k => D.length - k) 0 ⟨by omega, by omega⟩ ⟨[0], by decide, rfl, ?_, ?_⟩ ?_
      · simp +contextual -implicitDefEqProofs (maxSteps := 1000000) only [sm, sn, sxx, seval, eMod, eDoms, eCons]
      · simp +contextual -implicitDefEqProofs (maxSteps := 1000000) only [sm, sn, sxx, seval, Int.natCast_zero, eMod, eDoms, eCons]
      · rintro k ⟨hk, hok⟩
        by_cases hlt : k < D.length
        · obtain ⟨x, hx⟩ : ∃ r, D[k]? = some r := ⟨_, List.getElem?_eq_getElem hlt⟩
          have hlt' : (k : Int) < (D.length : Int) := by omega
          have e2 : IntKind.i64.wrap ((k : Int) + 1) = ((k + 1 : Nat) : Int) := by rw [wrap_i64] <;> omega
          simp +contextual -implicitDefEqProofs (maxSteps := 1000000) only [sm, sn, sxx, seval, hlt', hx, eMod, eDoms]
          refine callA_rule (ref08_Dom x (hd x (List.mem_of_getElem? hx))) (wkL_refl _) rfl ?_
          cases ht : domB x
          · simp +contextual -implicitDefEqProofs (maxSteps := 1000000) only [sm, sn, sxx, seval]
            simp [modB, listall_no hx ht]
          · simp +contextual -implicitDefEqProofs (maxSteps := 1000000) only [sm, sn, sxx, seval, e2]
            refine ⟨k + 1, ⟨by omega, ?_⟩, by omega, [0], by decide, rfl, ?_, ?_⟩
            · intro j y hj hy
              rcases Nat.lt_succ_iff_lt_or_eq.1 hj with h | rfl
              · exact hok j y h hy
              · rw [hx] at hy; injection hy with hy; subst hy; exact ht
            · simp +contextual -implicitDefEqProofs (maxSteps := 1000000) only [sm, sn, sxx, seval, eMod, eDoms, eCons]
            · simp +contextual -implicitDefEqProofs (maxSteps := 1000000) only [sm, sn, sxx, seval, eMod, eDoms, eCons]
        · have : k = D.length := by omega
          subst this
          have hall := listall_yes hok
          have hdom := hall
          clear hall hok
          simp +contextual -implicitDefEqProofs (maxSteps := 1000000) only [sm, sn, sxx, seval, Int.lt_irrefl, eMod, eDoms]
          refine loop_rule (fun k : Nat => k ≤ cs.length ∧ ∀ (j : Nat) x, j < k → cs[j]? = some x → (mayB D) x = true) (fun k => tm 71 [(1, .ptr 4 0 0 0), (4, .int .i64 k)]) (fun _ => [some (4, [eMod (D, cs, ask, goal)])]) (fun k => cs.length - k) 0 ⟨by omega, by omega⟩ ⟨[0], by decide, rfl, ?_, ?_⟩ ?_
          · simp +contextual -implicitDefEqProofs (maxSteps := 1000000) only [sm, sn, sxx, seval, eMod, eDoms, eCons]
          · simp +contextual -implicitDefEqProofs (maxSteps := 1000000) only [sm, sn, sxx, seval, Int.natCast_zero, eMod, eDoms, eCons]
          · rintro k ⟨hk, hok⟩
            by_cases hlt : k < cs.length
            · obtain ⟨x, hx⟩ : ∃ r, cs[k]? = some r := ⟨_, List.getElem?_eq_getElem hlt⟩
              have hlt' : (k : Int) < (cs.length : Int) := by omega
              have e2 : IntKind.i64.wrap ((k : Int) + 1) = ((k + 1 : Nat) : Int) := by rw [wrap_i64] <;> omega
              obtain ⟨K, X, A, C⟩ := x
              have hf := hcs _ (List.mem_of_getElem? hx)
              simp +contextual -implicitDefEqProofs (maxSteps := 1000000) only [sm, sn, sxx, seval, hlt', hx, eMod, eCons]
              refine callA_rule (ref08_Con (D, cs, ask, goal) (K, X, A, C) hD hd hf.1 hf.2) (wkL_refl _) rfl ?_
              cases ht : mayB D (K, X, A, C)
              · simp +contextual -implicitDefEqProofs (maxSteps := 1000000) only [sm, sn, sxx, seval]
                simp [modB, listall_no hx ht]
              · simp +contextual -implicitDefEqProofs (maxSteps := 1000000) only [sm, sn, sxx, seval, e2]
                refine ⟨k + 1, ⟨by omega, ?_⟩, by omega, [0], by decide, rfl, ?_, ?_⟩
                · intro j y hj hy
                  rcases Nat.lt_succ_iff_lt_or_eq.1 hj with h | rfl
                  · exact hok j y h hy
                  · rw [hx] at hy; injection hy with hy; subst hy; exact ht
                · simp +contextual -implicitDefEqProofs (maxSteps := 1000000) only [sm, sn, sxx, seval, eMod, eDoms, eCons]
                · simp +contextual -implicitDefEqProofs (maxSteps := 1000000) only [sm, sn, sxx, seval, eMod, eDoms, eCons]
            · have : k = cs.length := by omega
              subst this
              have hall := listall_yes hok
              have hmay := hall
              by_cases a0 : ask = 0
              · simp +contextual -implicitDefEqProofs (maxSteps := 1000000) only [sm, sn, sxx, seval, Int.lt_irrefl, eMod, eCons, a0]
                simp [modB, askB, hdom, hmay, h64, g64]
              by_cases a1 : ask = 1
              · simp +contextual -implicitDefEqProofs (maxSteps := 1000000) only [sm, sn, sxx, seval, Int.lt_irrefl, eMod, eCons, a0, a1, eDoms]
                simp [modB, askB, hdom, hmay, h64, g64]
                repeat' split
                all_goals (try simp_all)
                all_goals (try (intros; omega))
              by_cases a2 : ask = 2
              · simp +contextual -implicitDefEqProofs (maxSteps := 1000000) only [sm, sn, sxx, seval, Int.lt_irrefl, eMod, eCons, a0, a1, a2, eDoms]
                simp [modB, askB, hdom, hmay, h64, g64]
                repeat' split
                all_goals (try simp_all)
                all_goals (try (intros; omega))
              simp +contextual -implicitDefEqProofs (maxSteps := 1000000) only [sm, sn, sxx, seval, Int.lt_irrefl, eMod, eCons, a0, a1, a2]
              simp [modB, askB, a0, a1, a2]
    · have g64' : (64 : Int) < cs.length := by omega
      simp +contextual -implicitDefEqProofs (maxSteps := 1000000) only [c_ref08_Right, eMod, eDoms, eCons, sm, sn, sxx, seval, h64', g64']
      simp [modB, g64]
  · have h64' : (64 : Int) < D.length := by omega
    simp +contextual -implicitDefEqProofs (maxSteps := 1000000) only [c_ref08_Right, eMod, eDoms, eCons, sm, sn, sxx, seval, h64']
    simp [modB, h64]
end Go.Proofs.Ytnhedjpghpdbdaa
namespace Go.Proofs.Ytnhedjpghpdbdaa
open Av
attribute [local irreducible] awp awpOpers
set_option linter.unusedSimpArgs false
set_option linter.unusedVariables false
set_option maxRecDepth 100000
set_option maxHeartbeats 4000000
theorem law08_Doms (a b : List (List Rg)) (ha : a.length ≤ 9223372036854775807) (hr : ∀ d ∈ a, d.length ≤ 9223372036854775807) : Ctr Try.prog 17 [eDoms a, eDoms b] [] (.bool (decide (a = b))) [] := by
  refine call_pure Try.func17 Try.call17 e_law08_Doms ?_
  by_cases hn : a.length = b.length
  · have hn' : (b.length : Int) = (a.length : Int) := by omega
    simp +contextual -implicitDefEqProofs (maxSteps := 1000000) only [c_law08_Doms, eDoms, sm, sn, sxx, seval, hn']
    refine loop_rule (fun k : Nat => k ≤ a.length ∧ ∀ j, j < k → eqAt a b j = true) (fun k => tm 27 [(0, .list 1 (a.map eRgs)), (1, .list 1 (b.map eRgs)), (12, .int .i64 a.length), (13, .int .i64 k)]) (fun _ => []) (fun k => a.length - k) 0 ⟨by omega, by omega⟩ ⟨[], by decide, rfl, ?_, ?_⟩ ?_
    · simp +contextual -implicitDefEqProofs (maxSteps := 1000000) only [sm, sn, sxx, seval]
    · simp +contextual -implicitDefEqProofs (maxSteps := 1000000) only [sm, sn, sxx, seval, Int.natCast_zero]
    · rintro k ⟨hk, hok⟩
      by_cases hlt : k < a.length
      · have hlt' : (k : Int) < ((a.length : Nat) : Int) := by omega
        have e2 : IntKind.i64.wrap ((k : Int) + 1) = ((k + 1 : Nat) : Int) := by rw [wrap_i64] <;> omega
        obtain ⟨x, hx⟩ : ∃ r, a[k]? = some r := ⟨_, List.getElem?_eq_getElem hlt⟩
        obtain ⟨p, hp⟩ : ∃ r, b[k]? = some r := ⟨_, List.getElem?_eq_getElem (by omega)⟩
        have hq : eqAt a b k = decide (x = p) := by simp [eqAt, hx, hp]
        simp +contextual -implicitDefEqProofs (maxSteps := 1000000) only [sm, sn, sxx, seval, hlt', hn', hx, hp]
        refine callA_rule (law08_Ranges x p (hr x (List.mem_of_getElem? hx))) (wkL_refl _) rfl ?_
        cases h1 : decide (x = p)
        · simp +contextual -implicitDefEqProofs (maxSteps := 1000000) only [sm, sn, sxx, seval]
          rw [h1] at hq
          exact of_decide_eq_false (eq_no hq)
        · simp +contextual -implicitDefEqProofs (maxSteps := 1000000) only [sm, sn, sxx, seval, e2]
          refine ⟨k + 1, ⟨by omega, ?_⟩, by omega, [], by decide, rfl, ?_, ?_⟩
          · intro j hj
            rcases Nat.lt_succ_iff_lt_or_eq.1 hj with h | rfl
            · first | exact hok j h | simpa using hok j h
            · rw [hq, h1]
          · simp +contextual -implicitDefEqProofs (maxSteps := 1000000) only [sm, sn, sxx, seval]
          · simp +contextual -implicitDefEqProofs (maxSteps := 1000000) only [sm, sn, sxx, seval]
      · have hkn : k = a.length := by omega
        subst hkn
        have hall := hok
        simp +contextual -implicitDefEqProofs (maxSteps := 1000000) only [sm, sn, sxx, seval, Int.lt_irrefl]
        exact of_decide_eq_true (eq_yes hn hall)
  · have hn' : ((a.length : Int) = (b.length : Int)) = False := by simp only [eq_iff_iff, iff_false]; omega
    simp +contextual -implicitDefEqProofs (maxSteps := 1000000) only [c_law08_Doms, eDoms, sm, sn, sxx, seval, hn']
    rintro rfl
    exact hn rfl
def len400 (d : List Rg) : Bool := decide (d.length ≤ 400)
def con200 (c : Con) : Bool := decide (c.2.1.length ≤ 200) && decide (c.2.2.1.length ≤ 200)
def smallB (m : Mod) : Bool := decide (m.1.length ≤ 200) && decide (m.2.1.length ≤ 200) && m.1.all len400 && m.2.1.all con200
theorem law08_Small (m : Mod) : Ctr Try.prog 38 [eMod m] [] (.bool (smallB m)) [] := by
  obtain ⟨D, cs, ask, goal⟩ := m
  refine call_pure Try.func38 Try.call38 e_law08_Small ?_
  by_cases h64 : D.length ≤ 200
  · have h64' : ¬ (200 : Int) < D.length := by omega
    by_cases g64 : cs.length ≤ 200
    · have g64' : ¬ (200 : Int) < cs.length := by omega
      simp +contextual -implicitDefEqProofs (maxSteps := 1000000) only [c_law08_Small, eMod, eDoms, eCons, sm, sn, sxx, seval, h64', g64']
      refine loop_rule (fun k : Nat => k ≤ D.length ∧ ∀ (j : Nat) x, j < k → D[j]? = some x → len400 x = true) (fun k => tm 46 [(1, .ptr 4 0 0 0), (18, .list 1 (D.map eRgs)), (19, .int .i64 D.length), (20, .int .i64 k)]) (fun _ => [some (4, [eMod (D, cs, ask, goal)])]) (fun k => D.length - k) 0 ⟨by omega, by omega⟩ ⟨[0], by decide, rfl, ?_, ?_⟩ ?_
      · simp +contextual -implicitDefEqProofs (maxSteps := 1000000) only [sm, sn, sxx, seval, eMod, eDoms, eCons]
      · simp +contextual -implicitDefEqProofs (maxSteps := 1000000) only [sm, sn, sxx, seval, Int.natCast_zero, eMod, eDoms, eCons]
      · rintro k ⟨hk, hok⟩
        by_cases hlt : k < D.length
        · obtain ⟨x, hx⟩ : ∃ r, D[k]? = some r := ⟨_, List.getElem?_eq_getElem hlt⟩
          have hlt' : (k : Int) < (D.length : Int) := by omega
          have e2 : IntKind.i64.wrap ((k : Int) + 1) = ((k + 1 : Nat) : Int) := by rw [wrap_i64] <;> omega
          by_cases h1 : x.length ≤ 400
          · have h1' : ¬ (400 : Int) < x.length := by omega
            simp +contextual -implicitDefEqProofs (maxSteps := 1000000) only [sm, sn, sxx, seval, hlt', hx, h1', e2]
            refine ⟨k + 1, ⟨by omega, ?_⟩, by omega, [0], by decide, rfl, ?_, ?_⟩
            · intro j y hj hy
              rcases Nat.lt_succ_iff_lt_or_eq.1 hj with h | rfl
              · first | exact hok j y h hy | simpa using hok j y h hy
              · rw [hx] at hy; injection hy with hy; subst hy; simp [len400, h1]
            · simp +contextual -implicitDefEqProofs (maxSteps := 1000000) only [sm, sn, sxx, seval, eMod, eDoms, eCons]
            · simp +contextual -implicitDefEqProofs (maxSteps := 1000000) only [sm, sn, sxx, seval, eMod, eDoms, eCons]
          · have h1' : (400 : Int) < x.length := by omega
            simp +contextual -implicitDefEqProofs (maxSteps := 1000000) only [sm, sn, sxx, seval, hlt', hx, h1']
            have := listall_no (p := len400) hx (by simp [len400, h1])
            simp [smallB, this]
        · have : k = D.length := by omega
          subst this
          have hall := listall_yes hok
          have hdom := hall
          clear hall hok
          simp +contextual -implicitDefEqProofs (maxSteps := 1000000) only [sm, sn, sxx, seval, Int.lt_irrefl, eMod, eCons]
          refine loop_rule (fun k : Nat => k ≤ cs.length ∧ ∀ (j : Nat) x, j < k → cs[j]? = some x → con200 x = true) (fun k => tm 46 [(1, .ptr 4 0 0 0), (29, .list 4 (cs.map eCon)), (30, .int .i64 cs.length), (31, .int .i64 k)]) (fun _ => [some (4, [eMod (D, cs, ask, goal)])]) (fun k => cs.length - k) 0 ⟨by omega, by omega⟩ ⟨[0], by decide, rfl, ?_, ?_⟩ ?_
          · simp +contextual -implicitDefEqProofs (maxSteps := 1000000) only [sm, sn, sxx, seval, eMod, eDoms, eCons]
          · simp +contextual -implicitDefEqProofs (maxSteps := 1000000) only [sm, sn, sxx, seval, Int.natCast_zero, eMod, eDoms, eCons]
          · rintro k ⟨hk, hok⟩
            by_cases hlt : k < cs.length
            · obtain ⟨x, hx⟩ : ∃ r, cs[k]? = some r := ⟨_, List.getElem?_eq_getElem hlt⟩
              have hlt' : (k : Int) < (cs.length : Int) := by omega
              have e2 : IntKind.i64.wrap ((k : Int) + 1) = ((k + 1 : Nat) : Int) := by rw [wrap_i64] <;> omega
              obtain ⟨K, X, A, C⟩ := x
              by_cases h1 : X.length ≤ 200
              · have h1' : ¬ (200 : Int) < X.length := by omega
                by_cases h2 : A.length ≤ 200
                · have h2' : ¬ (200 : Int) < A.length := by omega
                  simp +contextual -implicitDefEqProofs (maxSteps := 1000000) only [sm, sn, sxx, seval, hlt', hx, eIs, h1', h2', e2]
                  refine ⟨k + 1, ⟨by omega, ?_⟩, by omega, [0], by decide, rfl, ?_, ?_⟩
                  · intro j y hj hy
                    rcases Nat.lt_succ_iff_lt_or_eq.1 hj with h | rfl
                    · first | exact hok j y h hy | simpa using hok j y h hy
                    · rw [hx] at hy; injection hy with hy; subst hy; simp [con200, h1, h2]
                  · simp +contextual -implicitDefEqProofs (maxSteps := 1000000) only [sm, sn, sxx, seval, eMod, eDoms, eCons]
                  · simp +contextual -implicitDefEqProofs (maxSteps := 1000000) only [sm, sn, sxx, seval, eMod, eDoms, eCons]
                · have h2' : (200 : Int) < A.length := by omega
                  simp +contextual -implicitDefEqProofs (maxSteps := 1000000) only [sm, sn, sxx, seval, hlt', hx, eIs, h1', h2']
                  have := listall_no (p := con200) hx (by simp [con200, h2])
                  simp [smallB, this]
              · have h1' : (200 : Int) < X.length := by omega
                simp +contextual -implicitDefEqProofs (maxSteps := 1000000) only [sm, sn, sxx, seval, hlt', hx, eIs, h1']
                have := listall_no (p := con200) hx (by simp [con200, h1])
                simp [smallB, this]
            · have : k = cs.length := by omega
              subst this
              have hall := listall_yes hok
              simp +contextual -implicitDefEqProofs (maxSteps := 1000000) only [sm, sn, sxx, seval, Int.lt_irrefl]
              simp [smallB, h64, g64, hdom, hall]
    · have g64' : (200 : Int) < cs.length := by omega
      simp +contextual -implicitDefEqProofs (maxSteps := 1000000) only [c_law08_Small, eMod, eDoms, eCons, sm, sn, sxx, seval, h64', g64']
      simp [smallB, g64]
  · have h64' : (200 : Int) < D.length := by omega
    simp +contextual -implicitDefEqProofs (maxSteps := 1000000) only [c_law08_Small, eMod, eDoms, eCons, sm, sn, sxx, seval, h64']
    simp [smallB, h64]
def fitsB (c : Con) (D : List (List Rg)) : Bool := smallB (D, [c], 0, 0) && decide (D.length ≤ 100)
theorem law12_Fits (c : Con) (D : List (List Rg)) : Ctr Try.prog 15 [eCon c, eDoms D] [] (.bool (fitsB c D)) [] := by
  refine call_pure Try.func15 Try.call15 e_law12_Fits ?_
  obtain ⟨K, X, A, C⟩ := c
  simp +contextual -implicitDefEqProofs (maxSteps := 1000000) only [c_law12_Fits, eCon, eIs, eDoms, sm, sn, sxx, seval]
  refine callA_rule (law08_Small (D, [(K, X, A, C)], 0, 0)) (wkL_refl _) rfl ?_
  cases hs : smallB (D, [(K, X, A, C)], 0, 0)
  · simp +contextual -implicitDefEqProofs (maxSteps := 1000000) only [sm, sn, sxx, seval]
    simp [fitsB, hs]
  · simp +contextual -implicitDefEqProofs (maxSteps := 1000000) only [sm, sn, sxx, seval]
    simp only [fitsB, hs, Bool.true_and, decide_eq_decide]
    omega
/-- a constraint and domains that fit -/
def fitB (c : Con) (D : List (List Rg)) : Bool := modB (D, [c], 0, 0)
theorem ref12_Fit (c : Con) (D : List (List Rg)) (hD : D.length ≤ 1000000000000) (hd : ∀ d ∈ D, d.length ≤ 1000000000000) (hc : conFits c) : Ctr Try.prog 16 [eCon c, eDoms D] [] (.bool (fitB c D)) [] := by
  refine call_pure Try.func16 Try.call16 e_ref12_Fit ?_
  obtain ⟨K, X, A, C⟩ := c
  simp +contextual -implicitDefEqProofs (maxSteps := 1000000) only [c_ref12_Fit, eCon, eIs, eDoms, sm, sn, sxx, seval]
  refine callA_rule (ref08_Right (D, [(K, X, A, C)], 0, 0) hD hd (by simp) (by simpa using hc)) (wkL_refl _) rfl ?_
  simp +contextual -implicitDefEqProofs (maxSteps := 1000000) only [sm, sn, sxx, seval]
  rfl
theorem fits_facts {c : Con} {D : List (List Rg)} (h : fitsB c D = true) : D.length ≤ 100 ∧ (∀ d ∈ D, d.length ≤ 400) ∧ c.2.1.length ≤ 200 ∧ c.2.2.1.length ≤ 200 := by
  simp only [fitsB, smallB, con200, len400, Bool.and_eq_true, decide_eq_true_eq, List.all_eq_true] at h
  obtain ⟨⟨⟨⟨_, _⟩, h1⟩, h2⟩, h3⟩ := h
  exact ⟨h3, h1, (h2 c (by simp)).1, (h2 c (by simp)).2⟩
end Go.Proofs.Ytnhedjpghpdbdaa
