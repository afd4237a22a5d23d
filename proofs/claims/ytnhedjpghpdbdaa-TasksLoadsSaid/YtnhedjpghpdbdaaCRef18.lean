/- The code of functions, as abstract code. Printed by program. -/
import Derived.Test.YtnhedjpghpdbdaaAv2
import Derived.Test.YtnhedjpghpdbdaaProg
namespace Go.Proofs.Ytnhedjpghpdbdaa
open Av
set_option linter.unusedVariables false
set_option maxRecDepth 100000
def kd_CRef18 (f : Nat) : Nat := 0
/- touchstone/touchstoneref18.sure: slots c, 0, d, 1, i, 2, t, 3, c, 4, d, 5, i, 6, t, 7, x, 9 -/
def c_ref18_sure : AFunc := ⟨34, [.tmp 8],
  .seq (.region (⟨some 4, .box 4 (.tmp 0), none⟩ ::
    ⟨some 8, .mov (.val (.bool false)), none⟩ :: [])) <|
  .seq (.region (⟨some 10, .mov (.tmp 1), none⟩ ::
    ⟨some 11, .faddr 1 (.tmp 4), none⟩ ::
    ⟨some 12, .load false 1 (.tmp 11), none⟩ ::
    ⟨some 13, .mov (.tmp 2), none⟩ ::
    ⟨some 14, .iaddr 1 (.tmp 12) (.tmp 13), none⟩ ::
    ⟨some 15, .load false 1 (.tmp 14), none⟩ ::
    ⟨some 16, .iaddr 1 (.tmp 10) (.tmp 15), none⟩ ::
    ⟨some 17, .load false 1 (.tmp 16), none⟩ ::
    ⟨some 9, .mov (.tmp 17), none⟩ :: [])) <|
  .seq (.region (⟨some 18, .mov (.tmp 9), none⟩ ::
    ⟨some 19, .call (.val (.fn (.func 88) [])) [(.tmp 18)], none⟩ ::
    ⟨some 20, .mov (.tmp 3), none⟩ ::
    ⟨some 21, .bin .leq (.tmp 19) (.tmp 20), none⟩ ::
    ⟨some 22, .mov (.tmp 21), none⟩ ::
    ⟨some 23, .mov (.tmp 3), some (22, true)⟩ ::
    ⟨some 24, .mov (.tmp 9), some (22, true)⟩ ::
    ⟨some 25, .call (.val (.fn (.func 89) [])) [(.tmp 24)], some (22, true)⟩ ::
    ⟨some 26, .faddr 2 (.tmp 4), some (22, true)⟩ ::
    ⟨some 27, .load false 1 (.tmp 26), some (22, true)⟩ ::
    ⟨some 28, .mov (.tmp 2), some (22, true)⟩ ::
    ⟨some 29, .iaddr 1 (.tmp 27) (.tmp 28), some (22, true)⟩ ::
    ⟨some 30, .load false 1 (.tmp 29), some (22, true)⟩ ::
    ⟨some 31, .bin .add (.tmp 25) (.tmp 30), some (22, true)⟩ ::
    ⟨some 32, .bin .lss (.tmp 23) (.tmp 31), some (22, true)⟩ ::
    ⟨some 33, .pick (.tmp 22) (.tmp 32) (.val (.bool false)), none⟩ ::
    ⟨some 8, .mov (.tmp 33), none⟩ :: [])) <|
  .ret⟩
theorem e_ref18_sure : cFunc Try.prog kd_CRef18 Try.f96 = some c_ref18_sure := by kernel_rfl
/- touchstone/touchstoneref18.load: slots c, 0, d, 1, t, 2, but, 3, c, 4, d, 5, t, 6, but, 7, n, 9, i, 10 -/
def c_ref18_load : AFunc := ⟨40, [.tmp 8],
  .seq (.region (⟨some 4, .box 4 (.tmp 0), none⟩ ::
    ⟨some 8, .mov (.val (.int .i64 0)), none⟩ :: [])) <|
  .seq (.region (⟨some 9, .mov (.val (.int .i64 0)), none⟩ :: [])) <|
  .seq (.seq (.region (⟨some 10, .mov (.val (.int .i64 0)), none⟩ :: [])) <|
  .block 0 (.loop (.seq (.seq (.region (⟨some 11, .mov (.tmp 10), none⟩ ::
        ⟨some 12, .faddr 1 (.tmp 4), none⟩ ::
        ⟨some 13, .load false 1 (.tmp 12), none⟩ ::
        ⟨some 14, .len false (.tmp 13), none⟩ ::
        ⟨some 15, .bin .lss (.tmp 11) (.tmp 14), none⟩ :: [])) <|
      .cond (.tmp 15) (.skip) <|
      .exit 0) <|
      .seq (.block 1 (.seq (.region (⟨some 18, .mov (.tmp 10), none⟩ ::
          ⟨some 19, .mov (.tmp 3), none⟩ ::
          ⟨some 20, .bin .neq (.tmp 18) (.tmp 19), none⟩ ::
          ⟨some 21, .mov (.tmp 20), none⟩ ::
          ⟨some 22, .load true 4 (.tmp 4), some (21, true)⟩ ::
          ⟨some 23, .mov (.tmp 1), some (21, true)⟩ ::
          ⟨some 24, .mov (.tmp 10), some (21, true)⟩ ::
          ⟨some 25, .mov (.tmp 2), some (21, true)⟩ ::
          ⟨some 26, .call (.val (.fn (.func 96) [])) [(.tmp 22), (.tmp 23), (.tmp 24), (.tmp 25)], some (21, true)⟩ ::
          ⟨some 27, .pick (.tmp 21) (.tmp 26) (.val (.bool false)), none⟩ :: [])) <|
        .cond (.tmp 27) (.region (⟨some 28, .mov (.tmp 9), none⟩ ::
            ⟨some 29, .faddr 2 (.tmp 4), none⟩ ::
            ⟨some 30, .load false 1 (.tmp 29), none⟩ ::
            ⟨some 31, .faddr 1 (.tmp 4), none⟩ ::
            ⟨some 32, .load false 1 (.tmp 31), none⟩ ::
            ⟨some 33, .len false (.tmp 32), none⟩ ::
            ⟨some 34, .mov (.tmp 10), none⟩ ::
            ⟨some 35, .bin .add (.tmp 33) (.tmp 34), none⟩ ::
            ⟨some 36, .iaddr 1 (.tmp 30) (.tmp 35), none⟩ ::
            ⟨some 37, .load false 1 (.tmp 36), none⟩ ::
            ⟨some 38, .bin .add (.tmp 28) (.tmp 37), none⟩ ::
            ⟨some 9, .mov (.tmp 38), none⟩ :: [])) <|
        .skip)) <|
      .region (⟨some 16, .mov (.tmp 10), none⟩ ::
        ⟨some 17, .bin .add (.tmp 16) (.val (.int .i64 1)), none⟩ ::
        ⟨some 10, .mov (.tmp 17), none⟩ :: [])))) <|
  .seq (.region (⟨some 39, .mov (.tmp 9), none⟩ ::
    ⟨some 8, .mov (.tmp 39), none⟩ :: [])) <|
  .ret⟩
theorem e_ref18_load : cFunc Try.prog kd_CRef18 Try.f57 = some c_ref18_load := by kernel_rfl
/- touchstone/touchstoneref18.Load: slots c, 0, d, 1, t, 2, c, 3, d, 4, t, 5 -/
def c_ref18_Load : AFunc := ⟨21, [.tmp 6, .tmp 7],
  .seq (.region (⟨some 3, .box 4 (.tmp 0), none⟩ ::
    ⟨some 6, .mov (.val (.int .i64 0)), none⟩ ::
    ⟨some 7, .mov (.val (.bool false)), none⟩ :: [])) <|
  .seq (.seq (.region (⟨some 8, .load true 4 (.tmp 3), none⟩ ::
    ⟨some 9, .mov (.tmp 1), none⟩ ::
    ⟨some 10, .call (.val (.fn (.func 16) [])) [(.tmp 8), (.tmp 9)], none⟩ ::
    ⟨some 11, .un .not (.tmp 10), none⟩ ::
    ⟨some 12, .mov (.tmp 11), none⟩ ::
    ⟨some 13, .faddr 0 (.tmp 3), some (12, false)⟩ ::
    ⟨some 14, .load false 1 (.tmp 13), some (12, false)⟩ ::
    ⟨some 15, .bin .neq (.tmp 14) (.val (.int .i64 19)), some (12, false)⟩ ::
    ⟨some 16, .pick (.tmp 12) (.val (.bool true)) (.tmp 15), none⟩ :: [])) <|
  .cond (.tmp 16) (.seq (.region (⟨some 6, .mov (.val (.int .i64 0)), none⟩ ::
      ⟨some 7, .mov (.val (.bool false)), none⟩ :: [])) <|
    .ret) <|
  .skip) <|
  .seq (.region (⟨some 17, .load true 4 (.tmp 3), none⟩ ::
    ⟨some 18, .mov (.tmp 1), none⟩ ::
    ⟨some 19, .mov (.tmp 2), none⟩ ::
    ⟨some 20, .call (.val (.fn (.func 57) [])) [(.tmp 17), (.tmp 18), (.tmp 19), (.val (.int .i64 (-1)))], none⟩ ::
    ⟨some 6, .mov (.tmp 20), none⟩ ::
    ⟨some 7, .mov (.val (.bool true)), none⟩ :: [])) <|
  .ret⟩
theorem e_ref18_Load : cFunc Try.prog kd_CRef18 Try.f28 = some c_ref18_Load := by kernel_rfl
/- touchstone/touchstoneref18.over: slots c, 0, d, 1, c, 2, d, 3, i, 5 -/
def c_ref18_over : AFunc := ⟨28, [.tmp 4],
  .seq (.region (⟨some 2, .box 4 (.tmp 0), none⟩ ::
    ⟨some 4, .mov (.val (.bool false)), none⟩ :: [])) <|
  .seq (.seq (.region (⟨some 5, .mov (.val (.int .i64 0)), none⟩ :: [])) <|
  .block 0 (.loop (.seq (.seq (.region (⟨some 6, .mov (.tmp 5), none⟩ ::
        ⟨some 7, .faddr 1 (.tmp 2), none⟩ ::
        ⟨some 8, .load false 1 (.tmp 7), none⟩ ::
        ⟨some 9, .len false (.tmp 8), none⟩ ::
        ⟨some 10, .bin .lss (.tmp 6) (.tmp 9), none⟩ :: [])) <|
      .cond (.tmp 10) (.skip) <|
      .exit 0) <|
      .seq (.block 1 (.seq (.region (⟨some 13, .load true 4 (.tmp 2), none⟩ ::
          ⟨some 14, .mov (.tmp 1), none⟩ ::
          ⟨some 15, .mov (.tmp 1), none⟩ ::
          ⟨some 16, .faddr 1 (.tmp 2), none⟩ ::
          ⟨some 17, .load false 1 (.tmp 16), none⟩ ::
          ⟨some 18, .mov (.tmp 5), none⟩ ::
          ⟨some 19, .iaddr 1 (.tmp 17) (.tmp 18), none⟩ ::
          ⟨some 20, .load false 1 (.tmp 19), none⟩ ::
          ⟨some 21, .iaddr 1 (.tmp 15) (.tmp 20), none⟩ ::
          ⟨some 22, .load false 1 (.tmp 21), none⟩ ::
          ⟨some 23, .call (.val (.fn (.func 88) [])) [(.tmp 22)], none⟩ ::
          ⟨some 24, .call (.val (.fn (.func 57) [])) [(.tmp 13), (.tmp 14), (.tmp 23), (.val (.int .i64 (-1)))], none⟩ ::
          ⟨some 25, .faddr 3 (.tmp 2), none⟩ ::
          ⟨some 26, .load false 1 (.tmp 25), none⟩ ::
          ⟨some 27, .bin .gtr (.tmp 24) (.tmp 26), none⟩ :: [])) <|
        .cond (.tmp 27) (.seq (.region (⟨some 4, .mov (.val (.bool true)), none⟩ :: [])) <|
          .ret) <|
        .skip)) <|
      .region (⟨some 11, .mov (.tmp 5), none⟩ ::
        ⟨some 12, .bin .add (.tmp 11) (.val (.int .i64 1)), none⟩ ::
        ⟨some 5, .mov (.tmp 12), none⟩ :: [])))) <|
  .seq (.region (⟨some 4, .mov (.val (.bool false)), none⟩ :: [])) <|
  .ret⟩
theorem e_ref18_over : cFunc Try.prog kd_CRef18 Try.f45 = some c_ref18_over := by kernel_rfl
/- touchstone/touchstoneref18.clash: slots c, 0, d, 1, i, 2, s, 3, c, 4, d, 5, i, 6, s, 7, need, 10, found, 11, first, 12, k, 13, t, 14 -/
def c_ref18_clash : AFunc := ⟨79, [.tmp 8, .tmp 9],
  .seq (.region (⟨some 4, .box 4 (.tmp 0), none⟩ ::
    ⟨some 8, .mov (.val (.int .i64 0)), none⟩ ::
    ⟨some 9, .mov (.val (.bool false)), none⟩ :: [])) <|
  .seq (.region (⟨some 15, .faddr 2 (.tmp 4), none⟩ ::
    ⟨some 16, .load false 1 (.tmp 15), none⟩ ::
    ⟨some 17, .faddr 1 (.tmp 4), none⟩ ::
    ⟨some 18, .load false 1 (.tmp 17), none⟩ ::
    ⟨some 19, .len false (.tmp 18), none⟩ ::
    ⟨some 20, .mov (.tmp 2), none⟩ ::
    ⟨some 21, .bin .add (.tmp 19) (.tmp 20), none⟩ ::
    ⟨some 22, .iaddr 1 (.tmp 16) (.tmp 21), none⟩ ::
    ⟨some 23, .load false 1 (.tmp 22), none⟩ ::
    ⟨some 10, .mov (.tmp 23), none⟩ :: [])) <|
  .seq (.region (⟨some 11, .mov (.val (.bool false)), none⟩ ::
    ⟨some 12, .mov (.val (.int .i64 0)), none⟩ :: [])) <|
  .seq (.seq (.region (⟨some 13, .mov (.val (.int .i64 (-1))), none⟩ :: [])) <|
  .block 0 (.loop (.seq (.seq (.region (⟨some 24, .mov (.tmp 13), none⟩ ::
        ⟨some 25, .faddr 1 (.tmp 4), none⟩ ::
        ⟨some 26, .load false 1 (.tmp 25), none⟩ ::
        ⟨some 27, .len false (.tmp 26), none⟩ ::
        ⟨some 28, .bin .lss (.tmp 24) (.tmp 27), none⟩ :: [])) <|
      .cond (.tmp 28) (.skip) <|
      .exit 0) <|
      .seq (.block 1 (.seq (.region (⟨some 31, .mov (.tmp 3), none⟩ ::
          ⟨some 14, .mov (.tmp 31), none⟩ :: [])) <|
        .seq (.seq (.region (⟨some 32, .mov (.tmp 13), none⟩ ::
          ⟨some 33, .bin .geq (.tmp 32) (.val (.int .i64 0)), none⟩ :: [])) <|
        .cond (.tmp 33) (.region (⟨some 34, .mov (.tmp 1), none⟩ ::
            ⟨some 35, .faddr 1 (.tmp 4), none⟩ ::
            ⟨some 36, .load false 1 (.tmp 35), none⟩ ::
            ⟨some 37, .mov (.tmp 13), none⟩ ::
            ⟨some 38, .iaddr 1 (.tmp 36) (.tmp 37), none⟩ ::
            ⟨some 39, .load false 1 (.tmp 38), none⟩ ::
            ⟨some 40, .iaddr 1 (.tmp 34) (.tmp 39), none⟩ ::
            ⟨some 41, .load false 1 (.tmp 40), none⟩ ::
            ⟨some 42, .call (.val (.fn (.func 88) [])) [(.tmp 41)], none⟩ ::
            ⟨some 14, .mov (.tmp 42), none⟩ :: [])) <|
        .skip) <|
        .seq (.seq (.region (⟨some 43, .mov (.tmp 14), none⟩ ::
          ⟨some 44, .mov (.tmp 3), none⟩ ::
          ⟨some 45, .bin .lss (.tmp 43) (.tmp 44), none⟩ ::
          ⟨some 46, .mov (.tmp 45), none⟩ ::
          ⟨some 47, .mov (.tmp 14), some (46, false)⟩ ::
          ⟨some 48, .mov (.tmp 3), some (46, false)⟩ ::
          ⟨some 49, .faddr 2 (.tmp 4), some (46, false)⟩ ::
          ⟨some 50, .load false 1 (.tmp 49), some (46, false)⟩ ::
          ⟨some 51, .mov (.tmp 2), some (46, false)⟩ ::
          ⟨some 52, .iaddr 1 (.tmp 50) (.tmp 51), some (46, false)⟩ ::
          ⟨some 53, .load false 1 (.tmp 52), some (46, false)⟩ ::
          ⟨some 54, .bin .add (.tmp 48) (.tmp 53), some (46, false)⟩ ::
          ⟨some 55, .bin .geq (.tmp 47) (.tmp 54), some (46, false)⟩ ::
          ⟨some 56, .pick (.tmp 46) (.val (.bool true)) (.tmp 55), none⟩ ::
          ⟨some 57, .mov (.tmp 56), none⟩ ::
          ⟨some 58, .load true 4 (.tmp 4), some (57, false)⟩ ::
          ⟨some 59, .mov (.tmp 1), some (57, false)⟩ ::
          ⟨some 60, .mov (.tmp 14), some (57, false)⟩ ::
          ⟨some 61, .mov (.tmp 2), some (57, false)⟩ ::
          ⟨some 62, .call (.val (.fn (.func 57) [])) [(.tmp 58), (.tmp 59), (.tmp 60), (.tmp 61)], some (57, false)⟩ ::
          ⟨some 63, .mov (.tmp 10), some (57, false)⟩ ::
          ⟨some 64, .bin .add (.tmp 62) (.tmp 63), some (57, false)⟩ ::
          ⟨some 65, .faddr 3 (.tmp 4), some (57, false)⟩ ::
          ⟨some 66, .load false 1 (.tmp 65), some (57, false)⟩ ::
          ⟨some 67, .bin .leq (.tmp 64) (.tmp 66), some (57, false)⟩ ::
          ⟨some 68, .pick (.tmp 57) (.val (.bool true)) (.tmp 67), none⟩ :: [])) <|
        .cond (.tmp 68) (.exit 1) <|
        .skip) <|
        .seq (.seq (.region (⟨some 69, .mov (.tmp 11), none⟩ ::
          ⟨some 70, .un .not (.tmp 69), none⟩ ::
          ⟨some 71, .mov (.tmp 70), none⟩ ::
          ⟨some 72, .mov (.tmp 14), some (71, false)⟩ ::
          ⟨some 73, .mov (.tmp 12), some (71, false)⟩ ::
          ⟨some 74, .bin .lss (.tmp 72) (.tmp 73), some (71, false)⟩ ::
          ⟨some 75, .pick (.tmp 71) (.val (.bool true)) (.tmp 74), none⟩ :: [])) <|
        .cond (.tmp 75) (.region (⟨some 76, .mov (.tmp 14), none⟩ ::
            ⟨some 12, .mov (.tmp 76), none⟩ :: [])) <|
        .skip) <|
        .region (⟨some 11, .mov (.val (.bool true)), none⟩ :: []))) <|
      .region (⟨some 29, .mov (.tmp 13), none⟩ ::
        ⟨some 30, .bin .add (.tmp 29) (.val (.int .i64 1)), none⟩ ::
        ⟨some 13, .mov (.tmp 30), none⟩ :: [])))) <|
  .seq (.region (⟨some 77, .mov (.tmp 12), none⟩ ::
    ⟨some 78, .mov (.tmp 11), none⟩ ::
    ⟨some 8, .mov (.tmp 77), none⟩ ::
    ⟨some 9, .mov (.tmp 78), none⟩ :: [])) <|
  .ret⟩
theorem e_ref18_clash : cFunc Try.prog kd_CRef18 Try.f90 = some c_ref18_clash := by kernel_rfl
/- touchstone/touchstoneref18.ends: slots c, 0, d, 1, i, 2, c, 3, d, 4, i, 5, x, 8, r, 9, _, 10, bad, 11, _, 12, bad, 13 -/
def c_ref18_ends : AFunc := ⟨73, [.cell 6 true 2, .tmp 7],
  .seq (.region (⟨some 3, .box 4 (.tmp 0), none⟩ ::
    ⟨some 6, .alloc (.agg [(.int .i64 0), (.int .i64 0)]), none⟩ ::
    ⟨some 7, .mov (.val (.bool false)), none⟩ :: [])) <|
  .seq (.region (⟨some 14, .mov (.tmp 1), none⟩ ::
    ⟨some 15, .faddr 1 (.tmp 3), none⟩ ::
    ⟨some 16, .load false 1 (.tmp 15), none⟩ ::
    ⟨some 17, .mov (.tmp 2), none⟩ ::
    ⟨some 18, .iaddr 1 (.tmp 16) (.tmp 17), none⟩ ::
    ⟨some 19, .load false 1 (.tmp 18), none⟩ ::
    ⟨some 20, .iaddr 1 (.tmp 14) (.tmp 19), none⟩ ::
    ⟨some 21, .load false 1 (.tmp 20), none⟩ ::
    ⟨some 8, .mov (.tmp 21), none⟩ :: [])) <|
  .seq (.region (⟨some 22, .mov (.tmp 8), none⟩ ::
    ⟨some 23, .call (.val (.fn (.func 89) [])) [(.tmp 22)], none⟩ ::
    ⟨some 24, .mov (.tmp 8), none⟩ ::
    ⟨some 25, .call (.val (.fn (.func 88) [])) [(.tmp 24)], none⟩ ::
    ⟨some 26, .build [(.int .i64 0), (.int .i64 0)] [(0, 1, (.tmp 23)), (1, 1, (.tmp 25))], none⟩ ::
    ⟨some 9, .alloc (.agg [(.int .i64 0), (.int .i64 0)]), none⟩ ::
    ⟨none, .store 2 (.tmp 9) (.tmp 26), none⟩ :: [])) <|
  .seq (.block 0 (.loop (.seq (.seq (.region (⟨some 27, .faddr 0 (.tmp 9), none⟩ ::
        ⟨some 28, .load false 1 (.tmp 27), none⟩ ::
        ⟨some 29, .faddr 1 (.tmp 9), none⟩ ::
        ⟨some 30, .load false 1 (.tmp 29), none⟩ ::
        ⟨some 31, .bin .leq (.tmp 28) (.tmp 30), none⟩ :: [])) <|
      .cond (.tmp 31) (.skip) <|
      .exit 0) <|
      .block 1 (.seq (.region (⟨some 33, .load true 4 (.tmp 3), none⟩ ::
          ⟨some 34, .mov (.tmp 1), none⟩ ::
          ⟨some 35, .mov (.tmp 2), none⟩ ::
          ⟨some 36, .faddr 0 (.tmp 9), none⟩ ::
          ⟨some 37, .load false 1 (.tmp 36), none⟩ ::
          ⟨some 38, .call (.val (.fn (.func 90) [])) [(.tmp 33), (.tmp 34), (.tmp 35), (.tmp 37)], none⟩ ::
          ⟨some 32, .mov (.tmp 38), none⟩ ::
          ⟨some 39, .ext (.tmp 32) 0, none⟩ ::
          ⟨some 40, .ext (.tmp 32) 1, none⟩ ::
          ⟨some 10, .mov (.tmp 39), none⟩ ::
          ⟨some 11, .mov (.tmp 40), none⟩ :: [])) <|
        .seq (.seq (.region (⟨some 41, .mov (.tmp 11), none⟩ ::
          ⟨some 42, .un .not (.tmp 41), none⟩ :: [])) <|
        .cond (.tmp 42) (.exit 0) <|
        .skip) <|
        .region (⟨some 43, .faddr 0 (.tmp 9), none⟩ ::
          ⟨some 44, .load false 1 (.tmp 43), none⟩ ::
          ⟨some 45, .bin .add (.tmp 44) (.val (.int .i64 1)), none⟩ ::
          ⟨some 46, .faddr 0 (.tmp 9), none⟩ ::
          ⟨none, .store 1 (.tmp 46) (.tmp 45), none⟩ :: []))))) <|
  .seq (.block 2 (.loop (.seq (.seq (.region (⟨some 47, .faddr 1 (.tmp 9), none⟩ ::
        ⟨some 48, .load false 1 (.tmp 47), none⟩ ::
        ⟨some 49, .faddr 0 (.tmp 9), none⟩ ::
        ⟨some 50, .load false 1 (.tmp 49), none⟩ ::
        ⟨some 51, .bin .geq (.tmp 48) (.tmp 50), none⟩ :: [])) <|
      .cond (.tmp 51) (.skip) <|
      .exit 2) <|
      .block 3 (.seq (.region (⟨some 53, .load true 4 (.tmp 3), none⟩ ::
          ⟨some 54, .mov (.tmp 1), none⟩ ::
          ⟨some 55, .mov (.tmp 2), none⟩ ::
          ⟨some 56, .faddr 1 (.tmp 9), none⟩ ::
          ⟨some 57, .load false 1 (.tmp 56), none⟩ ::
          ⟨some 58, .call (.val (.fn (.func 90) [])) [(.tmp 53), (.tmp 54), (.tmp 55), (.tmp 57)], none⟩ ::
          ⟨some 52, .mov (.tmp 58), none⟩ ::
          ⟨some 59, .ext (.tmp 52) 0, none⟩ ::
          ⟨some 60, .ext (.tmp 52) 1, none⟩ ::
          ⟨some 12, .mov (.tmp 59), none⟩ ::
          ⟨some 13, .mov (.tmp 60), none⟩ :: [])) <|
        .seq (.seq (.region (⟨some 61, .mov (.tmp 13), none⟩ ::
          ⟨some 62, .un .not (.tmp 61), none⟩ :: [])) <|
        .cond (.tmp 62) (.exit 2) <|
        .skip) <|
        .region (⟨some 63, .faddr 1 (.tmp 9), none⟩ ::
          ⟨some 64, .load false 1 (.tmp 63), none⟩ ::
          ⟨some 65, .bin .sub (.tmp 64) (.val (.int .i64 1)), none⟩ ::
          ⟨some 66, .faddr 1 (.tmp 9), none⟩ ::
          ⟨none, .store 1 (.tmp 66) (.tmp 65), none⟩ :: []))))) <|
  .seq (.region (⟨some 67, .load true 2 (.tmp 9), none⟩ ::
    ⟨some 68, .faddr 0 (.tmp 9), none⟩ ::
    ⟨some 69, .load false 1 (.tmp 68), none⟩ ::
    ⟨some 70, .faddr 1 (.tmp 9), none⟩ ::
    ⟨some 71, .load false 1 (.tmp 70), none⟩ ::
    ⟨some 72, .bin .leq (.tmp 69) (.tmp 71), none⟩ ::
    ⟨none, .store 2 (.tmp 6) (.tmp 67), none⟩ ::
    ⟨none, .same false 1 (.tmp 68) (.tmp 69), none⟩ ::
    ⟨none, .same false 1 (.tmp 70) (.tmp 71), none⟩ ::
    ⟨some 7, .mov (.tmp 72), none⟩ :: [])) <|
  .ret⟩
theorem e_ref18_ends : cFunc Try.prog kd_CRef18 Try.f46 = some c_ref18_ends := by kernel_rfl
/- touchstone/touchstoneref18.Narrow: slots c, 0, d, 1, c, 2, d, 3, out, 6, i, 7, r, 8, ok, 9 -/
def c_ref18_Narrow : AFunc := ⟨71, [.tmp 4, .tmp 5],
  .seq (.region (⟨some 2, .box 4 (.tmp 0), none⟩ ::
    ⟨some 4, .mov (.val .nils), none⟩ ::
    ⟨some 5, .mov (.val (.int .i64 0)), none⟩ :: [])) <|
  .seq (.seq (.region (⟨some 10, .load true 4 (.tmp 2), none⟩ ::
    ⟨some 11, .mov (.tmp 1), none⟩ ::
    ⟨some 12, .call (.val (.fn (.func 16) [])) [(.tmp 10), (.tmp 11)], none⟩ ::
    ⟨some 13, .un .not (.tmp 12), none⟩ :: [])) <|
  .cond (.tmp 13) (.seq (.region (⟨some 4, .mov (.val .nils), none⟩ ::
      ⟨some 5, .mov (.val (.int .i64 2)), none⟩ :: [])) <|
    .ret) <|
  .skip) <|
  .seq (.seq (.region (⟨some 14, .faddr 0 (.tmp 2), none⟩ ::
    ⟨some 15, .load false 1 (.tmp 14), none⟩ ::
    ⟨some 16, .bin .neq (.tmp 15) (.val (.int .i64 19)), none⟩ :: [])) <|
  .cond (.tmp 16) (.seq (.region (⟨some 4, .mov (.val .nils), none⟩ ::
      ⟨some 5, .mov (.val (.int .i64 10)), none⟩ :: [])) <|
    .ret) <|
  .skip) <|
  .seq (.seq (.region (⟨some 17, .load true 4 (.tmp 2), none⟩ ::
    ⟨some 18, .mov (.tmp 1), none⟩ ::
    ⟨some 19, .call (.val (.fn (.func 45) [])) [(.tmp 17), (.tmp 18)], none⟩ :: [])) <|
  .cond (.tmp 19) (.seq (.region (⟨some 4, .mov (.val .nils), none⟩ ::
      ⟨some 5, .mov (.val (.int .i64 12)), none⟩ :: [])) <|
    .ret) <|
  .skip) <|
  .seq (.region (⟨some 20, .mov (.tmp 1), none⟩ ::
    ⟨some 6, .mov (.tmp 20), none⟩ :: [])) <|
  .seq (.seq (.region (⟨some 7, .mov (.val (.int .i64 0)), none⟩ :: [])) <|
  .block 0 (.loop (.seq (.seq (.region (⟨some 21, .mov (.tmp 7), none⟩ ::
        ⟨some 22, .faddr 1 (.tmp 2), none⟩ ::
        ⟨some 23, .load false 1 (.tmp 22), none⟩ ::
        ⟨some 24, .len false (.tmp 23), none⟩ ::
        ⟨some 25, .bin .lss (.tmp 21) (.tmp 24), none⟩ :: [])) <|
      .cond (.tmp 25) (.skip) <|
      .exit 0) <|
      .seq (.block 1 (.seq (.seq (.region (⟨some 28, .faddr 2 (.tmp 2), none⟩ ::
          ⟨some 29, .load false 1 (.tmp 28), none⟩ ::
          ⟨some 30, .faddr 1 (.tmp 2), none⟩ ::
          ⟨some 31, .load false 1 (.tmp 30), none⟩ ::
          ⟨some 32, .len false (.tmp 31), none⟩ ::
          ⟨some 33, .mov (.tmp 7), none⟩ ::
          ⟨some 34, .bin .add (.tmp 32) (.tmp 33), none⟩ ::
          ⟨some 35, .iaddr 1 (.tmp 29) (.tmp 34), none⟩ ::
          ⟨some 36, .load false 1 (.tmp 35), none⟩ ::
          ⟨some 37, .bin .eql (.tmp 36) (.val (.int .i64 0)), none⟩ :: [])) <|
        .cond (.tmp 37) (.exit 1) <|
        .skip) <|
        .seq (.region (⟨some 39, .load true 4 (.tmp 2), none⟩ ::
          ⟨some 40, .mov (.tmp 1), none⟩ ::
          ⟨some 41, .mov (.tmp 7), none⟩ ::
          ⟨some 42, .call (.val (.fn (.func 46) [])) [(.tmp 39), (.tmp 40), (.tmp 41)], none⟩ ::
          ⟨some 38, .mov (.tmp 42), none⟩ ::
          ⟨some 43, .ext (.tmp 38) 0, none⟩ ::
          ⟨some 44, .ext (.tmp 38) 1, none⟩ ::
          ⟨some 8, .alloc (.agg [(.int .i64 0), (.int .i64 0)]), none⟩ ::
          ⟨none, .store 2 (.tmp 8) (.tmp 43), none⟩ ::
          ⟨some 9, .mov (.tmp 44), none⟩ :: [])) <|
        .seq (.seq (.region (⟨some 45, .mov (.tmp 9), none⟩ ::
          ⟨some 46, .un .not (.tmp 45), none⟩ :: [])) <|
        .cond (.tmp 46) (.seq (.region (⟨some 4, .mov (.val .nils), none⟩ ::
            ⟨some 5, .mov (.val (.int .i64 12)), none⟩ :: [])) <|
          .ret) <|
        .skip) <|
        .region (⟨some 47, .mov (.tmp 6), none⟩ ::
          ⟨some 48, .faddr 1 (.tmp 2), none⟩ ::
          ⟨some 49, .load false 1 (.tmp 48), none⟩ ::
          ⟨some 50, .mov (.tmp 7), none⟩ ::
          ⟨some 51, .iaddr 1 (.tmp 49) (.tmp 50), none⟩ ::
          ⟨some 52, .load false 1 (.tmp 51), none⟩ ::
          ⟨some 53, .mov (.tmp 6), none⟩ ::
          ⟨some 54, .faddr 1 (.tmp 2), none⟩ ::
          ⟨some 55, .load false 1 (.tmp 54), none⟩ ::
          ⟨some 56, .mov (.tmp 7), none⟩ ::
          ⟨some 57, .iaddr 1 (.tmp 55) (.tmp 56), none⟩ ::
          ⟨some 58, .load false 1 (.tmp 57), none⟩ ::
          ⟨some 59, .iaddr 1 (.tmp 53) (.tmp 58), none⟩ ::
          ⟨some 60, .load false 1 (.tmp 59), none⟩ ::
          ⟨some 61, .faddr 0 (.tmp 8), none⟩ ::
          ⟨some 62, .load false 1 (.tmp 61), none⟩ ::
          ⟨some 63, .faddr 1 (.tmp 8), none⟩ ::
          ⟨some 64, .load false 1 (.tmp 63), none⟩ ::
          ⟨some 65, .call (.val (.fn (.func 48) [])) [(.tmp 60), (.tmp 62), (.tmp 64)], none⟩ ::
          ⟨some 66, .call (.val (.fn (.func 47) [])) [(.tmp 47), (.tmp 52), (.tmp 65)], none⟩ ::
          ⟨some 6, .mov (.tmp 66), none⟩ :: []))) <|
      .region (⟨some 26, .mov (.tmp 7), none⟩ ::
        ⟨some 27, .bin .add (.tmp 26) (.val (.int .i64 1)), none⟩ ::
        ⟨some 7, .mov (.tmp 27), none⟩ :: [])))) <|
  .seq (.region (⟨some 67, .mov (.tmp 6), none⟩ ::
    ⟨some 68, .call (.val (.fn (.func 49) [])) [(.tmp 67)], none⟩ ::
    ⟨some 69, .ext (.tmp 68) 0, none⟩ ::
    ⟨some 70, .ext (.tmp 68) 1, none⟩ ::
    ⟨some 4, .mov (.tmp 69), none⟩ ::
    ⟨some 5, .mov (.tmp 70), none⟩ :: [])) <|
  .ret⟩
theorem e_ref18_Narrow : cFunc Try.prog kd_CRef18 Try.f21 = some c_ref18_Narrow := by kernel_rfl
end Go.Proofs.Ytnhedjpghpdbdaa
