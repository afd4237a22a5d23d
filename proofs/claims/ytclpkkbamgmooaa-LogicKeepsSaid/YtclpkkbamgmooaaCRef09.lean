/- The code of functions, as abstract code. Printed by program. -/
import Derived.Test.YtclpkkbamgmooaaAv2
import Derived.Test.YtclpkkbamgmooaaProg
namespace Go.Proofs.Ytclpkkbamgmooaa
open Av
set_option linter.unusedVariables false
set_option maxRecDepth 100000
def kd_CRef09 (f : Nat) : Nat := 0
/- touchstone/touchstoneref09.Right: slots d, 0, d, 1, i, 3 -/
def c_ref09_Right : AFunc := ⟨58, [.tmp 2],
  .seq (.region (⟨some 2, .mov (.val (.bool false)), none⟩ :: [])) <|
  .seq (.seq (.region (⟨some 3, .mov (.val (.int .i64 0)), none⟩ :: [])) <|
  .block 0 (.loop (.seq (.seq (.region (⟨some 4, .mov (.tmp 3), none⟩ ::
        ⟨some 5, .mov (.tmp 0), none⟩ ::
        ⟨some 6, .len false (.tmp 5), none⟩ ::
        ⟨some 7, .bin .lss (.tmp 4) (.tmp 6), none⟩ :: [])) <|
      .cond (.tmp 7) (.skip) <|
      .exit 0) <|
      .seq (.block 1 (.seq (.region (⟨some 10, .mov (.tmp 0), none⟩ ::
          ⟨some 11, .mov (.tmp 3), none⟩ ::
          ⟨some 12, .iaddr 2 (.tmp 10) (.tmp 11), none⟩ ::
          ⟨some 13, .faddr 0 (.tmp 12), none⟩ ::
          ⟨some 14, .load false 1 (.tmp 13), none⟩ ::
          ⟨some 15, .mov (.tmp 0), none⟩ ::
          ⟨some 16, .mov (.tmp 3), none⟩ ::
          ⟨some 17, .iaddr 2 (.tmp 15) (.tmp 16), none⟩ ::
          ⟨some 18, .faddr 1 (.tmp 17), none⟩ ::
          ⟨some 19, .load false 1 (.tmp 18), none⟩ ::
          ⟨some 20, .bin .gtr (.tmp 14) (.tmp 19), none⟩ ::
          ⟨some 21, .mov (.tmp 20), none⟩ ::
          ⟨some 22, .mov (.tmp 0), some (21, false)⟩ ::
          ⟨some 23, .mov (.tmp 3), some (21, false)⟩ ::
          ⟨some 24, .iaddr 2 (.tmp 22) (.tmp 23), some (21, false)⟩ ::
          ⟨some 25, .faddr 0 (.tmp 24), some (21, false)⟩ ::
          ⟨some 26, .load false 1 (.tmp 25), some (21, false)⟩ ::
          ⟨some 27, .call (.val (.fn (.func 76) [])) [(.tmp 26)], some (21, false)⟩ ::
          ⟨some 28, .un .not (.tmp 27), some (21, false)⟩ ::
          ⟨some 29, .pick (.tmp 21) (.val (.bool true)) (.tmp 28), none⟩ ::
          ⟨some 30, .mov (.tmp 29), none⟩ ::
          ⟨some 31, .mov (.tmp 0), some (30, false)⟩ ::
          ⟨some 32, .mov (.tmp 3), some (30, false)⟩ ::
          ⟨some 33, .iaddr 2 (.tmp 31) (.tmp 32), some (30, false)⟩ ::
          ⟨some 34, .faddr 1 (.tmp 33), some (30, false)⟩ ::
          ⟨some 35, .load false 1 (.tmp 34), some (30, false)⟩ ::
          ⟨some 36, .call (.val (.fn (.func 76) [])) [(.tmp 35)], some (30, false)⟩ ::
          ⟨some 37, .un .not (.tmp 36), some (30, false)⟩ ::
          ⟨some 38, .pick (.tmp 30) (.val (.bool true)) (.tmp 37), none⟩ ::
          ⟨some 39, .mov (.tmp 38), none⟩ ::
          ⟨some 40, .mov (.tmp 3), some (39, false)⟩ ::
          ⟨some 41, .bin .gtr (.tmp 40) (.val (.int .i64 0)), some (39, false)⟩ ::
          ⟨some 42, .mov (.tmp 41), some (39, false)⟩ ::
          ⟨some 43, .mov (.tmp 0), some (42, true)⟩ ::
          ⟨some 44, .mov (.tmp 3), some (42, true)⟩ ::
          ⟨some 45, .iaddr 2 (.tmp 43) (.tmp 44), some (42, true)⟩ ::
          ⟨some 46, .faddr 0 (.tmp 45), some (42, true)⟩ ::
          ⟨some 47, .load false 1 (.tmp 46), some (42, true)⟩ ::
          ⟨some 48, .mov (.tmp 0), some (42, true)⟩ ::
          ⟨some 49, .mov (.tmp 3), some (42, true)⟩ ::
          ⟨some 50, .bin .sub (.tmp 49) (.val (.int .i64 1)), some (42, true)⟩ ::
          ⟨some 51, .iaddr 2 (.tmp 48) (.tmp 50), some (42, true)⟩ ::
          ⟨some 52, .faddr 1 (.tmp 51), some (42, true)⟩ ::
          ⟨some 53, .load false 1 (.tmp 52), some (42, true)⟩ ::
          ⟨some 54, .bin .add (.tmp 53) (.val (.int .i64 2)), some (42, true)⟩ ::
          ⟨some 55, .bin .lss (.tmp 47) (.tmp 54), some (42, true)⟩ ::
          ⟨some 56, .pick (.tmp 42) (.tmp 55) (.val (.bool false)), some (39, false)⟩ ::
          ⟨some 57, .pick (.tmp 39) (.val (.bool true)) (.tmp 56), none⟩ :: [])) <|
        .cond (.tmp 57) (.seq (.region (⟨some 2, .mov (.val (.bool false)), none⟩ :: [])) <|
          .ret) <|
        .skip)) <|
      .region (⟨some 8, .mov (.tmp 3), none⟩ ::
        ⟨some 9, .bin .add (.tmp 8) (.val (.int .i64 1)), none⟩ ::
        ⟨some 3, .mov (.tmp 9), none⟩ :: [])))) <|
  .seq (.region (⟨some 2, .mov (.val (.bool true)), none⟩ :: [])) <|
  .ret⟩
theorem e_ref09_Right : cFunc Try.prog kd_CRef09 Try.f43 = some c_ref09_Right := by kernel_rfl
/- touchstone/touchstoneref09.Has: slots d, 0, v, 1, d, 2, v, 3, i, 5 -/
def c_ref09_Has : AFunc := ⟨30, [.tmp 4],
  .seq (.region (⟨some 4, .mov (.val (.bool false)), none⟩ :: [])) <|
  .seq (.seq (.region (⟨some 5, .mov (.val (.int .i64 0)), none⟩ :: [])) <|
  .block 0 (.loop (.seq (.seq (.region (⟨some 6, .mov (.tmp 5), none⟩ ::
        ⟨some 7, .mov (.tmp 0), none⟩ ::
        ⟨some 8, .len false (.tmp 7), none⟩ ::
        ⟨some 9, .bin .lss (.tmp 6) (.tmp 8), none⟩ :: [])) <|
      .cond (.tmp 9) (.skip) <|
      .exit 0) <|
      .seq (.block 1 (.seq (.region (⟨some 12, .mov (.tmp 1), none⟩ ::
          ⟨some 13, .mov (.tmp 0), none⟩ ::
          ⟨some 14, .mov (.tmp 5), none⟩ ::
          ⟨some 15, .iaddr 2 (.tmp 13) (.tmp 14), none⟩ ::
          ⟨some 16, .faddr 0 (.tmp 15), none⟩ ::
          ⟨some 17, .load false 1 (.tmp 16), none⟩ ::
          ⟨some 18, .bin .geq (.tmp 12) (.tmp 17), none⟩ ::
          ⟨some 19, .mov (.tmp 18), none⟩ ::
          ⟨some 20, .mov (.tmp 1), some (19, true)⟩ ::
          ⟨some 21, .mov (.tmp 0), some (19, true)⟩ ::
          ⟨some 22, .mov (.tmp 5), some (19, true)⟩ ::
          ⟨some 23, .iaddr 2 (.tmp 21) (.tmp 22), some (19, true)⟩ ::
          ⟨some 24, .faddr 1 (.tmp 23), some (19, true)⟩ ::
          ⟨some 25, .load false 1 (.tmp 24), some (19, true)⟩ ::
          ⟨some 26, .bin .leq (.tmp 20) (.tmp 25), some (19, true)⟩ ::
          ⟨some 27, .pick (.tmp 19) (.tmp 26) (.val (.bool false)), none⟩ :: [])) <|
        .cond (.tmp 27) (.seq (.region (⟨some 28, .mov (.tmp 0), none⟩ ::
            ⟨some 29, .call (.val (.fn (.func 43) [])) [(.tmp 28)], none⟩ ::
            ⟨some 4, .mov (.tmp 29), none⟩ :: [])) <|
          .ret) <|
        .skip)) <|
      .region (⟨some 10, .mov (.tmp 5), none⟩ ::
        ⟨some 11, .bin .add (.tmp 10) (.val (.int .i64 1)), none⟩ ::
        ⟨some 5, .mov (.tmp 11), none⟩ :: [])))) <|
  .seq (.region (⟨some 4, .mov (.val (.bool false)), none⟩ :: [])) <|
  .ret⟩
theorem e_ref09_Has : cFunc Try.prog kd_CRef09 Try.f47 = some c_ref09_Has := by kernel_rfl
/- touchstone/touchstoneref09.Size: slots d, 0, d, 1, n, 3, i, 4 -/
def c_ref09_Size : AFunc := ⟨29, [.tmp 2],
  .seq (.region (⟨some 2, .mov (.val (.int .i64 0)), none⟩ :: [])) <|
  .seq (.region (⟨some 3, .mov (.val (.int .i64 0)), none⟩ :: [])) <|
  .seq (.seq (.region (⟨some 5, .mov (.tmp 0), none⟩ ::
    ⟨some 6, .call (.val (.fn (.func 43) [])) [(.tmp 5)], none⟩ ::
    ⟨some 7, .un .not (.tmp 6), none⟩ :: [])) <|
  .cond (.tmp 7) (.seq (.region (⟨some 2, .mov (.val (.int .i64 0)), none⟩ :: [])) <|
    .ret) <|
  .skip) <|
  .seq (.seq (.region (⟨some 4, .mov (.val (.int .i64 0)), none⟩ :: [])) <|
  .block 0 (.loop (.seq (.seq (.region (⟨some 8, .mov (.tmp 4), none⟩ ::
        ⟨some 9, .mov (.tmp 0), none⟩ ::
        ⟨some 10, .len false (.tmp 9), none⟩ ::
        ⟨some 11, .bin .lss (.tmp 8) (.tmp 10), none⟩ :: [])) <|
      .cond (.tmp 11) (.skip) <|
      .exit 0) <|
      .seq (.block 1 (.region (⟨some 14, .mov (.tmp 3), none⟩ ::
          ⟨some 15, .mov (.tmp 0), none⟩ ::
          ⟨some 16, .mov (.tmp 4), none⟩ ::
          ⟨some 17, .iaddr 2 (.tmp 15) (.tmp 16), none⟩ ::
          ⟨some 18, .faddr 1 (.tmp 17), none⟩ ::
          ⟨some 19, .load false 1 (.tmp 18), none⟩ ::
          ⟨some 20, .bin .add (.tmp 14) (.tmp 19), none⟩ ::
          ⟨some 21, .mov (.tmp 0), none⟩ ::
          ⟨some 22, .mov (.tmp 4), none⟩ ::
          ⟨some 23, .iaddr 2 (.tmp 21) (.tmp 22), none⟩ ::
          ⟨some 24, .faddr 0 (.tmp 23), none⟩ ::
          ⟨some 25, .load false 1 (.tmp 24), none⟩ ::
          ⟨some 26, .bin .sub (.tmp 20) (.tmp 25), none⟩ ::
          ⟨some 27, .bin .add (.tmp 26) (.val (.int .i64 1)), none⟩ ::
          ⟨some 3, .mov (.tmp 27), none⟩ :: []))) <|
      .region (⟨some 12, .mov (.tmp 4), none⟩ ::
        ⟨some 13, .bin .add (.tmp 12) (.val (.int .i64 1)), none⟩ ::
        ⟨some 4, .mov (.tmp 13), none⟩ :: [])))) <|
  .seq (.region (⟨some 28, .mov (.tmp 3), none⟩ ::
    ⟨some 2, .mov (.tmp 28), none⟩ :: [])) <|
  .ret⟩
theorem e_ref09_Size : cFunc Try.prog kd_CRef09 Try.f77 = some c_ref09_Size := by kernel_rfl
/- touchstone/touchstoneref09.Next: slots d, 0, v, 1, d, 2, v, 3, i, 6 -/
def c_ref09_Next : AFunc := ⟨30, [.tmp 4, .tmp 5],
  .seq (.region (⟨some 4, .mov (.val (.int .i64 0)), none⟩ ::
    ⟨some 5, .mov (.val (.bool false)), none⟩ :: [])) <|
  .seq (.seq (.region (⟨some 7, .mov (.tmp 0), none⟩ ::
    ⟨some 8, .call (.val (.fn (.func 43) [])) [(.tmp 7)], none⟩ ::
    ⟨some 9, .un .not (.tmp 8), none⟩ :: [])) <|
  .cond (.tmp 9) (.seq (.region (⟨some 4, .mov (.val (.int .i64 0)), none⟩ ::
      ⟨some 5, .mov (.val (.bool false)), none⟩ :: [])) <|
    .ret) <|
  .skip) <|
  .seq (.seq (.region (⟨some 6, .mov (.val (.int .i64 0)), none⟩ :: [])) <|
  .block 0 (.loop (.seq (.seq (.region (⟨some 10, .mov (.tmp 6), none⟩ ::
        ⟨some 11, .mov (.tmp 0), none⟩ ::
        ⟨some 12, .len false (.tmp 11), none⟩ ::
        ⟨some 13, .bin .lss (.tmp 10) (.tmp 12), none⟩ :: [])) <|
      .cond (.tmp 13) (.skip) <|
      .exit 0) <|
      .seq (.block 1 (.seq (.region (⟨some 16, .mov (.tmp 0), none⟩ ::
          ⟨some 17, .mov (.tmp 6), none⟩ ::
          ⟨some 18, .iaddr 2 (.tmp 16) (.tmp 17), none⟩ ::
          ⟨some 19, .faddr 1 (.tmp 18), none⟩ ::
          ⟨some 20, .load false 1 (.tmp 19), none⟩ ::
          ⟨some 21, .mov (.tmp 1), none⟩ ::
          ⟨some 22, .bin .geq (.tmp 20) (.tmp 21), none⟩ :: [])) <|
        .cond (.tmp 22) (.seq (.region (⟨some 23, .mov (.tmp 1), none⟩ ::
            ⟨some 24, .mov (.tmp 0), none⟩ ::
            ⟨some 25, .mov (.tmp 6), none⟩ ::
            ⟨some 26, .iaddr 2 (.tmp 24) (.tmp 25), none⟩ ::
            ⟨some 27, .faddr 0 (.tmp 26), none⟩ ::
            ⟨some 28, .load false 1 (.tmp 27), none⟩ ::
            ⟨some 29, .mx (.tmp 23) [(.tmp 28)], none⟩ ::
            ⟨some 4, .mov (.tmp 29), none⟩ ::
            ⟨some 5, .mov (.val (.bool true)), none⟩ :: [])) <|
          .ret) <|
        .skip)) <|
      .region (⟨some 14, .mov (.tmp 6), none⟩ ::
        ⟨some 15, .bin .add (.tmp 14) (.val (.int .i64 1)), none⟩ ::
        ⟨some 6, .mov (.tmp 15), none⟩ :: [])))) <|
  .seq (.region (⟨some 4, .mov (.val (.int .i64 0)), none⟩ ::
    ⟨some 5, .mov (.val (.bool false)), none⟩ :: [])) <|
  .ret⟩
theorem e_ref09_Next : cFunc Try.prog kd_CRef09 Try.f101 = some c_ref09_Next := by kernel_rfl
/- touchstone/touchstoneref09.Cut: slots d, 0, lo, 1, hi, 2, d, 3, lo, 4, hi, 5, out, 7, i, 8, r, 9 -/
def c_ref09_Cut : AFunc := ⟨45, [.tmp 6],
  .seq (.region (⟨some 6, .mov (.val .nils), none⟩ :: [])) <|
  .seq (.region (⟨some 7, .mov (.val .nils), none⟩ :: [])) <|
  .seq (.seq (.region (⟨some 10, .mov (.tmp 0), none⟩ ::
    ⟨some 11, .call (.val (.fn (.func 43) [])) [(.tmp 10)], none⟩ ::
    ⟨some 12, .un .not (.tmp 11), none⟩ :: [])) <|
  .cond (.tmp 12) (.seq (.region (⟨some 13, .mov (.tmp 7), none⟩ ::
      ⟨some 6, .mov (.tmp 13), none⟩ :: [])) <|
    .ret) <|
  .skip) <|
  .seq (.seq (.region (⟨some 8, .mov (.val (.int .i64 0)), none⟩ :: [])) <|
  .block 0 (.loop (.seq (.seq (.region (⟨some 14, .mov (.tmp 8), none⟩ ::
        ⟨some 15, .mov (.tmp 0), none⟩ ::
        ⟨some 16, .len false (.tmp 15), none⟩ ::
        ⟨some 17, .bin .lss (.tmp 14) (.tmp 16), none⟩ :: [])) <|
      .cond (.tmp 17) (.skip) <|
      .exit 0) <|
      .seq (.block 1 (.seq (.region (⟨some 20, .mov (.tmp 1), none⟩ ::
          ⟨some 21, .mov (.tmp 0), none⟩ ::
          ⟨some 22, .mov (.tmp 8), none⟩ ::
          ⟨some 23, .iaddr 2 (.tmp 21) (.tmp 22), none⟩ ::
          ⟨some 24, .faddr 0 (.tmp 23), none⟩ ::
          ⟨some 25, .load false 1 (.tmp 24), none⟩ ::
          ⟨some 26, .mx (.tmp 20) [(.tmp 25)], none⟩ ::
          ⟨some 27, .mov (.tmp 2), none⟩ ::
          ⟨some 28, .mov (.tmp 0), none⟩ ::
          ⟨some 29, .mov (.tmp 8), none⟩ ::
          ⟨some 30, .iaddr 2 (.tmp 28) (.tmp 29), none⟩ ::
          ⟨some 31, .faddr 1 (.tmp 30), none⟩ ::
          ⟨some 32, .load false 1 (.tmp 31), none⟩ ::
          ⟨some 33, .mn (.tmp 27) [(.tmp 32)], none⟩ ::
          ⟨some 34, .build [(.int .i64 0), (.int .i64 0)] [(0, 1, (.tmp 26)), (1, 1, (.tmp 33))], none⟩ ::
          ⟨some 9, .alloc (.agg [(.int .i64 0), (.int .i64 0)]), none⟩ ::
          ⟨none, .store 2 (.tmp 9) (.tmp 34), none⟩ :: [])) <|
        .seq (.region (⟨some 35, .faddr 0 (.tmp 9), none⟩ ::
          ⟨some 36, .load false 1 (.tmp 35), none⟩ ::
          ⟨some 37, .faddr 1 (.tmp 9), none⟩ ::
          ⟨some 38, .load false 1 (.tmp 37), none⟩ ::
          ⟨some 39, .bin .leq (.tmp 36) (.tmp 38), none⟩ :: [])) <|
        .cond (.tmp 39) (.region (⟨some 40, .mov (.tmp 7), none⟩ ::
            ⟨some 41, .load true 2 (.tmp 9), none⟩ ::
            ⟨some 42, .bslice 2 [(.tmp 41)], none⟩ ::
            ⟨some 43, .app 2 16 (.tmp 40) (.tmp 42), none⟩ ::
            ⟨some 7, .mov (.tmp 43), none⟩ :: [])) <|
        .skip)) <|
      .region (⟨some 18, .mov (.tmp 8), none⟩ ::
        ⟨some 19, .bin .add (.tmp 18) (.val (.int .i64 1)), none⟩ ::
        ⟨some 8, .mov (.tmp 19), none⟩ :: [])))) <|
  .seq (.region (⟨some 44, .mov (.tmp 7), none⟩ ::
    ⟨some 6, .mov (.tmp 44), none⟩ :: [])) <|
  .ret⟩
theorem e_ref09_Cut : cFunc Try.prog kd_CRef09 Try.f78 = some c_ref09_Cut := by kernel_rfl
/- touchstone/touchstoneref09.Without: slots d, 0, v, 1, d, 2, v, 3, out, 5, i, 6, r, 7 -/
def c_ref09_Without : AFunc := ⟨61, [.tmp 4],
  .seq (.region (⟨some 4, .mov (.val .nils), none⟩ :: [])) <|
  .seq (.region (⟨some 5, .mov (.val .nils), none⟩ :: [])) <|
  .seq (.seq (.region (⟨some 8, .mov (.tmp 0), none⟩ ::
    ⟨some 9, .call (.val (.fn (.func 43) [])) [(.tmp 8)], none⟩ ::
    ⟨some 10, .un .not (.tmp 9), none⟩ :: [])) <|
  .cond (.tmp 10) (.seq (.region (⟨some 11, .mov (.tmp 5), none⟩ ::
      ⟨some 4, .mov (.tmp 11), none⟩ :: [])) <|
    .ret) <|
  .skip) <|
  .seq (.seq (.region (⟨some 6, .mov (.val (.int .i64 0)), none⟩ :: [])) <|
  .block 0 (.loop (.seq (.seq (.region (⟨some 12, .mov (.tmp 6), none⟩ ::
        ⟨some 13, .mov (.tmp 0), none⟩ ::
        ⟨some 14, .len false (.tmp 13), none⟩ ::
        ⟨some 15, .bin .lss (.tmp 12) (.tmp 14), none⟩ :: [])) <|
      .cond (.tmp 15) (.skip) <|
      .exit 0) <|
      .seq (.block 1 (.seq (.region (⟨some 18, .mov (.tmp 0), none⟩ ::
          ⟨some 19, .mov (.tmp 6), none⟩ ::
          ⟨some 20, .iaddr 2 (.tmp 18) (.tmp 19), none⟩ ::
          ⟨some 21, .load true 2 (.tmp 20), none⟩ ::
          ⟨some 7, .alloc (.agg [(.int .i64 0), (.int .i64 0)]), none⟩ ::
          ⟨none, .store 2 (.tmp 7) (.tmp 21), none⟩ :: [])) <|
        .seq (.seq (.region (⟨some 22, .mov (.tmp 1), none⟩ ::
          ⟨some 23, .faddr 0 (.tmp 7), none⟩ ::
          ⟨some 24, .load false 1 (.tmp 23), none⟩ ::
          ⟨some 25, .bin .lss (.tmp 22) (.tmp 24), none⟩ ::
          ⟨some 26, .mov (.tmp 25), none⟩ ::
          ⟨some 27, .mov (.tmp 1), some (26, false)⟩ ::
          ⟨some 28, .faddr 1 (.tmp 7), some (26, false)⟩ ::
          ⟨some 29, .load false 1 (.tmp 28), some (26, false)⟩ ::
          ⟨some 30, .bin .gtr (.tmp 27) (.tmp 29), some (26, false)⟩ ::
          ⟨some 31, .pick (.tmp 26) (.val (.bool true)) (.tmp 30), none⟩ :: [])) <|
        .cond (.tmp 31) (.seq (.region (⟨some 32, .mov (.tmp 5), none⟩ ::
            ⟨some 33, .load true 2 (.tmp 7), none⟩ ::
            ⟨some 34, .bslice 2 [(.tmp 33)], none⟩ ::
            ⟨some 35, .app 2 16 (.tmp 32) (.tmp 34), none⟩ ::
            ⟨some 5, .mov (.tmp 35), none⟩ :: [])) <|
          .exit 1) <|
        .skip) <|
        .seq (.seq (.region (⟨some 36, .faddr 0 (.tmp 7), none⟩ ::
          ⟨some 37, .load false 1 (.tmp 36), none⟩ ::
          ⟨some 38, .mov (.tmp 1), none⟩ ::
          ⟨some 39, .bin .lss (.tmp 37) (.tmp 38), none⟩ :: [])) <|
        .cond (.tmp 39) (.region (⟨some 40, .mov (.tmp 5), none⟩ ::
            ⟨some 41, .faddr 0 (.tmp 7), none⟩ ::
            ⟨some 42, .load false 1 (.tmp 41), none⟩ ::
            ⟨some 43, .mov (.tmp 1), none⟩ ::
            ⟨some 44, .bin .sub (.tmp 43) (.val (.int .i64 1)), none⟩ ::
            ⟨some 45, .build [(.int .i64 0), (.int .i64 0)] [(0, 1, (.tmp 42)), (1, 1, (.tmp 44))], none⟩ ::
            ⟨some 46, .bslice 2 [(.tmp 45)], none⟩ ::
            ⟨some 47, .app 2 16 (.tmp 40) (.tmp 46), none⟩ ::
            ⟨some 5, .mov (.tmp 47), none⟩ :: [])) <|
        .skip) <|
        .seq (.region (⟨some 48, .mov (.tmp 1), none⟩ ::
          ⟨some 49, .faddr 1 (.tmp 7), none⟩ ::
          ⟨some 50, .load false 1 (.tmp 49), none⟩ ::
          ⟨some 51, .bin .lss (.tmp 48) (.tmp 50), none⟩ :: [])) <|
        .cond (.tmp 51) (.region (⟨some 52, .mov (.tmp 5), none⟩ ::
            ⟨some 53, .mov (.tmp 1), none⟩ ::
            ⟨some 54, .bin .add (.tmp 53) (.val (.int .i64 1)), none⟩ ::
            ⟨some 55, .faddr 1 (.tmp 7), none⟩ ::
            ⟨some 56, .load false 1 (.tmp 55), none⟩ ::
            ⟨some 57, .build [(.int .i64 0), (.int .i64 0)] [(0, 1, (.tmp 54)), (1, 1, (.tmp 56))], none⟩ ::
            ⟨some 58, .bslice 2 [(.tmp 57)], none⟩ ::
            ⟨some 59, .app 2 16 (.tmp 52) (.tmp 58), none⟩ ::
            ⟨some 5, .mov (.tmp 59), none⟩ :: [])) <|
        .skip)) <|
      .region (⟨some 16, .mov (.tmp 6), none⟩ ::
        ⟨some 17, .bin .add (.tmp 16) (.val (.int .i64 1)), none⟩ ::
        ⟨some 6, .mov (.tmp 17), none⟩ :: [])))) <|
  .seq (.region (⟨some 60, .mov (.tmp 5), none⟩ ::
    ⟨some 4, .mov (.tmp 60), none⟩ :: [])) <|
  .ret⟩
theorem e_ref09_Without : cFunc Try.prog kd_CRef09 Try.f89 = some c_ref09_Without := by kernel_rfl
/- touchstone/touchstoneref09.Meet: slots a, 0, b, 1, a, 2, b, 3, out, 5, i, 6 -/
def c_ref09_Meet : AFunc := ⟨37, [.tmp 4],
  .seq (.region (⟨some 4, .mov (.val .nils), none⟩ :: [])) <|
  .seq (.region (⟨some 5, .mov (.val .nils), none⟩ :: [])) <|
  .seq (.seq (.region (⟨some 7, .mov (.tmp 0), none⟩ ::
    ⟨some 8, .call (.val (.fn (.func 43) [])) [(.tmp 7)], none⟩ ::
    ⟨some 9, .un .not (.tmp 8), none⟩ ::
    ⟨some 10, .mov (.tmp 9), none⟩ ::
    ⟨some 11, .mov (.tmp 1), some (10, false)⟩ ::
    ⟨some 12, .call (.val (.fn (.func 43) [])) [(.tmp 11)], some (10, false)⟩ ::
    ⟨some 13, .un .not (.tmp 12), some (10, false)⟩ ::
    ⟨some 14, .pick (.tmp 10) (.val (.bool true)) (.tmp 13), none⟩ :: [])) <|
  .cond (.tmp 14) (.seq (.region (⟨some 15, .mov (.tmp 5), none⟩ ::
      ⟨some 4, .mov (.tmp 15), none⟩ :: [])) <|
    .ret) <|
  .skip) <|
  .seq (.seq (.region (⟨some 6, .mov (.val (.int .i64 0)), none⟩ :: [])) <|
  .block 0 (.loop (.seq (.seq (.region (⟨some 16, .mov (.tmp 6), none⟩ ::
        ⟨some 17, .mov (.tmp 1), none⟩ ::
        ⟨some 18, .len false (.tmp 17), none⟩ ::
        ⟨some 19, .bin .lss (.tmp 16) (.tmp 18), none⟩ :: [])) <|
      .cond (.tmp 19) (.skip) <|
      .exit 0) <|
      .seq (.block 1 (.region (⟨some 22, .mov (.tmp 5), none⟩ ::
          ⟨some 23, .mov (.tmp 0), none⟩ ::
          ⟨some 24, .mov (.tmp 1), none⟩ ::
          ⟨some 25, .mov (.tmp 6), none⟩ ::
          ⟨some 26, .iaddr 2 (.tmp 24) (.tmp 25), none⟩ ::
          ⟨some 27, .faddr 0 (.tmp 26), none⟩ ::
          ⟨some 28, .load false 1 (.tmp 27), none⟩ ::
          ⟨some 29, .mov (.tmp 1), none⟩ ::
          ⟨some 30, .mov (.tmp 6), none⟩ ::
          ⟨some 31, .iaddr 2 (.tmp 29) (.tmp 30), none⟩ ::
          ⟨some 32, .faddr 1 (.tmp 31), none⟩ ::
          ⟨some 33, .load false 1 (.tmp 32), none⟩ ::
          ⟨some 34, .call (.val (.fn (.func 78) [])) [(.tmp 23), (.tmp 28), (.tmp 33)], none⟩ ::
          ⟨some 35, .app 2 16 (.tmp 22) (.tmp 34), none⟩ ::
          ⟨some 5, .mov (.tmp 35), none⟩ :: []))) <|
      .region (⟨some 20, .mov (.tmp 6), none⟩ ::
        ⟨some 21, .bin .add (.tmp 20) (.val (.int .i64 1)), none⟩ ::
        ⟨some 6, .mov (.tmp 21), none⟩ :: [])))) <|
  .seq (.region (⟨some 36, .mov (.tmp 5), none⟩ ::
    ⟨some 4, .mov (.tmp 36), none⟩ :: [])) <|
  .ret⟩
theorem e_ref09_Meet : cFunc Try.prog kd_CRef09 Try.f46 = some c_ref09_Meet := by kernel_rfl
/- touchstone/touchstoneref09.Same: slots a, 0, b, 1, a, 2, b, 3, i, 5 -/
def c_ref09_Same : AFunc := ⟨36, [.tmp 4],
  .seq (.region (⟨some 4, .mov (.val (.bool false)), none⟩ :: [])) <|
  .seq (.seq (.region (⟨some 6, .mov (.tmp 0), none⟩ ::
    ⟨some 7, .call (.val (.fn (.func 43) [])) [(.tmp 6)], none⟩ ::
    ⟨some 8, .un .not (.tmp 7), none⟩ ::
    ⟨some 9, .mov (.tmp 8), none⟩ ::
    ⟨some 10, .mov (.tmp 1), some (9, false)⟩ ::
    ⟨some 11, .call (.val (.fn (.func 43) [])) [(.tmp 10)], some (9, false)⟩ ::
    ⟨some 12, .un .not (.tmp 11), some (9, false)⟩ ::
    ⟨some 13, .pick (.tmp 9) (.val (.bool true)) (.tmp 12), none⟩ ::
    ⟨some 14, .mov (.tmp 13), none⟩ ::
    ⟨some 15, .mov (.tmp 0), some (14, false)⟩ ::
    ⟨some 16, .len false (.tmp 15), some (14, false)⟩ ::
    ⟨some 17, .mov (.tmp 1), some (14, false)⟩ ::
    ⟨some 18, .len false (.tmp 17), some (14, false)⟩ ::
    ⟨some 19, .bin .neq (.tmp 16) (.tmp 18), some (14, false)⟩ ::
    ⟨some 20, .pick (.tmp 14) (.val (.bool true)) (.tmp 19), none⟩ :: [])) <|
  .cond (.tmp 20) (.seq (.region (⟨some 4, .mov (.val (.bool false)), none⟩ :: [])) <|
    .ret) <|
  .skip) <|
  .seq (.seq (.region (⟨some 5, .mov (.val (.int .i64 0)), none⟩ :: [])) <|
  .block 0 (.loop (.seq (.seq (.region (⟨some 21, .mov (.tmp 5), none⟩ ::
        ⟨some 22, .mov (.tmp 0), none⟩ ::
        ⟨some 23, .len false (.tmp 22), none⟩ ::
        ⟨some 24, .bin .lss (.tmp 21) (.tmp 23), none⟩ :: [])) <|
      .cond (.tmp 24) (.skip) <|
      .exit 0) <|
      .seq (.block 1 (.seq (.region (⟨some 27, .mov (.tmp 0), none⟩ ::
          ⟨some 28, .mov (.tmp 5), none⟩ ::
          ⟨some 29, .iaddr 2 (.tmp 27) (.tmp 28), none⟩ ::
          ⟨some 30, .load true 2 (.tmp 29), none⟩ ::
          ⟨some 31, .mov (.tmp 1), none⟩ ::
          ⟨some 32, .mov (.tmp 5), none⟩ ::
          ⟨some 33, .iaddr 2 (.tmp 31) (.tmp 32), none⟩ ::
          ⟨some 34, .load true 2 (.tmp 33), none⟩ ::
          ⟨some 35, .eqs true 2 (.tmp 30) (.tmp 34), none⟩ :: [])) <|
        .cond (.tmp 35) (.seq (.region (⟨some 4, .mov (.val (.bool false)), none⟩ :: [])) <|
          .ret) <|
        .skip)) <|
      .region (⟨some 25, .mov (.tmp 5), none⟩ ::
        ⟨some 26, .bin .add (.tmp 25) (.val (.int .i64 1)), none⟩ ::
        ⟨some 5, .mov (.tmp 26), none⟩ :: [])))) <|
  .seq (.region (⟨some 4, .mov (.val (.bool true)), none⟩ :: [])) <|
  .ret⟩
theorem e_ref09_Same : cFunc Try.prog kd_CRef09 Try.f45 = some c_ref09_Same := by kernel_rfl
end Go.Proofs.Ytclpkkbamgmooaa
