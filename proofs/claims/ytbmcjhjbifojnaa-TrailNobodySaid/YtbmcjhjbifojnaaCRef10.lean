/- The code of functions, as abstract code. Printed by program. -/
import Derived.Test.YtbmcjhjbifojnaaAv2
import Derived.Test.YtbmcjhjbifojnaaProg
namespace Go.Proofs.Ytbmcjhjbifojnaa
open Av
set_option linter.unusedVariables false
set_option maxRecDepth 100000
def kd_CRef10 (f : Nat) : Nat := 0
/- touchstone/touchstoneref10.Right: slots doms, 0, doms, 1, i, 3 -/
def c_ref10_Right : AFunc := ⟨27, [.tmp 2],
  .seq (.region (⟨some 2, .mov (.val (.bool false)), none⟩ :: [])) <|
  .seq (.seq (.region (⟨some 3, .mov (.val (.int .i64 0)), none⟩ :: [])) <|
  .block 0 (.loop (.seq (.seq (.region (⟨some 4, .mov (.tmp 3), none⟩ ::
        ⟨some 5, .mov (.tmp 0), none⟩ ::
        ⟨some 6, .len false (.tmp 5), none⟩ ::
        ⟨some 7, .bin .lss (.tmp 4) (.tmp 6), none⟩ :: [])) <|
      .cond (.tmp 7) (.skip) <|
      .exit 0) <|
      .seq (.block 1 (.seq (.region (⟨some 10, .mov (.tmp 0), none⟩ ::
          ⟨some 11, .mov (.tmp 3), none⟩ ::
          ⟨some 12, .iaddr 1 (.tmp 10) (.tmp 11), none⟩ ::
          ⟨some 13, .load false 1 (.tmp 12), none⟩ ::
          ⟨some 14, .call (.val (.fn (.func 32) [])) [(.tmp 13)], none⟩ ::
          ⟨some 15, .un .not (.tmp 14), none⟩ ::
          ⟨some 16, .mov (.tmp 15), none⟩ ::
          ⟨some 17, .mov (.tmp 0), some (16, false)⟩ ::
          ⟨some 18, .mov (.tmp 3), some (16, false)⟩ ::
          ⟨some 19, .iaddr 1 (.tmp 17) (.tmp 18), some (16, false)⟩ ::
          ⟨some 20, .load false 1 (.tmp 19), some (16, false)⟩ ::
          ⟨some 21, .len false (.tmp 20), some (16, false)⟩ ::
          ⟨some 22, .bin .eql (.tmp 21) (.val (.int .i64 0)), some (16, false)⟩ ::
          ⟨some 23, .pick (.tmp 16) (.val (.bool true)) (.tmp 22), none⟩ :: [])) <|
        .cond (.tmp 23) (.seq (.region (⟨some 2, .mov (.val (.bool false)), none⟩ :: [])) <|
          .ret) <|
        .skip)) <|
      .region (⟨some 8, .mov (.tmp 3), none⟩ ::
        ⟨some 9, .bin .add (.tmp 8) (.val (.int .i64 1)), none⟩ ::
        ⟨some 3, .mov (.tmp 9), none⟩ :: [])))) <|
  .seq (.region (⟨some 24, .mov (.tmp 0), none⟩ ::
    ⟨some 25, .len false (.tmp 24), none⟩ ::
    ⟨some 26, .bin .leq (.tmp 25) (.val (.int .i64 64)), none⟩ ::
    ⟨some 2, .mov (.tmp 26), none⟩ :: [])) <|
  .ret⟩
theorem e_ref10_Right : cFunc Try.prog kd_CRef10 Try.f10 = some c_ref10_Right := by kernel_rfl
/- touchstone/touchstoneref10.New: slots doms, 0, doms, 1 -/
def c_ref10_New : AFunc := ⟨8, [.cell 2 true 3],
  .seq (.region (⟨some 2, .alloc (.agg [.nils, .nils, .nils]), none⟩ :: [])) <|
  .seq (.region (⟨some 3, .mov (.tmp 0), none⟩ ::
    ⟨some 4, .mov (.tmp 0), none⟩ ::
    ⟨some 5, .len false (.tmp 4), none⟩ ::
    ⟨some 6, .mks 1 1 (.bool false) (.tmp 5) (.tmp 5), none⟩ ::
    ⟨some 7, .build [.nils, .nils, .nils] [(0, 1, (.tmp 3)), (2, 1, (.tmp 6))], none⟩ ::
    ⟨none, .store 3 (.tmp 2) (.tmp 7), none⟩ :: [])) <|
  .ret⟩
theorem e_ref10_New : cFunc Try.prog kd_CRef10 Try.f11 = some c_ref10_New := by kernel_rfl
/- touchstone/touchstoneref10.Narrow: slots s, 0, x, 1, d, 2, s, 3, x, 4, d, 5, m, 9, all, 10, diff, 11, i, 12 -/
def c_ref10_Narrow : AFunc := ⟨85, [.cell 6 true 3, .tmp 7, .tmp 8],
  .seq (.region (⟨some 3, .box 3 (.tmp 0), none⟩ ::
    ⟨some 6, .alloc (.agg [.nils, .nils, .nils]), none⟩ ::
    ⟨some 7, .mov (.val (.bool false)), none⟩ ::
    ⟨some 8, .mov (.val (.int .i64 0)), none⟩ :: [])) <|
  .seq (.seq (.region (⟨some 13, .mov (.tmp 1), none⟩ ::
    ⟨some 14, .bin .lss (.tmp 13) (.val (.int .i64 0)), none⟩ ::
    ⟨some 15, .mov (.tmp 14), none⟩ ::
    ⟨some 16, .mov (.tmp 1), some (15, false)⟩ ::
    ⟨some 17, .faddr 0 (.tmp 3), some (15, false)⟩ ::
    ⟨some 18, .load false 1 (.tmp 17), some (15, false)⟩ ::
    ⟨some 19, .len false (.tmp 18), some (15, false)⟩ ::
    ⟨some 20, .bin .geq (.tmp 16) (.tmp 19), some (15, false)⟩ ::
    ⟨some 21, .pick (.tmp 15) (.val (.bool true)) (.tmp 20), none⟩ ::
    ⟨some 22, .mov (.tmp 21), none⟩ ::
    ⟨some 23, .mov (.tmp 2), some (22, false)⟩ ::
    ⟨some 24, .call (.val (.fn (.func 32) [])) [(.tmp 23)], some (22, false)⟩ ::
    ⟨some 25, .un .not (.tmp 24), some (22, false)⟩ ::
    ⟨some 26, .pick (.tmp 22) (.val (.bool true)) (.tmp 25), none⟩ :: [])) <|
  .cond (.tmp 26) (.seq (.region (⟨some 27, .load true 3 (.tmp 3), none⟩ ::
      ⟨none, .store 3 (.tmp 6) (.tmp 27), none⟩ ::
      ⟨some 7, .mov (.val (.bool false)), none⟩ ::
      ⟨some 8, .mov (.val (.int .i64 2)), none⟩ :: [])) <|
    .ret) <|
  .skip) <|
  .seq (.region (⟨some 28, .faddr 0 (.tmp 3), none⟩ ::
    ⟨some 29, .load false 1 (.tmp 28), none⟩ ::
    ⟨some 30, .mov (.tmp 1), none⟩ ::
    ⟨some 31, .iaddr 1 (.tmp 29) (.tmp 30), none⟩ ::
    ⟨some 32, .load false 1 (.tmp 31), none⟩ ::
    ⟨some 33, .mov (.tmp 2), none⟩ ::
    ⟨some 34, .call (.val (.fn (.func 36) [])) [(.tmp 32), (.tmp 33)], none⟩ ::
    ⟨some 9, .mov (.tmp 34), none⟩ :: [])) <|
  .seq (.seq (.region (⟨some 35, .mov (.tmp 9), none⟩ ::
    ⟨some 36, .len false (.tmp 35), none⟩ ::
    ⟨some 37, .bin .eql (.tmp 36) (.val (.int .i64 0)), none⟩ :: [])) <|
  .cond (.tmp 37) (.seq (.region (⟨some 38, .load true 3 (.tmp 3), none⟩ ::
      ⟨none, .store 3 (.tmp 6) (.tmp 38), none⟩ ::
      ⟨some 7, .mov (.val (.bool false)), none⟩ ::
      ⟨some 8, .mov (.val (.int .i64 12)), none⟩ :: [])) <|
    .ret) <|
  .skip) <|
  .seq (.seq (.region (⟨some 39, .mov (.tmp 9), none⟩ ::
    ⟨some 40, .faddr 0 (.tmp 3), none⟩ ::
    ⟨some 41, .load false 1 (.tmp 40), none⟩ ::
    ⟨some 42, .mov (.tmp 1), none⟩ ::
    ⟨some 43, .iaddr 1 (.tmp 41) (.tmp 42), none⟩ ::
    ⟨some 44, .load false 1 (.tmp 43), none⟩ ::
    ⟨some 45, .call (.val (.fn (.func 29) [])) [(.tmp 39), (.tmp 44)], none⟩ :: [])) <|
  .cond (.tmp 45) (.seq (.region (⟨some 46, .load true 3 (.tmp 3), none⟩ ::
      ⟨none, .store 3 (.tmp 6) (.tmp 46), none⟩ ::
      ⟨some 7, .mov (.val (.bool false)), none⟩ ::
      ⟨some 8, .mov (.val (.int .i64 0)), none⟩ :: [])) <|
    .ret) <|
  .skip) <|
  .seq (.region (⟨some 10, .mov (.val .nils), none⟩ :: [])) <|
  .seq (.region (⟨some 11, .mov (.val .nils), none⟩ :: [])) <|
  .seq (.seq (.region (⟨some 12, .mov (.val (.int .i64 0)), none⟩ :: [])) <|
  .block 0 (.loop (.seq (.seq (.region (⟨some 47, .mov (.tmp 12), none⟩ ::
        ⟨some 48, .faddr 0 (.tmp 3), none⟩ ::
        ⟨some 49, .load false 1 (.tmp 48), none⟩ ::
        ⟨some 50, .len false (.tmp 49), none⟩ ::
        ⟨some 51, .bin .lss (.tmp 47) (.tmp 50), none⟩ :: [])) <|
      .cond (.tmp 51) (.skip) <|
      .exit 0) <|
      .seq (.block 1 (.seq (.region (⟨some 54, .mov (.tmp 12), none⟩ ::
          ⟨some 55, .mov (.tmp 1), none⟩ ::
          ⟨some 56, .bin .eql (.tmp 54) (.tmp 55), none⟩ :: [])) <|
        .cond (.tmp 56) (.seq (.region (⟨some 57, .mov (.tmp 10), none⟩ ::
            ⟨some 58, .mov (.tmp 9), none⟩ ::
            ⟨some 59, .bslice 1 [(.tmp 58)], none⟩ ::
            ⟨some 60, .app 1 24 (.tmp 57) (.tmp 59), none⟩ ::
            ⟨some 10, .mov (.tmp 60), none⟩ :: [])) <|
          .region (⟨some 61, .mov (.tmp 11), none⟩ ::
            ⟨some 62, .bslice 1 [(.val (.bool true))], none⟩ ::
            ⟨some 63, .app 1 1 (.tmp 61) (.tmp 62), none⟩ ::
            ⟨some 11, .mov (.tmp 63), none⟩ :: [])) <|
        .seq (.region (⟨some 64, .mov (.tmp 10), none⟩ ::
          ⟨some 65, .faddr 0 (.tmp 3), none⟩ ::
          ⟨some 66, .load false 1 (.tmp 65), none⟩ ::
          ⟨some 67, .mov (.tmp 12), none⟩ ::
          ⟨some 68, .iaddr 1 (.tmp 66) (.tmp 67), none⟩ ::
          ⟨some 69, .load false 1 (.tmp 68), none⟩ ::
          ⟨some 70, .bslice 1 [(.tmp 69)], none⟩ ::
          ⟨some 71, .app 1 24 (.tmp 64) (.tmp 70), none⟩ ::
          ⟨some 10, .mov (.tmp 71), none⟩ :: [])) <|
        .region (⟨some 72, .mov (.tmp 11), none⟩ ::
          ⟨some 73, .faddr 2 (.tmp 3), none⟩ ::
          ⟨some 74, .load false 1 (.tmp 73), none⟩ ::
          ⟨some 75, .mov (.tmp 12), none⟩ ::
          ⟨some 76, .iaddr 1 (.tmp 74) (.tmp 75), none⟩ ::
          ⟨some 77, .load false 1 (.tmp 76), none⟩ ::
          ⟨some 78, .bslice 1 [(.tmp 77)], none⟩ ::
          ⟨some 79, .app 1 1 (.tmp 72) (.tmp 78), none⟩ ::
          ⟨some 11, .mov (.tmp 79), none⟩ :: []))) <|
      .region (⟨some 52, .mov (.tmp 12), none⟩ ::
        ⟨some 53, .bin .add (.tmp 52) (.val (.int .i64 1)), none⟩ ::
        ⟨some 12, .mov (.tmp 53), none⟩ :: [])))) <|
  .seq (.region (⟨some 80, .mov (.tmp 10), none⟩ ::
    ⟨some 81, .faddr 0 (.tmp 3), none⟩ ::
    ⟨none, .store 1 (.tmp 81) (.tmp 80), none⟩ :: [])) <|
  .seq (.region (⟨some 82, .mov (.tmp 11), none⟩ ::
    ⟨some 83, .faddr 2 (.tmp 3), none⟩ ::
    ⟨none, .store 1 (.tmp 83) (.tmp 82), none⟩ :: [])) <|
  .seq (.region (⟨some 84, .load true 3 (.tmp 3), none⟩ ::
    ⟨none, .store 3 (.tmp 6) (.tmp 84), none⟩ ::
    ⟨some 7, .mov (.val (.bool true)), none⟩ ::
    ⟨some 8, .mov (.val (.int .i64 0)), none⟩ :: [])) <|
  .ret⟩
theorem e_ref10_Narrow : cFunc Try.prog kd_CRef10 Try.f13 = some c_ref10_Narrow := by kernel_rfl
/- touchstone/touchstoneref10.Push: slots s, 0, s, 1, l, 4, i, 5 -/
def c_ref10_Push : AFunc := ⟨34, [.cell 2 true 3, .tmp 3],
  .seq (.region (⟨some 1, .box 3 (.tmp 0), none⟩ ::
    ⟨some 2, .alloc (.agg [.nils, .nils, .nils]), none⟩ ::
    ⟨some 3, .mov (.val (.int .i64 0)), none⟩ :: [])) <|
  .seq (.seq (.region (⟨some 6, .faddr 1 (.tmp 1), none⟩ ::
    ⟨some 7, .load false 1 (.tmp 6), none⟩ ::
    ⟨some 8, .len false (.tmp 7), none⟩ ::
    ⟨some 9, .bin .geq (.tmp 8) (.val (.int .i64 512)), none⟩ :: [])) <|
  .cond (.tmp 9) (.seq (.region (⟨some 10, .load true 3 (.tmp 1), none⟩ ::
      ⟨none, .store 3 (.tmp 2) (.tmp 10), none⟩ ::
      ⟨some 3, .mov (.val (.int .i64 3)), none⟩ :: [])) <|
    .ret) <|
  .skip) <|
  .seq (.region (⟨some 4, .mov (.val .nils), none⟩ :: [])) <|
  .seq (.seq (.region (⟨some 5, .mov (.val (.int .i64 0)), none⟩ :: [])) <|
  .block 0 (.loop (.seq (.seq (.region (⟨some 11, .mov (.tmp 5), none⟩ ::
        ⟨some 12, .faddr 1 (.tmp 1), none⟩ ::
        ⟨some 13, .load false 1 (.tmp 12), none⟩ ::
        ⟨some 14, .len false (.tmp 13), none⟩ ::
        ⟨some 15, .bin .lss (.tmp 11) (.tmp 14), none⟩ :: [])) <|
      .cond (.tmp 15) (.skip) <|
      .exit 0) <|
      .seq (.block 1 (.region (⟨some 18, .mov (.tmp 4), none⟩ ::
          ⟨some 19, .faddr 1 (.tmp 1), none⟩ ::
          ⟨some 20, .load false 1 (.tmp 19), none⟩ ::
          ⟨some 21, .mov (.tmp 5), none⟩ ::
          ⟨some 22, .iaddr 1 (.tmp 20) (.tmp 21), none⟩ ::
          ⟨some 23, .load false 1 (.tmp 22), none⟩ ::
          ⟨some 24, .bslice 1 [(.tmp 23)], none⟩ ::
          ⟨some 25, .app 1 24 (.tmp 18) (.tmp 24), none⟩ ::
          ⟨some 4, .mov (.tmp 25), none⟩ :: []))) <|
      .region (⟨some 16, .mov (.tmp 5), none⟩ ::
        ⟨some 17, .bin .add (.tmp 16) (.val (.int .i64 1)), none⟩ ::
        ⟨some 5, .mov (.tmp 17), none⟩ :: [])))) <|
  .seq (.region (⟨some 26, .mov (.tmp 4), none⟩ ::
    ⟨some 27, .faddr 0 (.tmp 1), none⟩ ::
    ⟨some 28, .load false 1 (.tmp 27), none⟩ ::
    ⟨some 29, .bslice 1 [(.tmp 28)], none⟩ ::
    ⟨some 30, .app 1 24 (.tmp 26) (.tmp 29), none⟩ ::
    ⟨some 4, .mov (.tmp 30), none⟩ :: [])) <|
  .seq (.region (⟨some 31, .mov (.tmp 4), none⟩ ::
    ⟨some 32, .faddr 1 (.tmp 1), none⟩ ::
    ⟨none, .store 1 (.tmp 32) (.tmp 31), none⟩ :: [])) <|
  .seq (.region (⟨some 33, .load true 3 (.tmp 1), none⟩ ::
    ⟨none, .store 3 (.tmp 2) (.tmp 33), none⟩ ::
    ⟨some 3, .mov (.val (.int .i64 0)), none⟩ :: [])) <|
  .ret⟩
theorem e_ref10_Push : cFunc Try.prog kd_CRef10 Try.f14 = some c_ref10_Push := by kernel_rfl
/- touchstone/touchstoneref10.Pop: slots s, 0, s, 1, n, 4 -/
def c_ref10_Pop : AFunc := ⟨30, [.cell 2 true 3, .tmp 3],
  .seq (.region (⟨some 1, .box 3 (.tmp 0), none⟩ ::
    ⟨some 2, .alloc (.agg [.nils, .nils, .nils]), none⟩ ::
    ⟨some 3, .mov (.val (.int .i64 0)), none⟩ :: [])) <|
  .seq (.region (⟨some 5, .faddr 1 (.tmp 1), none⟩ ::
    ⟨some 6, .load false 1 (.tmp 5), none⟩ ::
    ⟨some 7, .len false (.tmp 6), none⟩ ::
    ⟨some 4, .mov (.tmp 7), none⟩ :: [])) <|
  .seq (.seq (.region (⟨some 8, .mov (.tmp 4), none⟩ ::
    ⟨some 9, .bin .eql (.tmp 8) (.val (.int .i64 0)), none⟩ :: [])) <|
  .cond (.tmp 9) (.seq (.region (⟨some 10, .load true 3 (.tmp 1), none⟩ ::
      ⟨none, .store 3 (.tmp 2) (.tmp 10), none⟩ ::
      ⟨some 3, .mov (.val (.int .i64 11)), none⟩ :: [])) <|
    .ret) <|
  .skip) <|
  .seq (.region (⟨some 11, .faddr 1 (.tmp 1), none⟩ ::
    ⟨some 12, .load false 1 (.tmp 11), none⟩ ::
    ⟨some 13, .mov (.tmp 4), none⟩ ::
    ⟨some 14, .bin .sub (.tmp 13) (.val (.int .i64 1)), none⟩ ::
    ⟨some 15, .iaddr 1 (.tmp 12) (.tmp 14), none⟩ ::
    ⟨some 16, .load false 1 (.tmp 15), none⟩ ::
    ⟨some 17, .faddr 0 (.tmp 1), none⟩ ::
    ⟨none, .store 1 (.tmp 17) (.tmp 16), none⟩ :: [])) <|
  .seq (.region (⟨some 18, .faddr 1 (.tmp 1), none⟩ ::
    ⟨some 19, .load false 1 (.tmp 18), none⟩ ::
    ⟨some 20, .mov (.tmp 4), none⟩ ::
    ⟨some 21, .bin .sub (.tmp 20) (.val (.int .i64 1)), none⟩ ::
    ⟨some 22, .slc 1 (.tmp 19) none (some (.tmp 21)), none⟩ ::
    ⟨some 23, .faddr 1 (.tmp 1), none⟩ ::
    ⟨none, .store 1 (.tmp 23) (.tmp 22), none⟩ :: [])) <|
  .seq (.region (⟨some 24, .faddr 0 (.tmp 1), none⟩ ::
    ⟨some 25, .load false 1 (.tmp 24), none⟩ ::
    ⟨some 26, .len false (.tmp 25), none⟩ ::
    ⟨some 27, .mks 1 1 (.bool false) (.tmp 26) (.tmp 26), none⟩ ::
    ⟨some 28, .faddr 2 (.tmp 1), none⟩ ::
    ⟨none, .store 1 (.tmp 28) (.tmp 27), none⟩ :: [])) <|
  .seq (.region (⟨some 29, .load true 3 (.tmp 1), none⟩ ::
    ⟨none, .store 3 (.tmp 2) (.tmp 29), none⟩ ::
    ⟨some 3, .mov (.val (.int .i64 0)), none⟩ :: [])) <|
  .ret⟩
theorem e_ref10_Pop : cFunc Try.prog kd_CRef10 Try.f16 = some c_ref10_Pop := by kernel_rfl
/- touchstone/touchstoneref10.Changed: slots s, 0, s, 1, out, 4, i, 5 -/
def c_ref10_Changed : AFunc := ⟨29, [.cell 2 true 3, .tmp 3],
  .seq (.region (⟨some 1, .box 3 (.tmp 0), none⟩ ::
    ⟨some 2, .alloc (.agg [.nils, .nils, .nils]), none⟩ ::
    ⟨some 3, .mov (.val .nils), none⟩ :: [])) <|
  .seq (.region (⟨some 4, .mov (.val .nils), none⟩ :: [])) <|
  .seq (.seq (.region (⟨some 5, .mov (.val (.int .i64 0)), none⟩ :: [])) <|
  .block 0 (.loop (.seq (.seq (.region (⟨some 6, .mov (.tmp 5), none⟩ ::
        ⟨some 7, .faddr 2 (.tmp 1), none⟩ ::
        ⟨some 8, .load false 1 (.tmp 7), none⟩ ::
        ⟨some 9, .len false (.tmp 8), none⟩ ::
        ⟨some 10, .bin .lss (.tmp 6) (.tmp 9), none⟩ :: [])) <|
      .cond (.tmp 10) (.skip) <|
      .exit 0) <|
      .seq (.block 1 (.seq (.region (⟨some 13, .faddr 2 (.tmp 1), none⟩ ::
          ⟨some 14, .load false 1 (.tmp 13), none⟩ ::
          ⟨some 15, .mov (.tmp 5), none⟩ ::
          ⟨some 16, .iaddr 1 (.tmp 14) (.tmp 15), none⟩ ::
          ⟨some 17, .load false 1 (.tmp 16), none⟩ :: [])) <|
        .cond (.tmp 17) (.region (⟨some 18, .mov (.tmp 4), none⟩ ::
            ⟨some 19, .mov (.tmp 5), none⟩ ::
            ⟨some 20, .bslice 1 [(.tmp 19)], none⟩ ::
            ⟨some 21, .app 1 8 (.tmp 18) (.tmp 20), none⟩ ::
            ⟨some 4, .mov (.tmp 21), none⟩ :: [])) <|
        .skip)) <|
      .region (⟨some 11, .mov (.tmp 5), none⟩ ::
        ⟨some 12, .bin .add (.tmp 11) (.val (.int .i64 1)), none⟩ ::
        ⟨some 5, .mov (.tmp 12), none⟩ :: [])))) <|
  .seq (.region (⟨some 22, .faddr 0 (.tmp 1), none⟩ ::
    ⟨some 23, .load false 1 (.tmp 22), none⟩ ::
    ⟨some 24, .len false (.tmp 23), none⟩ ::
    ⟨some 25, .mks 1 1 (.bool false) (.tmp 24) (.tmp 24), none⟩ ::
    ⟨some 26, .faddr 2 (.tmp 1), none⟩ ::
    ⟨none, .store 1 (.tmp 26) (.tmp 25), none⟩ :: [])) <|
  .seq (.region (⟨some 27, .load true 3 (.tmp 1), none⟩ ::
    ⟨some 28, .mov (.tmp 4), none⟩ ::
    ⟨none, .store 3 (.tmp 2) (.tmp 27), none⟩ ::
    ⟨some 3, .mov (.tmp 28), none⟩ :: [])) <|
  .ret⟩
theorem e_ref10_Changed : cFunc Try.prog kd_CRef10 Try.f18 = some c_ref10_Changed := by kernel_rfl
end Go.Proofs.Ytbmcjhjbifojnaa
