/- The code of functions, as abstract code. Printed by program. -/
import Derived.Test.YtclpkkbamgmooaaAv2
import Derived.Test.YtclpkkbamgmooaaProg
namespace Go.Proofs.Ytclpkkbamgmooaa
open Av
set_option linter.unusedVariables false
set_option maxRecDepth 100000
def kd_CRef15 (f : Nat) : Nat := 0
/- touchstone/touchstoneref12.Lo: slots d, 0, d, 1 -/
def c_ref12_Lo : AFunc := ⟨7, [.tmp 2],
  .seq (.region (⟨some 2, .mov (.val (.int .i64 0)), none⟩ :: [])) <|
  .seq (.region (⟨some 3, .mov (.tmp 0), none⟩ ::
    ⟨some 4, .iaddr 2 (.tmp 3) (.val (.int .i64 0)), none⟩ ::
    ⟨some 5, .faddr 0 (.tmp 4), none⟩ ::
    ⟨some 6, .load false 1 (.tmp 5), none⟩ ::
    ⟨some 2, .mov (.tmp 6), none⟩ :: [])) <|
  .ret⟩
theorem e_ref12_Lo : cFunc Try.prog kd_CRef15 Try.f32 = some c_ref12_Lo := by kernel_rfl
/- touchstone/touchstoneref12.Hi: slots d, 0, d, 1 -/
def c_ref12_Hi : AFunc := ⟨10, [.tmp 2],
  .seq (.region (⟨some 2, .mov (.val (.int .i64 0)), none⟩ :: [])) <|
  .seq (.region (⟨some 3, .mov (.tmp 0), none⟩ ::
    ⟨some 4, .mov (.tmp 0), none⟩ ::
    ⟨some 5, .len false (.tmp 4), none⟩ ::
    ⟨some 6, .bin .sub (.tmp 5) (.val (.int .i64 1)), none⟩ ::
    ⟨some 7, .iaddr 2 (.tmp 3) (.tmp 6), none⟩ ::
    ⟨some 8, .faddr 1 (.tmp 7), none⟩ ::
    ⟨some 9, .load false 1 (.tmp 8), none⟩ ::
    ⟨some 2, .mov (.tmp 9), none⟩ :: [])) <|
  .ret⟩
theorem e_ref12_Hi : cFunc Try.prog kd_CRef15 Try.f86 = some c_ref12_Hi := by kernel_rfl
/- touchstone/touchstoneref12.Fixed: slots d, 0, d, 1 -/
def c_ref12_Fixed : AFunc := ⟨8, [.tmp 2],
  .seq (.region (⟨some 2, .mov (.val (.bool false)), none⟩ :: [])) <|
  .seq (.region (⟨some 3, .mov (.tmp 0), none⟩ ::
    ⟨some 4, .call (.val (.fn (.func 32) [])) [(.tmp 3)], none⟩ ::
    ⟨some 5, .mov (.tmp 0), none⟩ ::
    ⟨some 6, .call (.val (.fn (.func 86) [])) [(.tmp 5)], none⟩ ::
    ⟨some 7, .bin .eql (.tmp 4) (.tmp 6), none⟩ ::
    ⟨some 2, .mov (.tmp 7), none⟩ :: [])) <|
  .ret⟩
theorem e_ref12_Fixed : cFunc Try.prog kd_CRef15 Try.f88 = some c_ref12_Fixed := by kernel_rfl
/- touchstone/touchstoneref12.With: slots d, 0, x, 1, l, 2, d, 3, x, 4, l, 5, out, 7, i, 8 -/
def c_ref12_With : AFunc := ⟨30, [.tmp 6],
  .seq (.region (⟨some 6, .mov (.val .nils), none⟩ :: [])) <|
  .seq (.region (⟨some 7, .mov (.val .nils), none⟩ :: [])) <|
  .seq (.seq (.region (⟨some 8, .mov (.val (.int .i64 0)), none⟩ :: [])) <|
  .block 0 (.loop (.seq (.seq (.region (⟨some 9, .mov (.tmp 8), none⟩ ::
        ⟨some 10, .mov (.tmp 0), none⟩ ::
        ⟨some 11, .len false (.tmp 10), none⟩ ::
        ⟨some 12, .bin .lss (.tmp 9) (.tmp 11), none⟩ :: [])) <|
      .cond (.tmp 12) (.skip) <|
      .exit 0) <|
      .seq (.block 1 (.seq (.region (⟨some 15, .mov (.tmp 8), none⟩ ::
          ⟨some 16, .mov (.tmp 1), none⟩ ::
          ⟨some 17, .bin .eql (.tmp 15) (.tmp 16), none⟩ :: [])) <|
        .cond (.tmp 17) (.region (⟨some 18, .mov (.tmp 7), none⟩ ::
            ⟨some 19, .mov (.tmp 2), none⟩ ::
            ⟨some 20, .bslice 1 [(.tmp 19)], none⟩ ::
            ⟨some 21, .app 1 24 (.tmp 18) (.tmp 20), none⟩ ::
            ⟨some 7, .mov (.tmp 21), none⟩ :: [])) <|
        .region (⟨some 22, .mov (.tmp 7), none⟩ ::
          ⟨some 23, .mov (.tmp 0), none⟩ ::
          ⟨some 24, .mov (.tmp 8), none⟩ ::
          ⟨some 25, .iaddr 1 (.tmp 23) (.tmp 24), none⟩ ::
          ⟨some 26, .load false 1 (.tmp 25), none⟩ ::
          ⟨some 27, .bslice 1 [(.tmp 26)], none⟩ ::
          ⟨some 28, .app 1 24 (.tmp 22) (.tmp 27), none⟩ ::
          ⟨some 7, .mov (.tmp 28), none⟩ :: []))) <|
      .region (⟨some 13, .mov (.tmp 8), none⟩ ::
        ⟨some 14, .bin .add (.tmp 13) (.val (.int .i64 1)), none⟩ ::
        ⟨some 8, .mov (.tmp 14), none⟩ :: [])))) <|
  .seq (.region (⟨some 29, .mov (.tmp 7), none⟩ ::
    ⟨some 6, .mov (.tmp 29), none⟩ :: [])) <|
  .ret⟩
theorem e_ref12_With : cFunc Try.prog kd_CRef15 Try.f85 = some c_ref12_With := by kernel_rfl
/- touchstone/touchstoneref15.is: slots d, 0, x, 1, v, 2, d, 3, x, 4, v, 5 -/
def c_ref15_is : AFunc := ⟨23, [.tmp 6],
  .seq (.region (⟨some 6, .mov (.val (.bool false)), none⟩ :: [])) <|
  .seq (.region (⟨some 7, .mov (.tmp 0), none⟩ ::
    ⟨some 8, .mov (.tmp 1), none⟩ ::
    ⟨some 9, .iaddr 1 (.tmp 7) (.tmp 8), none⟩ ::
    ⟨some 10, .load false 1 (.tmp 9), none⟩ ::
    ⟨some 11, .call (.val (.fn (.func 32) [])) [(.tmp 10)], none⟩ ::
    ⟨some 12, .mov (.tmp 2), none⟩ ::
    ⟨some 13, .bin .eql (.tmp 11) (.tmp 12), none⟩ ::
    ⟨some 14, .mov (.tmp 13), none⟩ ::
    ⟨some 15, .mov (.tmp 0), some (14, true)⟩ ::
    ⟨some 16, .mov (.tmp 1), some (14, true)⟩ ::
    ⟨some 17, .iaddr 1 (.tmp 15) (.tmp 16), some (14, true)⟩ ::
    ⟨some 18, .load false 1 (.tmp 17), some (14, true)⟩ ::
    ⟨some 19, .call (.val (.fn (.func 86) [])) [(.tmp 18)], some (14, true)⟩ ::
    ⟨some 20, .mov (.tmp 2), some (14, true)⟩ ::
    ⟨some 21, .bin .eql (.tmp 19) (.tmp 20), some (14, true)⟩ ::
    ⟨some 22, .pick (.tmp 14) (.tmp 21) (.val (.bool false)), none⟩ ::
    ⟨some 6, .mov (.tmp 22), none⟩ :: [])) <|
  .ret⟩
theorem e_ref15_is : cFunc Try.prog kd_CRef15 Try.f71 = some c_ref15_is := by kernel_rfl
/- touchstone/touchstoneref15.set: slots d, 0, x, 1, v, 2, d, 3, x, 4, v, 5 -/
def c_ref15_set : AFunc := ⟨22, [.tmp 6, .tmp 7],
  .seq (.region (⟨some 6, .mov (.val .nils), none⟩ ::
    ⟨some 7, .mov (.val (.bool false)), none⟩ :: [])) <|
  .seq (.seq (.region (⟨some 8, .mov (.tmp 0), none⟩ ::
    ⟨some 9, .mov (.tmp 1), none⟩ ::
    ⟨some 10, .iaddr 1 (.tmp 8) (.tmp 9), none⟩ ::
    ⟨some 11, .load false 1 (.tmp 10), none⟩ ::
    ⟨some 12, .mov (.tmp 2), none⟩ ::
    ⟨some 13, .call (.val (.fn (.func 47) [])) [(.tmp 11), (.tmp 12)], none⟩ ::
    ⟨some 14, .un .not (.tmp 13), none⟩ :: [])) <|
  .cond (.tmp 14) (.seq (.region (⟨some 6, .mov (.val .nils), none⟩ ::
      ⟨some 7, .mov (.val (.bool false)), none⟩ :: [])) <|
    .ret) <|
  .skip) <|
  .seq (.region (⟨some 15, .mov (.tmp 0), none⟩ ::
    ⟨some 16, .mov (.tmp 1), none⟩ ::
    ⟨some 17, .mov (.tmp 2), none⟩ ::
    ⟨some 18, .mov (.tmp 2), none⟩ ::
    ⟨some 19, .build [(.int .i64 0), (.int .i64 0)] [(0, 1, (.tmp 17)), (1, 1, (.tmp 18))], none⟩ ::
    ⟨some 20, .bslice 2 [(.tmp 19)], none⟩ ::
    ⟨some 21, .call (.val (.fn (.func 85) [])) [(.tmp 15), (.tmp 16), (.tmp 20)], none⟩ ::
    ⟨some 6, .mov (.tmp 21), none⟩ ::
    ⟨some 7, .mov (.val (.bool true)), none⟩ :: [])) <|
  .ret⟩
theorem e_ref15_set : cFunc Try.prog kd_CRef15 Try.f72 = some c_ref15_set := by kernel_rfl
/- touchstone/touchstoneref15.clause: slots c, 0, d, 1, c, 2, d, 3, open, 6, at, 7, i, 8, yes, 9, no, 10, v, 11 -/
def c_ref15_clause : AFunc := ⟨67, [.tmp 4, .tmp 5],
  .seq (.region (⟨some 2, .box 4 (.tmp 0), none⟩ ::
    ⟨some 4, .mov (.val .nils), none⟩ ::
    ⟨some 5, .mov (.val (.bool false)), none⟩ :: [])) <|
  .seq (.region (⟨some 6, .mov (.val (.int .i64 0)), none⟩ ::
    ⟨some 7, .mov (.val (.int .i64 0)), none⟩ :: [])) <|
  .seq (.seq (.region (⟨some 8, .mov (.val (.int .i64 0)), none⟩ :: [])) <|
  .block 0 (.loop (.seq (.seq (.region (⟨some 12, .mov (.tmp 8), none⟩ ::
        ⟨some 13, .faddr 1 (.tmp 2), none⟩ ::
        ⟨some 14, .load false 1 (.tmp 13), none⟩ ::
        ⟨some 15, .len false (.tmp 14), none⟩ ::
        ⟨some 16, .bin .lss (.tmp 12) (.tmp 15), none⟩ :: [])) <|
      .cond (.tmp 16) (.skip) <|
      .exit 0) <|
      .seq (.block 1 (.seq (.region (⟨some 9, .mov (.val (.int .i64 1)), none⟩ ::
          ⟨some 10, .mov (.val (.int .i64 0)), none⟩ :: [])) <|
        .seq (.seq (.region (⟨some 19, .faddr 2 (.tmp 2), none⟩ ::
          ⟨some 20, .load false 1 (.tmp 19), none⟩ ::
          ⟨some 21, .mov (.tmp 8), none⟩ ::
          ⟨some 22, .iaddr 1 (.tmp 20) (.tmp 21), none⟩ ::
          ⟨some 23, .load false 1 (.tmp 22), none⟩ ::
          ⟨some 24, .bin .eql (.tmp 23) (.val (.int .i64 (-1))), none⟩ :: [])) <|
        .cond (.tmp 24) (.seq (.region (⟨some 9, .mov (.val (.int .i64 0)), none⟩ :: [])) <|
          .region (⟨some 10, .mov (.val (.int .i64 1)), none⟩ :: [])) <|
        .skip) <|
        .seq (.seq (.region (⟨some 25, .mov (.tmp 1), none⟩ ::
          ⟨some 26, .faddr 1 (.tmp 2), none⟩ ::
          ⟨some 27, .load false 1 (.tmp 26), none⟩ ::
          ⟨some 28, .mov (.tmp 8), none⟩ ::
          ⟨some 29, .iaddr 1 (.tmp 27) (.tmp 28), none⟩ ::
          ⟨some 30, .load false 1 (.tmp 29), none⟩ ::
          ⟨some 31, .mov (.tmp 9), none⟩ ::
          ⟨some 32, .call (.val (.fn (.func 71) [])) [(.tmp 25), (.tmp 30), (.tmp 31)], none⟩ :: [])) <|
        .cond (.tmp 32) (.seq (.region (⟨some 33, .mov (.tmp 1), none⟩ ::
            ⟨some 4, .mov (.tmp 33), none⟩ ::
            ⟨some 5, .mov (.val (.bool true)), none⟩ :: [])) <|
          .ret) <|
        .skip) <|
        .seq (.region (⟨some 34, .mov (.tmp 1), none⟩ ::
          ⟨some 35, .faddr 1 (.tmp 2), none⟩ ::
          ⟨some 36, .load false 1 (.tmp 35), none⟩ ::
          ⟨some 37, .mov (.tmp 8), none⟩ ::
          ⟨some 38, .iaddr 1 (.tmp 36) (.tmp 37), none⟩ ::
          ⟨some 39, .load false 1 (.tmp 38), none⟩ ::
          ⟨some 40, .mov (.tmp 10), none⟩ ::
          ⟨some 41, .call (.val (.fn (.func 71) [])) [(.tmp 34), (.tmp 39), (.tmp 40)], none⟩ ::
          ⟨some 42, .un .not (.tmp 41), none⟩ :: [])) <|
        .cond (.tmp 42) (.seq (.region (⟨some 43, .mov (.tmp 6), none⟩ ::
            ⟨some 44, .bin .add (.tmp 43) (.val (.int .i64 1)), none⟩ ::
            ⟨some 6, .mov (.tmp 44), none⟩ :: [])) <|
          .region (⟨some 45, .mov (.tmp 8), none⟩ ::
            ⟨some 7, .mov (.tmp 45), none⟩ :: [])) <|
        .skip)) <|
      .region (⟨some 17, .mov (.tmp 8), none⟩ ::
        ⟨some 18, .bin .add (.tmp 17) (.val (.int .i64 1)), none⟩ ::
        ⟨some 8, .mov (.tmp 18), none⟩ :: [])))) <|
  .seq (.seq (.region (⟨some 46, .mov (.tmp 6), none⟩ ::
    ⟨some 47, .bin .gtr (.tmp 46) (.val (.int .i64 1)), none⟩ :: [])) <|
  .cond (.tmp 47) (.seq (.region (⟨some 48, .mov (.tmp 1), none⟩ ::
      ⟨some 4, .mov (.tmp 48), none⟩ ::
      ⟨some 5, .mov (.val (.bool true)), none⟩ :: [])) <|
    .ret) <|
  .skip) <|
  .seq (.seq (.region (⟨some 49, .mov (.tmp 6), none⟩ ::
    ⟨some 50, .bin .eql (.tmp 49) (.val (.int .i64 0)), none⟩ :: [])) <|
  .cond (.tmp 50) (.seq (.region (⟨some 4, .mov (.val .nils), none⟩ ::
      ⟨some 5, .mov (.val (.bool false)), none⟩ :: [])) <|
    .ret) <|
  .skip) <|
  .seq (.region (⟨some 11, .mov (.val (.int .i64 1)), none⟩ :: [])) <|
  .seq (.seq (.region (⟨some 51, .faddr 2 (.tmp 2), none⟩ ::
    ⟨some 52, .load false 1 (.tmp 51), none⟩ ::
    ⟨some 53, .mov (.tmp 7), none⟩ ::
    ⟨some 54, .iaddr 1 (.tmp 52) (.tmp 53), none⟩ ::
    ⟨some 55, .load false 1 (.tmp 54), none⟩ ::
    ⟨some 56, .bin .eql (.tmp 55) (.val (.int .i64 (-1))), none⟩ :: [])) <|
  .cond (.tmp 56) (.region (⟨some 11, .mov (.val (.int .i64 0)), none⟩ :: [])) <|
  .skip) <|
  .seq (.region (⟨some 57, .mov (.tmp 1), none⟩ ::
    ⟨some 58, .faddr 1 (.tmp 2), none⟩ ::
    ⟨some 59, .load false 1 (.tmp 58), none⟩ ::
    ⟨some 60, .mov (.tmp 7), none⟩ ::
    ⟨some 61, .iaddr 1 (.tmp 59) (.tmp 60), none⟩ ::
    ⟨some 62, .load false 1 (.tmp 61), none⟩ ::
    ⟨some 63, .mov (.tmp 11), none⟩ ::
    ⟨some 64, .call (.val (.fn (.func 72) [])) [(.tmp 57), (.tmp 62), (.tmp 63)], none⟩ ::
    ⟨some 65, .ext (.tmp 64) 0, none⟩ ::
    ⟨some 66, .ext (.tmp 64) 1, none⟩ ::
    ⟨some 4, .mov (.tmp 65), none⟩ ::
    ⟨some 5, .mov (.tmp 66), none⟩ :: [])) <|
  .ret⟩
theorem e_ref15_clause : cFunc Try.prog kd_CRef15 Try.f40 = some c_ref15_clause := by kernel_rfl
/- touchstone/touchstoneref15.some: slots d, 0, x, 1, v, 2, d, 3, x, 4, v, 5, i, 7 -/
def c_ref15_some : AFunc := ⟨21, [.tmp 6],
  .seq (.region (⟨some 6, .mov (.val (.bool false)), none⟩ :: [])) <|
  .seq (.seq (.region (⟨some 7, .mov (.val (.int .i64 0)), none⟩ :: [])) <|
  .block 0 (.loop (.seq (.seq (.region (⟨some 8, .mov (.tmp 7), none⟩ ::
        ⟨some 9, .mov (.tmp 1), none⟩ ::
        ⟨some 10, .len false (.tmp 9), none⟩ ::
        ⟨some 11, .bin .lss (.tmp 8) (.tmp 10), none⟩ :: [])) <|
      .cond (.tmp 11) (.skip) <|
      .exit 0) <|
      .seq (.block 1 (.seq (.region (⟨some 14, .mov (.tmp 0), none⟩ ::
          ⟨some 15, .mov (.tmp 1), none⟩ ::
          ⟨some 16, .mov (.tmp 7), none⟩ ::
          ⟨some 17, .iaddr 1 (.tmp 15) (.tmp 16), none⟩ ::
          ⟨some 18, .load false 1 (.tmp 17), none⟩ ::
          ⟨some 19, .mov (.tmp 2), none⟩ ::
          ⟨some 20, .call (.val (.fn (.func 71) [])) [(.tmp 14), (.tmp 18), (.tmp 19)], none⟩ :: [])) <|
        .cond (.tmp 20) (.seq (.region (⟨some 6, .mov (.val (.bool true)), none⟩ :: [])) <|
          .ret) <|
        .skip)) <|
      .region (⟨some 12, .mov (.tmp 7), none⟩ ::
        ⟨some 13, .bin .add (.tmp 12) (.val (.int .i64 1)), none⟩ ::
        ⟨some 7, .mov (.tmp 13), none⟩ :: [])))) <|
  .seq (.region (⟨some 6, .mov (.val (.bool false)), none⟩ :: [])) <|
  .ret⟩
theorem e_ref15_some : cFunc Try.prog kd_CRef15 Try.f108 = some c_ref15_some := by kernel_rfl
/- touchstone/touchstoneref15.all: slots d, 0, x, 1, v, 2, d, 3, x, 4, v, 5, i, 7 -/
def c_ref15_all : AFunc := ⟨22, [.tmp 6],
  .seq (.region (⟨some 6, .mov (.val (.bool false)), none⟩ :: [])) <|
  .seq (.seq (.region (⟨some 7, .mov (.val (.int .i64 0)), none⟩ :: [])) <|
  .block 0 (.loop (.seq (.seq (.region (⟨some 8, .mov (.tmp 7), none⟩ ::
        ⟨some 9, .mov (.tmp 1), none⟩ ::
        ⟨some 10, .len false (.tmp 9), none⟩ ::
        ⟨some 11, .bin .lss (.tmp 8) (.tmp 10), none⟩ :: [])) <|
      .cond (.tmp 11) (.skip) <|
      .exit 0) <|
      .seq (.block 1 (.seq (.region (⟨some 14, .mov (.tmp 0), none⟩ ::
          ⟨some 15, .mov (.tmp 1), none⟩ ::
          ⟨some 16, .mov (.tmp 7), none⟩ ::
          ⟨some 17, .iaddr 1 (.tmp 15) (.tmp 16), none⟩ ::
          ⟨some 18, .load false 1 (.tmp 17), none⟩ ::
          ⟨some 19, .mov (.tmp 2), none⟩ ::
          ⟨some 20, .call (.val (.fn (.func 71) [])) [(.tmp 14), (.tmp 18), (.tmp 19)], none⟩ ::
          ⟨some 21, .un .not (.tmp 20), none⟩ :: [])) <|
        .cond (.tmp 21) (.seq (.region (⟨some 6, .mov (.val (.bool false)), none⟩ :: [])) <|
          .ret) <|
        .skip)) <|
      .region (⟨some 12, .mov (.tmp 7), none⟩ ::
        ⟨some 13, .bin .add (.tmp 12) (.val (.int .i64 1)), none⟩ ::
        ⟨some 7, .mov (.tmp 13), none⟩ :: [])))) <|
  .seq (.region (⟨some 6, .mov (.val (.bool true)), none⟩ :: [])) <|
  .ret⟩
theorem e_ref15_all : cFunc Try.prog kd_CRef15 Try.f109 = some c_ref15_all := by kernel_rfl
/- touchstone/touchstoneref15.first: slots c, 0, d, 1, yes, 2, c, 3, d, 4, yes, 5, k, 8, rest, 9, flag, 10 -/
def c_ref15_first : AFunc := ⟨49, [.tmp 6, .tmp 7],
  .seq (.region (⟨some 3, .box 4 (.tmp 0), none⟩ ::
    ⟨some 6, .mov (.val .nils), none⟩ ::
    ⟨some 7, .mov (.val (.bool false)), none⟩ :: [])) <|
  .seq (.region (⟨some 11, .faddr 1 (.tmp 3), none⟩ ::
    ⟨some 12, .load false 1 (.tmp 11), none⟩ ::
    ⟨some 13, .len false (.tmp 12), none⟩ ::
    ⟨some 14, .bin .sub (.tmp 13) (.val (.int .i64 1)), none⟩ ::
    ⟨some 8, .mov (.tmp 14), none⟩ :: [])) <|
  .seq (.region (⟨some 15, .faddr 1 (.tmp 3), none⟩ ::
    ⟨some 16, .load false 1 (.tmp 15), none⟩ ::
    ⟨some 17, .mov (.tmp 8), none⟩ ::
    ⟨some 18, .slc 1 (.tmp 16) none (some (.tmp 17)), none⟩ ::
    ⟨some 19, .faddr 1 (.tmp 3), none⟩ ::
    ⟨some 20, .load false 1 (.tmp 19), none⟩ ::
    ⟨some 21, .mov (.tmp 8), none⟩ ::
    ⟨some 22, .iaddr 1 (.tmp 20) (.tmp 21), none⟩ ::
    ⟨some 23, .load false 1 (.tmp 22), none⟩ ::
    ⟨some 9, .mov (.tmp 18), none⟩ ::
    ⟨some 10, .mov (.tmp 23), none⟩ :: [])) <|
  .seq (.block 0 (.seq (.region (⟨some 25, .mov (.tmp 1), none⟩ ::
      ⟨some 26, .mov (.tmp 9), none⟩ ::
      ⟨some 27, .mov (.tmp 2), none⟩ ::
      ⟨some 28, .bin .sub (.val (.int .i64 1)) (.tmp 27), none⟩ ::
      ⟨some 29, .call (.val (.fn (.func 108) [])) [(.tmp 25), (.tmp 26), (.tmp 28)], none⟩ ::
      ⟨some 24, .mov (.tmp 29), none⟩ :: [])) <|
    .cond (.tmp 24) (.seq (.region (⟨some 30, .mov (.tmp 1), none⟩ ::
        ⟨some 31, .mov (.tmp 10), none⟩ ::
        ⟨some 32, .mov (.tmp 2), none⟩ ::
        ⟨some 33, .bin .sub (.val (.int .i64 1)) (.tmp 32), none⟩ ::
        ⟨some 34, .call (.val (.fn (.func 72) [])) [(.tmp 30), (.tmp 31), (.tmp 33)], none⟩ ::
        ⟨some 35, .ext (.tmp 34) 0, none⟩ ::
        ⟨some 36, .ext (.tmp 34) 1, none⟩ ::
        ⟨some 6, .mov (.tmp 35), none⟩ ::
        ⟨some 7, .mov (.tmp 36), none⟩ :: [])) <|
      .ret) <|
    .seq (.region (⟨some 38, .mov (.tmp 1), none⟩ ::
      ⟨some 39, .mov (.tmp 9), none⟩ ::
      ⟨some 40, .mov (.tmp 2), none⟩ ::
      ⟨some 41, .call (.val (.fn (.func 109) [])) [(.tmp 38), (.tmp 39), (.tmp 40)], none⟩ ::
      ⟨some 37, .mov (.tmp 41), none⟩ :: [])) <|
    .cond (.tmp 37) (.seq (.region (⟨some 42, .mov (.tmp 1), none⟩ ::
        ⟨some 43, .mov (.tmp 10), none⟩ ::
        ⟨some 44, .mov (.tmp 2), none⟩ ::
        ⟨some 45, .call (.val (.fn (.func 72) [])) [(.tmp 42), (.tmp 43), (.tmp 44)], none⟩ ::
        ⟨some 46, .ext (.tmp 45) 0, none⟩ ::
        ⟨some 47, .ext (.tmp 45) 1, none⟩ ::
        ⟨some 6, .mov (.tmp 46), none⟩ ::
        ⟨some 7, .mov (.tmp 47), none⟩ :: [])) <|
      .ret) <|
    .skip)) <|
  .seq (.region (⟨some 48, .mov (.tmp 1), none⟩ ::
    ⟨some 6, .mov (.tmp 48), none⟩ ::
    ⟨some 7, .mov (.val (.bool true)), none⟩ :: [])) <|
  .ret⟩
theorem e_ref15_first : cFunc Try.prog kd_CRef15 Try.f73 = some c_ref15_first := by kernel_rfl
/- touchstone/touchstoneref15.every: slots d, 0, x, 1, v, 2, d, 3, x, 4, v, 5, i, 8, e, 9, ok, 10 -/
def c_ref15_every : AFunc := ⟨31, [.tmp 6, .tmp 7],
  .seq (.region (⟨some 6, .mov (.val .nils), none⟩ ::
    ⟨some 7, .mov (.val (.bool false)), none⟩ :: [])) <|
  .seq (.seq (.region (⟨some 8, .mov (.val (.int .i64 0)), none⟩ :: [])) <|
  .block 0 (.loop (.seq (.seq (.region (⟨some 11, .mov (.tmp 8), none⟩ ::
        ⟨some 12, .mov (.tmp 1), none⟩ ::
        ⟨some 13, .len false (.tmp 12), none⟩ ::
        ⟨some 14, .bin .lss (.tmp 11) (.tmp 13), none⟩ :: [])) <|
      .cond (.tmp 14) (.skip) <|
      .exit 0) <|
      .seq (.block 1 (.seq (.region (⟨some 18, .mov (.tmp 0), none⟩ ::
          ⟨some 19, .mov (.tmp 1), none⟩ ::
          ⟨some 20, .mov (.tmp 8), none⟩ ::
          ⟨some 21, .iaddr 1 (.tmp 19) (.tmp 20), none⟩ ::
          ⟨some 22, .load false 1 (.tmp 21), none⟩ ::
          ⟨some 23, .mov (.tmp 2), none⟩ ::
          ⟨some 24, .call (.val (.fn (.func 72) [])) [(.tmp 18), (.tmp 22), (.tmp 23)], none⟩ ::
          ⟨some 17, .mov (.tmp 24), none⟩ ::
          ⟨some 25, .ext (.tmp 17) 0, none⟩ ::
          ⟨some 26, .ext (.tmp 17) 1, none⟩ ::
          ⟨some 9, .mov (.tmp 25), none⟩ ::
          ⟨some 10, .mov (.tmp 26), none⟩ :: [])) <|
        .seq (.seq (.region (⟨some 27, .mov (.tmp 10), none⟩ ::
          ⟨some 28, .un .not (.tmp 27), none⟩ :: [])) <|
        .cond (.tmp 28) (.seq (.region (⟨some 6, .mov (.val .nils), none⟩ ::
            ⟨some 7, .mov (.val (.bool false)), none⟩ :: [])) <|
          .ret) <|
        .skip) <|
        .region (⟨some 29, .mov (.tmp 9), none⟩ ::
          ⟨some 0, .mov (.tmp 29), none⟩ :: []))) <|
      .region (⟨some 15, .mov (.tmp 8), none⟩ ::
        ⟨some 16, .bin .add (.tmp 15) (.val (.int .i64 1)), none⟩ ::
        ⟨some 8, .mov (.tmp 16), none⟩ :: [])))) <|
  .seq (.region (⟨some 30, .mov (.tmp 0), none⟩ ::
    ⟨some 6, .mov (.tmp 30), none⟩ ::
    ⟨some 7, .mov (.val (.bool true)), none⟩ :: [])) <|
  .ret⟩
theorem e_ref15_every : cFunc Try.prog kd_CRef15 Try.f74 = some c_ref15_every := by kernel_rfl
/- touchstone/touchstoneref15.both: slots c, 0, d, 1, yes, 2, c, 3, d, 4, yes, 5, e, 8, ok, 9, k, 10, rest, 11, flag, 12, open, 13, at, 14, i, 15 -/
def c_ref15_both : AFunc := ⟨99, [.tmp 6, .tmp 7],
  .seq (.region (⟨some 3, .box 4 (.tmp 0), none⟩ ::
    ⟨some 6, .mov (.val .nils), none⟩ ::
    ⟨some 7, .mov (.val (.bool false)), none⟩ :: [])) <|
  .seq (.region (⟨some 17, .load true 4 (.tmp 3), none⟩ ::
    ⟨some 18, .mov (.tmp 1), none⟩ ::
    ⟨some 19, .mov (.tmp 2), none⟩ ::
    ⟨some 20, .call (.val (.fn (.func 73) [])) [(.tmp 17), (.tmp 18), (.tmp 19)], none⟩ ::
    ⟨some 16, .mov (.tmp 20), none⟩ ::
    ⟨some 21, .ext (.tmp 16) 0, none⟩ ::
    ⟨some 22, .ext (.tmp 16) 1, none⟩ ::
    ⟨some 8, .mov (.tmp 21), none⟩ ::
    ⟨some 9, .mov (.tmp 22), none⟩ :: [])) <|
  .seq (.seq (.region (⟨some 23, .mov (.tmp 9), none⟩ ::
    ⟨some 24, .un .not (.tmp 23), none⟩ :: [])) <|
  .cond (.tmp 24) (.seq (.region (⟨some 6, .mov (.val .nils), none⟩ ::
      ⟨some 7, .mov (.val (.bool false)), none⟩ :: [])) <|
    .ret) <|
  .skip) <|
  .seq (.region (⟨some 25, .faddr 1 (.tmp 3), none⟩ ::
    ⟨some 26, .load false 1 (.tmp 25), none⟩ ::
    ⟨some 27, .len false (.tmp 26), none⟩ ::
    ⟨some 28, .bin .sub (.tmp 27) (.val (.int .i64 1)), none⟩ ::
    ⟨some 10, .mov (.tmp 28), none⟩ :: [])) <|
  .seq (.region (⟨some 29, .faddr 1 (.tmp 3), none⟩ ::
    ⟨some 30, .load false 1 (.tmp 29), none⟩ ::
    ⟨some 31, .mov (.tmp 10), none⟩ ::
    ⟨some 32, .slc 1 (.tmp 30) none (some (.tmp 31)), none⟩ ::
    ⟨some 33, .faddr 1 (.tmp 3), none⟩ ::
    ⟨some 34, .load false 1 (.tmp 33), none⟩ ::
    ⟨some 35, .mov (.tmp 10), none⟩ ::
    ⟨some 36, .iaddr 1 (.tmp 34) (.tmp 35), none⟩ ::
    ⟨some 37, .load false 1 (.tmp 36), none⟩ ::
    ⟨some 11, .mov (.tmp 32), none⟩ ::
    ⟨some 12, .mov (.tmp 37), none⟩ :: [])) <|
  .seq (.seq (.region (⟨some 38, .mov (.tmp 8), none⟩ ::
    ⟨some 39, .mov (.tmp 12), none⟩ ::
    ⟨some 40, .mov (.tmp 2), none⟩ ::
    ⟨some 41, .call (.val (.fn (.func 71) [])) [(.tmp 38), (.tmp 39), (.tmp 40)], none⟩ :: [])) <|
  .cond (.tmp 41) (.seq (.region (⟨some 42, .mov (.tmp 8), none⟩ ::
      ⟨some 43, .mov (.tmp 11), none⟩ ::
      ⟨some 44, .mov (.tmp 2), none⟩ ::
      ⟨some 45, .call (.val (.fn (.func 74) [])) [(.tmp 42), (.tmp 43), (.tmp 44)], none⟩ ::
      ⟨some 46, .ext (.tmp 45) 0, none⟩ ::
      ⟨some 47, .ext (.tmp 45) 1, none⟩ ::
      ⟨some 6, .mov (.tmp 46), none⟩ ::
      ⟨some 7, .mov (.tmp 47), none⟩ :: [])) <|
    .ret) <|
  .skip) <|
  .seq (.seq (.region (⟨some 48, .mov (.tmp 8), none⟩ ::
    ⟨some 49, .mov (.tmp 12), none⟩ ::
    ⟨some 50, .mov (.tmp 2), none⟩ ::
    ⟨some 51, .bin .sub (.val (.int .i64 1)) (.tmp 50), none⟩ ::
    ⟨some 52, .call (.val (.fn (.func 71) [])) [(.tmp 48), (.tmp 49), (.tmp 51)], none⟩ ::
    ⟨some 53, .un .not (.tmp 52), none⟩ :: [])) <|
  .cond (.tmp 53) (.seq (.region (⟨some 54, .mov (.tmp 8), none⟩ ::
      ⟨some 6, .mov (.tmp 54), none⟩ ::
      ⟨some 7, .mov (.val (.bool true)), none⟩ :: [])) <|
    .ret) <|
  .skip) <|
  .seq (.region (⟨some 13, .mov (.val (.int .i64 0)), none⟩ ::
    ⟨some 14, .mov (.val (.int .i64 0)), none⟩ :: [])) <|
  .seq (.seq (.region (⟨some 15, .mov (.val (.int .i64 0)), none⟩ :: [])) <|
  .block 0 (.loop (.seq (.seq (.region (⟨some 55, .mov (.tmp 15), none⟩ ::
        ⟨some 56, .mov (.tmp 10), none⟩ ::
        ⟨some 57, .bin .lss (.tmp 55) (.tmp 56), none⟩ :: [])) <|
      .cond (.tmp 57) (.skip) <|
      .exit 0) <|
      .seq (.block 1 (.seq (.region (⟨some 60, .mov (.tmp 8), none⟩ ::
          ⟨some 61, .mov (.tmp 11), none⟩ ::
          ⟨some 62, .mov (.tmp 15), none⟩ ::
          ⟨some 63, .iaddr 1 (.tmp 61) (.tmp 62), none⟩ ::
          ⟨some 64, .load false 1 (.tmp 63), none⟩ ::
          ⟨some 65, .mov (.tmp 2), none⟩ ::
          ⟨some 66, .call (.val (.fn (.func 71) [])) [(.tmp 60), (.tmp 64), (.tmp 65)], none⟩ ::
          ⟨some 67, .un .not (.tmp 66), none⟩ :: [])) <|
        .cond (.tmp 67) (.seq (.region (⟨some 68, .mov (.tmp 13), none⟩ ::
            ⟨some 69, .bin .add (.tmp 68) (.val (.int .i64 1)), none⟩ ::
            ⟨some 13, .mov (.tmp 69), none⟩ :: [])) <|
          .region (⟨some 70, .mov (.tmp 15), none⟩ ::
            ⟨some 14, .mov (.tmp 70), none⟩ :: [])) <|
        .skip)) <|
      .region (⟨some 58, .mov (.tmp 15), none⟩ ::
        ⟨some 59, .bin .add (.tmp 58) (.val (.int .i64 1)), none⟩ ::
        ⟨some 15, .mov (.tmp 59), none⟩ :: [])))) <|
  .seq (.block 2 (.seq (.region (⟨some 72, .mov (.tmp 13), none⟩ ::
      ⟨some 73, .bin .eql (.tmp 72) (.val (.int .i64 0)), none⟩ ::
      ⟨some 71, .mov (.tmp 73), none⟩ :: [])) <|
    .cond (.tmp 71) (.seq (.region (⟨some 6, .mov (.val .nils), none⟩ ::
        ⟨some 7, .mov (.val (.bool false)), none⟩ :: [])) <|
      .ret) <|
    .seq (.region (⟨some 75, .mov (.tmp 13), none⟩ ::
      ⟨some 76, .bin .eql (.tmp 75) (.val (.int .i64 1)), none⟩ ::
      ⟨some 77, .mov (.tmp 76), none⟩ ::
      ⟨some 78, .mov (.tmp 8), some (77, true)⟩ ::
      ⟨some 79, .mov (.tmp 11), some (77, true)⟩ ::
      ⟨some 80, .mov (.tmp 14), some (77, true)⟩ ::
      ⟨some 81, .iaddr 1 (.tmp 79) (.tmp 80), some (77, true)⟩ ::
      ⟨some 82, .load false 1 (.tmp 81), some (77, true)⟩ ::
      ⟨some 83, .mov (.tmp 2), some (77, true)⟩ ::
      ⟨some 84, .bin .sub (.val (.int .i64 1)) (.tmp 83), some (77, true)⟩ ::
      ⟨some 85, .call (.val (.fn (.func 71) [])) [(.tmp 78), (.tmp 82), (.tmp 84)], some (77, true)⟩ ::
      ⟨some 86, .un .not (.tmp 85), some (77, true)⟩ ::
      ⟨some 87, .pick (.tmp 77) (.tmp 86) (.val (.bool false)), none⟩ ::
      ⟨some 74, .mov (.tmp 87), none⟩ :: [])) <|
    .cond (.tmp 74) (.seq (.region (⟨some 88, .mov (.tmp 8), none⟩ ::
        ⟨some 89, .mov (.tmp 11), none⟩ ::
        ⟨some 90, .mov (.tmp 14), none⟩ ::
        ⟨some 91, .iaddr 1 (.tmp 89) (.tmp 90), none⟩ ::
        ⟨some 92, .load false 1 (.tmp 91), none⟩ ::
        ⟨some 93, .mov (.tmp 2), none⟩ ::
        ⟨some 94, .bin .sub (.val (.int .i64 1)) (.tmp 93), none⟩ ::
        ⟨some 95, .call (.val (.fn (.func 72) [])) [(.tmp 88), (.tmp 92), (.tmp 94)], none⟩ ::
        ⟨some 96, .ext (.tmp 95) 0, none⟩ ::
        ⟨some 97, .ext (.tmp 95) 1, none⟩ ::
        ⟨some 6, .mov (.tmp 96), none⟩ ::
        ⟨some 7, .mov (.tmp 97), none⟩ :: [])) <|
      .ret) <|
    .skip)) <|
  .seq (.region (⟨some 98, .mov (.tmp 8), none⟩ ::
    ⟨some 6, .mov (.tmp 98), none⟩ ::
    ⟨some 7, .mov (.val (.bool true)), none⟩ :: [])) <|
  .ret⟩
theorem e_ref15_both : cFunc Try.prog kd_CRef15 Try.f41 = some c_ref15_both := by kernel_rfl
/- touchstone/touchstoneref15.other: slots c, 0, d, 1, c, 2, d, 3, open, 5, at, 6, i, 7 -/
def c_ref15_other : AFunc := ⟨28, [.tmp 4],
  .seq (.region (⟨some 2, .box 4 (.tmp 0), none⟩ ::
    ⟨some 4, .mov (.val (.int .i64 0)), none⟩ :: [])) <|
  .seq (.region (⟨some 5, .mov (.val (.int .i64 0)), none⟩ ::
    ⟨some 6, .mov (.val (.int .i64 3)), none⟩ :: [])) <|
  .seq (.seq (.region (⟨some 7, .mov (.val (.int .i64 0)), none⟩ :: [])) <|
  .block 0 (.loop (.seq (.seq (.region (⟨some 8, .mov (.tmp 7), none⟩ ::
        ⟨some 9, .bin .lss (.tmp 8) (.val (.int .i64 3)), none⟩ :: [])) <|
      .cond (.tmp 9) (.skip) <|
      .exit 0) <|
      .seq (.block 1 (.seq (.region (⟨some 12, .mov (.tmp 1), none⟩ ::
          ⟨some 13, .faddr 1 (.tmp 2), none⟩ ::
          ⟨some 14, .load false 1 (.tmp 13), none⟩ ::
          ⟨some 15, .mov (.tmp 7), none⟩ ::
          ⟨some 16, .iaddr 1 (.tmp 14) (.tmp 15), none⟩ ::
          ⟨some 17, .load false 1 (.tmp 16), none⟩ ::
          ⟨some 18, .iaddr 1 (.tmp 12) (.tmp 17), none⟩ ::
          ⟨some 19, .load false 1 (.tmp 18), none⟩ ::
          ⟨some 20, .call (.val (.fn (.func 88) [])) [(.tmp 19)], none⟩ ::
          ⟨some 21, .un .not (.tmp 20), none⟩ :: [])) <|
        .cond (.tmp 21) (.seq (.region (⟨some 22, .mov (.tmp 5), none⟩ ::
            ⟨some 23, .bin .add (.tmp 22) (.val (.int .i64 1)), none⟩ ::
            ⟨some 5, .mov (.tmp 23), none⟩ :: [])) <|
          .region (⟨some 24, .mov (.tmp 7), none⟩ ::
            ⟨some 6, .mov (.tmp 24), none⟩ :: [])) <|
        .skip)) <|
      .region (⟨some 10, .mov (.tmp 7), none⟩ ::
        ⟨some 11, .bin .add (.tmp 10) (.val (.int .i64 1)), none⟩ ::
        ⟨some 7, .mov (.tmp 11), none⟩ :: [])))) <|
  .seq (.seq (.region (⟨some 25, .mov (.tmp 5), none⟩ ::
    ⟨some 26, .bin .gtr (.tmp 25) (.val (.int .i64 1)), none⟩ :: [])) <|
  .cond (.tmp 26) (.seq (.region (⟨some 4, .mov (.val (.int .i64 (-1))), none⟩ :: [])) <|
    .ret) <|
  .skip) <|
  .seq (.region (⟨some 27, .mov (.tmp 6), none⟩ ::
    ⟨some 4, .mov (.tmp 27), none⟩ :: [])) <|
  .ret⟩
theorem e_ref15_other : cFunc Try.prog kd_CRef15 Try.f75 = some c_ref15_other := by kernel_rfl
/- touchstone/touchstoneref15.xor: slots c, 0, d, 1, c, 2, d, 3, at, 6, n, 7, i, 8 -/
def c_ref15_xor : AFunc := ⟨50, [.tmp 4, .tmp 5],
  .seq (.region (⟨some 2, .box 4 (.tmp 0), none⟩ ::
    ⟨some 4, .mov (.val .nils), none⟩ ::
    ⟨some 5, .mov (.val (.bool false)), none⟩ :: [])) <|
  .seq (.region (⟨some 9, .load true 4 (.tmp 2), none⟩ ::
    ⟨some 10, .mov (.tmp 1), none⟩ ::
    ⟨some 11, .call (.val (.fn (.func 75) [])) [(.tmp 9), (.tmp 10)], none⟩ ::
    ⟨some 6, .mov (.tmp 11), none⟩ :: [])) <|
  .seq (.seq (.region (⟨some 12, .mov (.tmp 6), none⟩ ::
    ⟨some 13, .bin .lss (.tmp 12) (.val (.int .i64 0)), none⟩ :: [])) <|
  .cond (.tmp 13) (.seq (.region (⟨some 14, .mov (.tmp 1), none⟩ ::
      ⟨some 4, .mov (.tmp 14), none⟩ ::
      ⟨some 5, .mov (.val (.bool true)), none⟩ :: [])) <|
    .ret) <|
  .skip) <|
  .seq (.region (⟨some 7, .mov (.val (.int .i64 0)), none⟩ :: [])) <|
  .seq (.seq (.region (⟨some 8, .mov (.val (.int .i64 0)), none⟩ :: [])) <|
  .block 0 (.loop (.seq (.seq (.region (⟨some 15, .mov (.tmp 8), none⟩ ::
        ⟨some 16, .bin .lss (.tmp 15) (.val (.int .i64 3)), none⟩ :: [])) <|
      .cond (.tmp 16) (.skip) <|
      .exit 0) <|
      .seq (.block 1 (.seq (.region (⟨some 19, .mov (.tmp 8), none⟩ ::
          ⟨some 20, .mov (.tmp 6), none⟩ ::
          ⟨some 21, .bin .neq (.tmp 19) (.tmp 20), none⟩ :: [])) <|
        .cond (.tmp 21) (.region (⟨some 22, .mov (.tmp 7), none⟩ ::
            ⟨some 23, .mov (.tmp 1), none⟩ ::
            ⟨some 24, .faddr 1 (.tmp 2), none⟩ ::
            ⟨some 25, .load false 1 (.tmp 24), none⟩ ::
            ⟨some 26, .mov (.tmp 8), none⟩ ::
            ⟨some 27, .iaddr 1 (.tmp 25) (.tmp 26), none⟩ ::
            ⟨some 28, .load false 1 (.tmp 27), none⟩ ::
            ⟨some 29, .iaddr 1 (.tmp 23) (.tmp 28), none⟩ ::
            ⟨some 30, .load false 1 (.tmp 29), none⟩ ::
            ⟨some 31, .call (.val (.fn (.func 32) [])) [(.tmp 30)], none⟩ ::
            ⟨some 32, .bin .add (.tmp 22) (.tmp 31), none⟩ ::
            ⟨some 7, .mov (.tmp 32), none⟩ :: [])) <|
        .skip)) <|
      .region (⟨some 17, .mov (.tmp 8), none⟩ ::
        ⟨some 18, .bin .add (.tmp 17) (.val (.int .i64 1)), none⟩ ::
        ⟨some 8, .mov (.tmp 18), none⟩ :: [])))) <|
  .seq (.seq (.region (⟨some 33, .mov (.tmp 6), none⟩ ::
    ⟨some 34, .bin .eql (.tmp 33) (.val (.int .i64 3)), none⟩ :: [])) <|
  .cond (.tmp 34) (.seq (.region (⟨some 35, .mov (.tmp 1), none⟩ ::
      ⟨some 36, .mov (.tmp 7), none⟩ ::
      ⟨some 37, .bin .rem (.tmp 36) (.val (.int .i64 2)), none⟩ ::
      ⟨some 38, .bin .eql (.tmp 37) (.val (.int .i64 0)), none⟩ ::
      ⟨some 4, .mov (.tmp 35), none⟩ ::
      ⟨some 5, .mov (.tmp 38), none⟩ :: [])) <|
    .ret) <|
  .skip) <|
  .seq (.region (⟨some 39, .mov (.tmp 1), none⟩ ::
    ⟨some 40, .faddr 1 (.tmp 2), none⟩ ::
    ⟨some 41, .load false 1 (.tmp 40), none⟩ ::
    ⟨some 42, .mov (.tmp 6), none⟩ ::
    ⟨some 43, .iaddr 1 (.tmp 41) (.tmp 42), none⟩ ::
    ⟨some 44, .load false 1 (.tmp 43), none⟩ ::
    ⟨some 45, .mov (.tmp 7), none⟩ ::
    ⟨some 46, .bin .rem (.tmp 45) (.val (.int .i64 2)), none⟩ ::
    ⟨some 47, .call (.val (.fn (.func 72) [])) [(.tmp 39), (.tmp 44), (.tmp 46)], none⟩ ::
    ⟨some 48, .ext (.tmp 47) 0, none⟩ ::
    ⟨some 49, .ext (.tmp 47) 1, none⟩ ::
    ⟨some 4, .mov (.tmp 48), none⟩ ::
    ⟨some 5, .mov (.tmp 49), none⟩ :: [])) <|
  .ret⟩
theorem e_ref15_xor : cFunc Try.prog kd_CRef15 Try.f42 = some c_ref15_xor := by kernel_rfl
/- touchstone/touchstoneref15.Narrow: slots c, 0, d, 1, c, 2, d, 3, out, 6, ok, 7 -/
def c_ref15_Narrow : AFunc := ⟨50, [.tmp 4, .tmp 5],
  .seq (.region (⟨some 2, .box 4 (.tmp 0), none⟩ ::
    ⟨some 4, .mov (.val .nils), none⟩ ::
    ⟨some 5, .mov (.val (.int .i64 0)), none⟩ :: [])) <|
  .seq (.seq (.region (⟨some 8, .load true 4 (.tmp 2), none⟩ ::
    ⟨some 9, .mov (.tmp 1), none⟩ ::
    ⟨some 10, .call (.val (.fn (.func 30) [])) [(.tmp 8), (.tmp 9)], none⟩ ::
    ⟨some 11, .un .not (.tmp 10), none⟩ :: [])) <|
  .cond (.tmp 11) (.seq (.region (⟨some 4, .mov (.val .nils), none⟩ ::
      ⟨some 5, .mov (.val (.int .i64 2)), none⟩ :: [])) <|
    .ret) <|
  .skip) <|
  .seq (.region (⟨some 12, .mov (.tmp 1), none⟩ ::
    ⟨some 6, .mov (.tmp 12), none⟩ ::
    ⟨some 7, .mov (.val (.bool true)), none⟩ :: [])) <|
  .seq (.seq (.region (⟨some 13, .faddr 0 (.tmp 2), none⟩ ::
    ⟨some 14, .load false 1 (.tmp 13), none⟩ :: [])) <|
  .block 0 (.seq (.region (⟨some 16, .bin .eql (.tmp 14) (.val (.int .i64 11)), none⟩ ::
      ⟨some 15, .mov (.tmp 16), none⟩ :: [])) <|
    .cond (.tmp 15) (.region (⟨some 18, .load true 4 (.tmp 2), none⟩ ::
        ⟨some 19, .mov (.tmp 1), none⟩ ::
        ⟨some 20, .call (.val (.fn (.func 40) [])) [(.tmp 18), (.tmp 19)], none⟩ ::
        ⟨some 17, .mov (.tmp 20), none⟩ ::
        ⟨some 21, .ext (.tmp 17) 0, none⟩ ::
        ⟨some 22, .ext (.tmp 17) 1, none⟩ ::
        ⟨some 6, .mov (.tmp 21), none⟩ ::
        ⟨some 7, .mov (.tmp 22), none⟩ :: [])) <|
    .seq (.region (⟨some 24, .bin .eql (.tmp 14) (.val (.int .i64 12)), none⟩ ::
      ⟨some 23, .mov (.tmp 24), none⟩ :: [])) <|
    .cond (.tmp 23) (.region (⟨some 26, .load true 4 (.tmp 2), none⟩ ::
        ⟨some 27, .mov (.tmp 1), none⟩ ::
        ⟨some 28, .call (.val (.fn (.func 41) [])) [(.tmp 26), (.tmp 27), (.val (.int .i64 1))], none⟩ ::
        ⟨some 25, .mov (.tmp 28), none⟩ ::
        ⟨some 29, .ext (.tmp 25) 0, none⟩ ::
        ⟨some 30, .ext (.tmp 25) 1, none⟩ ::
        ⟨some 6, .mov (.tmp 29), none⟩ ::
        ⟨some 7, .mov (.tmp 30), none⟩ :: [])) <|
    .seq (.region (⟨some 32, .bin .eql (.tmp 14) (.val (.int .i64 13)), none⟩ ::
      ⟨some 31, .mov (.tmp 32), none⟩ :: [])) <|
    .cond (.tmp 31) (.region (⟨some 34, .load true 4 (.tmp 2), none⟩ ::
        ⟨some 35, .mov (.tmp 1), none⟩ ::
        ⟨some 36, .call (.val (.fn (.func 41) [])) [(.tmp 34), (.tmp 35), (.val (.int .i64 0))], none⟩ ::
        ⟨some 33, .mov (.tmp 36), none⟩ ::
        ⟨some 37, .ext (.tmp 33) 0, none⟩ ::
        ⟨some 38, .ext (.tmp 33) 1, none⟩ ::
        ⟨some 6, .mov (.tmp 37), none⟩ ::
        ⟨some 7, .mov (.tmp 38), none⟩ :: [])) <|
    .seq (.region (⟨some 40, .bin .eql (.tmp 14) (.val (.int .i64 14)), none⟩ ::
      ⟨some 39, .mov (.tmp 40), none⟩ :: [])) <|
    .cond (.tmp 39) (.region (⟨some 42, .load true 4 (.tmp 2), none⟩ ::
        ⟨some 43, .mov (.tmp 1), none⟩ ::
        ⟨some 44, .call (.val (.fn (.func 42) [])) [(.tmp 42), (.tmp 43)], none⟩ ::
        ⟨some 41, .mov (.tmp 44), none⟩ ::
        ⟨some 45, .ext (.tmp 41) 0, none⟩ ::
        ⟨some 46, .ext (.tmp 41) 1, none⟩ ::
        ⟨some 6, .mov (.tmp 45), none⟩ ::
        ⟨some 7, .mov (.tmp 46), none⟩ :: [])) <|
    .seq (.region (⟨some 4, .mov (.val .nils), none⟩ ::
      ⟨some 5, .mov (.val (.int .i64 10)), none⟩ :: [])) <|
    .ret)) <|
  .seq (.seq (.region (⟨some 47, .mov (.tmp 7), none⟩ ::
    ⟨some 48, .un .not (.tmp 47), none⟩ :: [])) <|
  .cond (.tmp 48) (.seq (.region (⟨some 4, .mov (.val .nils), none⟩ ::
      ⟨some 5, .mov (.val (.int .i64 12)), none⟩ :: [])) <|
    .ret) <|
  .skip) <|
  .seq (.region (⟨some 49, .mov (.tmp 6), none⟩ ::
    ⟨some 4, .mov (.tmp 49), none⟩ ::
    ⟨some 5, .mov (.val (.int .i64 0)), none⟩ :: [])) <|
  .ret⟩
theorem e_ref15_Narrow : cFunc Try.prog kd_CRef15 Try.f17 = some c_ref15_Narrow := by kernel_rfl
end Go.Proofs.Ytclpkkbamgmooaa
