/- The code of functions, as abstract code. Printed by program. -/
import Derived.Test.YtjdlfmcnjpiaoaaAv2
import Derived.Test.YtjdlfmcnjpiaoaaProg
namespace Go.Proofs.Ytjdlfmcnjpiaoaa
open Av
set_option linter.unusedVariables false
set_option maxRecDepth 100000
def kd_CSet2 (f : Nat) : Nat := 0
/- touchstone/set.Meet: slots a, 0, b, 1, a, 2, b, 3, out, 5, r, 6 -/
def c_set_Meet : AFunc := ⟨65, [.tmp 4],
  .seq (.region (⟨some 4, .mov (.val .nils), none⟩ :: [])) <|
  .seq (.seq (.region (⟨some 7, .mov (.tmp 0), none⟩ ::
    ⟨some 8, .call (.val (.fn (.func 18) [])) [(.tmp 7)], none⟩ ::
    ⟨some 9, .un .not (.tmp 8), none⟩ ::
    ⟨some 10, .mov (.tmp 9), none⟩ ::
    ⟨some 11, .mov (.tmp 1), some (10, false)⟩ ::
    ⟨some 12, .call (.val (.fn (.func 18) [])) [(.tmp 11)], some (10, false)⟩ ::
    ⟨some 13, .un .not (.tmp 12), some (10, false)⟩ ::
    ⟨some 14, .pick (.tmp 10) (.val (.bool true)) (.tmp 13), none⟩ :: [])) <|
  .cond (.tmp 14) (.seq (.region (⟨some 4, .mov (.val .nils), none⟩ :: [])) <|
    .ret) <|
  .skip) <|
  .seq (.region (⟨some 5, .mov (.val .nils), none⟩ :: [])) <|
  .seq (.block 0 (.loop (.seq (.seq (.region (⟨some 15, .mov (.tmp 0), none⟩ ::
        ⟨some 16, .len false (.tmp 15), none⟩ ::
        ⟨some 17, .bin .gtr (.tmp 16) (.val (.int .i64 0)), none⟩ ::
        ⟨some 18, .mov (.tmp 17), none⟩ ::
        ⟨some 19, .mov (.tmp 1), some (18, true)⟩ ::
        ⟨some 20, .len false (.tmp 19), some (18, true)⟩ ::
        ⟨some 21, .bin .gtr (.tmp 20) (.val (.int .i64 0)), some (18, true)⟩ ::
        ⟨some 22, .pick (.tmp 18) (.tmp 21) (.val (.bool false)), none⟩ :: [])) <|
      .cond (.tmp 22) (.skip) <|
      .exit 0) <|
      .block 1 (.seq (.region (⟨some 23, .mov (.tmp 0), none⟩ ::
          ⟨some 24, .iaddr 2 (.tmp 23) (.val (.int .i64 0)), none⟩ ::
          ⟨some 25, .faddr 0 (.tmp 24), none⟩ ::
          ⟨some 26, .load false 1 (.tmp 25), none⟩ ::
          ⟨some 27, .mov (.tmp 1), none⟩ ::
          ⟨some 28, .iaddr 2 (.tmp 27) (.val (.int .i64 0)), none⟩ ::
          ⟨some 29, .faddr 0 (.tmp 28), none⟩ ::
          ⟨some 30, .load false 1 (.tmp 29), none⟩ ::
          ⟨some 31, .mx (.tmp 26) [(.tmp 30)], none⟩ ::
          ⟨some 32, .mov (.tmp 0), none⟩ ::
          ⟨some 33, .iaddr 2 (.tmp 32) (.val (.int .i64 0)), none⟩ ::
          ⟨some 34, .faddr 1 (.tmp 33), none⟩ ::
          ⟨some 35, .load false 1 (.tmp 34), none⟩ ::
          ⟨some 36, .mov (.tmp 1), none⟩ ::
          ⟨some 37, .iaddr 2 (.tmp 36) (.val (.int .i64 0)), none⟩ ::
          ⟨some 38, .faddr 1 (.tmp 37), none⟩ ::
          ⟨some 39, .load false 1 (.tmp 38), none⟩ ::
          ⟨some 40, .mn (.tmp 35) [(.tmp 39)], none⟩ ::
          ⟨some 41, .build [(.int .i64 0), (.int .i64 0)] [(0, 1, (.tmp 31)), (1, 1, (.tmp 40))], none⟩ ::
          ⟨some 6, .alloc (.agg [(.int .i64 0), (.int .i64 0)]), none⟩ ::
          ⟨none, .store 2 (.tmp 6) (.tmp 41), none⟩ :: [])) <|
        .seq (.seq (.region (⟨some 42, .faddr 0 (.tmp 6), none⟩ ::
          ⟨some 43, .load false 1 (.tmp 42), none⟩ ::
          ⟨some 44, .faddr 1 (.tmp 6), none⟩ ::
          ⟨some 45, .load false 1 (.tmp 44), none⟩ ::
          ⟨some 46, .bin .leq (.tmp 43) (.tmp 45), none⟩ :: [])) <|
        .cond (.tmp 46) (.region (⟨some 47, .mov (.tmp 5), none⟩ ::
            ⟨some 48, .load true 2 (.tmp 6), none⟩ ::
            ⟨some 49, .bslice 2 [(.tmp 48)], none⟩ ::
            ⟨some 50, .app 2 16 (.tmp 47) (.tmp 49), none⟩ ::
            ⟨some 5, .mov (.tmp 50), none⟩ :: [])) <|
        .skip) <|
        .seq (.region (⟨some 51, .mov (.tmp 0), none⟩ ::
          ⟨some 52, .iaddr 2 (.tmp 51) (.val (.int .i64 0)), none⟩ ::
          ⟨some 53, .faddr 1 (.tmp 52), none⟩ ::
          ⟨some 54, .load false 1 (.tmp 53), none⟩ ::
          ⟨some 55, .mov (.tmp 1), none⟩ ::
          ⟨some 56, .iaddr 2 (.tmp 55) (.val (.int .i64 0)), none⟩ ::
          ⟨some 57, .faddr 1 (.tmp 56), none⟩ ::
          ⟨some 58, .load false 1 (.tmp 57), none⟩ ::
          ⟨some 59, .bin .lss (.tmp 54) (.tmp 58), none⟩ :: [])) <|
        .cond (.tmp 59) (.region (⟨some 60, .mov (.tmp 0), none⟩ ::
            ⟨some 61, .slc 2 (.tmp 60) (some (.val (.int .i64 1))) none, none⟩ ::
            ⟨some 0, .mov (.tmp 61), none⟩ :: [])) <|
        .region (⟨some 62, .mov (.tmp 1), none⟩ ::
          ⟨some 63, .slc 2 (.tmp 62) (some (.val (.int .i64 1))) none, none⟩ ::
          ⟨some 1, .mov (.tmp 63), none⟩ :: []))))) <|
  .seq (.region (⟨some 64, .mov (.tmp 5), none⟩ ::
    ⟨some 4, .mov (.tmp 64), none⟩ :: [])) <|
  .ret⟩
theorem e_set_Meet : cFunc Try.prog kd_CSet2 Try.f28 = some c_set_Meet := by kernel_rfl
/- touchstone/set.Same: slots a, 0, b, 1, a, 2, b, 3 -/
def c_set_Same : AFunc := ⟨12, [.tmp 4],
  .seq (.region (⟨some 4, .mov (.val (.bool false)), none⟩ :: [])) <|
  .seq (.region (⟨some 5, .mov (.tmp 0), none⟩ ::
    ⟨some 6, .call (.val (.fn (.func 18) [])) [(.tmp 5)], none⟩ ::
    ⟨some 7, .mov (.tmp 6), none⟩ ::
    ⟨some 8, .mov (.tmp 0), some (7, true)⟩ ::
    ⟨some 9, .mov (.tmp 1), some (7, true)⟩ ::
    ⟨some 10, .call (.val (.fn (.func 63) [])) [(.tmp 8), (.tmp 9)], some (7, true)⟩ ::
    ⟨some 11, .pick (.tmp 7) (.tmp 10) (.val (.bool false)), none⟩ ::
    ⟨some 4, .mov (.tmp 11), none⟩ :: [])) <|
  .ret⟩
theorem e_set_Same : cFunc Try.prog kd_CSet2 Try.f29 = some c_set_Same := by kernel_rfl
/- slices.Equal[[]touchstone/api.Range,touchstone/api.Range]: slots s1, 0, s2, 1, s1, 2, s2, 3, i, 5 -/
def c_slices_Equal_sRange_Range : AFunc := ⟨26, [.tmp 4],
  .seq (.region (⟨some 4, .mov (.val (.bool false)), none⟩ :: [])) <|
  .seq (.seq (.region (⟨some 6, .mov (.tmp 0), none⟩ ::
    ⟨some 7, .len false (.tmp 6), none⟩ ::
    ⟨some 8, .mov (.tmp 1), none⟩ ::
    ⟨some 9, .len false (.tmp 8), none⟩ ::
    ⟨some 10, .bin .neq (.tmp 7) (.tmp 9), none⟩ :: [])) <|
  .cond (.tmp 10) (.seq (.region (⟨some 4, .mov (.val (.bool false)), none⟩ :: [])) <|
    .ret) <|
  .skip) <|
  .seq (.seq (.region (⟨some 11, .mov (.tmp 0), none⟩ ::
    ⟨some 12, .len false (.tmp 11), none⟩ ::
    ⟨some 13, .mov (.val (.int .i64 0)), none⟩ :: [])) <|
  .block 0 (.loop (.seq (.region (⟨some 14, .bin .lss (.tmp 13) (.tmp 12), none⟩ :: [])) <|
      .seq (.cond (.tmp 14) (.skip) <|
      .exit 0) <|
      .seq (.block 1 (.seq (.region (⟨some 15, .mov (.tmp 13), none⟩ ::
          ⟨some 5, .mov (.tmp 15), none⟩ :: [])) <|
        .seq (.region (⟨some 16, .mov (.tmp 0), none⟩ ::
          ⟨some 17, .mov (.tmp 5), none⟩ ::
          ⟨some 18, .iaddr 2 (.tmp 16) (.tmp 17), none⟩ ::
          ⟨some 19, .load true 2 (.tmp 18), none⟩ ::
          ⟨some 20, .mov (.tmp 1), none⟩ ::
          ⟨some 21, .mov (.tmp 5), none⟩ ::
          ⟨some 22, .iaddr 2 (.tmp 20) (.tmp 21), none⟩ ::
          ⟨some 23, .load true 2 (.tmp 22), none⟩ ::
          ⟨some 24, .eqs true 2 (.tmp 19) (.tmp 23), none⟩ :: [])) <|
        .cond (.tmp 24) (.seq (.region (⟨some 4, .mov (.val (.bool false)), none⟩ :: [])) <|
          .ret) <|
        .skip)) <|
      .region (⟨some 25, .bin .add (.tmp 13) (.val (.int .i64 1)), none⟩ ::
        ⟨some 13, .mov (.tmp 25), none⟩ :: [])))) <|
  .seq (.region (⟨some 4, .mov (.val (.bool true)), none⟩ :: [])) <|
  .ret⟩
theorem e_slices_Equal_sRange_Range : cFunc Try.prog kd_CSet2 Try.f63 = some c_slices_Equal_sRange_Range := by kernel_rfl
/- touchstone/touchstonelaw09.SetCuts: slots a, 0, b, 1, at, 2, a, 3, b, 4, at, 5 -/
def c_law09_SetCuts : AFunc := ⟨59, [.tmp 6],
  .seq (.region (⟨some 5, .box 2 (.tmp 2), none⟩ ::
    ⟨some 6, .mov (.val (.bool false)), none⟩ :: [])) <|
  .seq (.seq (.region (⟨some 7, .call (.val (.fn (.func 14) [])) [], none⟩ ::
    ⟨some 8, .un .not (.tmp 7), none⟩ :: [])) <|
  .cond (.tmp 8) (.seq (.region (⟨some 6, .mov (.val (.bool false)), none⟩ :: [])) <|
    .ret) <|
  .skip) <|
  .seq (.seq (.region (⟨some 9, .mov (.tmp 0), none⟩ ::
    ⟨some 10, .len false (.tmp 9), none⟩ ::
    ⟨some 11, .bin .gtr (.tmp 10) (.val (.int .i64 300)), none⟩ ::
    ⟨some 12, .mov (.tmp 11), none⟩ ::
    ⟨some 13, .mov (.tmp 1), some (12, false)⟩ ::
    ⟨some 14, .len false (.tmp 13), some (12, false)⟩ ::
    ⟨some 15, .bin .gtr (.tmp 14) (.val (.int .i64 300)), some (12, false)⟩ ::
    ⟨some 16, .pick (.tmp 12) (.val (.bool true)) (.tmp 15), none⟩ :: [])) <|
  .cond (.tmp 16) (.seq (.region (⟨some 6, .mov (.val (.bool true)), none⟩ :: [])) <|
    .ret) <|
  .skip) <|
  .seq (.region (⟨some 17, .mov (.tmp 0), none⟩ ::
    ⟨some 18, .faddr 0 (.tmp 5), none⟩ ::
    ⟨some 19, .load false 1 (.tmp 18), none⟩ ::
    ⟨some 20, .faddr 1 (.tmp 5), none⟩ ::
    ⟨some 21, .load false 1 (.tmp 20), none⟩ ::
    ⟨some 22, .call (.val (.fn (.func 30) [])) [(.tmp 17), (.tmp 19), (.tmp 21)], none⟩ ::
    ⟨some 23, .mov (.tmp 0), none⟩ ::
    ⟨some 24, .faddr 0 (.tmp 5), none⟩ ::
    ⟨some 25, .load false 1 (.tmp 24), none⟩ ::
    ⟨some 26, .faddr 1 (.tmp 5), none⟩ ::
    ⟨some 27, .load false 1 (.tmp 26), none⟩ ::
    ⟨some 28, .call (.val (.fn (.func 53) [])) [(.tmp 23), (.tmp 25), (.tmp 27)], none⟩ ::
    ⟨some 29, .call (.val (.fn (.func 17) [])) [(.tmp 22), (.tmp 28)], none⟩ ::
    ⟨some 30, .mov (.tmp 29), none⟩ ::
    ⟨some 31, .mov (.tmp 0), some (30, true)⟩ ::
    ⟨some 32, .faddr 0 (.tmp 5), some (30, true)⟩ ::
    ⟨some 33, .load false 1 (.tmp 32), some (30, true)⟩ ::
    ⟨some 34, .call (.val (.fn (.func 31) [])) [(.tmp 31), (.tmp 33)], some (30, true)⟩ ::
    ⟨some 35, .mov (.tmp 0), some (30, true)⟩ ::
    ⟨some 36, .faddr 0 (.tmp 5), some (30, true)⟩ ::
    ⟨some 37, .load false 1 (.tmp 36), some (30, true)⟩ ::
    ⟨some 38, .call (.val (.fn (.func 54) [])) [(.tmp 35), (.tmp 37)], some (30, true)⟩ ::
    ⟨some 39, .call (.val (.fn (.func 17) [])) [(.tmp 34), (.tmp 38)], some (30, true)⟩ ::
    ⟨some 40, .pick (.tmp 30) (.tmp 39) (.val (.bool false)), none⟩ ::
    ⟨some 41, .mov (.tmp 40), none⟩ ::
    ⟨some 42, .mov (.tmp 0), some (41, true)⟩ ::
    ⟨some 43, .mov (.tmp 1), some (41, true)⟩ ::
    ⟨some 44, .call (.val (.fn (.func 28) [])) [(.tmp 42), (.tmp 43)], some (41, true)⟩ ::
    ⟨some 45, .mov (.tmp 0), some (41, true)⟩ ::
    ⟨some 46, .mov (.tmp 1), some (41, true)⟩ ::
    ⟨some 47, .call (.val (.fn (.func 55) [])) [(.tmp 45), (.tmp 46)], some (41, true)⟩ ::
    ⟨some 48, .call (.val (.fn (.func 17) [])) [(.tmp 44), (.tmp 47)], some (41, true)⟩ ::
    ⟨some 49, .pick (.tmp 41) (.tmp 48) (.val (.bool false)), none⟩ ::
    ⟨some 50, .mov (.tmp 49), none⟩ ::
    ⟨some 51, .mov (.tmp 0), some (50, true)⟩ ::
    ⟨some 52, .mov (.tmp 1), some (50, true)⟩ ::
    ⟨some 53, .call (.val (.fn (.func 29) [])) [(.tmp 51), (.tmp 52)], some (50, true)⟩ ::
    ⟨some 54, .mov (.tmp 0), some (50, true)⟩ ::
    ⟨some 55, .mov (.tmp 1), some (50, true)⟩ ::
    ⟨some 56, .call (.val (.fn (.func 52) [])) [(.tmp 54), (.tmp 55)], some (50, true)⟩ ::
    ⟨some 57, .eqb false (.tmp 53) (.tmp 56), some (50, true)⟩ ::
    ⟨some 58, .pick (.tmp 50) (.tmp 57) (.val (.bool false)), none⟩ ::
    ⟨some 6, .mov (.tmp 58), none⟩ :: [])) <|
  .ret⟩
theorem e_law09_SetCuts : cFunc Try.prog kd_CSet2 Try.f13 = some c_law09_SetCuts := by kernel_rfl
/- touchstone/touchstonelaw09.SetValues: slots a, 0, b, 1, at, 2, a, 3, b, 4, at, 5, lo, 7, hi, 8, v, 9, c, 10, w, 11, m, 12 -/
def c_law09_SetValues : AFunc := ⟨107, [.tmp 6],
  .seq (.region (⟨some 5, .box 3 (.tmp 2), none⟩ ::
    ⟨some 6, .mov (.val (.bool false)), none⟩ :: [])) <|
  .seq (.seq (.region (⟨some 13, .call (.val (.fn (.func 14) [])) [], none⟩ ::
    ⟨some 14, .un .not (.tmp 13), none⟩ :: [])) <|
  .cond (.tmp 14) (.seq (.region (⟨some 6, .mov (.val (.bool false)), none⟩ :: [])) <|
    .ret) <|
  .skip) <|
  .seq (.seq (.region (⟨some 15, .mov (.tmp 0), none⟩ ::
    ⟨some 16, .len false (.tmp 15), none⟩ ::
    ⟨some 17, .bin .gtr (.tmp 16) (.val (.int .i64 300)), none⟩ ::
    ⟨some 18, .mov (.tmp 17), none⟩ ::
    ⟨some 19, .mov (.tmp 1), some (18, false)⟩ ::
    ⟨some 20, .len false (.tmp 19), some (18, false)⟩ ::
    ⟨some 21, .bin .gtr (.tmp 20) (.val (.int .i64 300)), some (18, false)⟩ ::
    ⟨some 22, .pick (.tmp 18) (.val (.bool true)) (.tmp 21), none⟩ ::
    ⟨some 23, .mov (.tmp 22), none⟩ ::
    ⟨some 24, .mov (.tmp 0), some (23, false)⟩ ::
    ⟨some 25, .call (.val (.fn (.func 18) [])) [(.tmp 24)], some (23, false)⟩ ::
    ⟨some 26, .un .not (.tmp 25), some (23, false)⟩ ::
    ⟨some 27, .pick (.tmp 23) (.val (.bool true)) (.tmp 26), none⟩ ::
    ⟨some 28, .mov (.tmp 27), none⟩ ::
    ⟨some 29, .mov (.tmp 1), some (28, false)⟩ ::
    ⟨some 30, .call (.val (.fn (.func 18) [])) [(.tmp 29)], some (28, false)⟩ ::
    ⟨some 31, .un .not (.tmp 30), some (28, false)⟩ ::
    ⟨some 32, .pick (.tmp 28) (.val (.bool true)) (.tmp 31), none⟩ :: [])) <|
  .cond (.tmp 32) (.seq (.region (⟨some 6, .mov (.val (.bool true)), none⟩ :: [])) <|
    .ret) <|
  .skip) <|
  .seq (.region (⟨some 33, .faddr 0 (.tmp 5), none⟩ ::
    ⟨some 34, .load false 1 (.tmp 33), none⟩ ::
    ⟨some 35, .faddr 1 (.tmp 5), none⟩ ::
    ⟨some 36, .load false 1 (.tmp 35), none⟩ ::
    ⟨some 37, .faddr 2 (.tmp 5), none⟩ ::
    ⟨some 38, .load false 1 (.tmp 37), none⟩ ::
    ⟨some 7, .mov (.tmp 34), none⟩ ::
    ⟨some 8, .mov (.tmp 36), none⟩ ::
    ⟨some 9, .mov (.tmp 38), none⟩ :: [])) <|
  .seq (.region (⟨some 39, .mov (.tmp 0), none⟩ ::
    ⟨some 40, .mov (.tmp 7), none⟩ ::
    ⟨some 41, .mov (.tmp 8), none⟩ ::
    ⟨some 42, .call (.val (.fn (.func 30) [])) [(.tmp 39), (.tmp 40), (.tmp 41)], none⟩ ::
    ⟨some 43, .mov (.tmp 0), none⟩ ::
    ⟨some 44, .mov (.tmp 7), none⟩ ::
    ⟨some 45, .call (.val (.fn (.func 31) [])) [(.tmp 43), (.tmp 44)], none⟩ ::
    ⟨some 46, .mov (.tmp 0), none⟩ ::
    ⟨some 47, .mov (.tmp 1), none⟩ ::
    ⟨some 48, .call (.val (.fn (.func 28) [])) [(.tmp 46), (.tmp 47)], none⟩ ::
    ⟨some 10, .mov (.tmp 42), none⟩ ::
    ⟨some 11, .mov (.tmp 45), none⟩ ::
    ⟨some 12, .mov (.tmp 48), none⟩ :: [])) <|
  .seq (.seq (.region (⟨some 49, .mov (.tmp 10), none⟩ ::
    ⟨some 50, .call (.val (.fn (.func 18) [])) [(.tmp 49)], none⟩ ::
    ⟨some 51, .un .not (.tmp 50), none⟩ ::
    ⟨some 52, .mov (.tmp 51), none⟩ ::
    ⟨some 53, .mov (.tmp 11), some (52, false)⟩ ::
    ⟨some 54, .call (.val (.fn (.func 18) [])) [(.tmp 53)], some (52, false)⟩ ::
    ⟨some 55, .un .not (.tmp 54), some (52, false)⟩ ::
    ⟨some 56, .pick (.tmp 52) (.val (.bool true)) (.tmp 55), none⟩ ::
    ⟨some 57, .mov (.tmp 56), none⟩ ::
    ⟨some 58, .mov (.tmp 12), some (57, false)⟩ ::
    ⟨some 59, .call (.val (.fn (.func 18) [])) [(.tmp 58)], some (57, false)⟩ ::
    ⟨some 60, .un .not (.tmp 59), some (57, false)⟩ ::
    ⟨some 61, .pick (.tmp 57) (.val (.bool true)) (.tmp 60), none⟩ :: [])) <|
  .cond (.tmp 61) (.seq (.region (⟨some 6, .mov (.val (.bool false)), none⟩ :: [])) <|
    .ret) <|
  .skip) <|
  .seq (.region (⟨some 62, .mov (.tmp 10), none⟩ ::
    ⟨some 63, .mov (.tmp 9), none⟩ ::
    ⟨some 64, .call (.val (.fn (.func 22) [])) [(.tmp 62), (.tmp 63)], none⟩ ::
    ⟨some 65, .mov (.tmp 0), none⟩ ::
    ⟨some 66, .mov (.tmp 9), none⟩ ::
    ⟨some 67, .call (.val (.fn (.func 22) [])) [(.tmp 65), (.tmp 66)], none⟩ ::
    ⟨some 68, .mov (.tmp 67), none⟩ ::
    ⟨some 69, .mov (.tmp 9), some (68, true)⟩ ::
    ⟨some 70, .mov (.tmp 7), some (68, true)⟩ ::
    ⟨some 71, .bin .geq (.tmp 69) (.tmp 70), some (68, true)⟩ ::
    ⟨some 72, .pick (.tmp 68) (.tmp 71) (.val (.bool false)), none⟩ ::
    ⟨some 73, .mov (.tmp 72), none⟩ ::
    ⟨some 74, .mov (.tmp 9), some (73, true)⟩ ::
    ⟨some 75, .mov (.tmp 8), some (73, true)⟩ ::
    ⟨some 76, .bin .leq (.tmp 74) (.tmp 75), some (73, true)⟩ ::
    ⟨some 77, .pick (.tmp 73) (.tmp 76) (.val (.bool false)), none⟩ ::
    ⟨some 78, .eqb false (.tmp 64) (.tmp 77), none⟩ ::
    ⟨some 79, .mov (.tmp 78), none⟩ ::
    ⟨some 80, .mov (.tmp 11), some (79, true)⟩ ::
    ⟨some 81, .mov (.tmp 9), some (79, true)⟩ ::
    ⟨some 82, .call (.val (.fn (.func 22) [])) [(.tmp 80), (.tmp 81)], some (79, true)⟩ ::
    ⟨some 83, .mov (.tmp 0), some (79, true)⟩ ::
    ⟨some 84, .mov (.tmp 9), some (79, true)⟩ ::
    ⟨some 85, .call (.val (.fn (.func 22) [])) [(.tmp 83), (.tmp 84)], some (79, true)⟩ ::
    ⟨some 86, .mov (.tmp 85), some (79, true)⟩ ::
    ⟨some 87, .mov (.tmp 9), some (86, true)⟩ ::
    ⟨some 88, .mov (.tmp 7), some (86, true)⟩ ::
    ⟨some 89, .bin .neq (.tmp 87) (.tmp 88), some (86, true)⟩ ::
    ⟨some 90, .pick (.tmp 86) (.tmp 89) (.val (.bool false)), some (79, true)⟩ ::
    ⟨some 91, .eqb false (.tmp 82) (.tmp 90), some (79, true)⟩ ::
    ⟨some 92, .pick (.tmp 79) (.tmp 91) (.val (.bool false)), none⟩ ::
    ⟨some 93, .mov (.tmp 92), none⟩ ::
    ⟨some 94, .mov (.tmp 12), some (93, true)⟩ ::
    ⟨some 95, .mov (.tmp 9), some (93, true)⟩ ::
    ⟨some 96, .call (.val (.fn (.func 22) [])) [(.tmp 94), (.tmp 95)], some (93, true)⟩ ::
    ⟨some 97, .mov (.tmp 0), some (93, true)⟩ ::
    ⟨some 98, .mov (.tmp 9), some (93, true)⟩ ::
    ⟨some 99, .call (.val (.fn (.func 22) [])) [(.tmp 97), (.tmp 98)], some (93, true)⟩ ::
    ⟨some 100, .mov (.tmp 99), some (93, true)⟩ ::
    ⟨some 101, .mov (.tmp 1), some (100, true)⟩ ::
    ⟨some 102, .mov (.tmp 9), some (100, true)⟩ ::
    ⟨some 103, .call (.val (.fn (.func 22) [])) [(.tmp 101), (.tmp 102)], some (100, true)⟩ ::
    ⟨some 104, .pick (.tmp 100) (.tmp 103) (.val (.bool false)), some (93, true)⟩ ::
    ⟨some 105, .eqb false (.tmp 96) (.tmp 104), some (93, true)⟩ ::
    ⟨some 106, .pick (.tmp 93) (.tmp 105) (.val (.bool false)), none⟩ ::
    ⟨some 6, .mov (.tmp 106), none⟩ :: [])) <|
  .ret⟩
theorem e_law09_SetValues : cFunc Try.prog kd_CSet2 Try.f7 = some c_law09_SetValues := by kernel_rfl
end Go.Proofs.Ytjdlfmcnjpiaoaa
