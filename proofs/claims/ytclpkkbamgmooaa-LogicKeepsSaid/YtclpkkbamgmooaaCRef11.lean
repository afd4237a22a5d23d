/- The code of functions, as abstract code. Printed by program. -/
import Derived.Test.YtclpkkbamgmooaaAv2
import Derived.Test.YtclpkkbamgmooaaProg
namespace Go.Proofs.Ytclpkkbamgmooaa
open Av
set_option linter.unusedVariables false
set_option maxRecDepth 100000
def kd_CRef11 (f : Nat) : Nat := if f = 92 then 1 else 0
/- touchstone/touchstoneref11.values: slots c, 0, a, 1, c, 2, a, 3, out, 5, i, 6 -/
def c_ref11_values : AFunc := ⟨26, [.tmp 4],
  .seq (.region (⟨some 2, .box 4 (.tmp 0), none⟩ ::
    ⟨some 4, .mov (.val .nils), none⟩ :: [])) <|
  .seq (.region (⟨some 5, .mov (.val .nils), none⟩ :: [])) <|
  .seq (.seq (.region (⟨some 6, .mov (.val (.int .i64 0)), none⟩ :: [])) <|
  .block 0 (.loop (.seq (.seq (.region (⟨some 7, .mov (.tmp 6), none⟩ ::
        ⟨some 8, .faddr 1 (.tmp 2), none⟩ ::
        ⟨some 9, .load false 1 (.tmp 8), none⟩ ::
        ⟨some 10, .len false (.tmp 9), none⟩ ::
        ⟨some 11, .bin .lss (.tmp 7) (.tmp 10), none⟩ :: [])) <|
      .cond (.tmp 11) (.skip) <|
      .exit 0) <|
      .seq (.block 1 (.region (⟨some 14, .mov (.tmp 5), none⟩ ::
          ⟨some 15, .mov (.tmp 1), none⟩ ::
          ⟨some 16, .faddr 1 (.tmp 2), none⟩ ::
          ⟨some 17, .load false 1 (.tmp 16), none⟩ ::
          ⟨some 18, .mov (.tmp 6), none⟩ ::
          ⟨some 19, .iaddr 1 (.tmp 17) (.tmp 18), none⟩ ::
          ⟨some 20, .load false 1 (.tmp 19), none⟩ ::
          ⟨some 21, .iaddr 1 (.tmp 15) (.tmp 20), none⟩ ::
          ⟨some 22, .load false 1 (.tmp 21), none⟩ ::
          ⟨some 23, .bslice 1 [(.tmp 22)], none⟩ ::
          ⟨some 24, .app 1 8 (.tmp 14) (.tmp 23), none⟩ ::
          ⟨some 5, .mov (.tmp 24), none⟩ :: []))) <|
      .region (⟨some 12, .mov (.tmp 6), none⟩ ::
        ⟨some 13, .bin .add (.tmp 12) (.val (.int .i64 1)), none⟩ ::
        ⟨some 6, .mov (.tmp 13), none⟩ :: [])))) <|
  .seq (.region (⟨some 25, .mov (.tmp 5), none⟩ ::
    ⟨some 4, .mov (.tmp 25), none⟩ :: [])) <|
  .ret⟩
theorem e_ref11_values : cFunc Try.prog kd_CRef11 Try.f94 = some c_ref11_values := by kernel_rfl
/- touchstone/touchstoneref11.Asked: slots c, 0, a, 1, c, 2, a, 3, m, 5, i, 6, d, 7, i, 8, v, 9 -/
def c_ref11_Asked : AFunc := ⟨91, [.tmp 4],
  .seq (.region (⟨some 2, .box 4 (.tmp 0), none⟩ ::
    ⟨some 4, .mov (.val (.bool false)), none⟩ :: [])) <|
  .seq (.seq (.region (⟨some 10, .faddr 2 (.tmp 2), none⟩ ::
    ⟨some 11, .load false 1 (.tmp 10), none⟩ ::
    ⟨some 12, .len false (.tmp 11), none⟩ ::
    ⟨some 13, .bin .gtr (.tmp 12) (.val (.int .i64 128)), none⟩ ::
    ⟨some 14, .mov (.tmp 13), none⟩ ::
    ⟨some 15, .faddr 1 (.tmp 2), some (14, false)⟩ ::
    ⟨some 16, .load false 1 (.tmp 15), some (14, false)⟩ ::
    ⟨some 17, .len false (.tmp 16), some (14, false)⟩ ::
    ⟨some 18, .bin .gtr (.tmp 17) (.val (.int .i64 32)), some (14, false)⟩ ::
    ⟨some 19, .pick (.tmp 14) (.val (.bool true)) (.tmp 18), none⟩ :: [])) <|
  .cond (.tmp 19) (.seq (.region (⟨some 4, .mov (.val (.bool false)), none⟩ :: [])) <|
    .ret) <|
  .skip) <|
  .seq (.region (⟨some 20, .build [.nils, .nils, (.int .i64 0), (.int .i64 0)] [], none⟩ ::
    ⟨some 5, .alloc (.agg [.nils, .nils, (.int .i64 0), (.int .i64 0)]), none⟩ ::
    ⟨none, .store 4 (.tmp 5) (.tmp 20), none⟩ :: [])) <|
  .seq (.seq (.region (⟨some 6, .mov (.val (.int .i64 0)), none⟩ :: [])) <|
  .block 0 (.loop (.seq (.seq (.region (⟨some 21, .mov (.tmp 6), none⟩ ::
        ⟨some 22, .faddr 1 (.tmp 2), none⟩ ::
        ⟨some 23, .load false 1 (.tmp 22), none⟩ ::
        ⟨some 24, .len false (.tmp 23), none⟩ ::
        ⟨some 25, .bin .lss (.tmp 21) (.tmp 24), none⟩ :: [])) <|
      .cond (.tmp 25) (.skip) <|
      .exit 0) <|
      .seq (.block 1 (.seq (.region (⟨some 28, .faddr 1 (.tmp 2), none⟩ ::
          ⟨some 29, .load false 1 (.tmp 28), none⟩ ::
          ⟨some 30, .mov (.tmp 6), none⟩ ::
          ⟨some 31, .iaddr 1 (.tmp 29) (.tmp 30), none⟩ ::
          ⟨some 32, .load false 1 (.tmp 31), none⟩ ::
          ⟨some 33, .bin .lss (.tmp 32) (.val (.int .i64 0)), none⟩ ::
          ⟨some 34, .mov (.tmp 33), none⟩ ::
          ⟨some 35, .faddr 1 (.tmp 2), some (34, false)⟩ ::
          ⟨some 36, .load false 1 (.tmp 35), some (34, false)⟩ ::
          ⟨some 37, .mov (.tmp 6), some (34, false)⟩ ::
          ⟨some 38, .iaddr 1 (.tmp 36) (.tmp 37), some (34, false)⟩ ::
          ⟨some 39, .load false 1 (.tmp 38), some (34, false)⟩ ::
          ⟨some 40, .mov (.tmp 1), some (34, false)⟩ ::
          ⟨some 41, .len false (.tmp 40), some (34, false)⟩ ::
          ⟨some 42, .bin .geq (.tmp 39) (.tmp 41), some (34, false)⟩ ::
          ⟨some 43, .pick (.tmp 34) (.val (.bool true)) (.tmp 42), none⟩ ::
          ⟨some 44, .mov (.tmp 43), none⟩ ::
          ⟨some 45, .mov (.tmp 1), some (44, false)⟩ ::
          ⟨some 46, .faddr 1 (.tmp 2), some (44, false)⟩ ::
          ⟨some 47, .load false 1 (.tmp 46), some (44, false)⟩ ::
          ⟨some 48, .mov (.tmp 6), some (44, false)⟩ ::
          ⟨some 49, .iaddr 1 (.tmp 47) (.tmp 48), some (44, false)⟩ ::
          ⟨some 50, .load false 1 (.tmp 49), some (44, false)⟩ ::
          ⟨some 51, .iaddr 1 (.tmp 45) (.tmp 50), some (44, false)⟩ ::
          ⟨some 52, .load false 1 (.tmp 51), some (44, false)⟩ ::
          ⟨some 53, .call (.val (.fn (.func 76) [])) [(.tmp 52)], some (44, false)⟩ ::
          ⟨some 54, .un .not (.tmp 53), some (44, false)⟩ ::
          ⟨some 55, .pick (.tmp 44) (.val (.bool true)) (.tmp 54), none⟩ :: [])) <|
        .cond (.tmp 55) (.seq (.region (⟨some 4, .mov (.val (.bool false)), none⟩ :: [])) <|
          .ret) <|
        .skip)) <|
      .region (⟨some 26, .mov (.tmp 6), none⟩ ::
        ⟨some 27, .bin .add (.tmp 26) (.val (.int .i64 1)), none⟩ ::
        ⟨some 6, .mov (.tmp 27), none⟩ :: [])))) <|
  .seq (.region (⟨some 56, .load true 4 (.tmp 2), none⟩ ::
    ⟨some 7, .alloc (.agg [(.int .i64 0), .nils, .nils, (.int .i64 0)]), none⟩ ::
    ⟨none, .store 4 (.tmp 7) (.tmp 56), none⟩ :: [])) <|
  .seq (.region (⟨some 57, .faddr 1 (.tmp 7), none⟩ ::
    ⟨none, .store 1 (.tmp 57) (.val .nils), none⟩ :: [])) <|
  .seq (.seq (.region (⟨some 8, .mov (.val (.int .i64 0)), none⟩ :: [])) <|
  .block 2 (.loop (.seq (.seq (.region (⟨some 58, .mov (.tmp 8), none⟩ ::
        ⟨some 59, .faddr 1 (.tmp 2), none⟩ ::
        ⟨some 60, .load false 1 (.tmp 59), none⟩ ::
        ⟨some 61, .len false (.tmp 60), none⟩ ::
        ⟨some 62, .bin .lss (.tmp 58) (.tmp 61), none⟩ :: [])) <|
      .cond (.tmp 62) (.skip) <|
      .exit 2) <|
      .seq (.block 3 (.seq (.region (⟨some 65, .mov (.tmp 1), none⟩ ::
          ⟨some 66, .faddr 1 (.tmp 2), none⟩ ::
          ⟨some 67, .load false 1 (.tmp 66), none⟩ ::
          ⟨some 68, .mov (.tmp 8), none⟩ ::
          ⟨some 69, .iaddr 1 (.tmp 67) (.tmp 68), none⟩ ::
          ⟨some 70, .load false 1 (.tmp 69), none⟩ ::
          ⟨some 71, .iaddr 1 (.tmp 65) (.tmp 70), none⟩ ::
          ⟨some 72, .load false 1 (.tmp 71), none⟩ ::
          ⟨some 9, .mov (.tmp 72), none⟩ :: [])) <|
        .seq (.region (⟨some 73, .faddr 0 (.tmp 5), none⟩ ::
          ⟨some 74, .load false 1 (.tmp 73), none⟩ ::
          ⟨some 75, .mov (.tmp 9), none⟩ ::
          ⟨some 76, .mov (.tmp 9), none⟩ ::
          ⟨some 77, .build [(.int .i64 0), (.int .i64 0)] [(0, 1, (.tmp 75)), (1, 1, (.tmp 76))], none⟩ ::
          ⟨some 78, .bslice 2 [(.tmp 77)], none⟩ ::
          ⟨some 79, .bslice 1 [(.tmp 78)], none⟩ ::
          ⟨some 80, .app 1 24 (.tmp 74) (.tmp 79), none⟩ ::
          ⟨some 81, .faddr 0 (.tmp 5), none⟩ ::
          ⟨none, .store 1 (.tmp 81) (.tmp 80), none⟩ :: [])) <|
        .region (⟨some 82, .faddr 1 (.tmp 7), none⟩ ::
          ⟨some 83, .load false 1 (.tmp 82), none⟩ ::
          ⟨some 84, .mov (.tmp 8), none⟩ ::
          ⟨some 85, .bslice 1 [(.tmp 84)], none⟩ ::
          ⟨some 86, .app 1 8 (.tmp 83) (.tmp 85), none⟩ ::
          ⟨some 87, .faddr 1 (.tmp 7), none⟩ ::
          ⟨none, .store 1 (.tmp 87) (.tmp 86), none⟩ :: []))) <|
      .region (⟨some 63, .mov (.tmp 8), none⟩ ::
        ⟨some 64, .bin .add (.tmp 63) (.val (.int .i64 1)), none⟩ ::
        ⟨some 8, .mov (.tmp 64), none⟩ :: [])))) <|
  .seq (.region (⟨some 88, .load true 4 (.tmp 5), none⟩ ::
    ⟨some 89, .load true 4 (.tmp 7), none⟩ ::
    ⟨some 90, .callv (.val (.fn (.func 92) [])) [(.tmp 88), (.tmp 89)], none⟩ ::
    ⟨some 4, .mov (.tmp 90), none⟩ :: [])) <|
  .ret⟩
theorem e_ref11_Asked : cFunc Try.prog kd_CRef11 Try.f93 = some c_ref11_Asked := by kernel_rfl
/- touchstone/touchstoneref11.sum: slots c, 0, v, 1, c, 2, v, 3, n, 5, i, 6 -/
def c_ref11_sum : AFunc := ⟨27, [.tmp 4],
  .seq (.region (⟨some 2, .box 4 (.tmp 0), none⟩ ::
    ⟨some 4, .mov (.val (.int .i64 0)), none⟩ :: [])) <|
  .seq (.region (⟨some 5, .mov (.val (.int .i64 0)), none⟩ :: [])) <|
  .seq (.seq (.region (⟨some 6, .mov (.val (.int .i64 0)), none⟩ :: [])) <|
  .block 0 (.loop (.seq (.seq (.region (⟨some 7, .mov (.tmp 6), none⟩ ::
        ⟨some 8, .faddr 2 (.tmp 2), none⟩ ::
        ⟨some 9, .load false 1 (.tmp 8), none⟩ ::
        ⟨some 10, .len false (.tmp 9), none⟩ ::
        ⟨some 11, .bin .lss (.tmp 7) (.tmp 10), none⟩ :: [])) <|
      .cond (.tmp 11) (.skip) <|
      .exit 0) <|
      .seq (.block 1 (.region (⟨some 14, .mov (.tmp 5), none⟩ ::
          ⟨some 15, .faddr 2 (.tmp 2), none⟩ ::
          ⟨some 16, .load false 1 (.tmp 15), none⟩ ::
          ⟨some 17, .mov (.tmp 6), none⟩ ::
          ⟨some 18, .iaddr 1 (.tmp 16) (.tmp 17), none⟩ ::
          ⟨some 19, .load false 1 (.tmp 18), none⟩ ::
          ⟨some 20, .mov (.tmp 1), none⟩ ::
          ⟨some 21, .mov (.tmp 6), none⟩ ::
          ⟨some 22, .iaddr 1 (.tmp 20) (.tmp 21), none⟩ ::
          ⟨some 23, .load false 1 (.tmp 22), none⟩ ::
          ⟨some 24, .bin .mul (.tmp 19) (.tmp 23), none⟩ ::
          ⟨some 25, .bin .add (.tmp 14) (.tmp 24), none⟩ ::
          ⟨some 5, .mov (.tmp 25), none⟩ :: []))) <|
      .region (⟨some 12, .mov (.tmp 6), none⟩ ::
        ⟨some 13, .bin .add (.tmp 12) (.val (.int .i64 1)), none⟩ ::
        ⟨some 6, .mov (.tmp 13), none⟩ :: [])))) <|
  .seq (.region (⟨some 26, .mov (.tmp 5), none⟩ ::
    ⟨some 4, .mov (.tmp 26), none⟩ :: [])) <|
  .ret⟩
theorem e_ref11_sum : cFunc Try.prog kd_CRef11 Try.f119 = some c_ref11_sum := by kernel_rfl
/- touchstone/touchstoneref11.lin: slots c, 0, v, 1, flag, 2, c, 3, v, 4, flag, 5, n, 7 -/
def c_ref11_lin : AFunc := ⟨57, [.tmp 6],
  .seq (.region (⟨some 3, .box 4 (.tmp 0), none⟩ ::
    ⟨some 6, .mov (.val (.bool false)), none⟩ :: [])) <|
  .seq (.region (⟨some 8, .load true 4 (.tmp 3), none⟩ ::
    ⟨some 9, .mov (.tmp 1), none⟩ ::
    ⟨some 10, .call (.val (.fn (.func 119) [])) [(.tmp 8), (.tmp 9)], none⟩ ::
    ⟨some 7, .mov (.tmp 10), none⟩ :: [])) <|
  .seq (.seq (.region (⟨some 11, .faddr 0 (.tmp 3), none⟩ ::
    ⟨some 12, .load false 1 (.tmp 11), none⟩ :: [])) <|
  .block 0 (.seq (.region (⟨some 14, .bin .eql (.tmp 12) (.val (.int .i64 1)), none⟩ ::
      ⟨some 13, .mov (.tmp 14), none⟩ :: [])) <|
    .cond (.tmp 13) (.seq (.region (⟨some 15, .mov (.tmp 7), none⟩ ::
        ⟨some 16, .faddr 3 (.tmp 3), none⟩ ::
        ⟨some 17, .load false 1 (.tmp 16), none⟩ ::
        ⟨some 18, .bin .eql (.tmp 15) (.tmp 17), none⟩ ::
        ⟨some 6, .mov (.tmp 18), none⟩ :: [])) <|
      .ret) <|
    .seq (.region (⟨some 20, .bin .eql (.tmp 12) (.val (.int .i64 2)), none⟩ ::
      ⟨some 19, .mov (.tmp 20), none⟩ :: [])) <|
    .cond (.tmp 19) (.seq (.region (⟨some 21, .mov (.tmp 7), none⟩ ::
        ⟨some 22, .faddr 3 (.tmp 3), none⟩ ::
        ⟨some 23, .load false 1 (.tmp 22), none⟩ ::
        ⟨some 24, .bin .leq (.tmp 21) (.tmp 23), none⟩ ::
        ⟨some 6, .mov (.tmp 24), none⟩ :: [])) <|
      .ret) <|
    .seq (.region (⟨some 26, .bin .eql (.tmp 12) (.val (.int .i64 3)), none⟩ ::
      ⟨some 25, .mov (.tmp 26), none⟩ :: [])) <|
    .cond (.tmp 25) (.seq (.region (⟨some 27, .mov (.tmp 7), none⟩ ::
        ⟨some 28, .faddr 3 (.tmp 3), none⟩ ::
        ⟨some 29, .load false 1 (.tmp 28), none⟩ ::
        ⟨some 30, .bin .neq (.tmp 27) (.tmp 29), none⟩ ::
        ⟨some 6, .mov (.tmp 30), none⟩ :: [])) <|
      .ret) <|
    .seq (.region (⟨some 32, .bin .eql (.tmp 12) (.val (.int .i64 4)), none⟩ ::
      ⟨some 31, .mov (.tmp 32), none⟩ :: [])) <|
    .cond (.tmp 31) (.seq (.region (⟨some 33, .mov (.tmp 2), none⟩ ::
        ⟨some 34, .bin .eql (.tmp 33) (.val (.int .i64 1)), none⟩ ::
        ⟨some 35, .mov (.tmp 7), none⟩ ::
        ⟨some 36, .faddr 3 (.tmp 3), none⟩ ::
        ⟨some 37, .load false 1 (.tmp 36), none⟩ ::
        ⟨some 38, .bin .eql (.tmp 35) (.tmp 37), none⟩ ::
        ⟨some 39, .eqb false (.tmp 34) (.tmp 38), none⟩ ::
        ⟨some 6, .mov (.tmp 39), none⟩ :: [])) <|
      .ret) <|
    .seq (.region (⟨some 41, .bin .eql (.tmp 12) (.val (.int .i64 5)), none⟩ ::
      ⟨some 40, .mov (.tmp 41), none⟩ :: [])) <|
    .cond (.tmp 40) (.seq (.region (⟨some 42, .mov (.tmp 2), none⟩ ::
        ⟨some 43, .bin .eql (.tmp 42) (.val (.int .i64 1)), none⟩ ::
        ⟨some 44, .mov (.tmp 7), none⟩ ::
        ⟨some 45, .faddr 3 (.tmp 3), none⟩ ::
        ⟨some 46, .load false 1 (.tmp 45), none⟩ ::
        ⟨some 47, .bin .leq (.tmp 44) (.tmp 46), none⟩ ::
        ⟨some 48, .eqb false (.tmp 43) (.tmp 47), none⟩ ::
        ⟨some 6, .mov (.tmp 48), none⟩ :: [])) <|
      .ret) <|
    .skip)) <|
  .seq (.region (⟨some 49, .mov (.tmp 2), none⟩ ::
    ⟨some 50, .bin .eql (.tmp 49) (.val (.int .i64 0)), none⟩ ::
    ⟨some 51, .mov (.tmp 50), none⟩ ::
    ⟨some 52, .mov (.tmp 7), some (51, false)⟩ ::
    ⟨some 53, .faddr 3 (.tmp 3), some (51, false)⟩ ::
    ⟨some 54, .load false 1 (.tmp 53), some (51, false)⟩ ::
    ⟨some 55, .bin .leq (.tmp 52) (.tmp 54), some (51, false)⟩ ::
    ⟨some 56, .pick (.tmp 51) (.val (.bool true)) (.tmp 55), none⟩ ::
    ⟨some 6, .mov (.tmp 56), none⟩ :: [])) <|
  .ret⟩
theorem e_ref11_lin : cFunc Try.prog kd_CRef11 Try.f96 = some c_ref11_lin := by kernel_rfl
/- touchstone/touchstoneref11.count: slots v, 0, n, 1, v, 2, n, 3, k, 5, i, 6 -/
def c_ref11_count : AFunc := ⟨22, [.tmp 4],
  .seq (.region (⟨some 4, .mov (.val (.int .i64 0)), none⟩ :: [])) <|
  .seq (.region (⟨some 5, .mov (.val (.int .i64 0)), none⟩ :: [])) <|
  .seq (.seq (.region (⟨some 6, .mov (.val (.int .i64 0)), none⟩ :: [])) <|
  .block 0 (.loop (.seq (.seq (.region (⟨some 7, .mov (.tmp 6), none⟩ ::
        ⟨some 8, .mov (.tmp 0), none⟩ ::
        ⟨some 9, .len false (.tmp 8), none⟩ ::
        ⟨some 10, .bin .lss (.tmp 7) (.tmp 9), none⟩ :: [])) <|
      .cond (.tmp 10) (.skip) <|
      .exit 0) <|
      .seq (.block 1 (.seq (.region (⟨some 13, .mov (.tmp 0), none⟩ ::
          ⟨some 14, .mov (.tmp 6), none⟩ ::
          ⟨some 15, .iaddr 1 (.tmp 13) (.tmp 14), none⟩ ::
          ⟨some 16, .load false 1 (.tmp 15), none⟩ ::
          ⟨some 17, .mov (.tmp 1), none⟩ ::
          ⟨some 18, .bin .eql (.tmp 16) (.tmp 17), none⟩ :: [])) <|
        .cond (.tmp 18) (.region (⟨some 19, .mov (.tmp 5), none⟩ ::
            ⟨some 20, .bin .add (.tmp 19) (.val (.int .i64 1)), none⟩ ::
            ⟨some 5, .mov (.tmp 20), none⟩ :: [])) <|
        .skip)) <|
      .region (⟨some 11, .mov (.tmp 6), none⟩ ::
        ⟨some 12, .bin .add (.tmp 11) (.val (.int .i64 1)), none⟩ ::
        ⟨some 6, .mov (.tmp 12), none⟩ :: [])))) <|
  .seq (.region (⟨some 21, .mov (.tmp 5), none⟩ ::
    ⟨some 4, .mov (.tmp 21), none⟩ :: [])) <|
  .ret⟩
theorem e_ref11_count : cFunc Try.prog kd_CRef11 Try.f98 = some c_ref11_count := by kernel_rfl
/- touchstone/touchstoneref11.clause: slots c, 0, v, 1, c, 2, v, 3, i, 5 -/
def c_ref11_clause : AFunc := ⟨40, [.tmp 4],
  .seq (.region (⟨some 2, .box 4 (.tmp 0), none⟩ ::
    ⟨some 4, .mov (.val (.bool false)), none⟩ :: [])) <|
  .seq (.seq (.region (⟨some 5, .mov (.val (.int .i64 0)), none⟩ :: [])) <|
  .block 0 (.loop (.seq (.seq (.region (⟨some 6, .mov (.tmp 5), none⟩ ::
        ⟨some 7, .mov (.tmp 1), none⟩ ::
        ⟨some 8, .len false (.tmp 7), none⟩ ::
        ⟨some 9, .bin .lss (.tmp 6) (.tmp 8), none⟩ :: [])) <|
      .cond (.tmp 9) (.skip) <|
      .exit 0) <|
      .seq (.block 1 (.seq (.region (⟨some 12, .faddr 2 (.tmp 2), none⟩ ::
          ⟨some 13, .load false 1 (.tmp 12), none⟩ ::
          ⟨some 14, .mov (.tmp 5), none⟩ ::
          ⟨some 15, .iaddr 1 (.tmp 13) (.tmp 14), none⟩ ::
          ⟨some 16, .load false 1 (.tmp 15), none⟩ ::
          ⟨some 17, .bin .eql (.tmp 16) (.val (.int .i64 1)), none⟩ ::
          ⟨some 18, .mov (.tmp 17), none⟩ ::
          ⟨some 19, .mov (.tmp 1), some (18, true)⟩ ::
          ⟨some 20, .mov (.tmp 5), some (18, true)⟩ ::
          ⟨some 21, .iaddr 1 (.tmp 19) (.tmp 20), some (18, true)⟩ ::
          ⟨some 22, .load false 1 (.tmp 21), some (18, true)⟩ ::
          ⟨some 23, .bin .eql (.tmp 22) (.val (.int .i64 1)), some (18, true)⟩ ::
          ⟨some 24, .pick (.tmp 18) (.tmp 23) (.val (.bool false)), none⟩ ::
          ⟨some 25, .mov (.tmp 24), none⟩ ::
          ⟨some 26, .faddr 2 (.tmp 2), some (25, false)⟩ ::
          ⟨some 27, .load false 1 (.tmp 26), some (25, false)⟩ ::
          ⟨some 28, .mov (.tmp 5), some (25, false)⟩ ::
          ⟨some 29, .iaddr 1 (.tmp 27) (.tmp 28), some (25, false)⟩ ::
          ⟨some 30, .load false 1 (.tmp 29), some (25, false)⟩ ::
          ⟨some 31, .bin .eql (.tmp 30) (.val (.int .i64 (-1))), some (25, false)⟩ ::
          ⟨some 32, .mov (.tmp 31), some (25, false)⟩ ::
          ⟨some 33, .mov (.tmp 1), some (32, true)⟩ ::
          ⟨some 34, .mov (.tmp 5), some (32, true)⟩ ::
          ⟨some 35, .iaddr 1 (.tmp 33) (.tmp 34), some (32, true)⟩ ::
          ⟨some 36, .load false 1 (.tmp 35), some (32, true)⟩ ::
          ⟨some 37, .bin .eql (.tmp 36) (.val (.int .i64 0)), some (32, true)⟩ ::
          ⟨some 38, .pick (.tmp 32) (.tmp 37) (.val (.bool false)), some (25, false)⟩ ::
          ⟨some 39, .pick (.tmp 25) (.val (.bool true)) (.tmp 38), none⟩ :: [])) <|
        .cond (.tmp 39) (.seq (.region (⟨some 4, .mov (.val (.bool true)), none⟩ :: [])) <|
          .ret) <|
        .skip)) <|
      .region (⟨some 10, .mov (.tmp 5), none⟩ ::
        ⟨some 11, .bin .add (.tmp 10) (.val (.int .i64 1)), none⟩ ::
        ⟨some 5, .mov (.tmp 11), none⟩ :: [])))) <|
  .seq (.region (⟨some 4, .mov (.val (.bool false)), none⟩ :: [])) <|
  .ret⟩
theorem e_ref11_clause : cFunc Try.prog kd_CRef11 Try.f97 = some c_ref11_clause := by kernel_rfl
/- touchstone/touchstoneref11.linear: slots kind, 0, kind, 1 -/
def c_ref11_linear : AFunc := ⟨9, [.tmp 2],
  .seq (.region (⟨some 2, .mov (.val (.bool false)), none⟩ :: [])) <|
  .seq (.region (⟨some 3, .mov (.tmp 0), none⟩ ::
    ⟨some 4, .bin .geq (.tmp 3) (.val (.int .i64 1)), none⟩ ::
    ⟨some 5, .mov (.tmp 4), none⟩ ::
    ⟨some 6, .mov (.tmp 0), some (5, true)⟩ ::
    ⟨some 7, .bin .leq (.tmp 6) (.val (.int .i64 6)), some (5, true)⟩ ::
    ⟨some 8, .pick (.tmp 5) (.tmp 7) (.val (.bool false)), none⟩ ::
    ⟨some 2, .mov (.tmp 8), none⟩ :: [])) <|
  .ret⟩
theorem e_ref11_linear : cFunc Try.prog kd_CRef11 Try.f95 = some c_ref11_linear := by kernel_rfl
/- touchstone/touchstoneref11.Holds: slots c, 0, a, 1, c, 2, a, 3, v, 5, last, 6, n, 7 -/
def c_ref11_Holds : AFunc := ⟨197, [.tmp 4],
  .seq (.region (⟨some 2, .box 4 (.tmp 0), none⟩ ::
    ⟨some 4, .mov (.val (.bool false)), none⟩ :: [])) <|
  .seq (.seq (.region (⟨some 8, .load true 4 (.tmp 2), none⟩ ::
    ⟨some 9, .mov (.tmp 1), none⟩ ::
    ⟨some 10, .call (.val (.fn (.func 93) [])) [(.tmp 8), (.tmp 9)], none⟩ ::
    ⟨some 11, .un .not (.tmp 10), none⟩ :: [])) <|
  .cond (.tmp 11) (.seq (.region (⟨some 4, .mov (.val (.bool false)), none⟩ :: [])) <|
    .ret) <|
  .skip) <|
  .seq (.region (⟨some 12, .load true 4 (.tmp 2), none⟩ ::
    ⟨some 13, .mov (.tmp 1), none⟩ ::
    ⟨some 14, .call (.val (.fn (.func 94) [])) [(.tmp 12), (.tmp 13)], none⟩ ::
    ⟨some 5, .mov (.tmp 14), none⟩ :: [])) <|
  .seq (.region (⟨some 6, .mov (.val (.int .i64 0)), none⟩ :: [])) <|
  .seq (.seq (.region (⟨some 15, .mov (.tmp 5), none⟩ ::
    ⟨some 16, .len false (.tmp 15), none⟩ ::
    ⟨some 17, .bin .gtr (.tmp 16) (.val (.int .i64 0)), none⟩ :: [])) <|
  .cond (.tmp 17) (.region (⟨some 18, .mov (.tmp 5), none⟩ ::
      ⟨some 19, .mov (.tmp 5), none⟩ ::
      ⟨some 20, .len false (.tmp 19), none⟩ ::
      ⟨some 21, .bin .sub (.tmp 20) (.val (.int .i64 1)), none⟩ ::
      ⟨some 22, .iaddr 1 (.tmp 18) (.tmp 21), none⟩ ::
      ⟨some 23, .load false 1 (.tmp 22), none⟩ ::
      ⟨some 6, .mov (.tmp 23), none⟩ :: [])) <|
  .skip) <|
  .seq (.seq (.region (⟨some 24, .faddr 0 (.tmp 2), none⟩ ::
    ⟨some 25, .load false 1 (.tmp 24), none⟩ ::
    ⟨some 26, .call (.val (.fn (.func 95) [])) [(.tmp 25)], none⟩ :: [])) <|
  .cond (.tmp 26) (.seq (.region (⟨some 27, .load true 4 (.tmp 2), none⟩ ::
      ⟨some 28, .mov (.tmp 5), none⟩ ::
      ⟨some 29, .mov (.tmp 6), none⟩ ::
      ⟨some 30, .call (.val (.fn (.func 96) [])) [(.tmp 27), (.tmp 28), (.tmp 29)], none⟩ ::
      ⟨some 4, .mov (.tmp 30), none⟩ :: [])) <|
    .ret) <|
  .skip) <|
  .seq (.region (⟨some 31, .mov (.tmp 5), none⟩ ::
    ⟨some 32, .len false (.tmp 31), none⟩ ::
    ⟨some 33, .bin .sub (.tmp 32) (.val (.int .i64 1)), none⟩ ::
    ⟨some 7, .mov (.tmp 33), none⟩ :: [])) <|
  .seq (.seq (.region (⟨some 34, .faddr 0 (.tmp 2), none⟩ ::
    ⟨some 35, .load false 1 (.tmp 34), none⟩ :: [])) <|
  .block 0 (.seq (.region (⟨some 37, .bin .eql (.tmp 35) (.val (.int .i64 7)), none⟩ ::
      ⟨some 36, .mov (.tmp 37), none⟩ :: [])) <|
    .cond (.tmp 36) (.seq (.region (⟨some 38, .mov (.tmp 5), none⟩ ::
        ⟨some 39, .iaddr 1 (.tmp 38) (.val (.int .i64 0)), none⟩ ::
        ⟨some 40, .load false 1 (.tmp 39), none⟩ ::
        ⟨some 41, .mov (.tmp 5), none⟩ ::
        ⟨some 42, .iaddr 1 (.tmp 41) (.val (.int .i64 1)), none⟩ ::
        ⟨some 43, .load false 1 (.tmp 42), none⟩ ::
        ⟨some 44, .bin .mul (.tmp 40) (.tmp 43), none⟩ ::
        ⟨some 45, .mov (.tmp 5), none⟩ ::
        ⟨some 46, .iaddr 1 (.tmp 45) (.val (.int .i64 2)), none⟩ ::
        ⟨some 47, .load false 1 (.tmp 46), none⟩ ::
        ⟨some 48, .bin .eql (.tmp 44) (.tmp 47), none⟩ ::
        ⟨some 4, .mov (.tmp 48), none⟩ :: [])) <|
      .ret) <|
    .seq (.region (⟨some 50, .bin .eql (.tmp 35) (.val (.int .i64 8)), none⟩ ::
      ⟨some 49, .mov (.tmp 50), none⟩ :: [])) <|
    .cond (.tmp 49) (.seq (.region (⟨some 51, .mov (.tmp 5), none⟩ ::
        ⟨some 52, .iaddr 1 (.tmp 51) (.val (.int .i64 0)), none⟩ ::
        ⟨some 53, .load false 1 (.tmp 52), none⟩ ::
        ⟨some 54, .mov (.tmp 5), none⟩ ::
        ⟨some 55, .iaddr 1 (.tmp 54) (.val (.int .i64 1)), none⟩ ::
        ⟨some 56, .load false 1 (.tmp 55), none⟩ ::
        ⟨some 57, .mn (.tmp 53) [(.tmp 56)], none⟩ ::
        ⟨some 58, .mov (.tmp 5), none⟩ ::
        ⟨some 59, .iaddr 1 (.tmp 58) (.val (.int .i64 2)), none⟩ ::
        ⟨some 60, .load false 1 (.tmp 59), none⟩ ::
        ⟨some 61, .bin .eql (.tmp 57) (.tmp 60), none⟩ ::
        ⟨some 4, .mov (.tmp 61), none⟩ :: [])) <|
      .ret) <|
    .seq (.region (⟨some 63, .bin .eql (.tmp 35) (.val (.int .i64 9)), none⟩ ::
      ⟨some 62, .mov (.tmp 63), none⟩ :: [])) <|
    .cond (.tmp 62) (.seq (.region (⟨some 64, .mov (.tmp 5), none⟩ ::
        ⟨some 65, .iaddr 1 (.tmp 64) (.val (.int .i64 0)), none⟩ ::
        ⟨some 66, .load false 1 (.tmp 65), none⟩ ::
        ⟨some 67, .mov (.tmp 5), none⟩ ::
        ⟨some 68, .iaddr 1 (.tmp 67) (.val (.int .i64 1)), none⟩ ::
        ⟨some 69, .load false 1 (.tmp 68), none⟩ ::
        ⟨some 70, .mx (.tmp 66) [(.tmp 69)], none⟩ ::
        ⟨some 71, .mov (.tmp 5), none⟩ ::
        ⟨some 72, .iaddr 1 (.tmp 71) (.val (.int .i64 2)), none⟩ ::
        ⟨some 73, .load false 1 (.tmp 72), none⟩ ::
        ⟨some 74, .bin .eql (.tmp 70) (.tmp 73), none⟩ ::
        ⟨some 4, .mov (.tmp 74), none⟩ :: [])) <|
      .ret) <|
    .seq (.region (⟨some 76, .bin .eql (.tmp 35) (.val (.int .i64 10)), none⟩ ::
      ⟨some 75, .mov (.tmp 76), none⟩ :: [])) <|
    .cond (.tmp 75) (.seq (.region (⟨some 77, .mov (.tmp 5), none⟩ ::
        ⟨some 78, .iaddr 1 (.tmp 77) (.val (.int .i64 0)), none⟩ ::
        ⟨some 79, .load false 1 (.tmp 78), none⟩ ::
        ⟨some 80, .mov (.tmp 5), none⟩ ::
        ⟨some 81, .iaddr 1 (.tmp 80) (.val (.int .i64 0)), none⟩ ::
        ⟨some 82, .load false 1 (.tmp 81), none⟩ ::
        ⟨some 83, .un .neg (.tmp 82), none⟩ ::
        ⟨some 84, .mx (.tmp 79) [(.tmp 83)], none⟩ ::
        ⟨some 85, .mov (.tmp 5), none⟩ ::
        ⟨some 86, .iaddr 1 (.tmp 85) (.val (.int .i64 1)), none⟩ ::
        ⟨some 87, .load false 1 (.tmp 86), none⟩ ::
        ⟨some 88, .bin .eql (.tmp 84) (.tmp 87), none⟩ ::
        ⟨some 4, .mov (.tmp 88), none⟩ :: [])) <|
      .ret) <|
    .seq (.region (⟨some 90, .bin .eql (.tmp 35) (.val (.int .i64 15)), none⟩ ::
      ⟨some 89, .mov (.tmp 90), none⟩ :: [])) <|
    .cond (.tmp 89) (.seq (.region (⟨some 91, .mov (.tmp 5), none⟩ ::
        ⟨some 92, .iaddr 1 (.tmp 91) (.val (.int .i64 0)), none⟩ ::
        ⟨some 93, .load false 1 (.tmp 92), none⟩ ::
        ⟨some 94, .mov (.tmp 5), none⟩ ::
        ⟨some 95, .iaddr 1 (.tmp 94) (.val (.int .i64 1)), none⟩ ::
        ⟨some 96, .load false 1 (.tmp 95), none⟩ ::
        ⟨some 97, .bin .eql (.tmp 93) (.tmp 96), none⟩ ::
        ⟨some 4, .mov (.tmp 97), none⟩ :: [])) <|
      .ret) <|
    .seq (.region (⟨some 99, .bin .eql (.tmp 35) (.val (.int .i64 11)), none⟩ ::
      ⟨some 98, .mov (.tmp 99), none⟩ :: [])) <|
    .cond (.tmp 98) (.seq (.region (⟨some 100, .load true 4 (.tmp 2), none⟩ ::
        ⟨some 101, .mov (.tmp 5), none⟩ ::
        ⟨some 102, .call (.val (.fn (.func 97) [])) [(.tmp 100), (.tmp 101)], none⟩ ::
        ⟨some 4, .mov (.tmp 102), none⟩ :: [])) <|
      .ret) <|
    .seq (.region (⟨some 104, .bin .eql (.tmp 35) (.val (.int .i64 12)), none⟩ ::
      ⟨some 103, .mov (.tmp 104), none⟩ :: [])) <|
    .cond (.tmp 103) (.seq (.region (⟨some 105, .mov (.tmp 6), none⟩ ::
        ⟨some 106, .bin .eql (.tmp 105) (.val (.int .i64 1)), none⟩ ::
        ⟨some 107, .mov (.tmp 5), none⟩ ::
        ⟨some 108, .mov (.tmp 7), none⟩ ::
        ⟨some 109, .slc 1 (.tmp 107) none (some (.tmp 108)), none⟩ ::
        ⟨some 110, .call (.val (.fn (.func 98) [])) [(.tmp 109), (.val (.int .i64 1))], none⟩ ::
        ⟨some 111, .mov (.tmp 7), none⟩ ::
        ⟨some 112, .bin .eql (.tmp 110) (.tmp 111), none⟩ ::
        ⟨some 113, .eqb false (.tmp 106) (.tmp 112), none⟩ ::
        ⟨some 4, .mov (.tmp 113), none⟩ :: [])) <|
      .ret) <|
    .seq (.region (⟨some 115, .bin .eql (.tmp 35) (.val (.int .i64 13)), none⟩ ::
      ⟨some 114, .mov (.tmp 115), none⟩ :: [])) <|
    .cond (.tmp 114) (.seq (.region (⟨some 116, .mov (.tmp 6), none⟩ ::
        ⟨some 117, .bin .eql (.tmp 116) (.val (.int .i64 1)), none⟩ ::
        ⟨some 118, .mov (.tmp 5), none⟩ ::
        ⟨some 119, .mov (.tmp 7), none⟩ ::
        ⟨some 120, .slc 1 (.tmp 118) none (some (.tmp 119)), none⟩ ::
        ⟨some 121, .call (.val (.fn (.func 98) [])) [(.tmp 120), (.val (.int .i64 1))], none⟩ ::
        ⟨some 122, .bin .gtr (.tmp 121) (.val (.int .i64 0)), none⟩ ::
        ⟨some 123, .eqb false (.tmp 117) (.tmp 122), none⟩ ::
        ⟨some 4, .mov (.tmp 123), none⟩ :: [])) <|
      .ret) <|
    .seq (.region (⟨some 125, .bin .eql (.tmp 35) (.val (.int .i64 14)), none⟩ ::
      ⟨some 124, .mov (.tmp 125), none⟩ :: [])) <|
    .cond (.tmp 124) (.seq (.region (⟨some 126, .mov (.tmp 5), none⟩ ::
        ⟨some 127, .iaddr 1 (.tmp 126) (.val (.int .i64 2)), none⟩ ::
        ⟨some 128, .load false 1 (.tmp 127), none⟩ ::
        ⟨some 129, .bin .eql (.tmp 128) (.val (.int .i64 1)), none⟩ ::
        ⟨some 130, .mov (.tmp 5), none⟩ ::
        ⟨some 131, .iaddr 1 (.tmp 130) (.val (.int .i64 0)), none⟩ ::
        ⟨some 132, .load false 1 (.tmp 131), none⟩ ::
        ⟨some 133, .mov (.tmp 5), none⟩ ::
        ⟨some 134, .iaddr 1 (.tmp 133) (.val (.int .i64 1)), none⟩ ::
        ⟨some 135, .load false 1 (.tmp 134), none⟩ ::
        ⟨some 136, .bin .neq (.tmp 132) (.tmp 135), none⟩ ::
        ⟨some 137, .eqb false (.tmp 129) (.tmp 136), none⟩ ::
        ⟨some 4, .mov (.tmp 137), none⟩ :: [])) <|
      .ret) <|
    .seq (.region (⟨some 139, .bin .eql (.tmp 35) (.val (.int .i64 16)), none⟩ ::
      ⟨some 138, .mov (.tmp 139), none⟩ :: [])) <|
    .cond (.tmp 138) (.seq (.region (⟨some 140, .mov (.tmp 5), none⟩ ::
        ⟨some 141, .iaddr 1 (.tmp 140) (.val (.int .i64 0)), none⟩ ::
        ⟨some 142, .load false 1 (.tmp 141), none⟩ ::
        ⟨some 143, .bin .geq (.tmp 142) (.val (.int .i64 1)), none⟩ ::
        ⟨some 144, .mov (.tmp 143), none⟩ ::
        ⟨some 145, .mov (.tmp 5), some (144, true)⟩ ::
        ⟨some 146, .iaddr 1 (.tmp 145) (.val (.int .i64 0)), some (144, true)⟩ ::
        ⟨some 147, .load false 1 (.tmp 146), some (144, true)⟩ ::
        ⟨some 148, .faddr 2 (.tmp 2), some (144, true)⟩ ::
        ⟨some 149, .load false 1 (.tmp 148), some (144, true)⟩ ::
        ⟨some 150, .len false (.tmp 149), some (144, true)⟩ ::
        ⟨some 151, .bin .leq (.tmp 147) (.tmp 150), some (144, true)⟩ ::
        ⟨some 152, .pick (.tmp 144) (.tmp 151) (.val (.bool false)), none⟩ ::
        ⟨some 153, .mov (.tmp 152), none⟩ ::
        ⟨some 154, .faddr 2 (.tmp 2), some (153, true)⟩ ::
        ⟨some 155, .load false 1 (.tmp 154), some (153, true)⟩ ::
        ⟨some 156, .mov (.tmp 5), some (153, true)⟩ ::
        ⟨some 157, .iaddr 1 (.tmp 156) (.val (.int .i64 0)), some (153, true)⟩ ::
        ⟨some 158, .load false 1 (.tmp 157), some (153, true)⟩ ::
        ⟨some 159, .bin .sub (.tmp 158) (.val (.int .i64 1)), some (153, true)⟩ ::
        ⟨some 160, .iaddr 1 (.tmp 155) (.tmp 159), some (153, true)⟩ ::
        ⟨some 161, .load false 1 (.tmp 160), some (153, true)⟩ ::
        ⟨some 162, .mov (.tmp 5), some (153, true)⟩ ::
        ⟨some 163, .iaddr 1 (.tmp 162) (.val (.int .i64 1)), some (153, true)⟩ ::
        ⟨some 164, .load false 1 (.tmp 163), some (153, true)⟩ ::
        ⟨some 165, .bin .eql (.tmp 161) (.tmp 164), some (153, true)⟩ ::
        ⟨some 166, .pick (.tmp 153) (.tmp 165) (.val (.bool false)), none⟩ ::
        ⟨some 4, .mov (.tmp 166), none⟩ :: [])) <|
      .ret) <|
    .seq (.region (⟨some 168, .bin .eql (.tmp 35) (.val (.int .i64 17)), none⟩ ::
      ⟨some 167, .mov (.tmp 168), none⟩ :: [])) <|
    .cond (.tmp 167) (.seq (.region (⟨some 169, .mov (.tmp 5), none⟩ ::
        ⟨some 170, .iaddr 1 (.tmp 169) (.val (.int .i64 0)), none⟩ ::
        ⟨some 171, .load false 1 (.tmp 170), none⟩ ::
        ⟨some 172, .bin .geq (.tmp 171) (.val (.int .i64 1)), none⟩ ::
        ⟨some 173, .mov (.tmp 172), none⟩ ::
        ⟨some 174, .mov (.tmp 5), some (173, true)⟩ ::
        ⟨some 175, .iaddr 1 (.tmp 174) (.val (.int .i64 0)), some (173, true)⟩ ::
        ⟨some 176, .load false 1 (.tmp 175), some (173, true)⟩ ::
        ⟨some 177, .mov (.tmp 7), some (173, true)⟩ ::
        ⟨some 178, .bin .lss (.tmp 176) (.tmp 177), some (173, true)⟩ ::
        ⟨some 179, .pick (.tmp 173) (.tmp 178) (.val (.bool false)), none⟩ ::
        ⟨some 180, .mov (.tmp 179), none⟩ ::
        ⟨some 181, .mov (.tmp 5), some (180, true)⟩ ::
        ⟨some 182, .mov (.tmp 5), some (180, true)⟩ ::
        ⟨some 183, .iaddr 1 (.tmp 182) (.val (.int .i64 0)), some (180, true)⟩ ::
        ⟨some 184, .load false 1 (.tmp 183), some (180, true)⟩ ::
        ⟨some 185, .iaddr 1 (.tmp 181) (.tmp 184), some (180, true)⟩ ::
        ⟨some 186, .load false 1 (.tmp 185), some (180, true)⟩ ::
        ⟨some 187, .mov (.tmp 6), some (180, true)⟩ ::
        ⟨some 188, .bin .eql (.tmp 186) (.tmp 187), some (180, true)⟩ ::
        ⟨some 189, .pick (.tmp 180) (.tmp 188) (.val (.bool false)), none⟩ ::
        ⟨some 4, .mov (.tmp 189), none⟩ :: [])) <|
      .ret) <|
    .seq (.region (⟨some 191, .bin .eql (.tmp 35) (.val (.int .i64 18)), none⟩ ::
      ⟨some 190, .mov (.tmp 191), none⟩ :: [])) <|
    .cond (.tmp 190) (.seq (.region (⟨some 192, .mov (.tmp 5), none⟩ ::
        ⟨some 193, .call (.val (.fn (.func 99) [])) [(.tmp 192)], none⟩ ::
        ⟨some 4, .mov (.tmp 193), none⟩ :: [])) <|
      .ret) <|
    .skip)) <|
  .seq (.region (⟨some 194, .load true 4 (.tmp 2), none⟩ ::
    ⟨some 195, .mov (.tmp 5), none⟩ ::
    ⟨some 196, .call (.val (.fn (.func 100) [])) [(.tmp 194), (.tmp 195)], none⟩ ::
    ⟨some 4, .mov (.tmp 196), none⟩ :: [])) <|
  .ret⟩
theorem e_ref11_Holds : cFunc Try.prog kd_CRef11 Try.f63 = some c_ref11_Holds := by kernel_rfl
/- touchstone/touchstoneref11.Boxes: slots doms, 0, most, 1, doms, 2, most, 3, n, 5, i, 6, k, 7 -/
def c_ref11_Boxes : AFunc := ⟨35, [.tmp 4],
  .seq (.region (⟨some 4, .mov (.val (.int .i64 0)), none⟩ :: [])) <|
  .seq (.region (⟨some 5, .mov (.val (.int .i64 1)), none⟩ :: [])) <|
  .seq (.seq (.region (⟨some 6, .mov (.val (.int .i64 0)), none⟩ :: [])) <|
  .block 0 (.loop (.seq (.seq (.region (⟨some 8, .mov (.tmp 6), none⟩ ::
        ⟨some 9, .mov (.tmp 0), none⟩ ::
        ⟨some 10, .len false (.tmp 9), none⟩ ::
        ⟨some 11, .bin .lss (.tmp 8) (.tmp 10), none⟩ :: [])) <|
      .cond (.tmp 11) (.skip) <|
      .exit 0) <|
      .seq (.block 1 (.seq (.region (⟨some 14, .mov (.tmp 0), none⟩ ::
          ⟨some 15, .mov (.tmp 6), none⟩ ::
          ⟨some 16, .iaddr 1 (.tmp 14) (.tmp 15), none⟩ ::
          ⟨some 17, .load false 1 (.tmp 16), none⟩ ::
          ⟨some 18, .call (.val (.fn (.func 77) [])) [(.tmp 17)], none⟩ ::
          ⟨some 7, .mov (.tmp 18), none⟩ :: [])) <|
        .seq (.seq (.region (⟨some 19, .mov (.tmp 7), none⟩ ::
          ⟨some 20, .mov (.tmp 1), none⟩ ::
          ⟨some 21, .bin .gtr (.tmp 19) (.tmp 20), none⟩ ::
          ⟨some 22, .mov (.tmp 21), none⟩ ::
          ⟨some 23, .mov (.tmp 5), some (22, false)⟩ ::
          ⟨some 24, .mov (.tmp 7), some (22, false)⟩ ::
          ⟨some 25, .bin .mul (.tmp 23) (.tmp 24), some (22, false)⟩ ::
          ⟨some 26, .mov (.tmp 1), some (22, false)⟩ ::
          ⟨some 27, .bin .gtr (.tmp 25) (.tmp 26), some (22, false)⟩ ::
          ⟨some 28, .pick (.tmp 22) (.val (.bool true)) (.tmp 27), none⟩ :: [])) <|
        .cond (.tmp 28) (.seq (.region (⟨some 29, .mov (.tmp 1), none⟩ ::
            ⟨some 30, .bin .add (.tmp 29) (.val (.int .i64 1)), none⟩ ::
            ⟨some 4, .mov (.tmp 30), none⟩ :: [])) <|
          .ret) <|
        .skip) <|
        .region (⟨some 31, .mov (.tmp 5), none⟩ ::
          ⟨some 32, .mov (.tmp 7), none⟩ ::
          ⟨some 33, .bin .mul (.tmp 31) (.tmp 32), none⟩ ::
          ⟨some 5, .mov (.tmp 33), none⟩ :: []))) <|
      .region (⟨some 12, .mov (.tmp 6), none⟩ ::
        ⟨some 13, .bin .add (.tmp 12) (.val (.int .i64 1)), none⟩ ::
        ⟨some 6, .mov (.tmp 13), none⟩ :: [])))) <|
  .seq (.region (⟨some 34, .mov (.tmp 5), none⟩ ::
    ⟨some 4, .mov (.tmp 34), none⟩ :: [])) <|
  .ret⟩
theorem e_ref11_Boxes : cFunc Try.prog kd_CRef11 Try.f44 = some c_ref11_Boxes := by kernel_rfl
/- touchstone/touchstoneref11.first: slots doms, 0, doms, 1, out, 3, i, 4 -/
def c_ref11_first : AFunc := ⟨22, [.tmp 2],
  .seq (.region (⟨some 2, .mov (.val .nils), none⟩ :: [])) <|
  .seq (.region (⟨some 3, .mov (.val .nils), none⟩ :: [])) <|
  .seq (.seq (.region (⟨some 4, .mov (.val (.int .i64 0)), none⟩ :: [])) <|
  .block 0 (.loop (.seq (.seq (.region (⟨some 5, .mov (.tmp 4), none⟩ ::
        ⟨some 6, .mov (.tmp 0), none⟩ ::
        ⟨some 7, .len false (.tmp 6), none⟩ ::
        ⟨some 8, .bin .lss (.tmp 5) (.tmp 7), none⟩ :: [])) <|
      .cond (.tmp 8) (.skip) <|
      .exit 0) <|
      .seq (.block 1 (.region (⟨some 11, .mov (.tmp 3), none⟩ ::
          ⟨some 12, .mov (.tmp 0), none⟩ ::
          ⟨some 13, .mov (.tmp 4), none⟩ ::
          ⟨some 14, .iaddr 1 (.tmp 12) (.tmp 13), none⟩ ::
          ⟨some 15, .load false 1 (.tmp 14), none⟩ ::
          ⟨some 16, .iaddr 2 (.tmp 15) (.val (.int .i64 0)), none⟩ ::
          ⟨some 17, .faddr 0 (.tmp 16), none⟩ ::
          ⟨some 18, .load false 1 (.tmp 17), none⟩ ::
          ⟨some 19, .bslice 1 [(.tmp 18)], none⟩ ::
          ⟨some 20, .app 1 8 (.tmp 11) (.tmp 19), none⟩ ::
          ⟨some 3, .mov (.tmp 20), none⟩ :: []))) <|
      .region (⟨some 9, .mov (.tmp 4), none⟩ ::
        ⟨some 10, .bin .add (.tmp 9) (.val (.int .i64 1)), none⟩ ::
        ⟨some 4, .mov (.tmp 10), none⟩ :: [])))) <|
  .seq (.region (⟨some 21, .mov (.tmp 3), none⟩ ::
    ⟨some 2, .mov (.tmp 21), none⟩ :: [])) <|
  .ret⟩
theorem e_ref11_first : cFunc Try.prog kd_CRef11 Try.f62 = some c_ref11_first := by kernel_rfl
/- touchstone/touchstoneref11.after: slots doms, 0, a, 1, doms, 2, a, 3, out, 6, i, 7, n, 8, ok, 9 -/
def c_ref11_after : AFunc := ⟨50, [.tmp 4, .tmp 5],
  .seq (.region (⟨some 4, .mov (.val .nils), none⟩ ::
    ⟨some 5, .mov (.val (.bool false)), none⟩ :: [])) <|
  .seq (.region (⟨some 10, .bslice 1 [], none⟩ ::
    ⟨some 11, .mov (.tmp 1), none⟩ ::
    ⟨some 12, .app 1 8 (.tmp 10) (.tmp 11), none⟩ ::
    ⟨some 6, .mov (.tmp 12), none⟩ :: [])) <|
  .seq (.seq (.region (⟨some 13, .mov (.tmp 1), none⟩ ::
    ⟨some 14, .len false (.tmp 13), none⟩ ::
    ⟨some 15, .bin .sub (.tmp 14) (.val (.int .i64 1)), none⟩ ::
    ⟨some 7, .mov (.tmp 15), none⟩ :: [])) <|
  .block 0 (.loop (.seq (.seq (.region (⟨some 16, .mov (.tmp 7), none⟩ ::
        ⟨some 17, .bin .geq (.tmp 16) (.val (.int .i64 0)), none⟩ :: [])) <|
      .cond (.tmp 17) (.skip) <|
      .exit 0) <|
      .seq (.block 1 (.seq (.region (⟨some 21, .mov (.tmp 0), none⟩ ::
          ⟨some 22, .mov (.tmp 7), none⟩ ::
          ⟨some 23, .iaddr 1 (.tmp 21) (.tmp 22), none⟩ ::
          ⟨some 24, .load false 1 (.tmp 23), none⟩ ::
          ⟨some 25, .mov (.tmp 1), none⟩ ::
          ⟨some 26, .mov (.tmp 7), none⟩ ::
          ⟨some 27, .iaddr 1 (.tmp 25) (.tmp 26), none⟩ ::
          ⟨some 28, .load false 1 (.tmp 27), none⟩ ::
          ⟨some 29, .bin .add (.tmp 28) (.val (.int .i64 1)), none⟩ ::
          ⟨some 30, .call (.val (.fn (.func 101) [])) [(.tmp 24), (.tmp 29)], none⟩ ::
          ⟨some 20, .mov (.tmp 30), none⟩ ::
          ⟨some 31, .ext (.tmp 20) 0, none⟩ ::
          ⟨some 32, .ext (.tmp 20) 1, none⟩ ::
          ⟨some 8, .mov (.tmp 31), none⟩ ::
          ⟨some 9, .mov (.tmp 32), none⟩ :: [])) <|
        .seq (.seq (.region (⟨some 33, .mov (.tmp 9), none⟩ :: [])) <|
        .cond (.tmp 33) (.seq (.region (⟨some 34, .mov (.tmp 6), none⟩ ::
            ⟨some 35, .mov (.tmp 7), none⟩ ::
            ⟨some 36, .mov (.tmp 8), none⟩ ::
            ⟨some 37, .iaddr 1 (.tmp 34) (.tmp 35), none⟩ ::
            ⟨none, .store 1 (.tmp 37) (.tmp 36), none⟩ :: [])) <|
          .seq (.region (⟨some 38, .mov (.tmp 6), none⟩ ::
            ⟨some 4, .mov (.tmp 38), none⟩ ::
            ⟨some 5, .mov (.val (.bool true)), none⟩ :: [])) <|
          .ret) <|
        .skip) <|
        .region (⟨some 39, .mov (.tmp 6), none⟩ ::
          ⟨some 40, .mov (.tmp 7), none⟩ ::
          ⟨some 41, .mov (.tmp 0), none⟩ ::
          ⟨some 42, .mov (.tmp 7), none⟩ ::
          ⟨some 43, .iaddr 1 (.tmp 41) (.tmp 42), none⟩ ::
          ⟨some 44, .load false 1 (.tmp 43), none⟩ ::
          ⟨some 45, .iaddr 2 (.tmp 44) (.val (.int .i64 0)), none⟩ ::
          ⟨some 46, .faddr 0 (.tmp 45), none⟩ ::
          ⟨some 47, .load false 1 (.tmp 46), none⟩ ::
          ⟨some 48, .iaddr 1 (.tmp 39) (.tmp 40), none⟩ ::
          ⟨none, .store 1 (.tmp 48) (.tmp 47), none⟩ :: []))) <|
      .region (⟨some 18, .mov (.tmp 7), none⟩ ::
        ⟨some 19, .bin .sub (.tmp 18) (.val (.int .i64 1)), none⟩ ::
        ⟨some 7, .mov (.tmp 19), none⟩ :: [])))) <|
  .seq (.region (⟨some 49, .mov (.tmp 6), none⟩ ::
    ⟨some 4, .mov (.tmp 49), none⟩ ::
    ⟨some 5, .mov (.val (.bool false)), none⟩ :: [])) <|
  .ret⟩
theorem e_ref11_after : cFunc Try.prog kd_CRef11 Try.f64 = some c_ref11_after := by kernel_rfl
/- touchstone/touchstoneref11.Every: slots doms, 0, cons, 1, doms, 2, cons, 3, out, 5, i, 6, a, 7, ok, 8, holds, 9, i, 10 -/
def c_ref11_Every : AFunc := ⟨54, [.tmp 4],
  .seq (.region (⟨some 4, .mov (.val .nils), none⟩ :: [])) <|
  .seq (.region (⟨some 5, .mov (.val .nils), none⟩ :: [])) <|
  .seq (.seq (.region (⟨some 6, .mov (.val (.int .i64 0)), none⟩ :: [])) <|
  .block 0 (.loop (.seq (.seq (.region (⟨some 11, .mov (.tmp 6), none⟩ ::
        ⟨some 12, .mov (.tmp 0), none⟩ ::
        ⟨some 13, .len false (.tmp 12), none⟩ ::
        ⟨some 14, .bin .lss (.tmp 11) (.tmp 13), none⟩ :: [])) <|
      .cond (.tmp 14) (.skip) <|
      .exit 0) <|
      .seq (.block 1 (.seq (.region (⟨some 17, .mov (.tmp 0), none⟩ ::
          ⟨some 18, .mov (.tmp 6), none⟩ ::
          ⟨some 19, .iaddr 1 (.tmp 17) (.tmp 18), none⟩ ::
          ⟨some 20, .load false 1 (.tmp 19), none⟩ ::
          ⟨some 21, .len false (.tmp 20), none⟩ ::
          ⟨some 22, .bin .eql (.tmp 21) (.val (.int .i64 0)), none⟩ :: [])) <|
        .cond (.tmp 22) (.seq (.region (⟨some 23, .mov (.tmp 5), none⟩ ::
            ⟨some 4, .mov (.tmp 23), none⟩ :: [])) <|
          .ret) <|
        .skip)) <|
      .region (⟨some 15, .mov (.tmp 6), none⟩ ::
        ⟨some 16, .bin .add (.tmp 15) (.val (.int .i64 1)), none⟩ ::
        ⟨some 6, .mov (.tmp 16), none⟩ :: [])))) <|
  .seq (.region (⟨some 24, .mov (.tmp 0), none⟩ ::
    ⟨some 25, .call (.val (.fn (.func 62) [])) [(.tmp 24)], none⟩ ::
    ⟨some 7, .mov (.tmp 25), none⟩ ::
    ⟨some 8, .mov (.val (.bool true)), none⟩ :: [])) <|
  .seq (.block 2 (.loop (.seq (.seq (.region (⟨some 26, .mov (.tmp 8), none⟩ :: [])) <|
      .cond (.tmp 26) (.skip) <|
      .exit 2) <|
      .block 3 (.seq (.region (⟨some 9, .mov (.val (.bool true)), none⟩ :: [])) <|
        .seq (.seq (.region (⟨some 10, .mov (.val (.int .i64 0)), none⟩ :: [])) <|
        .block 4 (.loop (.seq (.seq (.region (⟨some 27, .mov (.tmp 10), none⟩ ::
              ⟨some 28, .mov (.tmp 1), none⟩ ::
              ⟨some 29, .len false (.tmp 28), none⟩ ::
              ⟨some 30, .bin .lss (.tmp 27) (.tmp 29), none⟩ ::
              ⟨some 31, .mov (.tmp 30), none⟩ ::
              ⟨some 32, .mov (.tmp 9), some (31, true)⟩ ::
              ⟨some 33, .pick (.tmp 31) (.tmp 32) (.val (.bool false)), none⟩ :: [])) <|
            .cond (.tmp 33) (.skip) <|
            .exit 4) <|
            .seq (.block 5 (.region (⟨some 36, .mov (.tmp 1), none⟩ ::
                ⟨some 37, .mov (.tmp 10), none⟩ ::
                ⟨some 38, .iaddr 4 (.tmp 36) (.tmp 37), none⟩ ::
                ⟨some 39, .load true 4 (.tmp 38), none⟩ ::
                ⟨some 40, .mov (.tmp 7), none⟩ ::
                ⟨some 41, .call (.val (.fn (.func 63) [])) [(.tmp 39), (.tmp 40)], none⟩ ::
                ⟨some 9, .mov (.tmp 41), none⟩ :: []))) <|
            .region (⟨some 34, .mov (.tmp 10), none⟩ ::
              ⟨some 35, .bin .add (.tmp 34) (.val (.int .i64 1)), none⟩ ::
              ⟨some 10, .mov (.tmp 35), none⟩ :: [])))) <|
        .seq (.seq (.region (⟨some 42, .mov (.tmp 9), none⟩ :: [])) <|
        .cond (.tmp 42) (.region (⟨some 43, .mov (.tmp 5), none⟩ ::
            ⟨some 44, .mov (.tmp 7), none⟩ ::
            ⟨some 45, .bslice 1 [(.tmp 44)], none⟩ ::
            ⟨some 46, .app 1 24 (.tmp 43) (.tmp 45), none⟩ ::
            ⟨some 5, .mov (.tmp 46), none⟩ :: [])) <|
        .skip) <|
        .region (⟨some 48, .mov (.tmp 0), none⟩ ::
          ⟨some 49, .mov (.tmp 7), none⟩ ::
          ⟨some 50, .call (.val (.fn (.func 64) [])) [(.tmp 48), (.tmp 49)], none⟩ ::
          ⟨some 47, .mov (.tmp 50), none⟩ ::
          ⟨some 51, .ext (.tmp 47) 0, none⟩ ::
          ⟨some 52, .ext (.tmp 47) 1, none⟩ ::
          ⟨some 7, .mov (.tmp 51), none⟩ ::
          ⟨some 8, .mov (.tmp 52), none⟩ :: []))))) <|
  .seq (.region (⟨some 53, .mov (.tmp 5), none⟩ ::
    ⟨some 4, .mov (.tmp 53), none⟩ :: [])) <|
  .ret⟩
theorem e_ref11_Every : cFunc Try.prog kd_CRef11 Try.f31 = some c_ref11_Every := by kernel_rfl
end Go.Proofs.Ytclpkkbamgmooaa
