/- The code of functions, as abstract code. Printed by program. What the functions of package ref11 compute: values, sum, lin, count, clause, Asked. What the functions of package ref11 compute, continued: Asked, Holds. The code of functions, as abstract code. Printed by program. What the functions of package ref11 compute, continued: unlike values, tasks. What the functions of package ref11 compute, continued: Holds. -/
import Derived.Test.YtnhedjpghpdbdaaAv2
import Derived.Test.YtnhedjpghpdbdaaProg
import Derived.Test.YtnhedjpghpdbdaaGRef08
import Derived.Test.YtnhedjpghpdbdaaPlMod
namespace Go.Proofs.Ytnhedjpghpdbdaa
open Av
set_option linter.unusedVariables false
set_option maxRecDepth 100000
def kd_CRef11 (f : Nat) : Nat := if f = 59 then 1 else 0
/- touchstone/touchstoneref11.values: slots c, 0, a, 1, c, 2, a, 3, out, 5, i, 6 -/
def c_ref11_values : AFunc := ⟨26, [.tmp 4],
  .seq (.region (⟨some 2, .box 4 (.tmp 0), none⟩ ::
    ⟨some 4, .mov (.val .nils), none⟩ :: [])) <|
  .seq (.region (⟨some 5, .mov (.val .nils), none⟩ :: [])) <|
  .seq (.seq (.region (⟨some 6, .mov (.val (.int .i64 0)), none⟩ :: [])) <|
  .block 0 (.loop (.seq (.seq (.region (⟨some 7, .mov (.tmp 6), none⟩ ::
        ⟨some 8, .faddr 1 (.tmp 2), none⟩ ::
        ⟨some 9, .load false 1 (.tmp 8), none⟩ ::
        ⟨some 10, .len false (.tmp 9), none⟩ ::
        ⟨some 11, .bin .lss (.tmp 7) (.tmp 10), none⟩ :: [])) <|
      .cond (.tmp 11) (.skip) <|
      .exit 0) <|
      .seq (.block 1 (.region (⟨some 14, .mov (.tmp 5), none⟩ ::
          ⟨some 15, .mov (.tmp 1), none⟩ ::
          ⟨some 16, .faddr 1 (.tmp 2), none⟩ ::
          ⟨some 17, .load false 1 (.tmp 16), none⟩ ::
          ⟨some 18, .mov (.tmp 6), none⟩ ::
          ⟨some 19, .iaddr 1 (.tmp 17) (.tmp 18), none⟩ ::
          ⟨some 20, .load false 1 (.tmp 19), none⟩ ::
          ⟨some 21, .iaddr 1 (.tmp 15) (.tmp 20), none⟩ ::
          ⟨some 22, .load false 1 (.tmp 21), none⟩ ::
          ⟨some 23, .bslice 1 [(.tmp 22)], none⟩ ::
          ⟨some 24, .app 1 8 (.tmp 14) (.tmp 23), none⟩ ::
          ⟨some 5, .mov (.tmp 24), none⟩ :: []))) <|
      .region (⟨some 12, .mov (.tmp 6), none⟩ ::
        ⟨some 13, .bin .add (.tmp 12) (.val (.int .i64 1)), none⟩ ::
        ⟨some 6, .mov (.tmp 13), none⟩ :: [])))) <|
  .seq (.region (⟨some 25, .mov (.tmp 5), none⟩ ::
    ⟨some 4, .mov (.tmp 25), none⟩ :: [])) <|
  .ret⟩
theorem e_ref11_values : cFunc Try.prog kd_CRef11 Try.f60 = some c_ref11_values := by kernel_rfl
/- touchstone/touchstoneref11.Asked: slots c, 0, a, 1, c, 2, a, 3, m, 5, i, 6, d, 7, i, 8, v, 9 -/
def c_ref11_Asked : AFunc := ⟨91, [.tmp 4],
  .seq (.region (⟨some 2, .box 4 (.tmp 0), none⟩ ::
    ⟨some 4, .mov (.val (.bool false)), none⟩ :: [])) <|
  .seq (.seq (.region (⟨some 10, .faddr 2 (.tmp 2), none⟩ ::
    ⟨some 11, .load false 1 (.tmp 10), none⟩ ::
    ⟨some 12, .len false (.tmp 11), none⟩ ::
    ⟨some 13, .bin .gtr (.tmp 12) (.val (.int .i64 128)), none⟩ ::
    ⟨some 14, .mov (.tmp 13), none⟩ ::
    ⟨some 15, .faddr 1 (.tmp 2), some (14, false)⟩ ::
    ⟨some 16, .load false 1 (.tmp 15), some (14, false)⟩ ::
    ⟨some 17, .len false (.tmp 16), some (14, false)⟩ ::
    ⟨some 18, .bin .gtr (.tmp 17) (.val (.int .i64 32)), some (14, false)⟩ ::
    ⟨some 19, .pick (.tmp 14) (.val (.bool true)) (.tmp 18), none⟩ :: [])) <|
  .cond (.tmp 19) (.seq (.region (⟨some 4, .mov (.val (.bool false)), none⟩ :: [])) <|
    .ret) <|
  .skip) <|
  .seq (.region (⟨some 20, .build [.nils, .nils, (.int .i64 0), (.int .i64 0)] [], none⟩ ::
    ⟨some 5, .alloc (.agg [.nils, .nils, (.int .i64 0), (.int .i64 0)]), none⟩ ::
    ⟨none, .store 4 (.tmp 5) (.tmp 20), none⟩ :: [])) <|
  .seq (.seq (.region (⟨some 6, .mov (.val (.int .i64 0)), none⟩ :: [])) <|
  .block 0 (.loop (.seq (.seq (.region (⟨some 21, .mov (.tmp 6), none⟩ ::
        ⟨some 22, .faddr 1 (.tmp 2), none⟩ ::
        ⟨some 23, .load false 1 (.tmp 22), none⟩ ::
        ⟨some 24, .len false (.tmp 23), none⟩ ::
        ⟨some 25, .bin .lss (.tmp 21) (.tmp 24), none⟩ :: [])) <|
      .cond (.tmp 25) (.skip) <|
      .exit 0) <|
      .seq (.block 1 (.seq (.region (⟨some 28, .faddr 1 (.tmp 2), none⟩ ::
          ⟨some 29, .load false 1 (.tmp 28), none⟩ ::
          ⟨some 30, .mov (.tmp 6), none⟩ ::
          ⟨some 31, .iaddr 1 (.tmp 29) (.tmp 30), none⟩ ::
          ⟨some 32, .load false 1 (.tmp 31), none⟩ ::
          ⟨some 33, .bin .lss (.tmp 32) (.val (.int .i64 0)), none⟩ ::
          ⟨some 34, .mov (.tmp 33), none⟩ ::
          ⟨some 35, .faddr 1 (.tmp 2), some (34, false)⟩ ::
          ⟨some 36, .load false 1 (.tmp 35), some (34, false)⟩ ::
          ⟨some 37, .mov (.tmp 6), some (34, false)⟩ ::
          ⟨some 38, .iaddr 1 (.tmp 36) (.tmp 37), some (34, false)⟩ ::
          ⟨some 39, .load false 1 (.tmp 38), some (34, false)⟩ ::
          ⟨some 40, .mov (.tmp 1), some (34, false)⟩ ::
          ⟨some 41, .len false (.tmp 40), some (34, false)⟩ ::
          ⟨some 42, .bin .geq (.tmp 39) (.tmp 41), some (34, false)⟩ ::
          ⟨some 43, .pick (.tmp 34) (.val (.bool true)) (.tmp 42), none⟩ ::
          ⟨some 44, .mov (.tmp 43), none⟩ ::
          ⟨some 45, .mov (.tmp 1), some (44, false)⟩ ::
          ⟨some 46, .faddr 1 (.tmp 2), some (44, false)⟩ ::
          ⟨some 47, .load false 1 (.tmp 46), some (44, false)⟩ ::
          ⟨some 48, .mov (.tmp 6), some (44, false)⟩ ::
          ⟨some 49, .iaddr 1 (.tmp 47) (.tmp 48), some (44, false)⟩ ::
          ⟨some 50, .load false 1 (.tmp 49), some (44, false)⟩ ::
          ⟨some 51, .iaddr 1 (.tmp 45) (.tmp 50), some (44, false)⟩ ::
          ⟨some 52, .load false 1 (.tmp 51), some (44, false)⟩ ::
          ⟨some 53, .call (.val (.fn (.func 58) [])) [(.tmp 52)], some (44, false)⟩ ::
          ⟨some 54, .un .not (.tmp 53), some (44, false)⟩ ::
          ⟨some 55, .pick (.tmp 44) (.val (.bool true)) (.tmp 54), none⟩ :: [])) <|
        .cond (.tmp 55) (.seq (.region (⟨some 4, .mov (.val (.bool false)), none⟩ :: [])) <|
          .ret) <|
        .skip)) <|
      .region (⟨some 26, .mov (.tmp 6), none⟩ ::
        ⟨some 27, .bin .add (.tmp 26) (.val (.int .i64 1)), none⟩ ::
        ⟨some 6, .mov (.tmp 27), none⟩ :: [])))) <|
  .seq (.region (⟨some 56, .load true 4 (.tmp 2), none⟩ ::
    ⟨some 7, .alloc (.agg [(.int .i64 0), .nils, .nils, (.int .i64 0)]), none⟩ ::
    ⟨none, .store 4 (.tmp 7) (.tmp 56), none⟩ :: [])) <|
  .seq (.region (⟨some 57, .faddr 1 (.tmp 7), none⟩ ::
    ⟨none, .store 1 (.tmp 57) (.val .nils), none⟩ :: [])) <|
  .seq (.seq (.region (⟨some 8, .mov (.val (.int .i64 0)), none⟩ :: [])) <|
  .block 2 (.loop (.seq (.seq (.region (⟨some 58, .mov (.tmp 8), none⟩ ::
        ⟨some 59, .faddr 1 (.tmp 2), none⟩ ::
        ⟨some 60, .load false 1 (.tmp 59), none⟩ ::
        ⟨some 61, .len false (.tmp 60), none⟩ ::
        ⟨some 62, .bin .lss (.tmp 58) (.tmp 61), none⟩ :: [])) <|
      .cond (.tmp 62) (.skip) <|
      .exit 2) <|
      .seq (.block 3 (.seq (.region (⟨some 65, .mov (.tmp 1), none⟩ ::
          ⟨some 66, .faddr 1 (.tmp 2), none⟩ ::
          ⟨some 67, .load false 1 (.tmp 66), none⟩ ::
          ⟨some 68, .mov (.tmp 8), none⟩ ::
          ⟨some 69, .iaddr 1 (.tmp 67) (.tmp 68), none⟩ ::
          ⟨some 70, .load false 1 (.tmp 69), none⟩ ::
          ⟨some 71, .iaddr 1 (.tmp 65) (.tmp 70), none⟩ ::
          ⟨some 72, .load false 1 (.tmp 71), none⟩ ::
          ⟨some 9, .mov (.tmp 72), none⟩ :: [])) <|
        .seq (.region (⟨some 73, .faddr 0 (.tmp 5), none⟩ ::
          ⟨some 74, .load false 1 (.tmp 73), none⟩ ::
          ⟨some 75, .mov (.tmp 9), none⟩ ::
          ⟨some 76, .mov (.tmp 9), none⟩ ::
          ⟨some 77, .build [(.int .i64 0), (.int .i64 0)] [(0, 1, (.tmp 75)), (1, 1, (.tmp 76))], none⟩ ::
          ⟨some 78, .bslice 2 [(.tmp 77)], none⟩ ::
          ⟨some 79, .bslice 1 [(.tmp 78)], none⟩ ::
          ⟨some 80, .app 1 24 (.tmp 74) (.tmp 79), none⟩ ::
          ⟨some 81, .faddr 0 (.tmp 5), none⟩ ::
          ⟨none, .store 1 (.tmp 81) (.tmp 80), none⟩ :: [])) <|
        .region (⟨some 82, .faddr 1 (.tmp 7), none⟩ ::
          ⟨some 83, .load false 1 (.tmp 82), none⟩ ::
          ⟨some 84, .mov (.tmp 8), none⟩ ::
          ⟨some 85, .bslice 1 [(.tmp 84)], none⟩ ::
          ⟨some 86, .app 1 8 (.tmp 83) (.tmp 85), none⟩ ::
          ⟨some 87, .faddr 1 (.tmp 7), none⟩ ::
          ⟨none, .store 1 (.tmp 87) (.tmp 86), none⟩ :: []))) <|
      .region (⟨some 63, .mov (.tmp 8), none⟩ ::
        ⟨some 64, .bin .add (.tmp 63) (.val (.int .i64 1)), none⟩ ::
        ⟨some 8, .mov (.tmp 64), none⟩ :: [])))) <|
  .seq (.region (⟨some 88, .load true 4 (.tmp 5), none⟩ ::
    ⟨some 89, .load true 4 (.tmp 7), none⟩ ::
    ⟨some 90, .callv (.val (.fn (.func 59) [])) [(.tmp 88), (.tmp 89)], none⟩ ::
    ⟨some 4, .mov (.tmp 90), none⟩ :: [])) <|
  .ret⟩
theorem e_ref11_Asked : cFunc Try.prog kd_CRef11 Try.f29 = some c_ref11_Asked := by kernel_rfl
/- touchstone/touchstoneref11.sum: slots c, 0, v, 1, c, 2, v, 3, n, 5, i, 6 -/
def c_ref11_sum : AFunc := ⟨27, [.tmp 4],
  .seq (.region (⟨some 2, .box 4 (.tmp 0), none⟩ ::
    ⟨some 4, .mov (.val (.int .i64 0)), none⟩ :: [])) <|
  .seq (.region (⟨some 5, .mov (.val (.int .i64 0)), none⟩ :: [])) <|
  .seq (.seq (.region (⟨some 6, .mov (.val (.int .i64 0)), none⟩ :: [])) <|
  .block 0 (.loop (.seq (.seq (.region (⟨some 7, .mov (.tmp 6), none⟩ ::
        ⟨some 8, .faddr 2 (.tmp 2), none⟩ ::
        ⟨some 9, .load false 1 (.tmp 8), none⟩ ::
        ⟨some 10, .len false (.tmp 9), none⟩ ::
        ⟨some 11, .bin .lss (.tmp 7) (.tmp 10), none⟩ :: [])) <|
      .cond (.tmp 11) (.skip) <|
      .exit 0) <|
      .seq (.block 1 (.region (⟨some 14, .mov (.tmp 5), none⟩ ::
          ⟨some 15, .faddr 2 (.tmp 2), none⟩ ::
          ⟨some 16, .load false 1 (.tmp 15), none⟩ ::
          ⟨some 17, .mov (.tmp 6), none⟩ ::
          ⟨some 18, .iaddr 1 (.tmp 16) (.tmp 17), none⟩ ::
          ⟨some 19, .load false 1 (.tmp 18), none⟩ ::
          ⟨some 20, .mov (.tmp 1), none⟩ ::
          ⟨some 21, .mov (.tmp 6), none⟩ ::
          ⟨some 22, .iaddr 1 (.tmp 20) (.tmp 21), none⟩ ::
          ⟨some 23, .load false 1 (.tmp 22), none⟩ ::
          ⟨some 24, .bin .mul (.tmp 19) (.tmp 23), none⟩ ::
          ⟨some 25, .bin .add (.tmp 14) (.tmp 24), none⟩ ::
          ⟨some 5, .mov (.tmp 25), none⟩ :: []))) <|
      .region (⟨some 12, .mov (.tmp 6), none⟩ ::
        ⟨some 13, .bin .add (.tmp 12) (.val (.int .i64 1)), none⟩ ::
        ⟨some 6, .mov (.tmp 13), none⟩ :: [])))) <|
  .seq (.region (⟨some 26, .mov (.tmp 5), none⟩ ::
    ⟨some 4, .mov (.tmp 26), none⟩ :: [])) <|
  .ret⟩
theorem e_ref11_sum : cFunc Try.prog kd_CRef11 Try.f101 = some c_ref11_sum := by kernel_rfl
/- touchstone/touchstoneref11.lin: slots c, 0, v, 1, flag, 2, c, 3, v, 4, flag, 5, n, 7 -/
def c_ref11_lin : AFunc := ⟨57, [.tmp 6],
  .seq (.region (⟨some 3, .box 4 (.tmp 0), none⟩ ::
    ⟨some 6, .mov (.val (.bool false)), none⟩ :: [])) <|
  .seq (.region (⟨some 8, .load true 4 (.tmp 3), none⟩ ::
    ⟨some 9, .mov (.tmp 1), none⟩ ::
    ⟨some 10, .call (.val (.fn (.func 101) [])) [(.tmp 8), (.tmp 9)], none⟩ ::
    ⟨some 7, .mov (.tmp 10), none⟩ :: [])) <|
  .seq (.seq (.region (⟨some 11, .faddr 0 (.tmp 3), none⟩ ::
    ⟨some 12, .load false 1 (.tmp 11), none⟩ :: [])) <|
  .block 0 (.seq (.region (⟨some 14, .bin .eql (.tmp 12) (.val (.int .i64 1)), none⟩ ::
      ⟨some 13, .mov (.tmp 14), none⟩ :: [])) <|
    .cond (.tmp 13) (.seq (.region (⟨some 15, .mov (.tmp 7), none⟩ ::
        ⟨some 16, .faddr 3 (.tmp 3), none⟩ ::
        ⟨some 17, .load false 1 (.tmp 16), none⟩ ::
        ⟨some 18, .bin .eql (.tmp 15) (.tmp 17), none⟩ ::
        ⟨some 6, .mov (.tmp 18), none⟩ :: [])) <|
      .ret) <|
    .seq (.region (⟨some 20, .bin .eql (.tmp 12) (.val (.int .i64 2)), none⟩ ::
      ⟨some 19, .mov (.tmp 20), none⟩ :: [])) <|
    .cond (.tmp 19) (.seq (.region (⟨some 21, .mov (.tmp 7), none⟩ ::
        ⟨some 22, .faddr 3 (.tmp 3), none⟩ ::
        ⟨some 23, .load false 1 (.tmp 22), none⟩ ::
        ⟨some 24, .bin .leq (.tmp 21) (.tmp 23), none⟩ ::
        ⟨some 6, .mov (.tmp 24), none⟩ :: [])) <|
      .ret) <|
    .seq (.region (⟨some 26, .bin .eql (.tmp 12) (.val (.int .i64 3)), none⟩ ::
      ⟨some 25, .mov (.tmp 26), none⟩ :: [])) <|
    .cond (.tmp 25) (.seq (.region (⟨some 27, .mov (.tmp 7), none⟩ ::
        ⟨some 28, .faddr 3 (.tmp 3), none⟩ ::
        ⟨some 29, .load false 1 (.tmp 28), none⟩ ::
        ⟨some 30, .bin .neq (.tmp 27) (.tmp 29), none⟩ ::
        ⟨some 6, .mov (.tmp 30), none⟩ :: [])) <|
      .ret) <|
    .seq (.region (⟨some 32, .bin .eql (.tmp 12) (.val (.int .i64 4)), none⟩ ::
      ⟨some 31, .mov (.tmp 32), none⟩ :: [])) <|
    .cond (.tmp 31) (.seq (.region (⟨some 33, .mov (.tmp 2), none⟩ ::
        ⟨some 34, .bin .eql (.tmp 33) (.val (.int .i64 1)), none⟩ ::
        ⟨some 35, .mov (.tmp 7), none⟩ ::
        ⟨some 36, .faddr 3 (.tmp 3), none⟩ ::
        ⟨some 37, .load false 1 (.tmp 36), none⟩ ::
        ⟨some 38, .bin .eql (.tmp 35) (.tmp 37), none⟩ ::
        ⟨some 39, .eqb false (.tmp 34) (.tmp 38), none⟩ ::
        ⟨some 6, .mov (.tmp 39), none⟩ :: [])) <|
      .ret) <|
    .seq (.region (⟨some 41, .bin .eql (.tmp 12) (.val (.int .i64 5)), none⟩ ::
      ⟨some 40, .mov (.tmp 41), none⟩ :: [])) <|
    .cond (.tmp 40) (.seq (.region (⟨some 42, .mov (.tmp 2), none⟩ ::
        ⟨some 43, .bin .eql (.tmp 42) (.val (.int .i64 1)), none⟩ ::
        ⟨some 44, .mov (.tmp 7), none⟩ ::
        ⟨some 45, .faddr 3 (.tmp 3), none⟩ ::
        ⟨some 46, .load false 1 (.tmp 45), none⟩ ::
        ⟨some 47, .bin .leq (.tmp 44) (.tmp 46), none⟩ ::
        ⟨some 48, .eqb false (.tmp 43) (.tmp 47), none⟩ ::
        ⟨some 6, .mov (.tmp 48), none⟩ :: [])) <|
      .ret) <|
    .skip)) <|
  .seq (.region (⟨some 49, .mov (.tmp 2), none⟩ ::
    ⟨some 50, .bin .eql (.tmp 49) (.val (.int .i64 0)), none⟩ ::
    ⟨some 51, .mov (.tmp 50), none⟩ ::
    ⟨some 52, .mov (.tmp 7), some (51, false)⟩ ::
    ⟨some 53, .faddr 3 (.tmp 3), some (51, false)⟩ ::
    ⟨some 54, .load false 1 (.tmp 53), some (51, false)⟩ ::
    ⟨some 55, .bin .leq (.tmp 52) (.tmp 54), some (51, false)⟩ ::
    ⟨some 56, .pick (.tmp 51) (.val (.bool true)) (.tmp 55), none⟩ ::
    ⟨some 6, .mov (.tmp 56), none⟩ :: [])) <|
  .ret⟩
theorem e_ref11_lin : cFunc Try.prog kd_CRef11 Try.f62 = some c_ref11_lin := by kernel_rfl
/- touchstone/touchstoneref11.count: slots v, 0, n, 1, v, 2, n, 3, k, 5, i, 6 -/
def c_ref11_count : AFunc := ⟨22, [.tmp 4],
  .seq (.region (⟨some 4, .mov (.val (.int .i64 0)), none⟩ :: [])) <|
  .seq (.region (⟨some 5, .mov (.val (.int .i64 0)), none⟩ :: [])) <|
  .seq (.seq (.region (⟨some 6, .mov (.val (.int .i64 0)), none⟩ :: [])) <|
  .block 0 (.loop (.seq (.seq (.region (⟨some 7, .mov (.tmp 6), none⟩ ::
        ⟨some 8, .mov (.tmp 0), none⟩ ::
        ⟨some 9, .len false (.tmp 8), none⟩ ::
        ⟨some 10, .bin .lss (.tmp 7) (.tmp 9), none⟩ :: [])) <|
      .cond (.tmp 10) (.skip) <|
      .exit 0) <|
      .seq (.block 1 (.seq (.region (⟨some 13, .mov (.tmp 0), none⟩ ::
          ⟨some 14, .mov (.tmp 6), none⟩ ::
          ⟨some 15, .iaddr 1 (.tmp 13) (.tmp 14), none⟩ ::
          ⟨some 16, .load false 1 (.tmp 15), none⟩ ::
          ⟨some 17, .mov (.tmp 1), none⟩ ::
          ⟨some 18, .bin .eql (.tmp 16) (.tmp 17), none⟩ :: [])) <|
        .cond (.tmp 18) (.region (⟨some 19, .mov (.tmp 5), none⟩ ::
            ⟨some 20, .bin .add (.tmp 19) (.val (.int .i64 1)), none⟩ ::
            ⟨some 5, .mov (.tmp 20), none⟩ :: [])) <|
        .skip)) <|
      .region (⟨some 11, .mov (.tmp 6), none⟩ ::
        ⟨some 12, .bin .add (.tmp 11) (.val (.int .i64 1)), none⟩ ::
        ⟨some 6, .mov (.tmp 12), none⟩ :: [])))) <|
  .seq (.region (⟨some 21, .mov (.tmp 5), none⟩ ::
    ⟨some 4, .mov (.tmp 21), none⟩ :: [])) <|
  .ret⟩
theorem e_ref11_count : cFunc Try.prog kd_CRef11 Try.f64 = some c_ref11_count := by kernel_rfl
/- touchstone/touchstoneref11.clause: slots c, 0, v, 1, c, 2, v, 3, i, 5 -/
def c_ref11_clause : AFunc := ⟨40, [.tmp 4],
  .seq (.region (⟨some 2, .box 4 (.tmp 0), none⟩ ::
    ⟨some 4, .mov (.val (.bool false)), none⟩ :: [])) <|
  .seq (.seq (.region (⟨some 5, .mov (.val (.int .i64 0)), none⟩ :: [])) <|
  .block 0 (.loop (.seq (.seq (.region (⟨some 6, .mov (.tmp 5), none⟩ ::
        ⟨some 7, .mov (.tmp 1), none⟩ ::
        ⟨some 8, .len false (.tmp 7), none⟩ ::
        ⟨some 9, .bin .lss (.tmp 6) (.tmp 8), none⟩ :: [])) <|
      .cond (.tmp 9) (.skip) <|
      .exit 0) <|
      .seq (.block 1 (.seq (.region (⟨some 12, .faddr 2 (.tmp 2), none⟩ ::
          ⟨some 13, .load false 1 (.tmp 12), none⟩ ::
          ⟨some 14, .mov (.tmp 5), none⟩ ::
          ⟨some 15, .iaddr 1 (.tmp 13) (.tmp 14), none⟩ ::
          ⟨some 16, .load false 1 (.tmp 15), none⟩ ::
          ⟨some 17, .bin .eql (.tmp 16) (.val (.int .i64 1)), none⟩ ::
          ⟨some 18, .mov (.tmp 17), none⟩ ::
          ⟨some 19, .mov (.tmp 1), some (18, true)⟩ ::
          ⟨some 20, .mov (.tmp 5), some (18, true)⟩ ::
          ⟨some 21, .iaddr 1 (.tmp 19) (.tmp 20), some (18, true)⟩ ::
          ⟨some 22, .load false 1 (.tmp 21), some (18, true)⟩ ::
          ⟨some 23, .bin .eql (.tmp 22) (.val (.int .i64 1)), some (18, true)⟩ ::
          ⟨some 24, .pick (.tmp 18) (.tmp 23) (.val (.bool false)), none⟩ ::
          ⟨some 25, .mov (.tmp 24), none⟩ ::
          ⟨some 26, .faddr 2 (.tmp 2), some (25, false)⟩ ::
          ⟨some 27, .load false 1 (.tmp 26), some (25, false)⟩ ::
          ⟨some 28, .mov (.tmp 5), some (25, false)⟩ ::
          ⟨some 29, .iaddr 1 (.tmp 27) (.tmp 28), some (25, false)⟩ ::
          ⟨some 30, .load false 1 (.tmp 29), some (25, false)⟩ ::
          ⟨some 31, .bin .eql (.tmp 30) (.val (.int .i64 (-1))), some (25, false)⟩ ::
          ⟨some 32, .mov (.tmp 31), some (25, false)⟩ ::
          ⟨some 33, .mov (.tmp 1), some (32, true)⟩ ::
          ⟨some 34, .mov (.tmp 5), some (32, true)⟩ ::
          ⟨some 35, .iaddr 1 (.tmp 33) (.tmp 34), some (32, true)⟩ ::
          ⟨some 36, .load false 1 (.tmp 35), some (32, true)⟩ ::
          ⟨some 37, .bin .eql (.tmp 36) (.val (.int .i64 0)), some (32, true)⟩ ::
          ⟨some 38, .pick (.tmp 32) (.tmp 37) (.val (.bool false)), some (25, false)⟩ ::
          ⟨some 39, .pick (.tmp 25) (.val (.bool true)) (.tmp 38), none⟩ :: [])) <|
        .cond (.tmp 39) (.seq (.region (⟨some 4, .mov (.val (.bool true)), none⟩ :: [])) <|
          .ret) <|
        .skip)) <|
      .region (⟨some 10, .mov (.tmp 5), none⟩ ::
        ⟨some 11, .bin .add (.tmp 10) (.val (.int .i64 1)), none⟩ ::
        ⟨some 5, .mov (.tmp 11), none⟩ :: [])))) <|
  .seq (.region (⟨some 4, .mov (.val (.bool false)), none⟩ :: [])) <|
  .ret⟩
theorem e_ref11_clause : cFunc Try.prog kd_CRef11 Try.f63 = some c_ref11_clause := by kernel_rfl
/- touchstone/touchstoneref11.linear: slots kind, 0, kind, 1 -/
def c_ref11_linear : AFunc := ⟨9, [.tmp 2],
  .seq (.region (⟨some 2, .mov (.val (.bool false)), none⟩ :: [])) <|
  .seq (.region (⟨some 3, .mov (.tmp 0), none⟩ ::
    ⟨some 4, .bin .geq (.tmp 3) (.val (.int .i64 1)), none⟩ ::
    ⟨some 5, .mov (.tmp 4), none⟩ ::
    ⟨some 6, .mov (.tmp 0), some (5, true)⟩ ::
    ⟨some 7, .bin .leq (.tmp 6) (.val (.int .i64 6)), some (5, true)⟩ ::
    ⟨some 8, .pick (.tmp 5) (.tmp 7) (.val (.bool false)), none⟩ ::
    ⟨some 2, .mov (.tmp 8), none⟩ :: [])) <|
  .ret⟩
theorem e_ref11_linear : cFunc Try.prog kd_CRef11 Try.f61 = some c_ref11_linear := by kernel_rfl
/- touchstone/touchstoneref11.Holds: slots c, 0, a, 1, c, 2, a, 3, v, 5, last, 6, n, 7 -/
def c_ref11_Holds : AFunc := ⟨197, [.tmp 4],
  .seq (.region (⟨some 2, .box 4 (.tmp 0), none⟩ ::
    ⟨some 4, .mov (.val (.bool false)), none⟩ :: [])) <|
  .seq (.seq (.region (⟨some 8, .load true 4 (.tmp 2), none⟩ ::
    ⟨some 9, .mov (.tmp 1), none⟩ ::
    ⟨some 10, .call (.val (.fn (.func 29) [])) [(.tmp 8), (.tmp 9)], none⟩ ::
    ⟨some 11, .un .not (.tmp 10), none⟩ :: [])) <|
  .cond (.tmp 11) (.seq (.region (⟨some 4, .mov (.val (.bool false)), none⟩ :: [])) <|
    .ret) <|
  .skip) <|
  .seq (.region (⟨some 12, .load true 4 (.tmp 2), none⟩ ::
    ⟨some 13, .mov (.tmp 1), none⟩ ::
    ⟨some 14, .call (.val (.fn (.func 60) [])) [(.tmp 12), (.tmp 13)], none⟩ ::
    ⟨some 5, .mov (.tmp 14), none⟩ :: [])) <|
  .seq (.region (⟨some 6, .mov (.val (.int .i64 0)), none⟩ :: [])) <|
  .seq (.seq (.region (⟨some 15, .mov (.tmp 5), none⟩ ::
    ⟨some 16, .len false (.tmp 15), none⟩ ::
    ⟨some 17, .bin .gtr (.tmp 16) (.val (.int .i64 0)), none⟩ :: [])) <|
  .cond (.tmp 17) (.region (⟨some 18, .mov (.tmp 5), none⟩ ::
      ⟨some 19, .mov (.tmp 5), none⟩ ::
      ⟨some 20, .len false (.tmp 19), none⟩ ::
      ⟨some 21, .bin .sub (.tmp 20) (.val (.int .i64 1)), none⟩ ::
      ⟨some 22, .iaddr 1 (.tmp 18) (.tmp 21), none⟩ ::
      ⟨some 23, .load false 1 (.tmp 22), none⟩ ::
      ⟨some 6, .mov (.tmp 23), none⟩ :: [])) <|
  .skip) <|
  .seq (.seq (.region (⟨some 24, .faddr 0 (.tmp 2), none⟩ ::
    ⟨some 25, .load false 1 (.tmp 24), none⟩ ::
    ⟨some 26, .call (.val (.fn (.func 61) [])) [(.tmp 25)], none⟩ :: [])) <|
  .cond (.tmp 26) (.seq (.region (⟨some 27, .load true 4 (.tmp 2), none⟩ ::
      ⟨some 28, .mov (.tmp 5), none⟩ ::
      ⟨some 29, .mov (.tmp 6), none⟩ ::
      ⟨some 30, .call (.val (.fn (.func 62) [])) [(.tmp 27), (.tmp 28), (.tmp 29)], none⟩ ::
      ⟨some 4, .mov (.tmp 30), none⟩ :: [])) <|
    .ret) <|
  .skip) <|
  .seq (.region (⟨some 31, .mov (.tmp 5), none⟩ ::
    ⟨some 32, .len false (.tmp 31), none⟩ ::
    ⟨some 33, .bin .sub (.tmp 32) (.val (.int .i64 1)), none⟩ ::
    ⟨some 7, .mov (.tmp 33), none⟩ :: [])) <|
  .seq (.seq (.region (⟨some 34, .faddr 0 (.tmp 2), none⟩ ::
    ⟨some 35, .load false 1 (.tmp 34), none⟩ :: [])) <|
  .block 0 (.seq (.region (⟨some 37, .bin .eql (.tmp 35) (.val (.int .i64 7)), none⟩ ::
      ⟨some 36, .mov (.tmp 37), none⟩ :: [])) <|
    .cond (.tmp 36) (.seq (.region (⟨some 38, .mov (.tmp 5), none⟩ ::
        ⟨some 39, .iaddr 1 (.tmp 38) (.val (.int .i64 0)), none⟩ ::
        ⟨some 40, .load false 1 (.tmp 39), none⟩ ::
        ⟨some 41, .mov (.tmp 5), none⟩ ::
        ⟨some 42, .iaddr 1 (.tmp 41) (.val (.int .i64 1)), none⟩ ::
        ⟨some 43, .load false 1 (.tmp 42), none⟩ ::
        ⟨some 44, .bin .mul (.tmp 40) (.tmp 43), none⟩ ::
        ⟨some 45, .mov (.tmp 5), none⟩ ::
        ⟨some 46, .iaddr 1 (.tmp 45) (.val (.int .i64 2)), none⟩ ::
        ⟨some 47, .load false 1 (.tmp 46), none⟩ ::
        ⟨some 48, .bin .eql (.tmp 44) (.tmp 47), none⟩ ::
        ⟨some 4, .mov (.tmp 48), none⟩ :: [])) <|
      .ret) <|
    .seq (.region (⟨some 50, .bin .eql (.tmp 35) (.val (.int .i64 8)), none⟩ ::
      ⟨some 49, .mov (.tmp 50), none⟩ :: [])) <|
    .cond (.tmp 49) (.seq (.region (⟨some 51, .mov (.tmp 5), none⟩ ::
        ⟨some 52, .iaddr 1 (.tmp 51) (.val (.int .i64 0)), none⟩ ::
        ⟨some 53, .load false 1 (.tmp 52), none⟩ ::
        ⟨some 54, .mov (.tmp 5), none⟩ ::
        ⟨some 55, .iaddr 1 (.tmp 54) (.val (.int .i64 1)), none⟩ ::
        ⟨some 56, .load false 1 (.tmp 55), none⟩ ::
        ⟨some 57, .mn (.tmp 53) [(.tmp 56)], none⟩ ::
        ⟨some 58, .mov (.tmp 5), none⟩ ::
        ⟨some 59, .iaddr 1 (.tmp 58) (.val (.int .i64 2)), none⟩ ::
        ⟨some 60, .load false 1 (.tmp 59), none⟩ ::
        ⟨some 61, .bin .eql (.tmp 57) (.tmp 60), none⟩ ::
        ⟨some 4, .mov (.tmp 61), none⟩ :: [])) <|
      .ret) <|
    .seq (.region (⟨some 63, .bin .eql (.tmp 35) (.val (.int .i64 9)), none⟩ ::
      ⟨some 62, .mov (.tmp 63), none⟩ :: [])) <|
    .cond (.tmp 62) (.seq (.region (⟨some 64, .mov (.tmp 5), none⟩ ::
        ⟨some 65, .iaddr 1 (.tmp 64) (.val (.int .i64 0)), none⟩ ::
        ⟨some 66, .load false 1 (.tmp 65), none⟩ ::
        ⟨some 67, .mov (.tmp 5), none⟩ ::
        ⟨some 68, .iaddr 1 (.tmp 67) (.val (.int .i64 1)), none⟩ ::
        ⟨some 69, .load false 1 (.tmp 68), none⟩ ::
        ⟨some 70, .mx (.tmp 66) [(.tmp 69)], none⟩ ::
        ⟨some 71, .mov (.tmp 5), none⟩ ::
        ⟨some 72, .iaddr 1 (.tmp 71) (.val (.int .i64 2)), none⟩ ::
        ⟨some 73, .load false 1 (.tmp 72), none⟩ ::
        ⟨some 74, .bin .eql (.tmp 70) (.tmp 73), none⟩ ::
        ⟨some 4, .mov (.tmp 74), none⟩ :: [])) <|
      .ret) <|
    .seq (.region (⟨some 76, .bin .eql (.tmp 35) (.val (.int .i64 10)), none⟩ ::
      ⟨some 75, .mov (.tmp 76), none⟩ :: [])) <|
    .cond (.tmp 75) (.seq (.region (⟨some 77, .mov (.tmp 5), none⟩ ::
        ⟨some 78, .iaddr 1 (.tmp 77) (.val (.int .i64 0)), none⟩ ::
        ⟨some 79, .load false 1 (.tmp 78), none⟩ ::
        ⟨some 80, .mov (.tmp 5), none⟩ ::
        ⟨some 81, .iaddr 1 (.tmp 80) (.val (.int .i64 0)), none⟩ ::
        ⟨some 82, .load false 1 (.tmp 81), none⟩ ::
        ⟨some 83, .un .neg (.tmp 82), none⟩ ::
        ⟨some 84, .mx (.tmp 79) [(.tmp 83)], none⟩ ::
        ⟨some 85, .mov (.tmp 5), none⟩ ::
        ⟨some 86, .iaddr 1 (.tmp 85) (.val (.int .i64 1)), none⟩ ::
        ⟨some 87, .load false 1 (.tmp 86), none⟩ ::
        ⟨some 88, .bin .eql (.tmp 84) (.tmp 87), none⟩ ::
        ⟨some 4, .mov (.tmp 88), none⟩ :: [])) <|
      .ret) <|
    .seq (.region (⟨some 90, .bin .eql (.tmp 35) (.val (.int .i64 15)), none⟩ ::
      ⟨some 89, .mov (.tmp 90), none⟩ :: [])) <|
    .cond (.tmp 89) (.seq (.region (⟨some 91, .mov (.tmp 5), none⟩ ::
        ⟨some 92, .iaddr 1 (.tmp 91) (.val (.int .i64 0)), none⟩ ::
        ⟨some 93, .load false 1 (.tmp 92), none⟩ ::
        ⟨some 94, .mov (.tmp 5), none⟩ ::
        ⟨some 95, .iaddr 1 (.tmp 94) (.val (.int .i64 1)), none⟩ ::
        ⟨some 96, .load false 1 (.tmp 95), none⟩ ::
        ⟨some 97, .bin .eql (.tmp 93) (.tmp 96), none⟩ ::
        ⟨some 4, .mov (.tmp 97), none⟩ :: [])) <|
      .ret) <|
    .seq (.region (⟨some 99, .bin .eql (.tmp 35) (.val (.int .i64 11)), none⟩ ::
      ⟨some 98, .mov (.tmp 99), none⟩ :: [])) <|
    .cond (.tmp 98) (.seq (.region (⟨some 100, .load true 4 (.tmp 2), none⟩ ::
        ⟨some 101, .mov (.tmp 5), none⟩ ::
        ⟨some 102, .call (.val (.fn (.func 63) [])) [(.tmp 100), (.tmp 101)], none⟩ ::
        ⟨some 4, .mov (.tmp 102), none⟩ :: [])) <|
      .ret) <|
    .seq (.region (⟨some 104, .bin .eql (.tmp 35) (.val (.int .i64 12)), none⟩ ::
      ⟨some 103, .mov (.tmp 104), none⟩ :: [])) <|
    .cond (.tmp 103) (.seq (.region (⟨some 105, .mov (.tmp 6), none⟩ ::
        ⟨some 106, .bin .eql (.tmp 105) (.val (.int .i64 1)), none⟩ ::
        ⟨some 107, .mov (.tmp 5), none⟩ ::
        ⟨some 108, .mov (.tmp 7), none⟩ ::
        ⟨some 109, .slc 1 (.tmp 107) none (some (.tmp 108)), none⟩ ::
        ⟨some 110, .call (.val (.fn (.func 64) [])) [(.tmp 109), (.val (.int .i64 1))], none⟩ ::
        ⟨some 111, .mov (.tmp 7), none⟩ ::
        ⟨some 112, .bin .eql (.tmp 110) (.tmp 111), none⟩ ::
        ⟨some 113, .eqb false (.tmp 106) (.tmp 112), none⟩ ::
        ⟨some 4, .mov (.tmp 113), none⟩ :: [])) <|
      .ret) <|
    .seq (.region (⟨some 115, .bin .eql (.tmp 35) (.val (.int .i64 13)), none⟩ ::
      ⟨some 114, .mov (.tmp 115), none⟩ :: [])) <|
    .cond (.tmp 114) (.seq (.region (⟨some 116, .mov (.tmp 6), none⟩ ::
        ⟨some 117, .bin .eql (.tmp 116) (.val (.int .i64 1)), none⟩ ::
        ⟨some 118, .mov (.tmp 5), none⟩ ::
        ⟨some 119, .mov (.tmp 7), none⟩ ::
        ⟨some 120, .slc 1 (.tmp 118) none (some (.tmp 119)), none⟩ ::
        ⟨some 121, .call (.val (.fn (.func 64) [])) [(.tmp 120), (.val (.int .i64 1))], none⟩ ::
        ⟨some 122, .bin .gtr (.tmp 121) (.val (.int .i64 0)), none⟩ ::
        ⟨some 123, .eqb false (.tmp 117) (.tmp 122), none⟩ ::
        ⟨some 4, .mov (.tmp 123), none⟩ :: [])) <|
      .ret) <|
    .seq (.region (⟨some 125, .bin .eql (.tmp 35) (.val (.int .i64 14)), none⟩ ::
      ⟨some 124, .mov (.tmp 125), none⟩ :: [])) <|
    .cond (.tmp 124) (.seq (.region (⟨some 126, .mov (.tmp 5), none⟩ ::
        ⟨some 127, .iaddr 1 (.tmp 126) (.val (.int .i64 2)), none⟩ ::
        ⟨some 128, .load false 1 (.tmp 127), none⟩ ::
        ⟨some 129, .bin .eql (.tmp 128) (.val (.int .i64 1)), none⟩ ::
        ⟨some 130, .mov (.tmp 5), none⟩ ::
        ⟨some 131, .iaddr 1 (.tmp 130) (.val (.int .i64 0)), none⟩ ::
        ⟨some 132, .load false 1 (.tmp 131), none⟩ ::
        ⟨some 133, .mov (.tmp 5), none⟩ ::
        ⟨some 134, .iaddr 1 (.tmp 133) (.val (.int .i64 1)), none⟩ ::
        ⟨some 135, .load false 1 (.tmp 134), none⟩ ::
        ⟨some 136, .bin .neq (.tmp 132) (.tmp 135), none⟩ ::
        ⟨some 137, .eqb false (.tmp 129) (.tmp 136), none⟩ ::
        ⟨some 4, .mov (.tmp 137), none⟩ :: [])) <|
      .ret) <|
    .seq (.region (⟨some 139, .bin .eql (.tmp 35) (.val (.int .i64 16)), none⟩ ::
      ⟨some 138, .mov (.tmp 139), none⟩ :: [])) <|
    .cond (.tmp 138) (.seq (.region (⟨some 140, .mov (.tmp 5), none⟩ ::
        ⟨some 141, .iaddr 1 (.tmp 140) (.val (.int .i64 0)), none⟩ ::
        ⟨some 142, .load false 1 (.tmp 141), none⟩ ::
        ⟨some 143, .bin .geq (.tmp 142) (.val (.int .i64 1)), none⟩ ::
        ⟨some 144, .mov (.tmp 143), none⟩ ::
        ⟨some 145, .mov (.tmp 5), some (144, true)⟩ ::
        ⟨some 146, .iaddr 1 (.tmp 145) (.val (.int .i64 0)), some (144, true)⟩ ::
        ⟨some 147, .load false 1 (.tmp 146), some (144, true)⟩ ::
        ⟨some 148, .faddr 2 (.tmp 2), some (144, true)⟩ ::
        ⟨some 149, .load false 1 (.tmp 148), some (144, true)⟩ ::
        ⟨some 150, .len false (.tmp 149), some (144, true)⟩ ::
        ⟨some 151, .bin .leq (.tmp 147) (.tmp 150), some (144, true)⟩ ::
        ⟨some 152, .pick (.tmp 144) (.tmp 151) (.val (.bool false)), none⟩ ::
        ⟨some 153, .mov (.tmp 152), none⟩ ::
        ⟨some 154, .faddr 2 (.tmp 2), some (153, true)⟩ ::
        ⟨some 155, .load false 1 (.tmp 154), some (153, true)⟩ ::
        ⟨some 156, .mov (.tmp 5), some (153, true)⟩ ::
        ⟨some 157, .iaddr 1 (.tmp 156) (.val (.int .i64 0)), some (153, true)⟩ ::
        ⟨some 158, .load false 1 (.tmp 157), some (153, true)⟩ ::
        ⟨some 159, .bin .sub (.tmp 158) (.val (.int .i64 1)), some (153, true)⟩ ::
        ⟨some 160, .iaddr 1 (.tmp 155) (.tmp 159), some (153, true)⟩ ::
        ⟨some 161, .load false 1 (.tmp 160), some (153, true)⟩ ::
        ⟨some 162, .mov (.tmp 5), some (153, true)⟩ ::
        ⟨some 163, .iaddr 1 (.tmp 162) (.val (.int .i64 1)), some (153, true)⟩ ::
        ⟨some 164, .load false 1 (.tmp 163), some (153, true)⟩ ::
        ⟨some 165, .bin .eql (.tmp 161) (.tmp 164), some (153, true)⟩ ::
        ⟨some 166, .pick (.tmp 153) (.tmp 165) (.val (.bool false)), none⟩ ::
        ⟨some 4, .mov (.tmp 166), none⟩ :: [])) <|
      .ret) <|
    .seq (.region (⟨some 168, .bin .eql (.tmp 35) (.val (.int .i64 17)), none⟩ ::
      ⟨some 167, .mov (.tmp 168), none⟩ :: [])) <|
    .cond (.tmp 167) (.seq (.region (⟨some 169, .mov (.tmp 5), none⟩ ::
        ⟨some 170, .iaddr 1 (.tmp 169) (.val (.int .i64 0)), none⟩ ::
        ⟨some 171, .load false 1 (.tmp 170), none⟩ ::
        ⟨some 172, .bin .geq (.tmp 171) (.val (.int .i64 1)), none⟩ ::
        ⟨some 173, .mov (.tmp 172), none⟩ ::
        ⟨some 174, .mov (.tmp 5), some (173, true)⟩ ::
        ⟨some 175, .iaddr 1 (.tmp 174) (.val (.int .i64 0)), some (173, true)⟩ ::
        ⟨some 176, .load false 1 (.tmp 175), some (173, true)⟩ ::
        ⟨some 177, .mov (.tmp 7), some (173, true)⟩ ::
        ⟨some 178, .bin .lss (.tmp 176) (.tmp 177), some (173, true)⟩ ::
        ⟨some 179, .pick (.tmp 173) (.tmp 178) (.val (.bool false)), none⟩ ::
        ⟨some 180, .mov (.tmp 179), none⟩ ::
        ⟨some 181, .mov (.tmp 5), some (180, true)⟩ ::
        ⟨some 182, .mov (.tmp 5), some (180, true)⟩ ::
        ⟨some 183, .iaddr 1 (.tmp 182) (.val (.int .i64 0)), some (180, true)⟩ ::
        ⟨some 184, .load false 1 (.tmp 183), some (180, true)⟩ ::
        ⟨some 185, .iaddr 1 (.tmp 181) (.tmp 184), some (180, true)⟩ ::
        ⟨some 186, .load false 1 (.tmp 185), some (180, true)⟩ ::
        ⟨some 187, .mov (.tmp 6), some (180, true)⟩ ::
        ⟨some 188, .bin .eql (.tmp 186) (.tmp 187), some (180, true)⟩ ::
        ⟨some 189, .pick (.tmp 180) (.tmp 188) (.val (.bool false)), none⟩ ::
        ⟨some 4, .mov (.tmp 189), none⟩ :: [])) <|
      .ret) <|
    .seq (.region (⟨some 191, .bin .eql (.tmp 35) (.val (.int .i64 18)), none⟩ ::
      ⟨some 190, .mov (.tmp 191), none⟩ :: [])) <|
    .cond (.tmp 190) (.seq (.region (⟨some 192, .mov (.tmp 5), none⟩ ::
        ⟨some 193, .call (.val (.fn (.func 65) [])) [(.tmp 192)], none⟩ ::
        ⟨some 4, .mov (.tmp 193), none⟩ :: [])) <|
      .ret) <|
    .skip)) <|
  .seq (.region (⟨some 194, .load true 4 (.tmp 2), none⟩ ::
    ⟨some 195, .mov (.tmp 5), none⟩ ::
    ⟨some 196, .call (.val (.fn (.func 66) [])) [(.tmp 194), (.tmp 195)], none⟩ ::
    ⟨some 4, .mov (.tmp 196), none⟩ :: [])) <|
  .ret⟩
theorem e_ref11_Holds : cFunc Try.prog kd_CRef11 Try.f30 = some c_ref11_Holds := by kernel_rfl
end Go.Proofs.Ytnhedjpghpdbdaa
namespace Go.Proofs.Ytnhedjpghpdbdaa
open Av
attribute [local irreducible] awp awpOpers
set_option linter.unusedSimpArgs false
set_option linter.unusedVariables false
set_option maxRecDepth 100000
set_option maxHeartbeats 4000000
def valsOf (X a : List Int) : List Int := X.map fun x => xat a x.toNat
theorem vals_get {X a : List Int} {i : Nat} {x : Int} (h : X[i]? = some x) : (valsOf X a)[i]? = some (xat a x.toNat) := by
  unfold valsOf
  rw [List.getElem?_map, h]; rfl
def Idx (X a : List Int) : Prop := ∀ x ∈ X, 0 ≤ x ∧ x < a.length
theorem idx_get {X a : List Int} (h : Idx X a) {i : Nat} {x : Int} (hx : X[i]? = some x) : a[x.toNat]? = some (xat a x.toNat) := by
  have := h x (List.mem_of_getElem? hx)
  exact xat_get (by omega)
theorem ref11_values (c : Con) (a : List Int) (hX : c.2.1.length ≤ 1000000000000) (hi : Idx c.2.1 a) : Ctr Try.prog 60 [eCon c, eIs a] [] (eIs (valsOf c.2.1 a)) [] := by
  obtain ⟨K, X, A, C⟩ := c
  simp only at hX hi ⊢
  refine call_pure Try.func60 Try.call60 e_ref11_values ?_
  simp +contextual -implicitDefEqProofs (maxSteps := 1000000) only [c_ref11_values, eCon, eIs, sm, sn, sxx, seval]
  have hVl : (valsOf X a).length = X.length := by unfold valsOf; rw [List.length_map]
  refine loop_ruleV [(5, 1)] (fun k : Nat => k ≤ X.length) (fun k => tm 26 [(1, .list 1 (a.map eI)), (2, .ptr 4 0 0 0), (5, .sl 1 1 0 k), (6, .int .i64 k)]) (fun k => [some (4, [eCon (K, X, A, C)]), some (1, ((valsOf X a).take k).map eI)]) (fun k => X.length - k) 0 (by simp +contextual -implicitDefEqProofs (maxSteps := 1000000) only [sm, sn, sxx, seval]) (Nat.zero_le _) ⟨[0, 1], by decide, rfl, ?_, ?_⟩ ?_
  · simp +contextual -implicitDefEqProofs (maxSteps := 1000000) only [sm, sn, sxx, seval, eCon, eIs]
  · simp +contextual -implicitDefEqProofs (maxSteps := 1000000) only [sm, sn, sxx, seval, Int.natCast_zero]
  · intro k hk
    have hkl : ((valsOf X a).take k).length = k := by rw [List.length_take]; omega
    by_cases hlt : k < X.length
    · have hlt' : (k : Int) < (X.length : Int) := by omega
      have e2 : IntKind.i64.wrap ((k : Int) + 1) = ((k + 1 : Nat) : Int) := by rw [wrap_i64] <;> omega
      obtain ⟨x, hx⟩ : ∃ r, X[k]? = some r := ⟨_, List.getElem?_eq_getElem hlt⟩
      obtain ⟨x0, x1⟩ := hi x (List.mem_of_getElem? hx)
      have hs := take_snoc (vals_get (a := a) hx)
      have hv := idx_get hi hx
      have c1 : (k + 1) * 8 ≤ 140737488355328 := by omega
      have c2 : k + 1 ≤ maxLen := by unfold maxLen; omega
      simp +contextual -implicitDefEqProofs (maxSteps := 1000000) only [sm, sn, sxx, seval, eCon, eIs, hlt', hlt, hx, hv, x0, x1, hkl, c1, c2, hs, e2]
      refine ⟨k + 1, by omega, by omega, [0, 2], by decide, rfl, ?_, ?_⟩
      · simp +contextual -implicitDefEqProofs (maxSteps := 1000000) only [sm, sn, sxx, seval, eCon, eIs]
      · simp +contextual -implicitDefEqProofs (maxSteps := 1000000) only [sm, sn, sxx, seval]
    · have hkn : k = X.length := by omega
      subst hkn
      have t0 : (valsOf X a).take X.length = valsOf X a := by rw [← hVl, List.take_length]
      rw [t0]
      simp +contextual -implicitDefEqProofs (maxSteps := 1000000) only [sm, sn, sxx, seval, eCon, eIs, Int.lt_irrefl, hVl]
      try (rw [← hVl]; simp +contextual -implicitDefEqProofs (maxSteps := 1000000) only [sm, sn, sxx, seval])
def sumN (A V : List Int) : Nat → Int
  | 0 => 0
  | k + 1 => sumN A V k + xat A k * xat V k
def Sm (l : List Int) : Prop := ∀ x ∈ l, -1048576 ≤ x ∧ x ≤ 1048576
theorem sm_at {l : List Int} (h : Sm l) (k : Nat) : -1048576 ≤ xat l k ∧ xat l k ≤ 1048576 := by
  unfold xat
  cases hk : l[k]? with
  | none => decide
  | some x => exact h x (List.mem_of_getElem? hk)
theorem sumN_bound {A V : List Int} (hA : Sm A) (hV : Sm V) : ∀ k : Nat, -1099511627776 * k ≤ sumN A V k ∧ sumN A V k ≤ 1099511627776 * k
  | 0 => by simp [sumN]
  | k + 1 => by
    have h1 := sumN_bound hA hV k
    have h2 := mul_bound (sm_at hA k) (sm_at hV k)
    unfold sumN
    omega
theorem ref11_sum (c : Con) (V : List Int) (hA : c.2.2.1.length ≤ 128) (hV : c.2.2.1.length ≤ V.length) (sA : Sm c.2.2.1) (sV : Sm V) : Ctr Try.prog 101 [eCon c, eIs V] [] (.int .i64 (sumN c.2.2.1 V c.2.2.1.length)) [] := by
  obtain ⟨K, X, A, C⟩ := c
  simp only at hA hV sA sV ⊢
  refine call_pure Try.func101 Try.call101 e_ref11_sum ?_
  simp +contextual -implicitDefEqProofs (maxSteps := 1000000) only [c_ref11_sum, eCon, eIs, sm, sn, sxx, seval]
  refine loop_rule (fun k : Nat => k ≤ A.length) (fun k => tm 27 [(1, .list 1 (V.map eI)), (2, .ptr 4 0 0 0), (5, .int .i64 (sumN A V k)), (6, .int .i64 k)]) (fun k => [some (4, [eCon (K, X, A, C)])]) (fun k => A.length - k) 0 (Nat.zero_le _) ⟨[0], by decide, rfl, ?_, ?_⟩ ?_
  · simp +contextual -implicitDefEqProofs (maxSteps := 1000000) only [sm, sn, sxx, seval, eCon, eIs]
  · simp +contextual -implicitDefEqProofs (maxSteps := 1000000) only [sm, sn, sxx, seval, Int.natCast_zero, sumN]
  · intro k hk
    by_cases hlt : k < A.length
    · have hlt' : (k : Int) < (A.length : Int) := by omega
      have e2 : IntKind.i64.wrap ((k : Int) + 1) = ((k + 1 : Nat) : Int) := by rw [wrap_i64] <;> omega
      have hx := xat_get hlt
      have hv := xat_get (X := V) (i := k) (by omega)
      have b1 := sumN_bound sA sV k
      have b2 := mul_bound (sm_at sA k) (sm_at sV k)
      have w1 : IntKind.i64.wrap (xat A k * xat V k) = xat A k * xat V k := by rw [wrap_i64] <;> omega
      have w2 : IntKind.i64.wrap (sumN A V k + xat A k * xat V k) = sumN A V (k + 1) := by rw [wrap_i64] <;> first | rfl | omega
      simp +contextual -implicitDefEqProofs (maxSteps := 1000000) only [sm, sn, sxx, seval, eCon, eIs, hlt', hx, hv, w1, w2, e2]
      refine ⟨k + 1, by omega, by omega, [0], by decide, rfl, ?_, ?_⟩
      · simp +contextual -implicitDefEqProofs (maxSteps := 1000000) only [sm, sn, sxx, seval, eCon, eIs]
      · simp +contextual -implicitDefEqProofs (maxSteps := 1000000) only [sm, sn, sxx, seval]
    · have hkn : k = A.length := by omega
      subst hkn
      simp +contextual -implicitDefEqProofs (maxSteps := 1000000) only [sm, sn, sxx, seval, eCon, eIs, Int.lt_irrefl]
def linB (K C n f : Int) : Bool := if K = 1 then decide (n = C) else if K = 2 then decide (n ≤ C) else if K = 3 then !decide (n = C) else if K = 4 then (decide (f = 1) == decide (n = C)) else if K = 5 then (decide (f = 1) == decide (n ≤ C)) else (decide (f = 0) || decide (n ≤ C))
theorem ref11_lin (c : Con) (V : List Int) (f : Int) (hA : c.2.2.1.length ≤ 128) (hV : c.2.2.1.length ≤ V.length) (sA : Sm c.2.2.1) (sV : Sm V) :
    Ctr Try.prog 62 [eCon c, eIs V, .int .i64 f] [] (.bool (linB c.1 c.2.2.2 (sumN c.2.2.1 V c.2.2.1.length) f)) [] := by
  obtain ⟨K, X, A, C⟩ := c
  simp only at hA hV sA sV ⊢
  refine call_pure Try.func62 Try.call62 e_ref11_lin ?_
  simp +contextual -implicitDefEqProofs (maxSteps := 1000000) only [c_ref11_lin, eCon, eIs, sm, sn, sxx, seval]
  refine callA_rule (ref11_sum (K, X, A, C) V hA hV sA sV) (wkL_refl _) rfl ?_
  simp only
  generalize sumN A V A.length = n
  have hK : (¬ K = 1 ∧ ¬ K = 2 ∧ ¬ K = 3 ∧ ¬ K = 4 ∧ ¬ K = 5) ∨ K = 1 ∨ K = 2 ∨ K = 3 ∨ K = 4 ∨ K = 5 := by omega
  unfold linB
  rcases hK with ⟨h1, h2, h3, h4, h5⟩ | rfl | rfl | rfl | rfl | rfl
  · simp only [h1, h2, h3, h4, h5, if_false]
    by_cases hf : f = 0
    · subst hf
      simp +contextual -implicitDefEqProofs (maxSteps := 1000000) only [sm, sn, sxx, seval, h1, h2, h3, h4, h5]
      rfl
    · by_cases hn : n ≤ C
      · simp +contextual -implicitDefEqProofs (maxSteps := 1000000) only [sm, sn, sxx, seval, h1, h2, h3, h4, h5, hf, hn]
        rfl
      · simp +contextual -implicitDefEqProofs (maxSteps := 1000000) only [sm, sn, sxx, seval, h1, h2, h3, h4, h5, hf, hn]
        rfl
  · simp +contextual -implicitDefEqProofs (maxSteps := 1000000) only [sm, sn, sxx, seval]
  · simp +contextual -implicitDefEqProofs (maxSteps := 1000000) only [sm, sn, sxx, seval]
  · simp +contextual -implicitDefEqProofs (maxSteps := 1000000) only [sm, sn, sxx, seval]
    simp
  · simp +contextual -implicitDefEqProofs (maxSteps := 1000000) only [sm, sn, sxx, seval]
  · simp +contextual -implicitDefEqProofs (maxSteps := 1000000) only [sm, sn, sxx, seval]
def cntI (l : List Int) (x : Int) : Nat := (l.filter fun y => decide (y = x)).length
theorem cnt_snoc {l : List Int} {k : Nat} {y x : Int} (h : l[k]? = some y) : cntI (l.take (k + 1)) x = cntI (l.take k) x + if y = x then 1 else 0 := by
  unfold cntI
  rw [← take_snoc h, List.filter_append, List.length_append]
  by_cases hy : y = x <;> simp [hy]
theorem cnt_le (l : List Int) (x : Int) : cntI l x ≤ l.length := List.length_filter_le _ _
theorem ref11_count (V : List Int) (x : Int) (hV : V.length ≤ 1000000000000) : Ctr Try.prog 64 [eIs V, .int .i64 x] [] (.int .i64 (cntI V x)) [] := by
  refine call_pure Try.func64 Try.call64 e_ref11_count ?_
  simp +contextual -implicitDefEqProofs (maxSteps := 1000000) only [c_ref11_count, eIs, sm, sn, sxx, seval]
  refine loop_rule (fun k : Nat => k ≤ V.length) (fun k => tm 22 [(0, .list 1 (V.map eI)), (1, .int .i64 x), (5, .int .i64 (cntI (V.take k) x)), (6, .int .i64 k)]) (fun k => []) (fun k => V.length - k) 0 (Nat.zero_le _) ⟨[], by decide, rfl, ?_, ?_⟩ ?_
  · simp +contextual -implicitDefEqProofs (maxSteps := 1000000) only [sm, sn, sxx, seval]
  · simp +contextual -implicitDefEqProofs (maxSteps := 1000000) only [sm, sn, sxx, seval, Int.natCast_zero, cntI]
    rfl
  · intro k hk
    by_cases hlt : k < V.length
    · have hlt' : (k : Int) < (V.length : Int) := by omega
      have e2 : IntKind.i64.wrap ((k : Int) + 1) = ((k + 1 : Nat) : Int) := by rw [wrap_i64] <;> omega
      obtain ⟨y, hy⟩ : ∃ r, V[k]? = some r := ⟨_, List.getElem?_eq_getElem hlt⟩
      have hs := cnt_snoc (x := x) hy
      have hb := cnt_le (V.take k) x
      have hb2 : (V.take k).length ≤ V.length := List.length_take_le' k V
      by_cases hyx : y = x
      · rw [if_pos hyx] at hs
        have w1 : IntKind.i64.wrap ((cntI (V.take k) x : Int) + 1) = ((cntI (V.take (k + 1)) x : Nat) : Int) := by rw [hs, wrap_i64] <;> omega
        simp +contextual -implicitDefEqProofs (maxSteps := 1000000) only [sm, sn, sxx, seval, hlt', hy, hyx, w1, e2]
        refine ⟨k + 1, by omega, by omega, [], by decide, rfl, ?_, ?_⟩
        · simp +contextual -implicitDefEqProofs (maxSteps := 1000000) only [sm, sn, sxx, seval]
        · simp +contextual -implicitDefEqProofs (maxSteps := 1000000) only [sm, sn, sxx, seval]
      · rw [if_neg hyx] at hs
        simp +contextual -implicitDefEqProofs (maxSteps := 1000000) only [sm, sn, sxx, seval, hlt', hy, hyx, e2]
        refine ⟨k + 1, by omega, by omega, [], by decide, rfl, ?_, ?_⟩
        · simp +contextual -implicitDefEqProofs (maxSteps := 1000000) only [sm, sn, sxx, seval]
        · simp +contextual -implicitDefEqProofs (maxSteps := 1000000) only [sm, sn, sxx, seval, hs]
    · have hkn : k = V.length := by omega
      subst hkn
      rw [List.take_length]
      simp +contextual -implicitDefEqProofs (maxSteps := 1000000) only [sm, sn, sxx, seval, Int.lt_irrefl]
def clAt (A V : List Int) (i : Nat) : Bool := (decide (xat A i = 1) && decide (xat V i = 1)) || (decide (xat A i = -1) && decide (xat V i = 0))
def clB (A V : List Int) : Bool := (List.range V.length).any (clAt A V)
theorem cl_yes {A V : List Int} {k : Nat} (hk : k < V.length) (h : clAt A V k = true) : clB A V = true := List.any_eq_true.2 ⟨k, List.mem_range.2 hk, h⟩
theorem cl_no {A V : List Int} (h : ∀ k, k < V.length → clAt A V k = false) : clB A V = false := by
  unfold clB
  rw [List.any_eq_false]
  intro k hk
  rw [h k (List.mem_range.1 hk)]
  simp
theorem ref11_clause (c : Con) (V : List Int) (hV : V.length ≤ 1000000000000) (hA : V.length ≤ c.2.2.1.length) : Ctr Try.prog 63 [eCon c, eIs V] [] (.bool (clB c.2.2.1 V)) [] := by
  obtain ⟨K, X, A, C⟩ := c
  simp only at hA ⊢
  refine call_pure Try.func63 Try.call63 e_ref11_clause ?_
  simp +contextual -implicitDefEqProofs (maxSteps := 1000000) only [c_ref11_clause, eCon, eIs, sm, sn, sxx, seval]
  refine loop_rule (fun k : Nat => k ≤ V.length ∧ ∀ j, j < k → clAt A V j = false) (fun k => tm 40 [(1, .list 1 (V.map eI)), (2, .ptr 4 0 0 0), (5, .int .i64 k)]) (fun k => [some (4, [eCon (K, X, A, C)])]) (fun k => V.length - k) 0 ⟨Nat.zero_le _, by omega⟩ ⟨[0], by decide, rfl, ?_, ?_⟩ ?_
  · simp +contextual -implicitDefEqProofs (maxSteps := 1000000) only [sm, sn, sxx, seval, eCon, eIs]
  · simp +contextual -implicitDefEqProofs (maxSteps := 1000000) only [sm, sn, sxx, seval, Int.natCast_zero]
  · rintro k ⟨hk, hok⟩
    by_cases hlt : k < V.length
    · have hlt' : (k : Int) < (V.length : Int) := by omega
      have e2 : IntKind.i64.wrap ((k : Int) + 1) = ((k + 1 : Nat) : Int) := by rw [wrap_i64] <;> omega
      have hx := xat_get (X := A) (i := k) (by omega)
      have hv := xat_get hlt
      have hyes : clAt A V k = true → clB A V = true := cl_yes hlt
      have hnext : clAt A V k = false → ∀ j, j < k + 1 → clAt A V j = false := fun h j hj => by
        rcases Nat.lt_succ_iff_lt_or_eq.1 hj with h' | rfl
        · exact hok j h'
        · exact h
      generalize hq : clAt A V k = q at hyes hnext
      unfold clAt at hq
      generalize xat A k = p at hx hq
      generalize xat V k = u at hv hq
      subst hq
      have hcs : (p = 1 ∧ u = 1) ∨ (p = 1 ∧ ¬ u = 1) ∨ (¬ p = 1 ∧ p = -1 ∧ u = 0) ∨ (¬ p = 1 ∧ p = -1 ∧ ¬ u = 0) ∨ (¬ p = 1 ∧ ¬ p = -1) := by omega
      rcases hcs with ⟨rfl, rfl⟩ | ⟨rfl, h1⟩ | ⟨h0, rfl, rfl⟩ | ⟨h0, rfl, h1⟩ | ⟨h0, h1⟩
      · rw [hyes (by decide)]
        simp +contextual -implicitDefEqProofs (maxSteps := 1000000) only [sm, sn, sxx, seval, eCon, eIs, hlt', hx, hv]
      · have hn := hnext (by simp [h1])
        simp +contextual -implicitDefEqProofs (maxSteps := 1000000) only [sm, sn, sxx, seval, eCon, eIs, hlt', hx, hv, h1, e2]
        refine ⟨k + 1, ⟨by omega, hn⟩, by omega, [0], by decide, rfl, ?_, ?_⟩
        · simp +contextual -implicitDefEqProofs (maxSteps := 1000000) only [sm, sn, sxx, seval, eCon, eIs]
        · simp +contextual -implicitDefEqProofs (maxSteps := 1000000) only [sm, sn, sxx, seval]
      · rw [hyes (by decide)]
        simp +contextual -implicitDefEqProofs (maxSteps := 1000000) only [sm, sn, sxx, seval, eCon, eIs, hlt', hx, hv]
      · have hn := hnext (by simp [h1])
        simp +contextual -implicitDefEqProofs (maxSteps := 1000000) only [sm, sn, sxx, seval, eCon, eIs, hlt', hx, hv, h1, e2]
        refine ⟨k + 1, ⟨by omega, hn⟩, by omega, [0], by decide, rfl, ?_, ?_⟩
        · simp +contextual -implicitDefEqProofs (maxSteps := 1000000) only [sm, sn, sxx, seval, eCon, eIs]
        · simp +contextual -implicitDefEqProofs (maxSteps := 1000000) only [sm, sn, sxx, seval]
      · have hn := hnext (by simp [h0, h1])
        simp +contextual -implicitDefEqProofs (maxSteps := 1000000) only [sm, sn, sxx, seval, eCon, eIs, hlt', hx, hv, h0, h1, e2]
        refine ⟨k + 1, ⟨by omega, hn⟩, by omega, [0], by decide, rfl, ?_, ?_⟩
        · simp +contextual -implicitDefEqProofs (maxSteps := 1000000) only [sm, sn, sxx, seval, eCon, eIs]
        · simp +contextual -implicitDefEqProofs (maxSteps := 1000000) only [sm, sn, sxx, seval]
    · have hkn : k = V.length := by omega
      subst hkn
      rw [cl_no hok]
      simp +contextual -implicitDefEqProofs (maxSteps := 1000000) only [sm, sn, sxx, seval, eCon, eIs, Int.lt_irrefl]
end Go.Proofs.Ytnhedjpghpdbdaa
namespace Go.Proofs.Ytnhedjpghpdbdaa
open Av
attribute [local irreducible] awp awpOpers
set_option linter.unusedSimpArgs false
set_option linter.unusedVariables false
set_option maxRecDepth 100000
set_option maxHeartbeats 4000000
def upN (n : Nat) : List Int := (List.range n).map fun i : Nat => (i : Int)
theorem up_len (n : Nat) : (upN n).length = n := by unfold upN; rw [List.length_map, List.length_range]
theorem up_get {n k : Nat} (h : k < n) : (upN n)[k]? = some (k : Int) := by
  unfold upN
  rw [List.getElem?_map, List.getElem?_range h]; rfl
def oneD (V : List Int) : List (List Rg) := V.map fun v => [(v, v)]
theorem one_get {V : List Int} {k : Nat} {v : Int} (h : V[k]? = some v) : (oneD V)[k]? = some [(v, v)] := by
  unfold oneD
  rw [List.getElem?_map, h]; rfl
def idxB (a : List Int) (x : Int) : Bool := decide (0 ≤ x) && decide (x < a.length) && withinB (xat a x.toNat)
/-- is a constraint asked rightly? -/
def askdB (c : Con) (a : List Int) : Bool :=
  decide (c.2.2.1.length ≤ 128) && decide (c.2.1.length ≤ 32) && c.2.1.all (idxB a) && mayB (oneD (valsOf c.2.1 a)) (c.1, upN c.2.1.length, c.2.2.1, c.2.2.2)
theorem ref11_Asked (c : Con) (a : List Int) (hA : c.2.2.1.length ≤ 1000000000000) (hX : c.2.1.length ≤ 1000000000000) (ha : a.length ≤ 1000000000000) : Ctr Try.prog 29 [eCon c, eIs a] [] (.bool (askdB c a)) [] := by
  obtain ⟨K, X, A, C⟩ := c
  simp only at hA hX
  refine call_pure Try.func29 Try.call29 e_ref11_Asked ?_
  by_cases h1 : A.length ≤ 128
  · have h1' : ¬ (128 : Int) < (A.length : Int) := by omega
    by_cases h2 : X.length ≤ 32
    · have h2' : ¬ (32 : Int) < (X.length : Int) := by omega
      have hask : askdB (K, X, A, C) a = (X.all (idxB a) && mayB (oneD (valsOf X a)) (K, upN X.length, A, C)) := by simp [askdB, h1, h2]
      simp +contextual -implicitDefEqProofs (maxSteps := 1000000) only [c_ref11_Asked, eCon, eIs, sm, sn, sxx, seval, h1', h2']
      refine loop_rule (fun k : Nat => k ≤ X.length ∧ ∀ (j : Nat) x, j < k → X[j]? = some x → idxB a x = true) (fun k => tm 91 [(1, .list 1 (a.map eI)), (2, .ptr 4 0 0 0), (5, .ptr 4 1 0 0), (6, .int .i64 k)]) (fun k => [some (4, [eCon (K, X, A, C)]), some (4, [.agg [.nils, .nils, .int .i64 0, .int .i64 0]])]) (fun k => X.length - k) 0 ⟨Nat.zero_le _, by omega⟩ ⟨[0, 1], by decide, rfl, ?_, ?_⟩ ?_
      · simp +contextual -implicitDefEqProofs (maxSteps := 1000000) only [sm, sn, sxx, seval, eCon, eIs]
      · simp +contextual -implicitDefEqProofs (maxSteps := 1000000) only [sm, sn, sxx, seval, Int.natCast_zero]
      · rintro k ⟨hk, hok⟩
        by_cases hlt : k < X.length
        · have hlt' : (k : Int) < (X.length : Int) := by omega
          have e2 : IntKind.i64.wrap ((k : Int) + 1) = ((k + 1 : Nat) : Int) := by rw [wrap_i64] <;> omega
          obtain ⟨x, hx⟩ : ∃ r, X[k]? = some r := ⟨_, List.getElem?_eq_getElem hlt⟩
          have hno : idxB a x = false → askdB (K, X, A, C) a = false := fun h => by rw [hask, listall_no hx h]; rfl
          unfold idxB at hno
          by_cases x0 : x < 0
          · rw [hno (by simp; omega)]
            simp +contextual -implicitDefEqProofs (maxSteps := 1000000) only [sm, sn, sxx, seval, eCon, eIs, hlt', hx, x0]
          · by_cases x1 : (a.length : Int) ≤ x
            · rw [hno (by simp; omega)]
              simp +contextual -implicitDefEqProofs (maxSteps := 1000000) only [sm, sn, sxx, seval, eCon, eIs, hlt', hx, x0, x1]
            · have x0' : 0 ≤ x := by omega
              have x1' : x < (a.length : Int) := by omega
              have hv : a[x.toNat]? = some (xat a x.toNat) := xat_get (by omega)
              simp +contextual -implicitDefEqProofs (maxSteps := 1000000) only [sm, sn, sxx, seval, eCon, eIs, hlt', hx, x0, x1, x0', x1', hv]
              refine callA_rule (ref08_Within _) (wkL_refl _) rfl ?_
              cases hw : withinB (xat a x.toNat)
              · rw [hno (by simp [hw])]
                simp +contextual -implicitDefEqProofs (maxSteps := 1000000) only [sm, sn, sxx, seval]
              · simp +contextual -implicitDefEqProofs (maxSteps := 1000000) only [sm, sn, sxx, seval, e2]
                refine ⟨k + 1, ⟨by omega, ?_⟩, by omega, [0, 1], by decide, rfl, ?_, ?_⟩
                · intro j y hj hy
                  rcases Nat.lt_succ_iff_lt_or_eq.1 hj with h | rfl
                  · exact hok j y h hy
                  · rw [hx] at hy; injection hy with hy; subst hy
                    simp [idxB, hw, x0', x1']
                · simp +contextual -implicitDefEqProofs (maxSteps := 1000000) only [sm, sn, sxx, seval, eCon, eIs]
                · simp +contextual -implicitDefEqProofs (maxSteps := 1000000) only [sm, sn, sxx, seval]
        · have hkn : k = X.length := by omega
          subst hkn
          have hall := listall_yes hok
          rw [hall, Bool.true_and] at hask
          rw [hask]
          have hi : Idx X a := fun x hx => by
            have := List.all_eq_true.1 hall x hx
            unfold idxB at this
            simp only [Bool.and_eq_true, decide_eq_true_eq] at this
            exact this.1
          have hVl : (valsOf X a).length = X.length := by unfold valsOf; rw [List.length_map]
          have hDl : (oneD (valsOf X a)).length = X.length := by unfold oneD; rw [List.length_map, hVl]
          have hUl := up_len X.length
          have hDk : ∀ (j : Nat) x, X[j]? = some x → (oneD (valsOf X a))[j]? = some [(xat a x.toNat, xat a x.toNat)] := fun j x h => one_get (vals_get h)
          have hUk : ∀ j, j < X.length → (upN X.length)[j]? = some (j : Int) := fun j h => up_get h
          have hbd : ∀ d ∈ oneD (valsOf X a), d.length ≤ 1000000000000 := by
            intro d hd
            unfold oneD at hd
            obtain ⟨v, -, rfl⟩ := List.mem_map.1 hd
            simp
          generalize oneD (valsOf X a) = D at hDl hDk hbd ⊢
          generalize upN X.length = U at hUl hUk ⊢
          simp +contextual -implicitDefEqProofs (maxSteps := 1000000) only [sm, sn, sxx, seval, eCon, eIs, Int.lt_irrefl]
          refine loop_ruleF [(1, 0, 1), (2, 1, 1)] [] (fun k : Nat => k ≤ X.length) (fun k => tm 91 [(1, .list 1 (a.map eI)), (2, .ptr 4 0 0 0), (5, .ptr 4 1 0 0), (7, .ptr 4 2 0 0), (8, .int .i64 k)])
            (fun k => [some (4, [eCon (K, X, A, C)]), some (4, [.agg [.sl 1 3 0 k, .nils, .int .i64 0, .int .i64 0]]), some (4, [.agg [.int .i64 K, .sl 1 4 0 k, eIs A, .int .i64 C]]), some (1, (D.take k).map eRgs), some (1, (U.take k).map eI)]) (fun k => X.length - k) 0 (by simp +contextual -implicitDefEqProofs (maxSteps := 1000000) only [sm, sn, sxx, seval, eCon, eIs]) rfl (Nat.zero_le _) ⟨[0, 1, 2, 3, 4], by decide, rfl, ?_, ?_⟩ ?_
          · simp +contextual -implicitDefEqProofs (maxSteps := 1000000) only [sm, sn, sxx, seval, eCon, eIs]
          · simp +contextual -implicitDefEqProofs (maxSteps := 1000000) only [sm, sn, sxx, seval, Int.natCast_zero]
          · intro k hk
            have hkD : (D.take k).length = k := by rw [List.length_take]; omega
            have hkU : (U.take k).length = k := by rw [List.length_take]; omega
            by_cases hlt : k < X.length
            · have hlt' : (k : Int) < (X.length : Int) := by omega
              have e2 : IntKind.i64.wrap ((k : Int) + 1) = ((k + 1 : Nat) : Int) := by rw [wrap_i64] <;> omega
              obtain ⟨x, hx⟩ : ∃ r, X[k]? = some r := ⟨_, List.getElem?_eq_getElem hlt⟩
              obtain ⟨x0, x1⟩ := hi x (List.mem_of_getElem? hx)
              have hv := idx_get hi hx
              have hs1 := take_snoc (hDk k x hx)
              have hs2 := take_snoc (hUk k hlt)
              have c1 : (k + 1) * 24 ≤ 140737488355328 := by omega
              have c3 : (k + 1) * 8 ≤ 140737488355328 := by omega
              have c2 : k + 1 ≤ maxLen := by unfold maxLen; omega
              generalize xat a x.toNat = v at hv hs1
              have hone : (D.take k).map eRgs ++ [AV.list 2 [AV.agg [.int .i64 v, .int .i64 v]]] = (D.take (k + 1)).map eRgs := by rw [← hs1]; simp [eRgs, eRg]
              simp +contextual -implicitDefEqProofs (maxSteps := 1000000) only [sm, sn, sxx, seval, eCon, eIs, hlt', hlt, hx, hv, x0, x1, hkD, hkU, c1, c2, c3, hone, hs2, e2]
              refine ⟨k + 1, by omega, by omega, [0, 1, 2, 5, 6], by decide, rfl, ?_, ?_⟩
              · simp +contextual -implicitDefEqProofs (maxSteps := 1000000) only [sm, sn, sxx, seval, eCon, eIs]
              · simp +contextual -implicitDefEqProofs (maxSteps := 1000000) only [sm, sn, sxx, seval]
            · have hkn : k = X.length := by omega
              subst hkn
              have t0 : D.take X.length = D := by rw [← hDl, List.take_length]
              have t1 : U.take X.length = U := by rw [← hUl, List.take_length]
              rw [t0, t1]
              simp +contextual -implicitDefEqProofs (maxSteps := 1000000) only [sm, sn, sxx, seval, eCon, eIs, Int.lt_irrefl]
              refine callV_rule (ref08_Con (D, [], 0, 0) (K, U, A, C) (by simp only; omega) hbd (by simp only; omega) hA) ?_ rfl ?_
              · have u1 : (X.length ≤ D.length) = True := by rw [hDl]; simp
                have u2 : (X.length ≤ U.length) = True := by rw [hUl]; simp
                have u3 : (D.map eRgs).take X.length = D.map eRgs := by rw [← List.map_take, t0]
                have u4 : (U.map eI).take X.length = U.map eI := by rw [← List.map_take, t1]
                simp +contextual -implicitDefEqProofs (maxSteps := 1000000) only [sm, sn, sxx, seval, eMod, eCon, eIs, eDoms, eCons, u1, u2, u3, u4]
              simp +contextual -implicitDefEqProofs (maxSteps := 1000000) only [sm, sn, sxx, seval]
    · have h2' : (32 : Int) < (X.length : Int) := by omega
      simp +contextual -implicitDefEqProofs (maxSteps := 1000000) only [c_ref11_Asked, eCon, eIs, sm, sn, sxx, seval, h1', h2']
      simp [askdB, h2]
  · have h1' : (128 : Int) < (A.length : Int) := by omega
    simp +contextual -implicitDefEqProofs (maxSteps := 1000000) only [c_ref11_Asked, eCon, eIs, sm, sn, sxx, seval, h1']
    simp [askdB, h1]
end Go.Proofs.Ytnhedjpghpdbdaa
namespace Go.Proofs.Ytnhedjpghpdbdaa
open Av
set_option linter.unusedVariables false
set_option maxRecDepth 100000
def kd_CRef11u (f : Nat) : Nat := 0
/- touchstone/touchstoneref11.unlike: slots v, 0, v, 1, i, 3 -/
def c_ref11_unlike : AFunc := ⟨17, [.tmp 2],
  .seq (.region (⟨some 2, .mov (.val (.bool false)), none⟩ :: [])) <|
  .seq (.seq (.region (⟨some 3, .mov (.val (.int .i64 0)), none⟩ :: [])) <|
  .block 0 (.loop (.seq (.seq (.region (⟨some 4, .mov (.tmp 3), none⟩ ::
        ⟨some 5, .mov (.tmp 0), none⟩ ::
        ⟨some 6, .len false (.tmp 5), none⟩ ::
        ⟨some 7, .bin .lss (.tmp 4) (.tmp 6), none⟩ :: [])) <|
      .cond (.tmp 7) (.skip) <|
      .exit 0) <|
      .seq (.block 1 (.seq (.region (⟨some 10, .mov (.tmp 0), none⟩ ::
          ⟨some 11, .mov (.tmp 0), none⟩ ::
          ⟨some 12, .mov (.tmp 3), none⟩ ::
          ⟨some 13, .iaddr 1 (.tmp 11) (.tmp 12), none⟩ ::
          ⟨some 14, .load false 1 (.tmp 13), none⟩ ::
          ⟨some 15, .call (.val (.fn (.func 64) [])) [(.tmp 10), (.tmp 14)], none⟩ ::
          ⟨some 16, .bin .gtr (.tmp 15) (.val (.int .i64 1)), none⟩ :: [])) <|
        .cond (.tmp 16) (.seq (.region (⟨some 2, .mov (.val (.bool false)), none⟩ :: [])) <|
          .ret) <|
        .skip)) <|
      .region (⟨some 8, .mov (.tmp 3), none⟩ ::
        ⟨some 9, .bin .add (.tmp 8) (.val (.int .i64 1)), none⟩ ::
        ⟨some 3, .mov (.tmp 9), none⟩ :: [])))) <|
  .seq (.region (⟨some 2, .mov (.val (.bool true)), none⟩ :: [])) <|
  .ret⟩
theorem e_ref11_unlike : cFunc Try.prog kd_CRef11u Try.f65 = some c_ref11_unlike := by kernel_rfl
/- touchstone/touchstoneref11.load: slots c, 0, v, 1, t, 2, c, 3, v, 4, t, 5, n, 7, i, 8 -/
def c_ref11_load : AFunc := ⟨46, [.tmp 6],
  .seq (.region (⟨some 3, .box 4 (.tmp 0), none⟩ ::
    ⟨some 6, .mov (.val (.int .i64 0)), none⟩ :: [])) <|
  .seq (.region (⟨some 7, .mov (.val (.int .i64 0)), none⟩ :: [])) <|
  .seq (.seq (.region (⟨some 8, .mov (.val (.int .i64 0)), none⟩ :: [])) <|
  .block 0 (.loop (.seq (.seq (.region (⟨some 9, .mov (.tmp 8), none⟩ ::
        ⟨some 10, .mov (.tmp 1), none⟩ ::
        ⟨some 11, .len false (.tmp 10), none⟩ ::
        ⟨some 12, .bin .lss (.tmp 9) (.tmp 11), none⟩ :: [])) <|
      .cond (.tmp 12) (.skip) <|
      .exit 0) <|
      .seq (.block 1 (.seq (.region (⟨some 15, .mov (.tmp 1), none⟩ ::
          ⟨some 16, .mov (.tmp 8), none⟩ ::
          ⟨some 17, .iaddr 1 (.tmp 15) (.tmp 16), none⟩ ::
          ⟨some 18, .load false 1 (.tmp 17), none⟩ ::
          ⟨some 19, .mov (.tmp 2), none⟩ ::
          ⟨some 20, .bin .leq (.tmp 18) (.tmp 19), none⟩ ::
          ⟨some 21, .mov (.tmp 20), none⟩ ::
          ⟨some 22, .mov (.tmp 2), some (21, true)⟩ ::
          ⟨some 23, .mov (.tmp 1), some (21, true)⟩ ::
          ⟨some 24, .mov (.tmp 8), some (21, true)⟩ ::
          ⟨some 25, .iaddr 1 (.tmp 23) (.tmp 24), some (21, true)⟩ ::
          ⟨some 26, .load false 1 (.tmp 25), some (21, true)⟩ ::
          ⟨some 27, .faddr 2 (.tmp 3), some (21, true)⟩ ::
          ⟨some 28, .load false 1 (.tmp 27), some (21, true)⟩ ::
          ⟨some 29, .mov (.tmp 8), some (21, true)⟩ ::
          ⟨some 30, .iaddr 1 (.tmp 28) (.tmp 29), some (21, true)⟩ ::
          ⟨some 31, .load false 1 (.tmp 30), some (21, true)⟩ ::
          ⟨some 32, .bin .add (.tmp 26) (.tmp 31), some (21, true)⟩ ::
          ⟨some 33, .bin .lss (.tmp 22) (.tmp 32), some (21, true)⟩ ::
          ⟨some 34, .pick (.tmp 21) (.tmp 33) (.val (.bool false)), none⟩ :: [])) <|
        .cond (.tmp 34) (.region (⟨some 35, .mov (.tmp 7), none⟩ ::
            ⟨some 36, .faddr 2 (.tmp 3), none⟩ ::
            ⟨some 37, .load false 1 (.tmp 36), none⟩ ::
            ⟨some 38, .mov (.tmp 1), none⟩ ::
            ⟨some 39, .len false (.tmp 38), none⟩ ::
            ⟨some 40, .mov (.tmp 8), none⟩ ::
            ⟨some 41, .bin .add (.tmp 39) (.tmp 40), none⟩ ::
            ⟨some 42, .iaddr 1 (.tmp 37) (.tmp 41), none⟩ ::
            ⟨some 43, .load false 1 (.tmp 42), none⟩ ::
            ⟨some 44, .bin .add (.tmp 35) (.tmp 43), none⟩ ::
            ⟨some 7, .mov (.tmp 44), none⟩ :: [])) <|
        .skip)) <|
      .region (⟨some 13, .mov (.tmp 8), none⟩ ::
        ⟨some 14, .bin .add (.tmp 13) (.val (.int .i64 1)), none⟩ ::
        ⟨some 8, .mov (.tmp 14), none⟩ :: [])))) <|
  .seq (.region (⟨some 45, .mov (.tmp 7), none⟩ ::
    ⟨some 6, .mov (.tmp 45), none⟩ :: [])) <|
  .ret⟩
theorem e_ref11_load : cFunc Try.prog kd_CRef11u Try.f102 = some c_ref11_load := by kernel_rfl
/- touchstone/touchstoneref11.tasks: slots c, 0, v, 1, c, 2, v, 3, i, 5 -/
def c_ref11_tasks : AFunc := ⟨30, [.tmp 4],
  .seq (.region (⟨some 2, .box 4 (.tmp 0), none⟩ ::
    ⟨some 4, .mov (.val (.bool false)), none⟩ :: [])) <|
  .seq (.seq (.region (⟨some 5, .mov (.val (.int .i64 0)), none⟩ :: [])) <|
  .block 0 (.loop (.seq (.seq (.region (⟨some 6, .mov (.tmp 5), none⟩ ::
        ⟨some 7, .mov (.tmp 1), none⟩ ::
        ⟨some 8, .len false (.tmp 7), none⟩ ::
        ⟨some 9, .bin .lss (.tmp 6) (.tmp 8), none⟩ :: [])) <|
      .cond (.tmp 9) (.skip) <|
      .exit 0) <|
      .seq (.block 1 (.seq (.region (⟨some 12, .faddr 2 (.tmp 2), none⟩ ::
          ⟨some 13, .load false 1 (.tmp 12), none⟩ ::
          ⟨some 14, .mov (.tmp 5), none⟩ ::
          ⟨some 15, .iaddr 1 (.tmp 13) (.tmp 14), none⟩ ::
          ⟨some 16, .load false 1 (.tmp 15), none⟩ ::
          ⟨some 17, .bin .gtr (.tmp 16) (.val (.int .i64 0)), none⟩ ::
          ⟨some 18, .mov (.tmp 17), none⟩ ::
          ⟨some 19, .load true 4 (.tmp 2), some (18, true)⟩ ::
          ⟨some 20, .mov (.tmp 1), some (18, true)⟩ ::
          ⟨some 21, .mov (.tmp 1), some (18, true)⟩ ::
          ⟨some 22, .mov (.tmp 5), some (18, true)⟩ ::
          ⟨some 23, .iaddr 1 (.tmp 21) (.tmp 22), some (18, true)⟩ ::
          ⟨some 24, .load false 1 (.tmp 23), some (18, true)⟩ ::
          ⟨some 25, .call (.val (.fn (.func 102) [])) [(.tmp 19), (.tmp 20), (.tmp 24)], some (18, true)⟩ ::
          ⟨some 26, .faddr 3 (.tmp 2), some (18, true)⟩ ::
          ⟨some 27, .load false 1 (.tmp 26), some (18, true)⟩ ::
          ⟨some 28, .bin .gtr (.tmp 25) (.tmp 27), some (18, true)⟩ ::
          ⟨some 29, .pick (.tmp 18) (.tmp 28) (.val (.bool false)), none⟩ :: [])) <|
        .cond (.tmp 29) (.seq (.region (⟨some 4, .mov (.val (.bool false)), none⟩ :: [])) <|
          .ret) <|
        .skip)) <|
      .region (⟨some 10, .mov (.tmp 5), none⟩ ::
        ⟨some 11, .bin .add (.tmp 10) (.val (.int .i64 1)), none⟩ ::
        ⟨some 5, .mov (.tmp 11), none⟩ :: [])))) <|
  .seq (.region (⟨some 4, .mov (.val (.bool true)), none⟩ :: [])) <|
  .ret⟩
theorem e_ref11_tasks : cFunc Try.prog kd_CRef11u Try.f66 = some c_ref11_tasks := by kernel_rfl
end Go.Proofs.Ytnhedjpghpdbdaa
namespace Go.Proofs.Ytnhedjpghpdbdaa
open Av
attribute [local irreducible] awp awpOpers
set_option linter.unusedSimpArgs false
set_option linter.unusedVariables false
set_option maxRecDepth 100000
set_option maxHeartbeats 4000000
def unlikeB (V : List Int) : Bool := V.all fun v => decide (cntI V v ≤ 1)
theorem ref11_unlike (V : List Int) (hV : V.length ≤ 1000000000000) : Ctr Try.prog 65 [eIs V] [] (.bool (unlikeB V)) [] := by
  refine call_pure Try.func65 Try.call65 e_ref11_unlike ?_
  simp +contextual -implicitDefEqProofs (maxSteps := 1000000) only [c_ref11_unlike, eIs, sm, sn, sxx, seval]
  refine loop_rule (fun k : Nat => k ≤ V.length ∧ ∀ (j : Nat) x, j < k → V[j]? = some x → (fun v => decide (cntI V v ≤ 1)) x = true) (fun k => tm 17 [(0, .list 1 (V.map eI)), (3, .int .i64 k)]) (fun _ => []) (fun k => V.length - k) 0 ⟨by omega, by omega⟩ ⟨[], by decide, rfl, ?_, ?_⟩ ?_
  · simp +contextual -implicitDefEqProofs (maxSteps := 1000000) only [sm, sn, sxx, seval]
  · simp +contextual -implicitDefEqProofs (maxSteps := 1000000) only [sm, sn, sxx, seval, Int.natCast_zero]
  · rintro k ⟨hk, hok⟩
    by_cases hlt : k < V.length
    · obtain ⟨x, hx⟩ : ∃ r, V[k]? = some r := ⟨_, List.getElem?_eq_getElem hlt⟩
      have hlt' : (k : Int) < (V.length : Int) := by omega
      have e2 : IntKind.i64.wrap ((k : Int) + 1) = ((k + 1 : Nat) : Int) := by rw [wrap_i64] <;> omega
      simp +contextual -implicitDefEqProofs (maxSteps := 1000000) only [sm, sn, sxx, seval, hlt', hx]
      refine callA_rule (ref11_count V x hV) (wkL_refl _) rfl ?_
      by_cases hc : 1 < (cntI V x : Int)
      · have hno : unlikeB V = false := listall_no hx (by simp; omega)
        rw [hno]
        simp +contextual -implicitDefEqProofs (maxSteps := 1000000) only [sm, sn, sxx, seval, hc]
      · simp +contextual -implicitDefEqProofs (maxSteps := 1000000) only [sm, sn, sxx, seval, hc, e2]
        refine ⟨k + 1, ⟨by omega, ?_⟩, by omega, [], by decide, rfl, ?_, ?_⟩
        · intro j y hj hy
          rcases Nat.lt_succ_iff_lt_or_eq.1 hj with h | rfl
          · first | exact hok j y h hy | simpa using hok j y h hy
          · rw [hx] at hy; injection hy with hy; subst hy; first | omega | exact decide_eq_true (by omega)
        · simp +contextual -implicitDefEqProofs (maxSteps := 1000000) only [sm, sn, sxx, seval]
        · simp +contextual -implicitDefEqProofs (maxSteps := 1000000) only [sm, sn, sxx, seval]
    · have : k = V.length := by omega
      subst this
      have hall := listall_yes hok
      have hu : unlikeB V = true := hall
      rw [hu]
      simp +contextual -implicitDefEqProofs (maxSteps := 1000000) only [sm, sn, sxx, seval, Int.lt_irrefl]
/-- the load of tasks at a time -/
def loadN (A V : List Int) (t : Int) : Nat → Int
  | 0 => 0
  | k + 1 => loadN A V t k + if xat V k ≤ t ∧ t < xat V k + xat A k then xat A (V.length + k) else 0
theorem load_bound {A V : List Int} (hA : Sm A) (t : Int) : ∀ k : Nat, -1048576 * (k : Int) ≤ loadN A V t k ∧ loadN A V t k ≤ 1048576 * (k : Int)
  | 0 => by simp [loadN]
  | k + 1 => by
    have ih := load_bound (V := V) hA t k
    have h := sm_at hA (V.length + k)
    unfold loadN
    split <;> omega
theorem ref11_load (c : Con) (V : List Int) (t : Int) (hV : V.length ≤ 128) (h2 : c.2.2.1.length = 2 * V.length) (hA : Sm c.2.2.1) (hs : Sm V) : Ctr Try.prog 102 [eCon c, eIs V, .int .i64 t] [] (.int .i64 (loadN c.2.2.1 V t V.length)) [] := by
  obtain ⟨K, X, A, C⟩ := c
  simp only at h2 hA ⊢
  refine call_pure Try.func102 Try.call102 e_ref11_load ?_
  simp +contextual -implicitDefEqProofs (maxSteps := 1000000) only [c_ref11_load, eCon, eIs, sm, sn, sxx, seval]
  refine loop_rule (fun k : Nat => k ≤ V.length) (fun k => tm 46 [(1, .list 1 (V.map eI)), (2, .int .i64 t), (3, .ptr 4 0 0 0), (7, .int .i64 (loadN A V t k)), (8, .int .i64 k)]) (fun _ => [some (4, [eCon (K, X, A, C)])]) (fun k => V.length - k) 0 (Nat.zero_le _) ⟨[0], by decide, rfl, ?_, ?_⟩ ?_
  · simp +contextual -implicitDefEqProofs (maxSteps := 1000000) only [sm, sn, sxx, seval, eCon, eIs]
  · simp +contextual -implicitDefEqProofs (maxSteps := 1000000) only [sm, sn, sxx, seval, Int.natCast_zero, loadN]
  · intro k hk
    by_cases hlt : k < V.length
    · have hlt' : (k : Int) < (V.length : Int) := by omega
      have e2 : IntKind.i64.wrap ((k : Int) + 1) = ((k + 1 : Nat) : Int) := by rw [wrap_i64] <;> omega
      have hx := xat_get hlt
      have ha : A[k]? = some (xat A k) := xat_get (by omega)
      have hb : A[V.length + k]? = some (xat A (V.length + k)) := xat_get (by omega)
      have hla : (k : Int) < (A.length : Int) := by omega
      have hlb : ((V.length + k : Nat) : Int) < (A.length : Int) := by omega
      have b1 := sm_at hA k
      have b2 := sm_at hs k
      have b3 := sm_at hA (V.length + k)
      have b4 := load_bound (V := V) hA t k
      have w1 : IntKind.i64.wrap (xat V k + xat A k) = xat V k + xat A k := by rw [wrap_i64] <;> omega
      have w2 : IntKind.i64.wrap ((V.length : Int) + (k : Int)) = ((V.length + k : Nat) : Int) := by rw [wrap_i64] <;> omega
      have w3 : IntKind.i64.wrap (loadN A V t k + xat A (V.length + k)) = loadN A V t k + xat A (V.length + k) := by rw [wrap_i64] <;> omega
      by_cases h3 : xat V k ≤ t
      · by_cases h4 : t < xat V k + xat A k
        · have hs : loadN A V t (k + 1) = loadN A V t k + xat A (V.length + k) := by conv => lhs; unfold loadN; rw [if_pos ⟨h3, h4⟩]
          simp +contextual -implicitDefEqProofs (maxSteps := 1000000) only [sm, sn, sxx, seval, eCon, eIs, hlt', hx, ha, hb, hla, hlb, w1, w2, w3, h3, h4, e2]
          refine ⟨k + 1, by omega, by omega, [0], by decide, rfl, ?_, ?_⟩
          · simp +contextual -implicitDefEqProofs (maxSteps := 1000000) only [sm, sn, sxx, seval, eCon, eIs]
          · simp +contextual -implicitDefEqProofs (maxSteps := 1000000) only [sm, sn, sxx, seval, hs]
        · have hs : loadN A V t (k + 1) = loadN A V t k := by conv => lhs; unfold loadN; rw [if_neg (fun h => h4 h.2), Int.add_zero]
          simp +contextual -implicitDefEqProofs (maxSteps := 1000000) only [sm, sn, sxx, seval, eCon, eIs, hlt', hx, ha, hla, w1, h3, h4, e2]
          refine ⟨k + 1, by omega, by omega, [0], by decide, rfl, ?_, ?_⟩
          · simp +contextual -implicitDefEqProofs (maxSteps := 1000000) only [sm, sn, sxx, seval, eCon, eIs]
          · simp +contextual -implicitDefEqProofs (maxSteps := 1000000) only [sm, sn, sxx, seval, hs]
      · have hs : loadN A V t (k + 1) = loadN A V t k := by conv => lhs; unfold loadN; rw [if_neg (fun h => h3 h.1), Int.add_zero]
        simp +contextual -implicitDefEqProofs (maxSteps := 1000000) only [sm, sn, sxx, seval, eCon, eIs, hlt', hx, h3, e2]
        refine ⟨k + 1, by omega, by omega, [0], by decide, rfl, ?_, ?_⟩
        · simp +contextual -implicitDefEqProofs (maxSteps := 1000000) only [sm, sn, sxx, seval, eCon, eIs]
        · simp +contextual -implicitDefEqProofs (maxSteps := 1000000) only [sm, sn, sxx, seval, hs]
    · have hkn : k = V.length := by omega
      subst hkn
      simp +contextual -implicitDefEqProofs (maxSteps := 1000000) only [sm, sn, sxx, seval, Int.lt_irrefl]
def tasksB (A : List Int) (C : Int) (V : List Int) : Bool := (List.range V.length).all fun k => !(decide (0 < xat A k) && decide (C < loadN A V (xat V k) V.length))
theorem ref11_tasks (c : Con) (V : List Int) (hV : V.length ≤ 128) (h2 : c.2.2.1.length = 2 * V.length) (hA : Sm c.2.2.1) (hs : Sm V) : Ctr Try.prog 66 [eCon c, eIs V] [] (.bool (tasksB c.2.2.1 c.2.2.2 V)) [] := by
  obtain ⟨K, X, A, C⟩ := c
  simp only at h2 hA ⊢
  refine call_pure Try.func66 Try.call66 e_ref11_tasks ?_
  simp +contextual -implicitDefEqProofs (maxSteps := 1000000) only [c_ref11_tasks, eCon, eIs, sm, sn, sxx, seval]
  refine loop_rule (fun k : Nat => k ≤ V.length ∧ ∀ j, j < k → (fun k => !(decide (0 < xat A k) && decide (C < loadN A V (xat V k) V.length))) j = true) (fun k => tm 30 [(1, .list 1 (V.map eI)), (2, .ptr 4 0 0 0), (5, .int .i64 k)]) (fun _ => [some (4, [eCon (K, X, A, C)])]) (fun k => V.length - k) 0 ⟨by omega, by omega⟩ ⟨[0], by decide, rfl, ?_, ?_⟩ ?_
  · simp +contextual -implicitDefEqProofs (maxSteps := 1000000) only [sm, sn, sxx, seval, eCon, eIs]
  · simp +contextual -implicitDefEqProofs (maxSteps := 1000000) only [sm, sn, sxx, seval, Int.natCast_zero, eCon, eIs]
  · rintro k ⟨hk, hok⟩
    by_cases hlt : k < V.length
    · have hlt' : (k : Int) < ((V.length : Nat) : Int) := by omega
      have e2 : IntKind.i64.wrap ((k : Int) + 1) = ((k + 1 : Nat) : Int) := by rw [wrap_i64] <;> omega
      have ha : A[k]? = some (xat A k) := xat_get (by omega)
      have hla : (k : Int) < (A.length : Int) := by omega
      have hx := xat_get hlt
      by_cases h3 : 0 < xat A k
      · simp +contextual -implicitDefEqProofs (maxSteps := 1000000) only [sm, sn, sxx, seval, eCon, eIs, hlt', hx, ha, hla, h3]
        refine callA_rule (ref11_load (K, X, A, C) V (xat V k) hV h2 hA hs) (by simp +contextual -implicitDefEqProofs (maxSteps := 1000000) only [sm, sn, sxx, seval, eCon, eIs]) rfl ?_
        by_cases h4 : C < loadN A V (xat V k) V.length
        · have hno : tasksB A C V = false := by
            unfold tasksB
            rw [List.all_eq_false]
            exact ⟨k, List.mem_range.2 hlt, by simp [h3, h4]⟩
          rw [hno]
          simp +contextual -implicitDefEqProofs (maxSteps := 1000000) only [sm, sn, sxx, seval, eCon, eIs, h4]
        · simp +contextual -implicitDefEqProofs (maxSteps := 1000000) only [sm, sn, sxx, seval, eCon, eIs, h4, e2]
          refine ⟨k + 1, ⟨by omega, ?_⟩, by omega, [0], by decide, rfl, ?_, ?_⟩
          · intro j hj
            rcases Nat.lt_succ_iff_lt_or_eq.1 hj with h | rfl
            · first | exact hok j h | simpa using hok j h
            · simp [h4]
          · simp +contextual -implicitDefEqProofs (maxSteps := 1000000) only [sm, sn, sxx, seval, eCon, eIs]
          · simp +contextual -implicitDefEqProofs (maxSteps := 1000000) only [sm, sn, sxx, seval, eCon, eIs]
      · simp +contextual -implicitDefEqProofs (maxSteps := 1000000) only [sm, sn, sxx, seval, eCon, eIs, hlt', hx, ha, hla, h3, e2]
        refine ⟨k + 1, ⟨by omega, ?_⟩, by omega, [0], by decide, rfl, ?_, ?_⟩
        · intro j hj
          rcases Nat.lt_succ_iff_lt_or_eq.1 hj with h | rfl
          · first | exact hok j h | simpa using hok j h
          · simp [h3]
        · simp +contextual -implicitDefEqProofs (maxSteps := 1000000) only [sm, sn, sxx, seval, eCon, eIs]
        · simp +contextual -implicitDefEqProofs (maxSteps := 1000000) only [sm, sn, sxx, seval, eCon, eIs]
    · have hkn : k = V.length := by omega
      subst hkn
      have hall := hok
      have hu : tasksB A C V = true := by
        unfold tasksB
        rw [List.all_eq_true]
        exact fun j hj => hall j (List.mem_range.1 hj)
      rw [hu]
      simp +contextual -implicitDefEqProofs (maxSteps := 1000000) only [sm, sn, sxx, seval, Int.lt_irrefl]
end Go.Proofs.Ytnhedjpghpdbdaa
namespace Go.Proofs.Ytnhedjpghpdbdaa
open Av
attribute [local irreducible] awp awpOpers
set_option linter.unusedSimpArgs false
set_option linter.unusedVariables false
set_option maxRecDepth 100000
set_option maxHeartbeats 4000000
theorem askd_facts {c : Con} {a : List Int} (h : askdB c a = true) : c.2.2.1.length ≤ 128 ∧ c.2.1.length ≤ 32 ∧ Idx c.2.1 a ∧ Sm (valsOf c.2.1 a) ∧ Sm c.2.2.1 ∧ (-1048576 ≤ c.2.2.2 ∧ c.2.2.2 ≤ 1048576) ∧ countsB (shp c.1) c.2.1.length c.2.2.1.length = true ∧ kindB c.1 = true := by
  simp only [askdB, Bool.and_eq_true, decide_eq_true_eq, List.all_eq_true] at h
  obtain ⟨⟨⟨h1, h2⟩, h3⟩, h4⟩ := h
  have h5 : ∀ x ∈ c.2.1, 0 ≤ x ∧ x < (a.length : Int) ∧ withinB (xat a x.toNat) = true := fun x hx => by
    have := h3 x hx
    simp only [idxB, Bool.and_eq_true, decide_eq_true_eq] at this
    exact ⟨this.1.1, this.1.2, this.2⟩
  simp only [mayB, formedB, Bool.and_eq_true, decide_eq_true_eq, List.all_eq_true, up_len] at h4
  obtain ⟨⟨⟨⟨⟨⟨⟨g1, g2⟩, -⟩, -⟩, g3⟩, -⟩, -⟩, g4⟩ := h4
  refine ⟨h1, h2, fun x hx => ⟨(h5 x hx).1, (h5 x hx).2.1⟩, fun v hv => ?_, fun v hv => (withinB_iff v).1 (g4 v hv), (withinB_iff _).1 g3, g2, g1⟩
  unfold valsOf at hv
  obtain ⟨x, hx, rfl⟩ := List.mem_map.1 hv
  exact (withinB_iff _).1 (h5 x hx).2.2
theorem ref11_linear (K : Int) : Ctr Try.prog 61 [.int .i64 K] [] (.bool (decide (1 ≤ K) && decide (K ≤ 6))) [] := by
  refine call_pure Try.func61 Try.call61 e_ref11_linear ?_
  by_cases h1 : 1 ≤ K
  · by_cases h2 : K ≤ 6
    · simp +contextual -implicitDefEqProofs (maxSteps := 1000000) only [c_ref11_linear, sm, sn, sxx, seval, h1, h2]
    · simp +contextual -implicitDefEqProofs (maxSteps := 1000000) only [c_ref11_linear, sm, sn, sxx, seval, h1, h2]
  · simp +contextual -implicitDefEqProofs (maxSteps := 1000000) only [c_ref11_linear, sm, sn, sxx, seval, h1]
def lastV (V : List Int) : Int := xat V (V.length - 1)
/-- does a constraint hold of the values of its variables? -/
def holdsB (c : Con) (V : List Int) : Bool :=
  if c.1 ≤ 6 then linB c.1 c.2.2.2 (sumN c.2.2.1 V c.2.2.1.length) (lastV V)
  else if c.1 = 7 then decide (xat V 0 * xat V 1 = xat V 2)
  else if c.1 = 8 then decide (min (xat V 0) (xat V 1) = xat V 2)
  else if c.1 = 9 then decide (max (xat V 0) (xat V 1) = xat V 2)
  else if c.1 = 10 then decide (max (xat V 0) (-(xat V 0)) = xat V 1)
  else if c.1 = 11 then clB c.2.2.1 V
  else if c.1 = 12 then (decide (lastV V = 1) == decide ((cntI (V.take (V.length - 1)) 1 : Int) = ((V.length - 1 : Nat) : Int)))
  else if c.1 = 13 then (decide (lastV V = 1) == decide (0 < (cntI (V.take (V.length - 1)) 1 : Int)))
  else if c.1 = 14 then (decide (xat V 2 = 1) == !decide (xat V 0 = xat V 1))
  else if c.1 = 15 then decide (xat V 0 = xat V 1)
  else if c.1 = 16 then decide (1 ≤ xat V 0) && decide (xat V 0 ≤ (c.2.2.1.length : Int)) && decide (xat c.2.2.1 (xat V 0 - 1).toNat = xat V 1)
  else if c.1 = 17 then decide (1 ≤ xat V 0) && decide (xat V 0 < ((V.length - 1 : Nat) : Int)) && decide (xat V (xat V 0).toNat = lastV V)
  else if c.1 = 18 then unlikeB V
  else if c.1 = 19 then tasksB c.2.2.1 c.2.2.2 V
  else false
theorem ref11_HoldsA (c : Con) (a : List Int) (hA : c.2.2.1.length ≤ 1000000000000) (hX : c.2.1.length ≤ 1000000000000) (ha : a.length ≤ 1000000000000) : Ctr Try.prog 30 [eCon c, eIs a] [] (.bool (askdB c a && holdsB c (valsOf c.2.1 a))) [] := by
  obtain ⟨K, X, A, C⟩ := c
  simp only at hA hX
  refine call_pure Try.func30 Try.call30 e_ref11_Holds ?_
  simp +contextual -implicitDefEqProofs (maxSteps := 1000000) only [c_ref11_Holds, eCon, eIs, sm, sn, sxx, seval]
  refine callA_rule (ref11_Asked (K, X, A, C) a hA hX ha) (wkL_refl _) rfl ?_
  cases hask : askdB (K, X, A, C) a
  · simp +contextual -implicitDefEqProofs (maxSteps := 1000000) only [sm, sn, sxx, seval]
  obtain ⟨f1, f2, f3, f4, f5, f6, f7, f8⟩ := askd_facts hask
  simp only at f1 f2 f3 f4 f5 f6 f7 f8
  have hVl : (valsOf X a).length = X.length := by unfold valsOf; rw [List.length_map]
  simp +contextual -implicitDefEqProofs (maxSteps := 1000000) only [sm, sn, sxx, seval, eCon, eIs]
  refine callA_rule (ref11_values (K, X, A, C) a hX f3) (wkL_refl _) rfl ?_
  simp only
  generalize hV : valsOf X a = V at hVl f4 ⊢
  have hk1 : 1 ≤ K := by
    unfold kindB at f8
    simp at f8
    omega
  have hk2 : K ≤ 19 := by
    unfold kindB at f8
    simp at f8
    omega
  have hcs : K ≤ 6 ∨ K = 7 ∨ K = 8 ∨ K = 9 ∨ K = 10 ∨ K = 11 ∨ K = 12 ∨ K = 13 ∨ K = 14 ∨ K = 15 ∨ K = 16 ∨ K = 17 ∨ K = 18 ∨ K = 19 := by omega
  have hAV : K ≤ 6 ∨ K = 11 → A.length ≤ V.length ∧ V.length ≤ A.length + 1 := by
    intro h
    have : K = 1 ∨ K = 2 ∨ K = 3 ∨ K = 4 ∨ K = 5 ∨ K = 6 ∨ K = 11 := by omega
    rcases this with rfl | rfl | rfl | rfl | rfl | rfl | rfl <;> (simp [countsB, shp] at f7; omega)
  by_cases h0 : V.length = 0
  · have h0' : ¬ (0 : Int) < (V.length : Int) := by omega
    have hv0 : V = [] := List.eq_nil_of_length_eq_zero h0
    rcases hcs with h6 | rfl | rfl | rfl | rfl | rfl | rfl | rfl | rfl | rfl | rfl | rfl | rfl | rfl
    · have hl : lastV V = 0 := by rw [hv0]; rfl
      simp +contextual -implicitDefEqProofs (maxSteps := 1000000) only [sm, sn, sxx, seval, eCon, eIs, h0']
      refine callA_rule (ref11_linear K) (wkL_refl _) rfl ?_
      rw [show (decide (1 ≤ K) && decide (K ≤ 6)) = true by simp; omega]
      simp +contextual -implicitDefEqProofs (maxSteps := 1000000) only [sm, sn, sxx, seval, eCon, eIs]
      refine callA_rule (ref11_lin (K, X, A, C) V _ f1 (hAV (.inl h6)).1 f5 f4) (wkL_refl _) rfl ?_
      have hh : holdsB (K, X, A, C) V = linB K C (sumN A V A.length) (lastV V) := by unfold holdsB; rw [if_pos h6]
      rw [hh, hl]
      simp +contextual -implicitDefEqProofs (maxSteps := 1000000) only [sm, sn, sxx, seval]
    all_goals try (exfalso; simp [countsB, shp] at f7; omega)
    · simp +contextual -implicitDefEqProofs (maxSteps := 1000000) only [sm, sn, sxx, seval, eCon, eIs, h0']
      refine callA_rule (ref11_linear 11) (wkL_refl _) rfl ?_
      have w1 : IntKind.i64.wrap ((V.length : Int) - 1) = (V.length : Int) - 1 := by rw [wrap_i64] <;> omega
      simp +contextual -implicitDefEqProofs (maxSteps := 1000000) only [sm, sn, sxx, seval, eCon, eIs, w1]
      refine callA_rule (ref11_clause (11, X, A, C) V (by omega) (by simp only; omega)) (wkL_refl _) rfl ?_
      simp +contextual -implicitDefEqProofs (maxSteps := 1000000) only [sm, sn, sxx, seval, holdsB]
    · simp +contextual -implicitDefEqProofs (maxSteps := 1000000) only [sm, sn, sxx, seval, eCon, eIs, h0']
      refine callA_rule (ref11_linear 18) (wkL_refl _) rfl ?_
      have w1 : IntKind.i64.wrap ((V.length : Int) - 1) = (V.length : Int) - 1 := by rw [wrap_i64] <;> omega
      simp +contextual -implicitDefEqProofs (maxSteps := 1000000) only [sm, sn, sxx, seval, eCon, eIs, w1]
      refine callA_rule (ref11_unlike V (by omega)) (wkL_refl _) rfl ?_
      simp +contextual -implicitDefEqProofs (maxSteps := 1000000) only [sm, sn, sxx, seval]
      simp [holdsB]
    · have hA2 : A.length = 2 * V.length := by simp [countsB, shp] at f7; omega
      simp +contextual -implicitDefEqProofs (maxSteps := 1000000) only [sm, sn, sxx, seval, eCon, eIs, h0']
      refine callA_rule (ref11_linear 19) (wkL_refl _) rfl ?_
      have w1 : IntKind.i64.wrap ((V.length : Int) - 1) = (V.length : Int) - 1 := by rw [wrap_i64] <;> omega
      simp +contextual -implicitDefEqProofs (maxSteps := 1000000) only [sm, sn, sxx, seval, eCon, eIs, w1]
      refine callA_rule (ref11_tasks (19, X, A, C) V (by omega) hA2 f5 f4) (wkL_refl _) rfl ?_
      simp +contextual -implicitDefEqProofs (maxSteps := 1000000) only [sm, sn, sxx, seval]
      simp [holdsB]
  · have h0' : (0 : Int) < (V.length : Int) := by omega
    have w1 : IntKind.i64.wrap ((V.length : Int) - 1) = ((V.length - 1 : Nat) : Int) := by rw [wrap_i64] <;> omega
    have hlast : V[V.length - 1]? = some (lastV V) := xat_get (by omega)
    rcases hcs with h6 | rfl | rfl | rfl | rfl | rfl | rfl | rfl | rfl | rfl | rfl | rfl | rfl | rfl
    · simp +contextual -implicitDefEqProofs (maxSteps := 1000000) only [sm, sn, sxx, seval, eCon, eIs, h0', w1, hlast]
      refine callA_rule (ref11_linear K) (wkL_refl _) rfl ?_
      rw [show (decide (1 ≤ K) && decide (K ≤ 6)) = true by simp; omega]
      simp +contextual -implicitDefEqProofs (maxSteps := 1000000) only [sm, sn, sxx, seval, eCon, eIs]
      refine callA_rule (ref11_lin (K, X, A, C) V _ f1 (hAV (.inl h6)).1 f5 f4) (wkL_refl _) rfl ?_
      have hh : holdsB (K, X, A, C) V = linB K C (sumN A V A.length) (lastV V) := by unfold holdsB; rw [if_pos h6]
      rw [hh]
      simp +contextual -implicitDefEqProofs (maxSteps := 1000000) only [sm, sn, sxx, seval]
    · have n3 : V.length = 3 := by simp [countsB, shp] at f7; omega
      have n3' : (V.length : Int) = 3 := by omega
      have g0 : V[0]? = some (xat V 0) := xat_get (by omega)
      have g1 : V[1]? = some (xat V 1) := xat_get (by omega)
      have g2 : V[2]? = some (xat V 2) := xat_get (by omega)
      have b1 := mul_bound (sm_at f4 0) (sm_at f4 1)
      have w2 : IntKind.i64.wrap (xat V 0 * xat V 1) = xat V 0 * xat V 1 := by rw [wrap_i64] <;> omega
      simp +contextual -implicitDefEqProofs (maxSteps := 1000000) only [sm, sn, sxx, seval, eCon, eIs, h0', w1, hlast]
      refine callA_rule (ref11_linear 7) (wkL_refl _) rfl ?_
      simp +contextual -implicitDefEqProofs (maxSteps := 1000000) only [sm, sn, sxx, seval, eCon, eIs, w1, g0, g1, g2, n3, w2]
      simp [holdsB]
    · have n3 : V.length = 3 := by simp [countsB, shp] at f7; omega
      have n3' : (V.length : Int) = 3 := by omega
      have g0 : V[0]? = some (xat V 0) := xat_get (by omega)
      have g1 : V[1]? = some (xat V 1) := xat_get (by omega)
      have g2 : V[2]? = some (xat V 2) := xat_get (by omega)
      simp +contextual -implicitDefEqProofs (maxSteps := 1000000) only [sm, sn, sxx, seval, eCon, eIs, h0', w1, hlast]
      refine callA_rule (ref11_linear 8) (wkL_refl _) rfl ?_
      simp +contextual -implicitDefEqProofs (maxSteps := 1000000) only [sm, sn, sxx, seval, eCon, eIs, w1, g0, g1, g2, n3]
      simp [holdsB]
    · have n3 : V.length = 3 := by simp [countsB, shp] at f7; omega
      have n3' : (V.length : Int) = 3 := by omega
      have g0 : V[0]? = some (xat V 0) := xat_get (by omega)
      have g1 : V[1]? = some (xat V 1) := xat_get (by omega)
      have g2 : V[2]? = some (xat V 2) := xat_get (by omega)
      simp +contextual -implicitDefEqProofs (maxSteps := 1000000) only [sm, sn, sxx, seval, eCon, eIs, h0', w1, hlast]
      refine callA_rule (ref11_linear 9) (wkL_refl _) rfl ?_
      simp +contextual -implicitDefEqProofs (maxSteps := 1000000) only [sm, sn, sxx, seval, eCon, eIs, w1, g0, g1, g2, n3]
      simp [holdsB]
    · have n3 : V.length = 2 := by simp [countsB, shp] at f7; omega
      have g0 : V[0]? = some (xat V 0) := xat_get (by omega)
      have g1 : V[1]? = some (xat V 1) := xat_get (by omega)
      have b1 := sm_at f4 0
      have w2 : IntKind.i64.wrap (0 - xat V 0) = -(xat V 0) := by rw [wrap_i64] <;> omega
      have w3 : IntKind.i64.wrap (-(xat V 0)) = -(xat V 0) := by rw [wrap_i64] <;> omega
      simp +contextual -implicitDefEqProofs (maxSteps := 1000000) only [sm, sn, sxx, seval, eCon, eIs, h0', w1, hlast]
      refine callA_rule (ref11_linear 10) (wkL_refl _) rfl ?_
      simp +contextual -implicitDefEqProofs (maxSteps := 1000000) only [sm, sn, sxx, seval, eCon, eIs, w1, g0, g1, n3, w2, w3]
      simp [holdsB]
    · simp +contextual -implicitDefEqProofs (maxSteps := 1000000) only [sm, sn, sxx, seval, eCon, eIs, h0', w1, hlast]
      refine callA_rule (ref11_linear 11) (wkL_refl _) rfl ?_
      simp +contextual -implicitDefEqProofs (maxSteps := 1000000) only [sm, sn, sxx, seval, eCon, eIs, w1]
      refine callA_rule (ref11_clause (11, X, A, C) V (by omega) (by simp [countsB, shp] at f7; simp only; omega)) (wkL_refl _) rfl ?_
      simp +contextual -implicitDefEqProofs (maxSteps := 1000000) only [sm, sn, sxx, seval, holdsB]
    · have t1 : (V.map eI).take (V.length - 1) = (V.take (V.length - 1)).map eI := by rw [List.map_take]
      have t2 : V.length - 1 ≤ V.length := by omega
      have t0 : (0 ≤ V.length - 1) = True := by simp
      have t3 : ((V.length - 1 : Nat) : Int) = (V.length : Int) - 1 := by omega
      simp +contextual -implicitDefEqProofs (maxSteps := 1000000) only [sm, sn, sxx, seval, eCon, eIs, h0', w1, hlast]
      refine callA_rule (ref11_linear 12) (wkL_refl _) rfl ?_
      simp +contextual -implicitDefEqProofs (maxSteps := 1000000) only [sm, sn, sxx, seval, eCon, eIs, w1, t0, t1, t2]
      refine callA_rule (ref11_count (V.take (V.length - 1)) 1 (by rw [List.length_take]; omega)) (wkL_refl _) rfl ?_
      simp +contextual -implicitDefEqProofs (maxSteps := 1000000) only [sm, sn, sxx, seval]
      simp [holdsB]
    · have t1 : (V.map eI).take (V.length - 1) = (V.take (V.length - 1)).map eI := by rw [List.map_take]
      have t2 : V.length - 1 ≤ V.length := by omega
      have t0 : (0 ≤ V.length - 1) = True := by simp
      have t3 : ((V.length - 1 : Nat) : Int) = (V.length : Int) - 1 := by omega
      simp +contextual -implicitDefEqProofs (maxSteps := 1000000) only [sm, sn, sxx, seval, eCon, eIs, h0', w1, hlast]
      refine callA_rule (ref11_linear 13) (wkL_refl _) rfl ?_
      simp +contextual -implicitDefEqProofs (maxSteps := 1000000) only [sm, sn, sxx, seval, eCon, eIs, w1, t0, t1, t2]
      refine callA_rule (ref11_count (V.take (V.length - 1)) 1 (by rw [List.length_take]; omega)) (wkL_refl _) rfl ?_
      simp +contextual -implicitDefEqProofs (maxSteps := 1000000) only [sm, sn, sxx, seval]
      simp [holdsB]
    · have n3 : V.length = 3 := by simp [countsB, shp] at f7; omega
      have n3' : (V.length : Int) = 3 := by omega
      have g0 : V[0]? = some (xat V 0) := xat_get (by omega)
      have g1 : V[1]? = some (xat V 1) := xat_get (by omega)
      have g2 : V[2]? = some (xat V 2) := xat_get (by omega)
      simp +contextual -implicitDefEqProofs (maxSteps := 1000000) only [sm, sn, sxx, seval, eCon, eIs, h0', w1, hlast]
      refine callA_rule (ref11_linear 14) (wkL_refl _) rfl ?_
      simp +contextual -implicitDefEqProofs (maxSteps := 1000000) only [sm, sn, sxx, seval, eCon, eIs, w1, g0, g1, g2, n3]
      simp [holdsB]
    · have n3 : V.length = 2 := by simp [countsB, shp] at f7; omega
      have g0 : V[0]? = some (xat V 0) := xat_get (by omega)
      have g1 : V[1]? = some (xat V 1) := xat_get (by omega)
      simp +contextual -implicitDefEqProofs (maxSteps := 1000000) only [sm, sn, sxx, seval, eCon, eIs, h0', w1, hlast]
      refine callA_rule (ref11_linear 15) (wkL_refl _) rfl ?_
      simp +contextual -implicitDefEqProofs (maxSteps := 1000000) only [sm, sn, sxx, seval, eCon, eIs, w1, g0, g1, n3]
      simp [holdsB]
    · have n3 : V.length = 2 := by simp [countsB, shp] at f7; omega
      have g0 : V[0]? = some (xat V 0) := xat_get (by omega)
      have g1 : V[1]? = some (xat V 1) := xat_get (by omega)
      have b1 := sm_at f4 0
      have w2 : IntKind.i64.wrap (xat V 0 - 1) = xat V 0 - 1 := by rw [wrap_i64] <;> omega
      simp +contextual -implicitDefEqProofs (maxSteps := 1000000) only [sm, sn, sxx, seval, eCon, eIs, h0', w1, hlast]
      refine callA_rule (ref11_linear 16) (wkL_refl _) rfl ?_
      by_cases p1 : 1 ≤ xat V 0
      · by_cases p2 : xat V 0 ≤ (A.length : Int)
        · have q0 : 0 ≤ xat V 0 - 1 := by omega
          have q1 : xat V 0 - 1 < (A.length : Int) := by omega
          have ga : A[(xat V 0 - 1).toNat]? = some (xat A (xat V 0 - 1).toNat) := xat_get (by omega)
          simp +contextual -implicitDefEqProofs (maxSteps := 1000000) only [sm, sn, sxx, seval, eCon, eIs, w1, g0, g1, n3, w2, p1, p2, q0, q1, ga]
          simp [holdsB, p1, p2]
        · simp +contextual -implicitDefEqProofs (maxSteps := 1000000) only [sm, sn, sxx, seval, eCon, eIs, w1, g0, g1, n3, w2, p1, p2]
          simp [holdsB, p1, p2]
      · simp +contextual -implicitDefEqProofs (maxSteps := 1000000) only [sm, sn, sxx, seval, eCon, eIs, w1, g0, g1, n3, w2, p1]
        simp [holdsB, p1]
    · have n3 : 3 ≤ V.length := by simp [countsB, shp] at f7; omega
      have g0 : V[0]? = some (xat V 0) := xat_get (by omega)
      simp +contextual -implicitDefEqProofs (maxSteps := 1000000) only [sm, sn, sxx, seval, eCon, eIs, h0', w1, hlast]
      refine callA_rule (ref11_linear 17) (wkL_refl _) rfl ?_
      by_cases p1 : 1 ≤ xat V 0
      · by_cases p2 : xat V 0 < ((V.length - 1 : Nat) : Int)
        · have q0 : 0 ≤ xat V 0 := by omega
          have q1 : xat V 0 < (V.length : Int) := by omega
          have ga : V[(xat V 0).toNat]? = some (xat V (xat V 0).toNat) := xat_get (by omega)
          simp +contextual -implicitDefEqProofs (maxSteps := 1000000) only [sm, sn, sxx, seval, eCon, eIs, h0', w1, g0, p1, p2, q0, q1, ga]
          simp [holdsB, p1, p2]
        · simp +contextual -implicitDefEqProofs (maxSteps := 1000000) only [sm, sn, sxx, seval, eCon, eIs, h0', w1, g0, p1, p2]
          simp [holdsB, p1, p2]
      · simp +contextual -implicitDefEqProofs (maxSteps := 1000000) only [sm, sn, sxx, seval, eCon, eIs, h0', w1, g0, p1]
        simp [holdsB, p1]
    · simp +contextual -implicitDefEqProofs (maxSteps := 1000000) only [sm, sn, sxx, seval, eCon, eIs, h0', w1, hlast]
      refine callA_rule (ref11_linear 18) (wkL_refl _) rfl ?_
      simp +contextual -implicitDefEqProofs (maxSteps := 1000000) only [sm, sn, sxx, seval, eCon, eIs, w1]
      refine callA_rule (ref11_unlike V (by omega)) (wkL_refl _) rfl ?_
      simp +contextual -implicitDefEqProofs (maxSteps := 1000000) only [sm, sn, sxx, seval]
      simp [holdsB]
    · have hA2 : A.length = 2 * V.length := by simp [countsB, shp] at f7; omega
      simp +contextual -implicitDefEqProofs (maxSteps := 1000000) only [sm, sn, sxx, seval, eCon, eIs, h0', w1, hlast]
      refine callA_rule (ref11_linear 19) (wkL_refl _) rfl ?_
      simp +contextual -implicitDefEqProofs (maxSteps := 1000000) only [sm, sn, sxx, seval, eCon, eIs, w1]
      refine callA_rule (ref11_tasks (19, X, A, C) V (by omega) hA2 f5 f4) (wkL_refl _) rfl ?_
      simp +contextual -implicitDefEqProofs (maxSteps := 1000000) only [sm, sn, sxx, seval]
      simp [holdsB]
theorem ref11_Holds (c : Con) (a : List Int) (hA : c.2.2.1.length ≤ 1000000000000) (hX : c.2.1.length ≤ 1000000000000) (ha : a.length ≤ 1000000000000) (hK : c.1 ≤ 19) : Ctr Try.prog 30 [eCon c, eIs a] [] (.bool (askdB c a && holdsB c (valsOf c.2.1 a))) [] := ref11_HoldsA c a hA hX ha
end Go.Proofs.Ytnhedjpghpdbdaa
