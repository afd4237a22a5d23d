/- The code of functions, as abstract code. Printed by program. -/
import Derived.Test.YtfcphijidcfboaaAv2
import Derived.Test.YtfcphijidcfboaaProg
namespace Go.Proofs.Ytfcphijidcfboaa
open Av
set_option linter.unusedVariables false
set_option maxRecDepth 100000
def kd_CRef11S (f : Nat) : Nat := 0
/- touchstone/touchstoneref11.Sum: slots c, 0, a, 1, c, 2, a, 3 -/
def c_ref11_Sum : AFunc := ⟨21, [.tmp 4, .tmp 5],
  .seq (.region (⟨some 2, .box 4 (.tmp 0), none⟩ ::
    ⟨some 4, .mov (.val (.int .i64 0)), none⟩ ::
    ⟨some 5, .mov (.val (.bool false)), none⟩ :: [])) <|
  .seq (.seq (.region (⟨some 6, .faddr 0 (.tmp 2), none⟩ ::
    ⟨some 7, .load false 1 (.tmp 6), none⟩ ::
    ⟨some 8, .call (.val (.fn (.func 57) [])) [(.tmp 7)], none⟩ ::
    ⟨some 9, .un .not (.tmp 8), none⟩ ::
    ⟨some 10, .mov (.tmp 9), none⟩ ::
    ⟨some 11, .load true 4 (.tmp 2), some (10, false)⟩ ::
    ⟨some 12, .mov (.tmp 1), some (10, false)⟩ ::
    ⟨some 13, .call (.val (.fn (.func 38) [])) [(.tmp 11), (.tmp 12)], some (10, false)⟩ ::
    ⟨some 14, .un .not (.tmp 13), some (10, false)⟩ ::
    ⟨some 15, .pick (.tmp 10) (.val (.bool true)) (.tmp 14), none⟩ :: [])) <|
  .cond (.tmp 15) (.seq (.region (⟨some 4, .mov (.val (.int .i64 0)), none⟩ ::
      ⟨some 5, .mov (.val (.bool false)), none⟩ :: [])) <|
    .ret) <|
  .skip) <|
  .seq (.region (⟨some 16, .load true 4 (.tmp 2), none⟩ ::
    ⟨some 17, .load true 4 (.tmp 2), none⟩ ::
    ⟨some 18, .mov (.tmp 1), none⟩ ::
    ⟨some 19, .call (.val (.fn (.func 59) [])) [(.tmp 17), (.tmp 18)], none⟩ ::
    ⟨some 20, .call (.val (.fn (.func 58) [])) [(.tmp 16), (.tmp 19)], none⟩ ::
    ⟨some 4, .mov (.tmp 20), none⟩ ::
    ⟨some 5, .mov (.val (.bool true)), none⟩ :: [])) <|
  .ret⟩
theorem e_ref11_Sum : cFunc Try.prog kd_CRef11S Try.f30 = some c_ref11_Sum := by kernel_rfl
/- touchstone/touchstoneref11.All: slots m, 0, a, 1, m, 2, a, 3, i, 5, i, 6 -/
def c_ref11_All : AFunc := ⟨50, [.tmp 4],
  .seq (.region (⟨some 2, .box 4 (.tmp 0), none⟩ ::
    ⟨some 4, .mov (.val (.bool false)), none⟩ :: [])) <|
  .seq (.seq (.region (⟨some 7, .load true 4 (.tmp 2), none⟩ ::
    ⟨some 8, .call (.val (.fn (.func 46) [])) [(.tmp 7)], none⟩ ::
    ⟨some 9, .un .not (.tmp 8), none⟩ ::
    ⟨some 10, .mov (.tmp 9), none⟩ ::
    ⟨some 11, .mov (.tmp 1), some (10, false)⟩ ::
    ⟨some 12, .len false (.tmp 11), some (10, false)⟩ ::
    ⟨some 13, .faddr 0 (.tmp 2), some (10, false)⟩ ::
    ⟨some 14, .load false 1 (.tmp 13), some (10, false)⟩ ::
    ⟨some 15, .len false (.tmp 14), some (10, false)⟩ ::
    ⟨some 16, .bin .neq (.tmp 12) (.tmp 15), some (10, false)⟩ ::
    ⟨some 17, .pick (.tmp 10) (.val (.bool true)) (.tmp 16), none⟩ :: [])) <|
  .cond (.tmp 17) (.seq (.region (⟨some 4, .mov (.val (.bool false)), none⟩ :: [])) <|
    .ret) <|
  .skip) <|
  .seq (.seq (.region (⟨some 5, .mov (.val (.int .i64 0)), none⟩ :: [])) <|
  .block 0 (.loop (.seq (.seq (.region (⟨some 18, .mov (.tmp 5), none⟩ ::
        ⟨some 19, .mov (.tmp 1), none⟩ ::
        ⟨some 20, .len false (.tmp 19), none⟩ ::
        ⟨some 21, .bin .lss (.tmp 18) (.tmp 20), none⟩ :: [])) <|
      .cond (.tmp 21) (.skip) <|
      .exit 0) <|
      .seq (.block 1 (.seq (.region (⟨some 24, .faddr 0 (.tmp 2), none⟩ ::
          ⟨some 25, .load false 1 (.tmp 24), none⟩ ::
          ⟨some 26, .mov (.tmp 5), none⟩ ::
          ⟨some 27, .iaddr 1 (.tmp 25) (.tmp 26), none⟩ ::
          ⟨some 28, .load false 1 (.tmp 27), none⟩ ::
          ⟨some 29, .mov (.tmp 1), none⟩ ::
          ⟨some 30, .mov (.tmp 5), none⟩ ::
          ⟨some 31, .iaddr 1 (.tmp 29) (.tmp 30), none⟩ ::
          ⟨some 32, .load false 1 (.tmp 31), none⟩ ::
          ⟨some 33, .call (.val (.fn (.func 54) [])) [(.tmp 28), (.tmp 32)], none⟩ ::
          ⟨some 34, .un .not (.tmp 33), none⟩ :: [])) <|
        .cond (.tmp 34) (.seq (.region (⟨some 4, .mov (.val (.bool false)), none⟩ :: [])) <|
          .ret) <|
        .skip)) <|
      .region (⟨some 22, .mov (.tmp 5), none⟩ ::
        ⟨some 23, .bin .add (.tmp 22) (.val (.int .i64 1)), none⟩ ::
        ⟨some 5, .mov (.tmp 23), none⟩ :: [])))) <|
  .seq (.seq (.region (⟨some 6, .mov (.val (.int .i64 0)), none⟩ :: [])) <|
  .block 2 (.loop (.seq (.seq (.region (⟨some 35, .mov (.tmp 6), none⟩ ::
        ⟨some 36, .faddr 1 (.tmp 2), none⟩ ::
        ⟨some 37, .load false 1 (.tmp 36), none⟩ ::
        ⟨some 38, .len false (.tmp 37), none⟩ ::
        ⟨some 39, .bin .lss (.tmp 35) (.tmp 38), none⟩ :: [])) <|
      .cond (.tmp 39) (.skip) <|
      .exit 2) <|
      .seq (.block 3 (.seq (.region (⟨some 42, .faddr 1 (.tmp 2), none⟩ ::
          ⟨some 43, .load false 1 (.tmp 42), none⟩ ::
          ⟨some 44, .mov (.tmp 6), none⟩ ::
          ⟨some 45, .iaddr 4 (.tmp 43) (.tmp 44), none⟩ ::
          ⟨some 46, .load true 4 (.tmp 45), none⟩ ::
          ⟨some 47, .mov (.tmp 1), none⟩ ::
          ⟨some 48, .call (.val (.fn (.func 32) [])) [(.tmp 46), (.tmp 47)], none⟩ ::
          ⟨some 49, .un .not (.tmp 48), none⟩ :: [])) <|
        .cond (.tmp 49) (.seq (.region (⟨some 4, .mov (.val (.bool false)), none⟩ :: [])) <|
          .ret) <|
        .skip)) <|
      .region (⟨some 40, .mov (.tmp 6), none⟩ ::
        ⟨some 41, .bin .add (.tmp 40) (.val (.int .i64 1)), none⟩ ::
        ⟨some 6, .mov (.tmp 41), none⟩ :: [])))) <|
  .seq (.region (⟨some 4, .mov (.val (.bool true)), none⟩ :: [])) <|
  .ret⟩
theorem e_ref11_All : cFunc Try.prog kd_CRef11S Try.f35 = some c_ref11_All := by kernel_rfl
/- touchstone/touchstoneref11.Better: slots m, 0, a, 1, b, 2, m, 3, a, 4, b, 5 -/
def c_ref11_Better : AFunc := ⟨54, [.tmp 6],
  .seq (.region (⟨some 3, .box 4 (.tmp 0), none⟩ ::
    ⟨some 6, .mov (.val (.bool false)), none⟩ :: [])) <|
  .seq (.seq (.region (⟨some 7, .load true 4 (.tmp 3), none⟩ ::
    ⟨some 8, .call (.val (.fn (.func 46) [])) [(.tmp 7)], none⟩ ::
    ⟨some 9, .un .not (.tmp 8), none⟩ ::
    ⟨some 10, .mov (.tmp 9), none⟩ ::
    ⟨some 11, .mov (.tmp 1), some (10, false)⟩ ::
    ⟨some 12, .len false (.tmp 11), some (10, false)⟩ ::
    ⟨some 13, .faddr 0 (.tmp 3), some (10, false)⟩ ::
    ⟨some 14, .load false 1 (.tmp 13), some (10, false)⟩ ::
    ⟨some 15, .len false (.tmp 14), some (10, false)⟩ ::
    ⟨some 16, .bin .neq (.tmp 12) (.tmp 15), some (10, false)⟩ ::
    ⟨some 17, .pick (.tmp 10) (.val (.bool true)) (.tmp 16), none⟩ ::
    ⟨some 18, .mov (.tmp 17), none⟩ ::
    ⟨some 19, .mov (.tmp 2), some (18, false)⟩ ::
    ⟨some 20, .len false (.tmp 19), some (18, false)⟩ ::
    ⟨some 21, .faddr 0 (.tmp 3), some (18, false)⟩ ::
    ⟨some 22, .load false 1 (.tmp 21), some (18, false)⟩ ::
    ⟨some 23, .len false (.tmp 22), some (18, false)⟩ ::
    ⟨some 24, .bin .neq (.tmp 20) (.tmp 23), some (18, false)⟩ ::
    ⟨some 25, .pick (.tmp 18) (.val (.bool true)) (.tmp 24), none⟩ :: [])) <|
  .cond (.tmp 25) (.seq (.region (⟨some 6, .mov (.val (.bool false)), none⟩ :: [])) <|
    .ret) <|
  .skip) <|
  .seq (.seq (.region (⟨some 26, .faddr 2 (.tmp 3), none⟩ ::
    ⟨some 27, .load false 1 (.tmp 26), none⟩ :: [])) <|
  .block 0 (.seq (.region (⟨some 29, .bin .eql (.tmp 27) (.val (.int .i64 1)), none⟩ ::
      ⟨some 28, .mov (.tmp 29), none⟩ :: [])) <|
    .cond (.tmp 28) (.seq (.region (⟨some 30, .mov (.tmp 1), none⟩ ::
        ⟨some 31, .faddr 3 (.tmp 3), none⟩ ::
        ⟨some 32, .load false 1 (.tmp 31), none⟩ ::
        ⟨some 33, .iaddr 1 (.tmp 30) (.tmp 32), none⟩ ::
        ⟨some 34, .load false 1 (.tmp 33), none⟩ ::
        ⟨some 35, .mov (.tmp 2), none⟩ ::
        ⟨some 36, .faddr 3 (.tmp 3), none⟩ ::
        ⟨some 37, .load false 1 (.tmp 36), none⟩ ::
        ⟨some 38, .iaddr 1 (.tmp 35) (.tmp 37), none⟩ ::
        ⟨some 39, .load false 1 (.tmp 38), none⟩ ::
        ⟨some 40, .bin .lss (.tmp 34) (.tmp 39), none⟩ ::
        ⟨some 6, .mov (.tmp 40), none⟩ :: [])) <|
      .ret) <|
    .seq (.region (⟨some 42, .bin .eql (.tmp 27) (.val (.int .i64 2)), none⟩ ::
      ⟨some 41, .mov (.tmp 42), none⟩ :: [])) <|
    .cond (.tmp 41) (.seq (.region (⟨some 43, .mov (.tmp 1), none⟩ ::
        ⟨some 44, .faddr 3 (.tmp 3), none⟩ ::
        ⟨some 45, .load false 1 (.tmp 44), none⟩ ::
        ⟨some 46, .iaddr 1 (.tmp 43) (.tmp 45), none⟩ ::
        ⟨some 47, .load false 1 (.tmp 46), none⟩ ::
        ⟨some 48, .mov (.tmp 2), none⟩ ::
        ⟨some 49, .faddr 3 (.tmp 3), none⟩ ::
        ⟨some 50, .load false 1 (.tmp 49), none⟩ ::
        ⟨some 51, .iaddr 1 (.tmp 48) (.tmp 50), none⟩ ::
        ⟨some 52, .load false 1 (.tmp 51), none⟩ ::
        ⟨some 53, .bin .gtr (.tmp 47) (.tmp 52), none⟩ ::
        ⟨some 6, .mov (.tmp 53), none⟩ :: [])) <|
      .ret) <|
    .skip)) <|
  .seq (.region (⟨some 6, .mov (.val (.bool false)), none⟩ :: [])) <|
  .ret⟩
theorem e_ref11_Better : cFunc Try.prog kd_CRef11S Try.f37 = some c_ref11_Better := by kernel_rfl
end Go.Proofs.Ytfcphijidcfboaa
