/- The code of functions, as abstract code. Printed by program. -/
import Derived.Test.YtclpkkbamgmooaaAv2
import Derived.Test.YtclpkkbamgmooaaProg
namespace Go.Proofs.Ytclpkkbamgmooaa
open Av
set_option linter.unusedVariables false
set_option maxRecDepth 100000
def kd_CKeep (f : Nat) : Nat := 0
/- touchstone/touchstonelaw12.Few: slots d, 0, d, 1, _, 3, x, 4 -/
def c_law12_Few : AFunc := ⟨23, [.tmp 2],
  .seq (.region (⟨some 2, .mov (.val (.bool false)), none⟩ :: [])) <|
  .seq (.seq (.region (⟨some 5, .mov (.tmp 0), none⟩ ::
    ⟨some 6, .len false (.tmp 5), none⟩ ::
    ⟨some 7, .mov (.val (.int .i64 0)), none⟩ :: [])) <|
  .block 0 (.loop (.seq (.region (⟨some 8, .bin .lss (.tmp 7) (.tmp 6), none⟩ :: [])) <|
      .seq (.cond (.tmp 8) (.skip) <|
      .exit 0) <|
      .seq (.block 1 (.seq (.region (⟨some 9, .iaddr 1 (.tmp 5) (.tmp 7), none⟩ ::
          ⟨some 10, .load false 1 (.tmp 9), none⟩ ::
          ⟨some 4, .mov (.tmp 10), none⟩ :: [])) <|
        .seq (.region (⟨some 11, .mov (.tmp 4), none⟩ ::
          ⟨some 12, .len false (.tmp 11), none⟩ ::
          ⟨some 13, .bin .eql (.tmp 12) (.val (.int .i64 0)), none⟩ ::
          ⟨some 14, .mov (.tmp 13), none⟩ ::
          ⟨some 15, .mov (.tmp 4), some (14, false)⟩ ::
          ⟨some 16, .call (.val (.fn (.func 43) [])) [(.tmp 15)], some (14, false)⟩ ::
          ⟨some 17, .un .not (.tmp 16), some (14, false)⟩ ::
          ⟨some 18, .pick (.tmp 14) (.val (.bool true)) (.tmp 17), none⟩ :: [])) <|
        .cond (.tmp 18) (.seq (.region (⟨some 2, .mov (.val (.bool false)), none⟩ :: [])) <|
          .ret) <|
        .skip)) <|
      .region (⟨some 19, .bin .add (.tmp 7) (.val (.int .i64 1)), none⟩ ::
        ⟨some 7, .mov (.tmp 19), none⟩ :: [])))) <|
  .seq (.region (⟨some 20, .mov (.tmp 0), none⟩ ::
    ⟨some 21, .call (.val (.fn (.func 44) [])) [(.tmp 20), (.val (.int .i64 400))], none⟩ ::
    ⟨some 22, .bin .leq (.tmp 21) (.val (.int .i64 400)), none⟩ ::
    ⟨some 2, .mov (.tmp 22), none⟩ :: [])) <|
  .ret⟩
theorem e_law12_Few : cFunc Try.prog kd_CKeep Try.f19 = some c_law12_Few := by kernel_rfl
/- touchstone/touchstonelaw12.Kept: slots c, 0, d, 1, out, 2, e, 3, c, 4, d, 5, out, 6, e, 7, l, 9, x, 10, _, 11, a, 12 -/
def c_law12_Kept : AFunc := ⟨82, [.tmp 8],
  .seq (.region (⟨some 4, .box 4 (.tmp 0), none⟩ ::
    ⟨some 8, .mov (.val (.bool false)), none⟩ :: [])) <|
  .seq (.region (⟨some 13, .mov (.tmp 1), none⟩ ::
    ⟨some 14, .load true 4 (.tmp 4), none⟩ ::
    ⟨some 15, .bslice 4 [(.tmp 14)], none⟩ ::
    ⟨some 16, .call (.val (.fn (.func 31) [])) [(.tmp 13), (.tmp 15)], none⟩ ::
    ⟨some 9, .mov (.tmp 16), none⟩ :: [])) <|
  .seq (.seq (.region (⟨some 17, .mov (.tmp 3), none⟩ ::
    ⟨some 18, .bin .eql (.tmp 17) (.val (.int .i64 12)), none⟩ :: [])) <|
  .cond (.tmp 18) (.seq (.region (⟨some 19, .mov (.tmp 9), none⟩ ::
      ⟨some 20, .len false (.tmp 19), none⟩ ::
      ⟨some 21, .bin .eql (.tmp 20) (.val (.int .i64 0)), none⟩ ::
      ⟨some 22, .mov (.tmp 21), none⟩ ::
      ⟨some 23, .mov (.tmp 2), some (22, true)⟩ ::
      ⟨some 24, .len false (.tmp 23), some (22, true)⟩ ::
      ⟨some 25, .bin .eql (.tmp 24) (.val (.int .i64 0)), some (22, true)⟩ ::
      ⟨some 26, .pick (.tmp 22) (.tmp 25) (.val (.bool false)), none⟩ ::
      ⟨some 8, .mov (.tmp 26), none⟩ :: [])) <|
    .ret) <|
  .skip) <|
  .seq (.seq (.region (⟨some 27, .mov (.tmp 3), none⟩ ::
    ⟨some 28, .bin .neq (.tmp 27) (.val (.int .i64 0)), none⟩ ::
    ⟨some 29, .mov (.tmp 28), none⟩ ::
    ⟨some 30, .mov (.tmp 2), some (29, false)⟩ ::
    ⟨some 31, .len false (.tmp 30), some (29, false)⟩ ::
    ⟨some 32, .mov (.tmp 1), some (29, false)⟩ ::
    ⟨some 33, .len false (.tmp 32), some (29, false)⟩ ::
    ⟨some 34, .bin .neq (.tmp 31) (.tmp 33), some (29, false)⟩ ::
    ⟨some 35, .pick (.tmp 29) (.val (.bool true)) (.tmp 34), none⟩ :: [])) <|
  .cond (.tmp 35) (.seq (.region (⟨some 8, .mov (.val (.bool false)), none⟩ :: [])) <|
    .ret) <|
  .skip) <|
  .seq (.seq (.region (⟨some 36, .mov (.tmp 1), none⟩ ::
    ⟨some 37, .len false (.tmp 36), none⟩ ::
    ⟨some 38, .mov (.val (.int .i64 0)), none⟩ :: [])) <|
  .block 0 (.loop (.seq (.region (⟨some 39, .bin .lss (.tmp 38) (.tmp 37), none⟩ :: [])) <|
      .seq (.cond (.tmp 39) (.skip) <|
      .exit 0) <|
      .seq (.block 1 (.seq (.region (⟨some 40, .mov (.tmp 38), none⟩ ::
          ⟨some 10, .mov (.tmp 40), none⟩ :: [])) <|
        .seq (.seq (.region (⟨some 41, .mov (.tmp 2), none⟩ ::
          ⟨some 42, .mov (.tmp 10), none⟩ ::
          ⟨some 43, .iaddr 1 (.tmp 41) (.tmp 42), none⟩ ::
          ⟨some 44, .load false 1 (.tmp 43), none⟩ ::
          ⟨some 45, .mov (.tmp 1), none⟩ ::
          ⟨some 46, .mov (.tmp 10), none⟩ ::
          ⟨some 47, .iaddr 1 (.tmp 45) (.tmp 46), none⟩ ::
          ⟨some 48, .load false 1 (.tmp 47), none⟩ ::
          ⟨some 49, .call (.val (.fn (.func 46) [])) [(.tmp 44), (.tmp 48)], none⟩ ::
          ⟨some 50, .mov (.tmp 2), none⟩ ::
          ⟨some 51, .mov (.tmp 10), none⟩ ::
          ⟨some 52, .iaddr 1 (.tmp 50) (.tmp 51), none⟩ ::
          ⟨some 53, .load false 1 (.tmp 52), none⟩ ::
          ⟨some 54, .call (.val (.fn (.func 45) [])) [(.tmp 49), (.tmp 53)], none⟩ ::
          ⟨some 55, .un .not (.tmp 54), none⟩ ::
          ⟨some 56, .mov (.tmp 55), none⟩ ::
          ⟨some 57, .mov (.tmp 2), some (56, false)⟩ ::
          ⟨some 58, .mov (.tmp 10), some (56, false)⟩ ::
          ⟨some 59, .iaddr 1 (.tmp 57) (.tmp 58), some (56, false)⟩ ::
          ⟨some 60, .load false 1 (.tmp 59), some (56, false)⟩ ::
          ⟨some 61, .len false (.tmp 60), some (56, false)⟩ ::
          ⟨some 62, .bin .eql (.tmp 61) (.val (.int .i64 0)), some (56, false)⟩ ::
          ⟨some 63, .pick (.tmp 56) (.val (.bool true)) (.tmp 62), none⟩ :: [])) <|
        .cond (.tmp 63) (.seq (.region (⟨some 8, .mov (.val (.bool false)), none⟩ :: [])) <|
          .ret) <|
        .skip) <|
        .seq (.region (⟨some 64, .mov (.tmp 9), none⟩ ::
          ⟨some 65, .len false (.tmp 64), none⟩ ::
          ⟨some 66, .mov (.val (.int .i64 0)), none⟩ :: [])) <|
        .block 2 (.loop (.seq (.region (⟨some 67, .bin .lss (.tmp 66) (.tmp 65), none⟩ :: [])) <|
            .seq (.cond (.tmp 67) (.skip) <|
            .exit 2) <|
            .seq (.block 3 (.seq (.region (⟨some 68, .iaddr 1 (.tmp 64) (.tmp 66), none⟩ ::
                ⟨some 69, .load false 1 (.tmp 68), none⟩ ::
                ⟨some 12, .mov (.tmp 69), none⟩ :: [])) <|
              .seq (.region (⟨some 70, .mov (.tmp 2), none⟩ ::
                ⟨some 71, .mov (.tmp 10), none⟩ ::
                ⟨some 72, .iaddr 1 (.tmp 70) (.tmp 71), none⟩ ::
                ⟨some 73, .load false 1 (.tmp 72), none⟩ ::
                ⟨some 74, .mov (.tmp 12), none⟩ ::
                ⟨some 75, .mov (.tmp 10), none⟩ ::
                ⟨some 76, .iaddr 1 (.tmp 74) (.tmp 75), none⟩ ::
                ⟨some 77, .load false 1 (.tmp 76), none⟩ ::
                ⟨some 78, .call (.val (.fn (.func 47) [])) [(.tmp 73), (.tmp 77)], none⟩ ::
                ⟨some 79, .un .not (.tmp 78), none⟩ :: [])) <|
              .cond (.tmp 79) (.seq (.region (⟨some 8, .mov (.val (.bool false)), none⟩ :: [])) <|
                .ret) <|
              .skip)) <|
            .region (⟨some 80, .bin .add (.tmp 66) (.val (.int .i64 1)), none⟩ ::
              ⟨some 66, .mov (.tmp 80), none⟩ :: []))))) <|
      .region (⟨some 81, .bin .add (.tmp 38) (.val (.int .i64 1)), none⟩ ::
        ⟨some 38, .mov (.tmp 81), none⟩ :: [])))) <|
  .seq (.region (⟨some 8, .mov (.val (.bool true)), none⟩ :: [])) <|
  .ret⟩
theorem e_law12_Kept : cFunc Try.prog kd_CKeep Try.f21 = some c_law12_Kept := by kernel_rfl
end Go.Proofs.Ytclpkkbamgmooaa
