/- The code of functions, as abstract code. Printed by program. -/
import Derived.Test.YtnhedjpghpdbdaaAv2
import Derived.Test.YtnhedjpghpdbdaaProg
namespace Go.Proofs.Ytnhedjpghpdbdaa
open Av
set_option linter.unusedVariables false
set_option maxRecDepth 100000
def kd_CSetOf (f : Nat) : Nat := if f = 117 then 2 else 0
/- touchstone/set.Of: slots l, 0, l, 1, all, 4, _, 5, r, 6, out, 7, _, 8, r, 9, k, 10 -/
def c_set_Of : AFunc := ⟨81, [.tmp 2, .tmp 3],
  .seq (.region (⟨some 2, .mov (.val .nils), none⟩ ::
    ⟨some 3, .mov (.val (.int .i64 0)), none⟩ :: [])) <|
  .seq (.region (⟨some 4, .mov (.val .nils), none⟩ :: [])) <|
  .seq (.seq (.region (⟨some 11, .mov (.tmp 0), none⟩ ::
    ⟨some 12, .len false (.tmp 11), none⟩ ::
    ⟨some 13, .mov (.val (.int .i64 0)), none⟩ :: [])) <|
  .block 0 (.loop (.seq (.region (⟨some 14, .bin .lss (.tmp 13) (.tmp 12), none⟩ :: [])) <|
      .seq (.cond (.tmp 14) (.skip) <|
      .exit 0) <|
      .seq (.block 1 (.seq (.region (⟨some 15, .iaddr 2 (.tmp 11) (.tmp 13), none⟩ ::
          ⟨some 16, .load true 2 (.tmp 15), none⟩ ::
          ⟨some 6, .alloc (.agg [(.int .i64 0), (.int .i64 0)]), none⟩ ::
          ⟨none, .store 2 (.tmp 6) (.tmp 16), none⟩ :: [])) <|
        .block 2 (.seq (.region (⟨some 22, .faddr 0 (.tmp 6), none⟩ ::
            ⟨some 23, .load false 1 (.tmp 22), none⟩ ::
            ⟨some 24, .faddr 1 (.tmp 6), none⟩ ::
            ⟨some 25, .load false 1 (.tmp 24), none⟩ ::
            ⟨some 26, .bin .gtr (.tmp 23) (.tmp 25), none⟩ ::
            ⟨some 21, .mov (.tmp 26), none⟩ :: [])) <|
          .cond (.tmp 21) (.skip) <|
          .seq (.region (⟨some 28, .faddr 0 (.tmp 6), none⟩ ::
            ⟨some 29, .load false 1 (.tmp 28), none⟩ ::
            ⟨some 30, .call (.val (.fn (.func 116) [])) [(.tmp 29)], none⟩ ::
            ⟨some 31, .un .not (.tmp 30), none⟩ ::
            ⟨some 32, .mov (.tmp 31), none⟩ ::
            ⟨some 33, .faddr 1 (.tmp 6), some (32, false)⟩ ::
            ⟨some 34, .load false 1 (.tmp 33), some (32, false)⟩ ::
            ⟨some 35, .call (.val (.fn (.func 116) [])) [(.tmp 34)], some (32, false)⟩ ::
            ⟨some 36, .un .not (.tmp 35), some (32, false)⟩ ::
            ⟨some 37, .pick (.tmp 32) (.val (.bool true)) (.tmp 36), none⟩ ::
            ⟨some 27, .mov (.tmp 37), none⟩ :: [])) <|
          .cond (.tmp 27) (.seq (.region (⟨some 2, .mov (.val .nils), none⟩ ::
              ⟨some 3, .mov (.val (.int .i64 2)), none⟩ :: [])) <|
            .ret) <|
          .region (⟨some 17, .mov (.tmp 4), none⟩ ::
            ⟨some 18, .load true 2 (.tmp 6), none⟩ ::
            ⟨some 19, .bslice 2 [(.tmp 18)], none⟩ ::
            ⟨some 20, .app 2 16 (.tmp 17) (.tmp 19), none⟩ ::
            ⟨some 4, .mov (.tmp 20), none⟩ :: [])))) <|
      .region (⟨some 38, .bin .add (.tmp 13) (.val (.int .i64 1)), none⟩ ::
        ⟨some 13, .mov (.tmp 38), none⟩ :: [])))) <|
  .seq (.region (⟨some 39, .mov (.tmp 4), none⟩ ::
    ⟨some 40, .callm (.val (.fn (.func 117) [])) [(.tmp 39), (.val (.fn (.func 118) []))], none⟩ :: [])) <|
  .seq (.region (⟨some 7, .mov (.val .nils), none⟩ :: [])) <|
  .seq (.seq (.region (⟨some 41, .mov (.tmp 4), none⟩ ::
    ⟨some 42, .len false (.tmp 41), none⟩ ::
    ⟨some 43, .mov (.val (.int .i64 0)), none⟩ :: [])) <|
  .block 3 (.loop (.seq (.region (⟨some 44, .bin .lss (.tmp 43) (.tmp 42), none⟩ :: [])) <|
      .seq (.cond (.tmp 44) (.skip) <|
      .exit 3) <|
      .seq (.block 4 (.seq (.region (⟨some 45, .iaddr 2 (.tmp 41) (.tmp 43), none⟩ ::
          ⟨some 46, .load true 2 (.tmp 45), none⟩ ::
          ⟨some 9, .alloc (.agg [(.int .i64 0), (.int .i64 0)]), none⟩ ::
          ⟨none, .store 2 (.tmp 9) (.tmp 46), none⟩ :: [])) <|
        .seq (.seq (.region (⟨some 47, .mov (.tmp 7), none⟩ ::
          ⟨some 48, .len false (.tmp 47), none⟩ ::
          ⟨some 49, .bin .sub (.tmp 48) (.val (.int .i64 1)), none⟩ ::
          ⟨some 10, .mov (.tmp 49), none⟩ :: [])) <|
        .seq (.region (⟨some 50, .mov (.tmp 10), none⟩ ::
          ⟨some 51, .bin .geq (.tmp 50) (.val (.int .i64 0)), none⟩ ::
          ⟨some 52, .mov (.tmp 51), none⟩ ::
          ⟨some 53, .faddr 0 (.tmp 9), some (52, true)⟩ ::
          ⟨some 54, .load false 1 (.tmp 53), some (52, true)⟩ ::
          ⟨some 55, .mov (.tmp 7), some (52, true)⟩ ::
          ⟨some 56, .mov (.tmp 10), some (52, true)⟩ ::
          ⟨some 57, .iaddr 2 (.tmp 55) (.tmp 56), some (52, true)⟩ ::
          ⟨some 58, .faddr 1 (.tmp 57), some (52, true)⟩ ::
          ⟨some 59, .load false 1 (.tmp 58), some (52, true)⟩ ::
          ⟨some 60, .bin .add (.tmp 59) (.val (.int .i64 1)), some (52, true)⟩ ::
          ⟨some 61, .bin .leq (.tmp 54) (.tmp 60), some (52, true)⟩ ::
          ⟨some 62, .pick (.tmp 52) (.tmp 61) (.val (.bool false)), none⟩ :: [])) <|
        .cond (.tmp 62) (.seq (.region (⟨some 63, .mov (.tmp 7), none⟩ ::
            ⟨some 64, .mov (.tmp 10), none⟩ ::
            ⟨some 65, .mov (.tmp 7), none⟩ ::
            ⟨some 66, .mov (.tmp 10), none⟩ ::
            ⟨some 67, .iaddr 2 (.tmp 65) (.tmp 66), none⟩ ::
            ⟨some 68, .faddr 1 (.tmp 67), none⟩ ::
            ⟨some 69, .load false 1 (.tmp 68), none⟩ ::
            ⟨some 70, .faddr 1 (.tmp 9), none⟩ ::
            ⟨some 71, .load false 1 (.tmp 70), none⟩ ::
            ⟨some 72, .mx (.tmp 69) [(.tmp 71)], none⟩ ::
            ⟨some 73, .iaddr 2 (.tmp 63) (.tmp 64), none⟩ ::
            ⟨some 74, .faddr 1 (.tmp 73), none⟩ ::
            ⟨none, .store 1 (.tmp 74) (.tmp 72), none⟩ :: [])) <|
          .exit 4) <|
        .skip) <|
        .region (⟨some 75, .mov (.tmp 7), none⟩ ::
          ⟨some 76, .load true 2 (.tmp 9), none⟩ ::
          ⟨some 77, .bslice 2 [(.tmp 76)], none⟩ ::
          ⟨some 78, .app 2 16 (.tmp 75) (.tmp 77), none⟩ ::
          ⟨some 7, .mov (.tmp 78), none⟩ :: []))) <|
      .region (⟨some 79, .bin .add (.tmp 43) (.val (.int .i64 1)), none⟩ ::
        ⟨some 43, .mov (.tmp 79), none⟩ :: [])))) <|
  .seq (.region (⟨some 80, .mov (.tmp 7), none⟩ ::
    ⟨some 2, .mov (.tmp 80), none⟩ ::
    ⟨some 3, .mov (.val (.int .i64 0)), none⟩ :: [])) <|
  .ret⟩
theorem e_set_Of : cFunc Try.prog kd_CSetOf Try.f80 = some c_set_Of := by kernel_rfl
end Go.Proofs.Ytnhedjpghpdbdaa
