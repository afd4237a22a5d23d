/- The code of functions, as abstract code. Printed by program. -/
import Derived.Test.YtfcphijidcfboaaAv2
import Derived.Test.YtfcphijidcfboaaProg
namespace Go.Proofs.Ytfcphijidcfboaa
open Av
set_option linter.unusedVariables false
set_option maxRecDepth 100000
def kd_CRef09O (f : Nat) : Nat := 0
/- touchstone/touchstoneref09.joined: slots d, 0, r, 1, d, 2, r, 3, out, 5, laid, 6, k, 7 -/
def c_ref09_joined : AFunc := ⟨76, [.tmp 4],
  .seq (.region (⟨some 3, .box 2 (.tmp 1), none⟩ ::
    ⟨some 4, .mov (.val .nils), none⟩ :: [])) <|
  .seq (.region (⟨some 5, .mov (.val .nils), none⟩ :: [])) <|
  .seq (.region (⟨some 6, .mov (.val (.bool false)), none⟩ :: [])) <|
  .seq (.seq (.region (⟨some 7, .mov (.val (.int .i64 0)), none⟩ :: [])) <|
  .block 0 (.loop (.seq (.seq (.region (⟨some 8, .mov (.tmp 7), none⟩ ::
        ⟨some 9, .mov (.tmp 0), none⟩ ::
        ⟨some 10, .len false (.tmp 9), none⟩ ::
        ⟨some 11, .bin .lss (.tmp 8) (.tmp 10), none⟩ :: [])) <|
      .cond (.tmp 11) (.skip) <|
      .exit 0) <|
      .seq (.block 1 (.seq (.seq (.region (⟨some 14, .mov (.tmp 0), none⟩ ::
          ⟨some 15, .mov (.tmp 7), none⟩ ::
          ⟨some 16, .iaddr 2 (.tmp 14) (.tmp 15), none⟩ ::
          ⟨some 17, .faddr 1 (.tmp 16), none⟩ ::
          ⟨some 18, .load false 1 (.tmp 17), none⟩ ::
          ⟨some 19, .bin .add (.tmp 18) (.val (.int .i64 1)), none⟩ ::
          ⟨some 20, .faddr 0 (.tmp 3), none⟩ ::
          ⟨some 21, .load false 1 (.tmp 20), none⟩ ::
          ⟨some 22, .bin .lss (.tmp 19) (.tmp 21), none⟩ :: [])) <|
        .cond (.tmp 22) (.seq (.region (⟨some 23, .mov (.tmp 5), none⟩ ::
            ⟨some 24, .mov (.tmp 0), none⟩ ::
            ⟨some 25, .mov (.tmp 7), none⟩ ::
            ⟨some 26, .iaddr 2 (.tmp 24) (.tmp 25), none⟩ ::
            ⟨some 27, .load true 2 (.tmp 26), none⟩ ::
            ⟨some 28, .bslice 2 [(.tmp 27)], none⟩ ::
            ⟨some 29, .app 2 16 (.tmp 23) (.tmp 28), none⟩ ::
            ⟨some 5, .mov (.tmp 29), none⟩ :: [])) <|
          .exit 1) <|
        .skip) <|
        .seq (.seq (.region (⟨some 30, .faddr 1 (.tmp 3), none⟩ ::
          ⟨some 31, .load false 1 (.tmp 30), none⟩ ::
          ⟨some 32, .bin .add (.tmp 31) (.val (.int .i64 1)), none⟩ ::
          ⟨some 33, .mov (.tmp 0), none⟩ ::
          ⟨some 34, .mov (.tmp 7), none⟩ ::
          ⟨some 35, .iaddr 2 (.tmp 33) (.tmp 34), none⟩ ::
          ⟨some 36, .faddr 0 (.tmp 35), none⟩ ::
          ⟨some 37, .load false 1 (.tmp 36), none⟩ ::
          ⟨some 38, .bin .lss (.tmp 32) (.tmp 37), none⟩ :: [])) <|
        .cond (.tmp 38) (.seq (.seq (.region (⟨some 39, .mov (.tmp 6), none⟩ ::
            ⟨some 40, .un .not (.tmp 39), none⟩ :: [])) <|
          .cond (.tmp 40) (.region (⟨some 41, .mov (.tmp 5), none⟩ ::
              ⟨some 42, .load true 2 (.tmp 3), none⟩ ::
              ⟨some 43, .bslice 2 [(.tmp 42)], none⟩ ::
              ⟨some 44, .app 2 16 (.tmp 41) (.tmp 43), none⟩ ::
              ⟨some 5, .mov (.tmp 44), none⟩ :: [])) <|
          .skip) <|
          .seq (.region (⟨some 6, .mov (.val (.bool true)), none⟩ :: [])) <|
          .seq (.region (⟨some 45, .mov (.tmp 5), none⟩ ::
            ⟨some 46, .mov (.tmp 0), none⟩ ::
            ⟨some 47, .mov (.tmp 7), none⟩ ::
            ⟨some 48, .iaddr 2 (.tmp 46) (.tmp 47), none⟩ ::
            ⟨some 49, .load true 2 (.tmp 48), none⟩ ::
            ⟨some 50, .bslice 2 [(.tmp 49)], none⟩ ::
            ⟨some 51, .app 2 16 (.tmp 45) (.tmp 50), none⟩ ::
            ⟨some 5, .mov (.tmp 51), none⟩ :: [])) <|
          .exit 1) <|
        .skip) <|
        .region (⟨some 52, .faddr 0 (.tmp 3), none⟩ ::
          ⟨some 53, .load false 1 (.tmp 52), none⟩ ::
          ⟨some 54, .mov (.tmp 0), none⟩ ::
          ⟨some 55, .mov (.tmp 7), none⟩ ::
          ⟨some 56, .iaddr 2 (.tmp 54) (.tmp 55), none⟩ ::
          ⟨some 57, .faddr 0 (.tmp 56), none⟩ ::
          ⟨some 58, .load false 1 (.tmp 57), none⟩ ::
          ⟨some 59, .mn (.tmp 53) [(.tmp 58)], none⟩ ::
          ⟨some 60, .faddr 1 (.tmp 3), none⟩ ::
          ⟨some 61, .load false 1 (.tmp 60), none⟩ ::
          ⟨some 62, .mov (.tmp 0), none⟩ ::
          ⟨some 63, .mov (.tmp 7), none⟩ ::
          ⟨some 64, .iaddr 2 (.tmp 62) (.tmp 63), none⟩ ::
          ⟨some 65, .faddr 1 (.tmp 64), none⟩ ::
          ⟨some 66, .load false 1 (.tmp 65), none⟩ ::
          ⟨some 67, .mx (.tmp 61) [(.tmp 66)], none⟩ ::
          ⟨some 68, .build [(.int .i64 0), (.int .i64 0)] [(0, 1, (.tmp 59)), (1, 1, (.tmp 67))], none⟩ ::
          ⟨none, .store 2 (.tmp 3) (.tmp 68), none⟩ :: []))) <|
      .region (⟨some 12, .mov (.tmp 7), none⟩ ::
        ⟨some 13, .bin .add (.tmp 12) (.val (.int .i64 1)), none⟩ ::
        ⟨some 7, .mov (.tmp 13), none⟩ :: [])))) <|
  .seq (.seq (.region (⟨some 69, .mov (.tmp 6), none⟩ ::
    ⟨some 70, .un .not (.tmp 69), none⟩ :: [])) <|
  .cond (.tmp 70) (.region (⟨some 71, .mov (.tmp 5), none⟩ ::
      ⟨some 72, .load true 2 (.tmp 3), none⟩ ::
      ⟨some 73, .bslice 2 [(.tmp 72)], none⟩ ::
      ⟨some 74, .app 2 16 (.tmp 71) (.tmp 73), none⟩ ::
      ⟨some 5, .mov (.tmp 74), none⟩ :: [])) <|
  .skip) <|
  .seq (.region (⟨some 75, .mov (.tmp 5), none⟩ ::
    ⟨some 4, .mov (.tmp 75), none⟩ :: [])) <|
  .ret⟩
theorem e_ref09_joined : cFunc Try.prog kd_CRef09O Try.f119 = some c_ref09_joined := by kernel_rfl
/- touchstone/touchstoneref09.Of: slots l, 0, l, 1, out, 4, i, 5 -/
def c_ref09_Of : AFunc := ⟨46, [.tmp 2, .tmp 3],
  .seq (.region (⟨some 2, .mov (.val .nils), none⟩ ::
    ⟨some 3, .mov (.val (.int .i64 0)), none⟩ :: [])) <|
  .seq (.region (⟨some 4, .mov (.val .nils), none⟩ :: [])) <|
  .seq (.seq (.region (⟨some 5, .mov (.val (.int .i64 0)), none⟩ :: [])) <|
  .block 0 (.loop (.seq (.seq (.region (⟨some 6, .mov (.tmp 5), none⟩ ::
        ⟨some 7, .mov (.tmp 0), none⟩ ::
        ⟨some 8, .len false (.tmp 7), none⟩ ::
        ⟨some 9, .bin .lss (.tmp 6) (.tmp 8), none⟩ :: [])) <|
      .cond (.tmp 9) (.skip) <|
      .exit 0) <|
      .seq (.block 1 (.seq (.seq (.region (⟨some 12, .mov (.tmp 0), none⟩ ::
          ⟨some 13, .mov (.tmp 5), none⟩ ::
          ⟨some 14, .iaddr 2 (.tmp 12) (.tmp 13), none⟩ ::
          ⟨some 15, .faddr 0 (.tmp 14), none⟩ ::
          ⟨some 16, .load false 1 (.tmp 15), none⟩ ::
          ⟨some 17, .mov (.tmp 0), none⟩ ::
          ⟨some 18, .mov (.tmp 5), none⟩ ::
          ⟨some 19, .iaddr 2 (.tmp 17) (.tmp 18), none⟩ ::
          ⟨some 20, .faddr 1 (.tmp 19), none⟩ ::
          ⟨some 21, .load false 1 (.tmp 20), none⟩ ::
          ⟨some 22, .bin .gtr (.tmp 16) (.tmp 21), none⟩ :: [])) <|
        .cond (.tmp 22) (.exit 1) <|
        .skip) <|
        .seq (.seq (.region (⟨some 23, .mov (.tmp 0), none⟩ ::
          ⟨some 24, .mov (.tmp 5), none⟩ ::
          ⟨some 25, .iaddr 2 (.tmp 23) (.tmp 24), none⟩ ::
          ⟨some 26, .faddr 0 (.tmp 25), none⟩ ::
          ⟨some 27, .load false 1 (.tmp 26), none⟩ ::
          ⟨some 28, .call (.val (.fn (.func 69) [])) [(.tmp 27)], none⟩ ::
          ⟨some 29, .un .not (.tmp 28), none⟩ ::
          ⟨some 30, .mov (.tmp 29), none⟩ ::
          ⟨some 31, .mov (.tmp 0), some (30, false)⟩ ::
          ⟨some 32, .mov (.tmp 5), some (30, false)⟩ ::
          ⟨some 33, .iaddr 2 (.tmp 31) (.tmp 32), some (30, false)⟩ ::
          ⟨some 34, .faddr 1 (.tmp 33), some (30, false)⟩ ::
          ⟨some 35, .load false 1 (.tmp 34), some (30, false)⟩ ::
          ⟨some 36, .call (.val (.fn (.func 69) [])) [(.tmp 35)], some (30, false)⟩ ::
          ⟨some 37, .un .not (.tmp 36), some (30, false)⟩ ::
          ⟨some 38, .pick (.tmp 30) (.val (.bool true)) (.tmp 37), none⟩ :: [])) <|
        .cond (.tmp 38) (.seq (.region (⟨some 2, .mov (.val .nils), none⟩ ::
            ⟨some 3, .mov (.val (.int .i64 2)), none⟩ :: [])) <|
          .ret) <|
        .skip) <|
        .region (⟨some 39, .mov (.tmp 4), none⟩ ::
          ⟨some 40, .mov (.tmp 0), none⟩ ::
          ⟨some 41, .mov (.tmp 5), none⟩ ::
          ⟨some 42, .iaddr 2 (.tmp 40) (.tmp 41), none⟩ ::
          ⟨some 43, .load true 2 (.tmp 42), none⟩ ::
          ⟨some 44, .call (.val (.fn (.func 119) [])) [(.tmp 39), (.tmp 43)], none⟩ ::
          ⟨some 4, .mov (.tmp 44), none⟩ :: []))) <|
      .region (⟨some 10, .mov (.tmp 5), none⟩ ::
        ⟨some 11, .bin .add (.tmp 10) (.val (.int .i64 1)), none⟩ ::
        ⟨some 5, .mov (.tmp 11), none⟩ :: [])))) <|
  .seq (.region (⟨some 45, .mov (.tmp 4), none⟩ ::
    ⟨some 2, .mov (.tmp 45), none⟩ ::
    ⟨some 3, .mov (.val (.int .i64 0)), none⟩ :: [])) <|
  .ret⟩
theorem e_ref09_Of : cFunc Try.prog kd_CRef09O Try.f82 = some c_ref09_Of := by kernel_rfl
end Go.Proofs.Ytfcphijidcfboaa
