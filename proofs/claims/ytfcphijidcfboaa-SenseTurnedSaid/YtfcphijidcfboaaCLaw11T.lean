/- The code of functions, as abstract code. Printed by program. -/
import Derived.Test.YtfcphijidcfboaaAv2
import Derived.Test.YtfcphijidcfboaaProg
namespace Go.Proofs.Ytfcphijidcfboaa
open Av
set_option linter.unusedVariables false
set_option maxRecDepth 100000
def kd_CLaw11T (f : Nat) : Nat := if f = 40 then 3 else if f = 31 then 1 else 0
/- touchstone/touchstonelaw11.SenseTurned: slots c, 0, a, 1, at, 2, c, 3, a, 4, at, 5, d, 7, signs, 8, _, 9, x, 10, first, 11, last, 12 -/
def c_law11_SenseTurnedO : AFunc := ⟨107, [.tmp 6],
  .seq (.region (⟨some 3, .box 4 (.tmp 0), none⟩ ::
    ⟨some 6, .mov (.val (.bool false)), none⟩ :: [])) <|
  .seq (.seq (.region (⟨some 13, .call (.val (.fn (.func 27) [])) [], none⟩ ::
    ⟨some 14, .un .not (.tmp 13), none⟩ :: [])) <|
  .cond (.tmp 14) (.seq (.region (⟨some 6, .mov (.val (.bool false)), none⟩ :: [])) <|
    .ret) <|
  .skip) <|
  .seq (.seq (.region (⟨some 15, .load true 4 (.tmp 3), none⟩ ::
    ⟨some 16, .mov (.tmp 1), none⟩ ::
    ⟨some 17, .call (.val (.fn (.func 28) [])) [(.tmp 15), (.tmp 16)], none⟩ ::
    ⟨some 18, .un .not (.tmp 17), none⟩ :: [])) <|
  .cond (.tmp 18) (.seq (.region (⟨some 6, .mov (.val (.bool true)), none⟩ :: [])) <|
    .ret) <|
  .skip) <|
  .seq (.region (⟨some 19, .load true 4 (.tmp 3), none⟩ ::
    ⟨some 7, .alloc (.agg [(.int .i64 0), .nils, .nils, (.int .i64 0)]), none⟩ ::
    ⟨none, .store 4 (.tmp 7) (.tmp 19), none⟩ :: [])) <|
  .seq (.seq (.region (⟨some 20, .faddr 0 (.tmp 3), none⟩ ::
    ⟨some 21, .load false 1 (.tmp 20), none⟩ :: [])) <|
  .block 0 (.seq (.seq (.region (⟨some 23, .bin .eql (.tmp 21) (.val (.int .i64 1)), none⟩ ::
      ⟨some 22, .mov (.tmp 23), none⟩ :: [])) <|
    .cond (.tmp 22) (.skip) <|
    .region (⟨some 24, .bin .eql (.tmp 21) (.val (.int .i64 3)), none⟩ ::
      ⟨some 22, .mov (.tmp 24), none⟩ :: [])) <|
    .cond (.tmp 22) (.seq (.region (⟨some 8, .mov (.val .nils), none⟩ :: [])) <|
      .seq (.seq (.region (⟨some 25, .faddr 2 (.tmp 3), none⟩ ::
        ⟨some 26, .load false 1 (.tmp 25), none⟩ ::
        ⟨some 27, .len false (.tmp 26), none⟩ ::
        ⟨some 28, .mov (.val (.int .i64 0)), none⟩ :: [])) <|
      .block 1 (.loop (.seq (.region (⟨some 29, .bin .lss (.tmp 28) (.tmp 27), none⟩ :: [])) <|
          .seq (.cond (.tmp 29) (.skip) <|
          .exit 1) <|
          .seq (.block 2 (.seq (.region (⟨some 30, .iaddr 1 (.tmp 26) (.tmp 28), none⟩ ::
              ⟨some 31, .load false 1 (.tmp 30), none⟩ ::
              ⟨some 10, .mov (.tmp 31), none⟩ :: [])) <|
            .seq (.seq (.region (⟨some 32, .mov (.tmp 10), none⟩ ::
              ⟨some 33, .bin .lss (.tmp 32) (.val (.int .i64 (-1048576))), none⟩ ::
              ⟨some 34, .mov (.tmp 33), none⟩ ::
              ⟨some 35, .mov (.tmp 10), some (34, false)⟩ ::
              ⟨some 36, .bin .gtr (.tmp 35) (.val (.int .i64 1048576)), some (34, false)⟩ ::
              ⟨some 37, .pick (.tmp 34) (.val (.bool true)) (.tmp 36), none⟩ :: [])) <|
            .cond (.tmp 37) (.seq (.region (⟨some 6, .mov (.val (.bool true)), none⟩ :: [])) <|
              .ret) <|
            .skip) <|
            .region (⟨some 38, .mov (.tmp 8), none⟩ ::
              ⟨some 39, .mov (.tmp 10), none⟩ ::
              ⟨some 40, .un .neg (.tmp 39), none⟩ ::
              ⟨some 41, .bslice 1 [(.tmp 40)], none⟩ ::
              ⟨some 42, .app 1 8 (.tmp 38) (.tmp 41), none⟩ ::
              ⟨some 8, .mov (.tmp 42), none⟩ :: []))) <|
          .region (⟨some 43, .bin .add (.tmp 28) (.val (.int .i64 1)), none⟩ ::
            ⟨some 28, .mov (.tmp 43), none⟩ :: [])))) <|
      .seq (.region (⟨some 44, .mov (.tmp 8), none⟩ ::
        ⟨some 45, .faddr 2 (.tmp 7), none⟩ ::
        ⟨none, .store 1 (.tmp 45) (.tmp 44), none⟩ :: [])) <|
      .seq (.seq (.region (⟨some 46, .faddr 3 (.tmp 3), none⟩ ::
        ⟨some 47, .load false 1 (.tmp 46), none⟩ ::
        ⟨some 48, .bin .lss (.tmp 47) (.val (.int .i64 (-1048576))), none⟩ ::
        ⟨some 49, .mov (.tmp 48), none⟩ ::
        ⟨some 50, .faddr 3 (.tmp 3), some (49, false)⟩ ::
        ⟨some 51, .load false 1 (.tmp 50), some (49, false)⟩ ::
        ⟨some 52, .bin .gtr (.tmp 51) (.val (.int .i64 1048576)), some (49, false)⟩ ::
        ⟨some 53, .pick (.tmp 49) (.val (.bool true)) (.tmp 52), none⟩ :: [])) <|
      .cond (.tmp 53) (.seq (.region (⟨some 6, .mov (.val (.bool true)), none⟩ :: [])) <|
        .ret) <|
      .skip) <|
      .region (⟨some 54, .faddr 3 (.tmp 3), none⟩ ::
        ⟨some 55, .load false 1 (.tmp 54), none⟩ ::
        ⟨some 56, .un .neg (.tmp 55), none⟩ ::
        ⟨some 57, .faddr 3 (.tmp 7), none⟩ ::
        ⟨none, .store 1 (.tmp 57) (.tmp 56), none⟩ :: [])) <|
    .seq (.region (⟨some 59, .bin .eql (.tmp 21) (.val (.int .i64 18)), none⟩ ::
      ⟨some 58, .mov (.tmp 59), none⟩ :: [])) <|
    .cond (.tmp 58) (.region (⟨some 60, .faddr 1 (.tmp 3), none⟩ ::
        ⟨some 61, .load false 1 (.tmp 60), none⟩ ::
        ⟨some 62, .mov (.tmp 2), none⟩ ::
        ⟨some 63, .call (.val (.fn (.func 39) [])) [(.tmp 61), (.tmp 62)], none⟩ ::
        ⟨some 64, .faddr 1 (.tmp 7), none⟩ ::
        ⟨none, .store 1 (.tmp 64) (.tmp 63), none⟩ :: [])) <|
    .seq (.region (⟨some 66, .bin .eql (.tmp 21) (.val (.int .i64 19)), none⟩ ::
      ⟨some 65, .mov (.tmp 66), none⟩ :: [])) <|
    .cond (.tmp 65) (.seq (.seq (.region (⟨some 67, .faddr 2 (.tmp 3), none⟩ ::
        ⟨some 68, .load false 1 (.tmp 67), none⟩ ::
        ⟨some 69, .len false (.tmp 68), none⟩ ::
        ⟨some 70, .faddr 1 (.tmp 3), none⟩ ::
        ⟨some 71, .load false 1 (.tmp 70), none⟩ ::
        ⟨some 72, .len false (.tmp 71), none⟩ ::
        ⟨some 73, .bin .mul (.val (.int .i64 2)) (.tmp 72), none⟩ ::
        ⟨some 74, .bin .neq (.tmp 69) (.tmp 73), none⟩ :: [])) <|
      .cond (.tmp 74) (.seq (.region (⟨some 6, .mov (.val (.bool true)), none⟩ :: [])) <|
        .ret) <|
      .skip) <|
      .seq (.region (⟨some 75, .faddr 1 (.tmp 3), none⟩ ::
        ⟨some 76, .load false 1 (.tmp 75), none⟩ ::
        ⟨some 77, .mov (.tmp 2), none⟩ ::
        ⟨some 78, .call (.val (.fn (.func 39) [])) [(.tmp 76), (.tmp 77)], none⟩ ::
        ⟨some 79, .faddr 1 (.tmp 7), none⟩ ::
        ⟨none, .store 1 (.tmp 79) (.tmp 78), none⟩ :: [])) <|
      .seq (.region (⟨some 80, .faddr 2 (.tmp 3), none⟩ ::
        ⟨some 81, .load false 1 (.tmp 80), none⟩ ::
        ⟨some 82, .faddr 1 (.tmp 3), none⟩ ::
        ⟨some 83, .load false 1 (.tmp 82), none⟩ ::
        ⟨some 84, .len false (.tmp 83), none⟩ ::
        ⟨some 85, .slc 1 (.tmp 81) none (some (.tmp 84)), none⟩ ::
        ⟨some 86, .mov (.tmp 2), none⟩ ::
        ⟨some 87, .callo (.val (.fn (.func 40) [])) [(.tmp 85), (.tmp 86)], none⟩ ::
        ⟨some 88, .faddr 2 (.tmp 3), none⟩ ::
        ⟨some 89, .load false 1 (.tmp 88), none⟩ ::
        ⟨some 90, .faddr 1 (.tmp 3), none⟩ ::
        ⟨some 91, .load false 1 (.tmp 90), none⟩ ::
        ⟨some 92, .len false (.tmp 91), none⟩ ::
        ⟨some 93, .slc 1 (.tmp 89) (some (.tmp 92)) none, none⟩ ::
        ⟨some 94, .mov (.tmp 2), none⟩ ::
        ⟨some 95, .callo (.val (.fn (.func 40) [])) [(.tmp 93), (.tmp 94)], none⟩ ::
        ⟨some 11, .mov (.tmp 87), none⟩ ::
        ⟨some 12, .mov (.tmp 95), none⟩ :: [])) <|
      .region (⟨some 96, .mov (.tmp 11), none⟩ ::
        ⟨some 97, .mov (.tmp 12), none⟩ ::
        ⟨some 98, .app 1 8 (.tmp 96) (.tmp 97), none⟩ ::
        ⟨some 99, .faddr 2 (.tmp 7), none⟩ ::
        ⟨none, .store 1 (.tmp 99) (.tmp 98), none⟩ :: [])) <|
    .seq (.region (⟨some 6, .mov (.val (.bool true)), none⟩ :: [])) <|
    .ret)) <|
  .seq (.region (⟨some 100, .load true 4 (.tmp 7), none⟩ ::
    ⟨some 101, .mov (.tmp 1), none⟩ ::
    ⟨some 102, .callv (.val (.fn (.func 31) [])) [(.tmp 100), (.tmp 101)], none⟩ ::
    ⟨some 103, .load true 4 (.tmp 3), none⟩ ::
    ⟨some 104, .mov (.tmp 1), none⟩ ::
    ⟨some 105, .callv (.val (.fn (.func 31) [])) [(.tmp 103), (.tmp 104)], none⟩ ::
    ⟨some 106, .eqb false (.tmp 102) (.tmp 105), none⟩ ::
    ⟨some 6, .mov (.tmp 106), none⟩ :: [])) <|
  .ret⟩
theorem e_law11_SenseTurnedO : cFunc Try.prog kd_CLaw11T Try.f11 = some c_law11_SenseTurnedO := by kernel_rfl
end Go.Proofs.Ytfcphijidcfboaa
