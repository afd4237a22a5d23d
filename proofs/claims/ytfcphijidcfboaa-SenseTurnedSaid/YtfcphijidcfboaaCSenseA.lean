/- The code of functions, as abstract code. Printed by program. -/
import Derived.Test.YtfcphijidcfboaaAv2
import Derived.Test.YtfcphijidcfboaaProg
namespace Go.Proofs.Ytfcphijidcfboaa
open Av
set_option linter.unusedVariables false
set_option maxRecDepth 100000
def kd_CSenseA (f : Nat) : Nat := if f = 41 then 1 else if f = 67 then 1 else 0
/- touchstone/sense.All: slots m, 0, a, 1, m, 2, a, 3, x, 5, d, 6 -/
def c_sense_AllV : AFunc := ⟨39, [.tmp 4],
  .seq (.region (⟨some 2, .box 4 (.tmp 0), none⟩ ::
    ⟨some 3, .box 1 (.tmp 1), none⟩ ::
    ⟨some 4, .mov (.val (.bool false)), none⟩ :: [])) <|
  .seq (.seq (.region (⟨some 7, .load true 4 (.tmp 2), none⟩ ::
    ⟨some 8, .callv (.val (.fn (.func 41) [])) [(.tmp 7)], none⟩ ::
    ⟨some 9, .un .not (.tmp 8), none⟩ ::
    ⟨some 10, .mov (.tmp 9), none⟩ ::
    ⟨some 11, .load false 1 (.tmp 3), some (10, false)⟩ ::
    ⟨some 12, .len false (.tmp 11), some (10, false)⟩ ::
    ⟨some 13, .faddr 0 (.tmp 2), some (10, false)⟩ ::
    ⟨some 14, .load false 1 (.tmp 13), some (10, false)⟩ ::
    ⟨some 15, .len false (.tmp 14), some (10, false)⟩ ::
    ⟨some 16, .bin .neq (.tmp 12) (.tmp 15), some (10, false)⟩ ::
    ⟨some 17, .pick (.tmp 10) (.val (.bool true)) (.tmp 16), none⟩ :: [])) <|
  .cond (.tmp 17) (.seq (.region (⟨some 4, .mov (.val (.bool false)), none⟩ :: [])) <|
    .ret) <|
  .skip) <|
  .seq (.seq (.region (⟨some 18, .faddr 0 (.tmp 2), none⟩ ::
    ⟨some 19, .load false 1 (.tmp 18), none⟩ ::
    ⟨some 20, .len false (.tmp 19), none⟩ ::
    ⟨some 21, .mov (.val (.int .i64 0)), none⟩ :: [])) <|
  .block 0 (.loop (.seq (.region (⟨some 22, .bin .lss (.tmp 21) (.tmp 20), none⟩ :: [])) <|
      .seq (.cond (.tmp 22) (.skip) <|
      .exit 0) <|
      .seq (.block 1 (.seq (.region (⟨some 23, .mov (.tmp 21), none⟩ ::
          ⟨some 24, .iaddr 1 (.tmp 19) (.tmp 21), none⟩ ::
          ⟨some 25, .load false 1 (.tmp 24), none⟩ ::
          ⟨some 5, .mov (.tmp 23), none⟩ ::
          ⟨some 6, .mov (.tmp 25), none⟩ :: [])) <|
        .seq (.region (⟨some 26, .mov (.tmp 6), none⟩ ::
          ⟨some 27, .load false 1 (.tmp 3), none⟩ ::
          ⟨some 28, .mov (.tmp 5), none⟩ ::
          ⟨some 29, .iaddr 1 (.tmp 27) (.tmp 28), none⟩ ::
          ⟨some 30, .load false 1 (.tmp 29), none⟩ ::
          ⟨some 31, .call (.val (.fn (.func 66) [])) [(.tmp 26), (.tmp 30)], none⟩ ::
          ⟨some 32, .un .not (.tmp 31), none⟩ :: [])) <|
        .cond (.tmp 32) (.seq (.region (⟨some 4, .mov (.val (.bool false)), none⟩ :: [])) <|
          .ret) <|
        .skip)) <|
      .region (⟨some 33, .bin .add (.tmp 21) (.val (.int .i64 1)), none⟩ ::
        ⟨some 21, .mov (.tmp 33), none⟩ :: [])))) <|
  .seq (.region (⟨some 34, .faddr 1 (.tmp 2), none⟩ ::
    ⟨some 35, .load false 1 (.tmp 34), none⟩ ::
    ⟨some 36, .mkf (.func 68) [(.tmp 3)], none⟩ ::
    ⟨some 37, .callv (.val (.fn (.func 67) [])) [(.tmp 35), (.tmp 36)], none⟩ ::
    ⟨some 38, .un .not (.tmp 37), none⟩ ::
    ⟨some 4, .mov (.tmp 38), none⟩ :: [])) <|
  .ret⟩
theorem e_sense_AllV : cFunc Try.prog kd_CSenseA Try.f34 = some c_sense_AllV := by kernel_rfl
/- slices.ContainsFunc[[]touchstone/api.Con,touchstone/api.Con]: slots s, 0, f, 1, s, 2, f, 3 -/
def c_slices_ContainsFunc_sCon_Con : AFunc := ⟨9, [.tmp 4],
  .seq (.region (⟨some 4, .mov (.val (.bool false)), none⟩ :: [])) <|
  .seq (.region (⟨some 5, .mov (.tmp 0), none⟩ ::
    ⟨some 6, .mov (.tmp 1), none⟩ ::
    ⟨some 7, .call (.val (.fn (.func 102) [])) [(.tmp 5), (.tmp 6)], none⟩ ::
    ⟨some 8, .bin .geq (.tmp 7) (.val (.int .i64 0)), none⟩ ::
    ⟨some 4, .mov (.tmp 8), none⟩ :: [])) <|
  .ret⟩
theorem e_slices_ContainsFunc_sCon_Con : cFunc Try.prog kd_CSenseA Try.f67 = some c_slices_ContainsFunc_sCon_Con := by kernel_rfl
/- slices.IndexFunc[[]touchstone/api.Con,touchstone/api.Con]: slots s, 0, f, 1, s, 2, f, 3, i, 5 -/
def c_slices_IndexFunc_sCon_Con : AFunc := ⟨19, [.tmp 4],
  .seq (.region (⟨some 4, .mov (.val (.int .i64 0)), none⟩ :: [])) <|
  .seq (.seq (.region (⟨some 6, .mov (.tmp 0), none⟩ ::
    ⟨some 7, .len false (.tmp 6), none⟩ ::
    ⟨some 8, .mov (.val (.int .i64 0)), none⟩ :: [])) <|
  .block 0 (.loop (.seq (.region (⟨some 9, .bin .lss (.tmp 8) (.tmp 7), none⟩ :: [])) <|
      .seq (.cond (.tmp 9) (.skip) <|
      .exit 0) <|
      .seq (.block 1 (.seq (.region (⟨some 10, .mov (.tmp 8), none⟩ ::
          ⟨some 5, .mov (.tmp 10), none⟩ :: [])) <|
        .seq (.region (⟨some 11, .mov (.tmp 1), none⟩ ::
          ⟨some 12, .mov (.tmp 0), none⟩ ::
          ⟨some 13, .mov (.tmp 5), none⟩ ::
          ⟨some 14, .iaddr 4 (.tmp 12) (.tmp 13), none⟩ ::
          ⟨some 15, .load true 4 (.tmp 14), none⟩ ::
          ⟨some 16, .call (.tmp 11) [(.tmp 15)], none⟩ :: [])) <|
        .cond (.tmp 16) (.seq (.region (⟨some 17, .mov (.tmp 5), none⟩ ::
            ⟨some 4, .mov (.tmp 17), none⟩ :: [])) <|
          .ret) <|
        .skip)) <|
      .region (⟨some 18, .bin .add (.tmp 8) (.val (.int .i64 1)), none⟩ ::
        ⟨some 8, .mov (.tmp 18), none⟩ :: [])))) <|
  .seq (.region (⟨some 4, .mov (.val (.int .i64 (-1))), none⟩ :: [])) <|
  .ret⟩
theorem e_slices_IndexFunc_sCon_Con : cFunc Try.prog kd_CSenseA Try.f102 = some c_slices_IndexFunc_sCon_Con := by kernel_rfl
end Go.Proofs.Ytfcphijidcfboaa
