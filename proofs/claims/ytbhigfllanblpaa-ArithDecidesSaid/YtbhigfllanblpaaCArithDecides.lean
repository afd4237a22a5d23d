/- The code of functions, as abstract code. Printed by program. -/
import Derived.Test.YtbhigfllanblpaaAv2
import Derived.Test.YtbhigfllanblpaaProg
namespace Go.Proofs.Ytbhigfllanblpaa
open Av
set_option linter.unusedVariables false
set_option maxRecDepth 100000
def kd_CArithDecides (f : Nat) : Nat := 0
/- touchstone/touchstonelaw14.ArithDecides: slots c, 0, d, 1, c, 2, d, 3, k, 5, _, 6, x, 7, x, 8, e, 9 -/
def c_law14_ArithDecides : AFunc := ⟨59, [.tmp 4],
  .seq (.region (⟨some 2, .box 4 (.tmp 0), none⟩ ::
    ⟨some 4, .mov (.val (.bool false)), none⟩ :: [])) <|
  .seq (.seq (.region (⟨some 10, .call (.val (.fn (.func 32) [])) [], none⟩ ::
    ⟨some 11, .un .not (.tmp 10), none⟩ :: [])) <|
  .cond (.tmp 11) (.seq (.region (⟨some 4, .mov (.val (.bool false)), none⟩ :: [])) <|
    .ret) <|
  .skip) <|
  .seq (.seq (.region (⟨some 12, .load true 4 (.tmp 2), none⟩ ::
    ⟨some 13, .mov (.tmp 1), none⟩ ::
    ⟨some 14, .call (.val (.fn (.func 35) [])) [(.tmp 12), (.tmp 13)], none⟩ ::
    ⟨some 15, .un .not (.tmp 14), none⟩ :: [])) <|
  .cond (.tmp 15) (.seq (.region (⟨some 4, .mov (.val (.bool true)), none⟩ :: [])) <|
    .ret) <|
  .skip) <|
  .seq (.region (⟨some 16, .faddr 1 (.tmp 2), none⟩ ::
    ⟨some 17, .load false 1 (.tmp 16), none⟩ ::
    ⟨some 18, .len false (.tmp 17), none⟩ ::
    ⟨some 19, .bin .sub (.tmp 18) (.val (.int .i64 1)), none⟩ ::
    ⟨some 5, .mov (.tmp 19), none⟩ :: [])) <|
  .seq (.seq (.region (⟨some 20, .faddr 1 (.tmp 2), none⟩ ::
    ⟨some 21, .load false 1 (.tmp 20), none⟩ ::
    ⟨some 22, .mov (.tmp 5), none⟩ ::
    ⟨some 23, .slc 1 (.tmp 21) none (some (.tmp 22)), none⟩ ::
    ⟨some 24, .len false (.tmp 23), none⟩ ::
    ⟨some 25, .mov (.val (.int .i64 0)), none⟩ :: [])) <|
  .block 0 (.loop (.seq (.region (⟨some 26, .bin .lss (.tmp 25) (.tmp 24), none⟩ :: [])) <|
      .seq (.cond (.tmp 26) (.skip) <|
      .exit 0) <|
      .seq (.block 1 (.seq (.region (⟨some 27, .iaddr 1 (.tmp 23) (.tmp 25), none⟩ ::
          ⟨some 28, .load false 1 (.tmp 27), none⟩ ::
          ⟨some 7, .mov (.tmp 28), none⟩ :: [])) <|
        .seq (.region (⟨some 29, .mov (.tmp 1), none⟩ ::
          ⟨some 30, .mov (.tmp 7), none⟩ ::
          ⟨some 31, .iaddr 1 (.tmp 29) (.tmp 30), none⟩ ::
          ⟨some 32, .load false 1 (.tmp 31), none⟩ ::
          ⟨some 33, .call (.val (.fn (.func 38) [])) [(.tmp 32)], none⟩ ::
          ⟨some 34, .un .not (.tmp 33), none⟩ :: [])) <|
        .cond (.tmp 34) (.seq (.region (⟨some 4, .mov (.val (.bool true)), none⟩ :: [])) <|
          .ret) <|
        .skip)) <|
      .region (⟨some 35, .bin .add (.tmp 25) (.val (.int .i64 1)), none⟩ ::
        ⟨some 25, .mov (.tmp 35), none⟩ :: [])))) <|
  .seq (.region (⟨some 37, .load true 4 (.tmp 2), none⟩ ::
    ⟨some 38, .mov (.tmp 1), none⟩ ::
    ⟨some 39, .call (.val (.fn (.func 33) [])) [(.tmp 37), (.tmp 38)], none⟩ ::
    ⟨some 36, .mov (.tmp 39), none⟩ ::
    ⟨some 40, .ext (.tmp 36) 0, none⟩ ::
    ⟨some 41, .ext (.tmp 36) 1, none⟩ ::
    ⟨some 8, .mov (.tmp 40), none⟩ ::
    ⟨some 9, .mov (.tmp 41), none⟩ :: [])) <|
  .seq (.region (⟨some 42, .mov (.tmp 9), none⟩ ::
    ⟨some 43, .bin .eql (.tmp 42) (.val (.int .i64 12)), none⟩ ::
    ⟨some 44, .mov (.tmp 43), none⟩ ::
    ⟨some 45, .mov (.tmp 9), some (44, false)⟩ ::
    ⟨some 46, .bin .eql (.tmp 45) (.val (.int .i64 0)), some (44, false)⟩ ::
    ⟨some 47, .mov (.tmp 46), some (44, false)⟩ ::
    ⟨some 48, .mov (.tmp 8), some (47, true)⟩ ::
    ⟨some 49, .faddr 1 (.tmp 2), some (47, true)⟩ ::
    ⟨some 50, .load false 1 (.tmp 49), some (47, true)⟩ ::
    ⟨some 51, .mov (.tmp 5), some (47, true)⟩ ::
    ⟨some 52, .iaddr 1 (.tmp 50) (.tmp 51), some (47, true)⟩ ::
    ⟨some 53, .load false 1 (.tmp 52), some (47, true)⟩ ::
    ⟨some 54, .iaddr 1 (.tmp 48) (.tmp 53), some (47, true)⟩ ::
    ⟨some 55, .load false 1 (.tmp 54), some (47, true)⟩ ::
    ⟨some 56, .call (.val (.fn (.func 38) [])) [(.tmp 55)], some (47, true)⟩ ::
    ⟨some 57, .pick (.tmp 47) (.tmp 56) (.val (.bool false)), some (44, false)⟩ ::
    ⟨some 58, .pick (.tmp 44) (.val (.bool true)) (.tmp 57), none⟩ ::
    ⟨some 4, .mov (.tmp 58), none⟩ :: [])) <|
  .ret⟩
theorem e_law14_ArithDecides : cFunc Try.prog kd_CArithDecides Try.f13 = some c_law14_ArithDecides := by kernel_rfl
end Go.Proofs.Ytbhigfllanblpaa
