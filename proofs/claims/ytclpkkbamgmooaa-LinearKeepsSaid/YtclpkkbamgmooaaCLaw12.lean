/- The code of functions, as abstract code. Printed by program. -/
import Derived.Test.YtclpkkbamgmooaaAv2
import Derived.Test.YtclpkkbamgmooaaProg
namespace Go.Proofs.Ytclpkkbamgmooaa
open Av
set_option linter.unusedVariables false
set_option maxRecDepth 100000
def kd_CLaw12 (f : Nat) : Nat := 0
/- touchstone/touchstonelaw12.Smaller: slots d, 0, cut, 1, d, 2, cut, 3, out, 5, x, 6, m, 7 -/
def c_law12_Smaller : AFunc := ⟨43, [.tmp 4],
  .seq (.region (⟨some 4, .mov (.val .nils), none⟩ :: [])) <|
  .seq (.region (⟨some 5, .mov (.val .nils), none⟩ :: [])) <|
  .seq (.seq (.region (⟨some 8, .mov (.tmp 0), none⟩ ::
    ⟨some 9, .len false (.tmp 8), none⟩ ::
    ⟨some 10, .mov (.val (.int .i64 0)), none⟩ :: [])) <|
  .block 0 (.loop (.seq (.region (⟨some 11, .bin .lss (.tmp 10) (.tmp 9), none⟩ :: [])) <|
      .seq (.cond (.tmp 11) (.skip) <|
      .exit 0) <|
      .seq (.block 1 (.seq (.region (⟨some 12, .mov (.tmp 10), none⟩ ::
          ⟨some 6, .mov (.tmp 12), none⟩ :: [])) <|
        .seq (.region (⟨some 13, .mov (.tmp 0), none⟩ ::
          ⟨some 14, .mov (.tmp 6), none⟩ ::
          ⟨some 15, .iaddr 1 (.tmp 13) (.tmp 14), none⟩ ::
          ⟨some 16, .load false 1 (.tmp 15), none⟩ ::
          ⟨some 17, .mov (.tmp 1), none⟩ ::
          ⟨some 18, .mov (.tmp 6), none⟩ ::
          ⟨some 19, .iaddr 1 (.tmp 17) (.tmp 18), none⟩ ::
          ⟨some 20, .load false 1 (.tmp 19), none⟩ ::
          ⟨some 21, .call (.val (.fn (.func 46) [])) [(.tmp 16), (.tmp 20)], none⟩ ::
          ⟨some 7, .mov (.tmp 21), none⟩ :: [])) <|
        .seq (.seq (.region (⟨some 22, .mov (.tmp 7), none⟩ ::
          ⟨some 23, .len false (.tmp 22), none⟩ ::
          ⟨some 24, .bin .eql (.tmp 23) (.val (.int .i64 0)), none⟩ ::
          ⟨some 25, .mov (.tmp 24), none⟩ ::
          ⟨some 26, .mov (.tmp 1), some (25, false)⟩ ::
          ⟨some 27, .mov (.tmp 6), some (25, false)⟩ ::
          ⟨some 28, .iaddr 1 (.tmp 26) (.tmp 27), some (25, false)⟩ ::
          ⟨some 29, .load false 1 (.tmp 28), some (25, false)⟩ ::
          ⟨some 30, .len false (.tmp 29), some (25, false)⟩ ::
          ⟨some 31, .bin .gtr (.tmp 30) (.val (.int .i64 100)), some (25, false)⟩ ::
          ⟨some 32, .pick (.tmp 25) (.val (.bool true)) (.tmp 31), none⟩ :: [])) <|
        .cond (.tmp 32) (.region (⟨some 33, .mov (.tmp 0), none⟩ ::
            ⟨some 34, .mov (.tmp 6), none⟩ ::
            ⟨some 35, .iaddr 1 (.tmp 33) (.tmp 34), none⟩ ::
            ⟨some 36, .load false 1 (.tmp 35), none⟩ ::
            ⟨some 7, .mov (.tmp 36), none⟩ :: [])) <|
        .skip) <|
        .region (⟨some 37, .mov (.tmp 5), none⟩ ::
          ⟨some 38, .mov (.tmp 7), none⟩ ::
          ⟨some 39, .bslice 1 [(.tmp 38)], none⟩ ::
          ⟨some 40, .app 1 24 (.tmp 37) (.tmp 39), none⟩ ::
          ⟨some 5, .mov (.tmp 40), none⟩ :: []))) <|
      .region (⟨some 41, .bin .add (.tmp 10) (.val (.int .i64 1)), none⟩ ::
        ⟨some 10, .mov (.tmp 41), none⟩ :: [])))) <|
  .seq (.region (⟨some 42, .mov (.tmp 5), none⟩ ::
    ⟨some 4, .mov (.tmp 42), none⟩ :: [])) <|
  .ret⟩
theorem e_law12_Smaller : cFunc Try.prog kd_CLaw12 Try.f22 = some c_law12_Smaller := by kernel_rfl
/- touchstone/touchstonelaw12.Under: slots a, 0, b, 1, a, 2, b, 3, x, 5 -/
def c_law12_Under : AFunc := ⟨32, [.tmp 4],
  .seq (.region (⟨some 4, .mov (.val (.bool false)), none⟩ :: [])) <|
  .seq (.seq (.region (⟨some 6, .mov (.tmp 0), none⟩ ::
    ⟨some 7, .len false (.tmp 6), none⟩ ::
    ⟨some 8, .mov (.tmp 1), none⟩ ::
    ⟨some 9, .len false (.tmp 8), none⟩ ::
    ⟨some 10, .bin .neq (.tmp 7) (.tmp 9), none⟩ :: [])) <|
  .cond (.tmp 10) (.seq (.region (⟨some 4, .mov (.val (.bool false)), none⟩ :: [])) <|
    .ret) <|
  .skip) <|
  .seq (.seq (.region (⟨some 11, .mov (.tmp 0), none⟩ ::
    ⟨some 12, .len false (.tmp 11), none⟩ ::
    ⟨some 13, .mov (.val (.int .i64 0)), none⟩ :: [])) <|
  .block 0 (.loop (.seq (.region (⟨some 14, .bin .lss (.tmp 13) (.tmp 12), none⟩ :: [])) <|
      .seq (.cond (.tmp 14) (.skip) <|
      .exit 0) <|
      .seq (.block 1 (.seq (.region (⟨some 15, .mov (.tmp 13), none⟩ ::
          ⟨some 5, .mov (.tmp 15), none⟩ :: [])) <|
        .seq (.region (⟨some 16, .mov (.tmp 0), none⟩ ::
          ⟨some 17, .mov (.tmp 5), none⟩ ::
          ⟨some 18, .iaddr 1 (.tmp 16) (.tmp 17), none⟩ ::
          ⟨some 19, .load false 1 (.tmp 18), none⟩ ::
          ⟨some 20, .mov (.tmp 1), none⟩ ::
          ⟨some 21, .mov (.tmp 5), none⟩ ::
          ⟨some 22, .iaddr 1 (.tmp 20) (.tmp 21), none⟩ ::
          ⟨some 23, .load false 1 (.tmp 22), none⟩ ::
          ⟨some 24, .call (.val (.fn (.func 46) [])) [(.tmp 19), (.tmp 23)], none⟩ ::
          ⟨some 25, .mov (.tmp 0), none⟩ ::
          ⟨some 26, .mov (.tmp 5), none⟩ ::
          ⟨some 27, .iaddr 1 (.tmp 25) (.tmp 26), none⟩ ::
          ⟨some 28, .load false 1 (.tmp 27), none⟩ ::
          ⟨some 29, .call (.val (.fn (.func 45) [])) [(.tmp 24), (.tmp 28)], none⟩ ::
          ⟨some 30, .un .not (.tmp 29), none⟩ :: [])) <|
        .cond (.tmp 30) (.seq (.region (⟨some 4, .mov (.val (.bool false)), none⟩ :: [])) <|
          .ret) <|
        .skip)) <|
      .region (⟨some 31, .bin .add (.tmp 13) (.val (.int .i64 1)), none⟩ ::
        ⟨some 13, .mov (.tmp 31), none⟩ :: [])))) <|
  .seq (.region (⟨some 4, .mov (.val (.bool true)), none⟩ :: [])) <|
  .ret⟩
theorem e_law12_Under : cFunc Try.prog kd_CLaw12 Try.f23 = some c_law12_Under := by kernel_rfl
end Go.Proofs.Ytclpkkbamgmooaa
