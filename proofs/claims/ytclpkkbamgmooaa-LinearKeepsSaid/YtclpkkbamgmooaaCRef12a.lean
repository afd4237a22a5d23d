/- The code of functions, as abstract code. Printed by program. -/
import Derived.Test.YtclpkkbamgmooaaAv2
import Derived.Test.YtclpkkbamgmooaaProg
namespace Go.Proofs.Ytclpkkbamgmooaa
open Av
set_option linter.unusedVariables false
set_option maxRecDepth 100000
def kd_CRef12a (f : Nat) : Nat := 0
/- touchstone/touchstoneref12.Lo: slots d, 0, d, 1 -/
def c_ref12_Lo : AFunc := ⟨7, [.tmp 2],
  .seq (.region (⟨some 2, .mov (.val (.int .i64 0)), none⟩ :: [])) <|
  .seq (.region (⟨some 3, .mov (.tmp 0), none⟩ ::
    ⟨some 4, .iaddr 2 (.tmp 3) (.val (.int .i64 0)), none⟩ ::
    ⟨some 5, .faddr 0 (.tmp 4), none⟩ ::
    ⟨some 6, .load false 1 (.tmp 5), none⟩ ::
    ⟨some 2, .mov (.tmp 6), none⟩ :: [])) <|
  .ret⟩
theorem e_ref12_Lo : cFunc Try.prog kd_CRef12a Try.f32 = some c_ref12_Lo := by kernel_rfl
/- touchstone/touchstoneref12.Hi: slots d, 0, d, 1 -/
def c_ref12_Hi : AFunc := ⟨10, [.tmp 2],
  .seq (.region (⟨some 2, .mov (.val (.int .i64 0)), none⟩ :: [])) <|
  .seq (.region (⟨some 3, .mov (.tmp 0), none⟩ ::
    ⟨some 4, .mov (.tmp 0), none⟩ ::
    ⟨some 5, .len false (.tmp 4), none⟩ ::
    ⟨some 6, .bin .sub (.tmp 5) (.val (.int .i64 1)), none⟩ ::
    ⟨some 7, .iaddr 2 (.tmp 3) (.tmp 6), none⟩ ::
    ⟨some 8, .faddr 1 (.tmp 7), none⟩ ::
    ⟨some 9, .load false 1 (.tmp 8), none⟩ ::
    ⟨some 2, .mov (.tmp 9), none⟩ :: [])) <|
  .ret⟩
theorem e_ref12_Hi : cFunc Try.prog kd_CRef12a Try.f86 = some c_ref12_Hi := by kernel_rfl
/- touchstone/touchstoneref12.Fixed: slots d, 0, d, 1 -/
def c_ref12_Fixed : AFunc := ⟨8, [.tmp 2],
  .seq (.region (⟨some 2, .mov (.val (.bool false)), none⟩ :: [])) <|
  .seq (.region (⟨some 3, .mov (.tmp 0), none⟩ ::
    ⟨some 4, .call (.val (.fn (.func 32) [])) [(.tmp 3)], none⟩ ::
    ⟨some 5, .mov (.tmp 0), none⟩ ::
    ⟨some 6, .call (.val (.fn (.func 86) [])) [(.tmp 5)], none⟩ ::
    ⟨some 7, .bin .eql (.tmp 4) (.tmp 6), none⟩ ::
    ⟨some 2, .mov (.tmp 7), none⟩ :: [])) <|
  .ret⟩
theorem e_ref12_Fixed : cFunc Try.prog kd_CRef12a Try.f88 = some c_ref12_Fixed := by kernel_rfl
/- touchstone/touchstoneref12.With: slots d, 0, x, 1, l, 2, d, 3, x, 4, l, 5, out, 7, i, 8 -/
def c_ref12_With : AFunc := ⟨30, [.tmp 6],
  .seq (.region (⟨some 6, .mov (.val .nils), none⟩ :: [])) <|
  .seq (.region (⟨some 7, .mov (.val .nils), none⟩ :: [])) <|
  .seq (.seq (.region (⟨some 8, .mov (.val (.int .i64 0)), none⟩ :: [])) <|
  .block 0 (.loop (.seq (.seq (.region (⟨some 9, .mov (.tmp 8), none⟩ ::
        ⟨some 10, .mov (.tmp 0), none⟩ ::
        ⟨some 11, .len false (.tmp 10), none⟩ ::
        ⟨some 12, .bin .lss (.tmp 9) (.tmp 11), none⟩ :: [])) <|
      .cond (.tmp 12) (.skip) <|
      .exit 0) <|
      .seq (.block 1 (.seq (.region (⟨some 15, .mov (.tmp 8), none⟩ ::
          ⟨some 16, .mov (.tmp 1), none⟩ ::
          ⟨some 17, .bin .eql (.tmp 15) (.tmp 16), none⟩ :: [])) <|
        .cond (.tmp 17) (.region (⟨some 18, .mov (.tmp 7), none⟩ ::
            ⟨some 19, .mov (.tmp 2), none⟩ ::
            ⟨some 20, .bslice 1 [(.tmp 19)], none⟩ ::
            ⟨some 21, .app 1 24 (.tmp 18) (.tmp 20), none⟩ ::
            ⟨some 7, .mov (.tmp 21), none⟩ :: [])) <|
        .region (⟨some 22, .mov (.tmp 7), none⟩ ::
          ⟨some 23, .mov (.tmp 0), none⟩ ::
          ⟨some 24, .mov (.tmp 8), none⟩ ::
          ⟨some 25, .iaddr 1 (.tmp 23) (.tmp 24), none⟩ ::
          ⟨some 26, .load false 1 (.tmp 25), none⟩ ::
          ⟨some 27, .bslice 1 [(.tmp 26)], none⟩ ::
          ⟨some 28, .app 1 24 (.tmp 22) (.tmp 27), none⟩ ::
          ⟨some 7, .mov (.tmp 28), none⟩ :: []))) <|
      .region (⟨some 13, .mov (.tmp 8), none⟩ ::
        ⟨some 14, .bin .add (.tmp 13) (.val (.int .i64 1)), none⟩ ::
        ⟨some 8, .mov (.tmp 14), none⟩ :: [])))) <|
  .seq (.region (⟨some 29, .mov (.tmp 7), none⟩ ::
    ⟨some 6, .mov (.tmp 29), none⟩ :: [])) <|
  .ret⟩
theorem e_ref12_With : cFunc Try.prog kd_CRef12a Try.f85 = some c_ref12_With := by kernel_rfl
end Go.Proofs.Ytclpkkbamgmooaa
