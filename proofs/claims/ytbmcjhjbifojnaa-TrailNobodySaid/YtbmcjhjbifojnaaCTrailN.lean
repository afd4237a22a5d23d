/- The code of functions, as abstract code. Printed by program. -/
import Derived.Test.YtbmcjhjbifojnaaAv2
import Derived.Test.YtbmcjhjbifojnaaProg
namespace Go.Proofs.Ytbmcjhjbifojnaa
open Av
set_option linter.unusedVariables false
set_option maxRecDepth 100000
def kd_CTrailN (f : Nat) : Nat := if f = 24 then 1 else if f = 34 then 1 else if f = 26 then 3 else if f = 31 then 3 else if f = 1000000 + 22 then 1 else 0
/- (*touchstone/trail.Store).Get: slots s, 0, x, 1, s, 2, x, 3 -/
def c_trail_Store_GetO : AFunc := ⟨17, [.tmp 4],
  .seq (.region (⟨some 4, .mov (.val .nils), none⟩ :: [])) <|
  .seq (.seq (.region (⟨some 5, .mov (.tmp 0), none⟩ ::
    ⟨some 6, .mov (.tmp 1), none⟩ ::
    ⟨some 7, .callv (.val (.fn (.func 34) [])) [(.tmp 5), (.tmp 6)], none⟩ ::
    ⟨some 8, .un .not (.tmp 7), none⟩ :: [])) <|
  .cond (.tmp 8) (.seq (.region (⟨some 4, .mov (.val .nils), none⟩ :: [])) <|
    .ret) <|
  .skip) <|
  .seq (.region (⟨some 9, .mov (.tmp 0), none⟩ ::
    ⟨some 10, .nilc (.tmp 9), none⟩ ::
    ⟨some 11, .faddr 1 (.tmp 10), none⟩ ::
    ⟨some 12, .load false 1 (.tmp 11), none⟩ ::
    ⟨some 13, .mov (.tmp 1), none⟩ ::
    ⟨some 14, .iaddr 1 (.tmp 12) (.tmp 13), none⟩ ::
    ⟨some 15, .load false 1 (.tmp 14), none⟩ ::
    ⟨some 16, .callo (.val (.fn (.func 31) [])) [(.tmp 15)], none⟩ ::
    ⟨some 4, .mov (.tmp 16), none⟩ :: [])) <|
  .ret⟩
theorem e_trail_Store_GetO : cFunc Try.prog kd_CTrailN Try.f26 = some c_trail_Store_GetO := by kernel_rfl
/- (*touchstone/trail.Store).All: slots s, 0, s, 1, out, 3, x, 4 -/
def c_trail_Store_AllO : AFunc := ⟨18, [.tmp 2],
  .seq (.region (⟨some 2, .mov (.val .nils), none⟩ :: [])) <|
  .seq (.region (⟨some 3, .mov (.val .nils), none⟩ :: [])) <|
  .seq (.seq (.region (⟨some 5, .mov (.tmp 0), none⟩ ::
    ⟨some 6, .callv (.val (.fn (.func 24) [])) [(.tmp 5)], none⟩ ::
    ⟨some 7, .mov (.val (.int .i64 0)), none⟩ :: [])) <|
  .block 0 (.loop (.seq (.region (⟨some 8, .bin .lss (.tmp 7) (.tmp 6), none⟩ :: [])) <|
      .seq (.cond (.tmp 8) (.skip) <|
      .exit 0) <|
      .seq (.block 1 (.seq (.region (⟨some 9, .mov (.tmp 7), none⟩ ::
          ⟨some 4, .mov (.tmp 9), none⟩ :: [])) <|
        .region (⟨some 10, .mov (.tmp 3), none⟩ ::
          ⟨some 11, .mov (.tmp 0), none⟩ ::
          ⟨some 12, .mov (.tmp 4), none⟩ ::
          ⟨some 13, .callo (.val (.fn (.func 26) [])) [(.tmp 11), (.tmp 12)], none⟩ ::
          ⟨some 14, .bslm 1 [(.tmp 13)], none⟩ ::
          ⟨some 15, .app 1 24 (.tmp 10) (.tmp 14), none⟩ ::
          ⟨some 3, .mov (.tmp 15), none⟩ :: []))) <|
      .region (⟨some 16, .bin .add (.tmp 7) (.val (.int .i64 1)), none⟩ ::
        ⟨some 7, .mov (.tmp 16), none⟩ :: [])))) <|
  .seq (.region (⟨some 17, .mov (.tmp 3), none⟩ ::
    ⟨some 2, .mov (.tmp 17), none⟩ :: [])) <|
  .ret⟩
theorem e_trail_Store_AllO : cFunc Try.prog kd_CTrailN Try.f22 = some c_trail_Store_AllO := by kernel_rfl
end Go.Proofs.Ytbmcjhjbifojnaa
