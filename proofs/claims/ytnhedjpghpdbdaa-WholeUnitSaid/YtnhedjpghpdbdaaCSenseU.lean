/- The code of functions, as abstract code. Printed by program. -/
import Derived.Test.YtnhedjpghpdbdaaAv2
import Derived.Test.YtnhedjpghpdbdaaProg
namespace Go.Proofs.Ytnhedjpghpdbdaa
open Av
set_option linter.unusedVariables false
set_option maxRecDepth 100000
def kd_CSenseU (f : Nat) : Nat := if f = 104 then 3 else if f = 105 then 2 else if f = 106 then 2 else if f = 3000000 + 23 then 1 else 0
/- (*touchstone/sense.asked).unlike: slots q, 0, q, 1, l, 3 -/
def c_sense_asked_unlike : AFunc := ⟨20, [.tmp 2],
  .seq (.region (⟨some 2, .mov (.val (.bool false)), none⟩ :: [])) <|
  .seq (.region (⟨some 4, .mov (.tmp 0), none⟩ ::
    ⟨some 5, .nilc (.tmp 4), none⟩ ::
    ⟨some 6, .faddr 4 (.tmp 5), none⟩ ::
    ⟨some 7, .loadf false 1 (.tmp 6), none⟩ ::
    ⟨some 8, .callo (.val (.fn (.func 104) [])) [(.tmp 7)], none⟩ ::
    ⟨some 3, .mov (.tmp 8), none⟩ :: [])) <|
  .seq (.region (⟨some 9, .mov (.tmp 3), none⟩ ::
    ⟨some 10, .callm (.val (.fn (.func 105) [])) [(.tmp 9)], none⟩ :: [])) <|
  .seq (.region (⟨some 11, .mov (.tmp 3), none⟩ ::
    ⟨some 12, .callm (.val (.fn (.func 106) [])) [(.tmp 11)], none⟩ ::
    ⟨some 13, .len false (.tmp 12), none⟩ ::
    ⟨some 14, .mov (.tmp 0), none⟩ ::
    ⟨some 15, .nilc (.tmp 14), none⟩ ::
    ⟨some 16, .faddr 4 (.tmp 15), none⟩ ::
    ⟨some 17, .loadf false 1 (.tmp 16), none⟩ ::
    ⟨some 18, .len false (.tmp 17), none⟩ ::
    ⟨some 19, .bin .eql (.tmp 13) (.tmp 18), none⟩ ::
    ⟨some 2, .mov (.tmp 19), none⟩ :: [])) <|
  .ret⟩
theorem e_sense_asked_unlike : cFunc Try.prog kd_CSenseU Try.f74 = some c_sense_asked_unlike := by kernel_rfl
/- slices.Clone[[]int64,int64]: slots s, 0, s, 1 -/
def c_slices_Clone_sint64_int64 : AFunc := ⟨8, [.tmp 2],
  .seq (.region (⟨some 2, .mov (.val .nils), none⟩ :: [])) <|
  .seq (.seq (.region (⟨some 3, .mov (.tmp 0), none⟩ ::
    ⟨some 4, .isnil false (.tmp 3), none⟩ :: [])) <|
  .cond (.tmp 4) (.seq (.region (⟨some 2, .mov (.val .nils), none⟩ :: [])) <|
    .ret) <|
  .skip) <|
  .seq (.region (⟨some 5, .bslice 1 [], none⟩ ::
    ⟨some 6, .mov (.tmp 0), none⟩ ::
    ⟨some 7, .app 1 8 (.tmp 5) (.tmp 6), none⟩ ::
    ⟨some 2, .mov (.tmp 7), none⟩ :: [])) <|
  .ret⟩
theorem e_slices_Clone_sint64_int64 : cFunc Try.prog kd_CSenseU Try.f104 = some c_slices_Clone_sint64_int64 := by kernel_rfl
end Go.Proofs.Ytnhedjpghpdbdaa
