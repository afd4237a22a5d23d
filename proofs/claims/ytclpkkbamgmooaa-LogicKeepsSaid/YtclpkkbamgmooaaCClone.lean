/- The code of functions, as abstract code. Printed by program. -/
import Derived.Test.YtclpkkbamgmooaaAv2
import Derived.Test.YtclpkkbamgmooaaProg
namespace Go.Proofs.Ytclpkkbamgmooaa
open Av
set_option linter.unusedVariables false
set_option maxRecDepth 100000
def kd_CClone (f : Nat) : Nat := 0
/- slices.Clone[[][]touchstone/api.Range,[]touchstone/api.Range]: slots s, 0, s, 1 -/
def c_slices_Clone_ssRange_sRange : AFunc := ⟨8, [.tmp 2],
  .seq (.region (⟨some 2, .mov (.val .nils), none⟩ :: [])) <|
  .seq (.seq (.region (⟨some 3, .mov (.tmp 0), none⟩ ::
    ⟨some 4, .isnil false (.tmp 3), none⟩ :: [])) <|
  .cond (.tmp 4) (.seq (.region (⟨some 2, .mov (.val .nils), none⟩ :: [])) <|
    .ret) <|
  .skip) <|
  .seq (.region (⟨some 5, .bslice 1 [], none⟩ ::
    ⟨some 6, .mov (.tmp 0), none⟩ ::
    ⟨some 7, .app 1 24 (.tmp 5) (.tmp 6), none⟩ ::
    ⟨some 2, .mov (.tmp 7), none⟩ :: [])) <|
  .ret⟩
theorem e_slices_Clone_ssRange_sRange : cFunc Try.prog kd_CClone Try.f35 = some c_slices_Clone_ssRange_sRange := by kernel_rfl
end Go.Proofs.Ytclpkkbamgmooaa
