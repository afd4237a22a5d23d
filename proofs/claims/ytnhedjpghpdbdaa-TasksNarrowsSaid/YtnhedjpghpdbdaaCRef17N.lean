/- The code of functions, as abstract code. Printed by program. -/
import Derived.Test.YtnhedjpghpdbdaaAv2
import Derived.Test.YtnhedjpghpdbdaaProg
namespace Go.Proofs.Ytnhedjpghpdbdaa
open Av
set_option linter.unusedVariables false
set_option maxRecDepth 100000
def kd_CRef17N (f : Nat) : Nat := 0
/- touchstone/touchstoneref17.Narrow: slots c, 0, d, 1, c, 2, d, 3, l, 6, i, 7, x, 8, out, 9, i, 10, r, 11 -/
/- touchstone/touchstoneref12.Done: slots d, 0, d, 1 -/
def c_ref12_Done : AFunc := ⟨7, [.tmp 2, .tmp 3],
  .seq (.region (⟨some 2, .mov (.val .nils), none⟩ ::
    ⟨some 3, .mov (.val (.int .i64 0)), none⟩ :: [])) <|
  .seq (.seq (.region (⟨some 4, .mov (.tmp 0), none⟩ ::
    ⟨some 5, .call (.val (.fn (.func 91) [])) [(.tmp 4)], none⟩ :: [])) <|
  .cond (.tmp 5) (.seq (.region (⟨some 2, .mov (.val .nils), none⟩ ::
      ⟨some 3, .mov (.val (.int .i64 12)), none⟩ :: [])) <|
    .ret) <|
  .skip) <|
  .seq (.region (⟨some 6, .mov (.tmp 0), none⟩ ::
    ⟨some 2, .mov (.tmp 6), none⟩ ::
    ⟨some 3, .mov (.val (.int .i64 0)), none⟩ :: [])) <|
  .ret⟩
theorem e_ref12_Done : cFunc Try.prog kd_CRef17N Try.f49 = some c_ref12_Done := by kernel_rfl
end Go.Proofs.Ytnhedjpghpdbdaa
