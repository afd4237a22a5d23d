/- The code of functions, as abstract code. Printed by program. -/
import Derived.Test.YtnhedjpghpdbdaaAv2
import Derived.Test.YtnhedjpghpdbdaaProg
namespace Go.Proofs.Ytnhedjpghpdbdaa
open Av
set_option linter.unusedVariables false
set_option maxRecDepth 100000
def kd_CRef12k (f : Nat) : Nat := 0
/- touchstone/touchstoneref12.Keep: slots a, 0, x, 1, n, 2, d, 3, a, 4, x, 5, n, 6, d, 7, m, 10, out, 11, i, 12, k, 13, q, 14, _, 15, q, 16, _, 17 -/
/- touchstone/touchstoneref12.KeepIs: slots a, 0, x, 1, n, 2, d, 3, a, 4, x, 5, n, 6, d, 7, e, 10, ok, 11 -/
/- touchstone/touchstoneref12.KeepNot: slots a, 0, x, 1, n, 2, d, 3, a, 4, x, 5, n, 6, d, 7, open, 10, at, 11, s, 12, i, 13, k, 14, out, 15 -/
/- touchstone/touchstoneref12.Empty: slots d, 0, d, 1, i, 3 -/
def c_ref12_Empty : AFunc := ⟨16, [.tmp 2],
  .seq (.region (⟨some 2, .mov (.val (.bool false)), none⟩ :: [])) <|
  .seq (.seq (.region (⟨some 3, .mov (.val (.int .i64 0)), none⟩ :: [])) <|
  .block 0 (.loop (.seq (.seq (.region (⟨some 4, .mov (.tmp 3), none⟩ ::
        ⟨some 5, .mov (.tmp 0), none⟩ ::
        ⟨some 6, .len false (.tmp 5), none⟩ ::
        ⟨some 7, .bin .lss (.tmp 4) (.tmp 6), none⟩ :: [])) <|
      .cond (.tmp 7) (.skip) <|
      .exit 0) <|
      .seq (.block 1 (.seq (.region (⟨some 10, .mov (.tmp 0), none⟩ ::
          ⟨some 11, .mov (.tmp 3), none⟩ ::
          ⟨some 12, .iaddr 1 (.tmp 10) (.tmp 11), none⟩ ::
          ⟨some 13, .load false 1 (.tmp 12), none⟩ ::
          ⟨some 14, .len false (.tmp 13), none⟩ ::
          ⟨some 15, .bin .eql (.tmp 14) (.val (.int .i64 0)), none⟩ :: [])) <|
        .cond (.tmp 15) (.seq (.region (⟨some 2, .mov (.val (.bool true)), none⟩ :: [])) <|
          .ret) <|
        .skip)) <|
      .region (⟨some 8, .mov (.tmp 3), none⟩ ::
        ⟨some 9, .bin .add (.tmp 8) (.val (.int .i64 1)), none⟩ ::
        ⟨some 3, .mov (.tmp 9), none⟩ :: [])))) <|
  .seq (.region (⟨some 2, .mov (.val (.bool false)), none⟩ :: [])) <|
  .ret⟩
theorem e_ref12_Empty : cFunc Try.prog kd_CRef12k Try.f91 = some c_ref12_Empty := by kernel_rfl
end Go.Proofs.Ytnhedjpghpdbdaa
