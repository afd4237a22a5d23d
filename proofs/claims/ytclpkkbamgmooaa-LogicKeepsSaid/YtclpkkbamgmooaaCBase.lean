/- The code of functions, as abstract code. Printed by program. -/
import Derived.Test.YtclpkkbamgmooaaAv2
import Derived.Test.YtclpkkbamgmooaaProg
namespace Go.Proofs.Ytclpkkbamgmooaa
open Av
set_option linter.unusedVariables false
set_option maxRecDepth 100000
def kd_CBase (f : Nat) : Nat := 0
/- touchstone/touchstoneref08.Within: slots n, 0, n, 1 -/
def c_ref08_Within : AFunc := ⟨9, [.tmp 2],
  .seq (.region (⟨some 2, .mov (.val (.bool false)), none⟩ :: [])) <|
  .seq (.region (⟨some 3, .mov (.tmp 0), none⟩ ::
    ⟨some 4, .bin .geq (.tmp 3) (.val (.int .i64 (-1048576))), none⟩ ::
    ⟨some 5, .mov (.tmp 4), none⟩ ::
    ⟨some 6, .mov (.tmp 0), some (5, true)⟩ ::
    ⟨some 7, .bin .leq (.tmp 6) (.val (.int .i64 1048576)), some (5, true)⟩ ::
    ⟨some 8, .pick (.tmp 5) (.tmp 7) (.val (.bool false)), none⟩ ::
    ⟨some 2, .mov (.tmp 8), none⟩ :: [])) <|
  .ret⟩
theorem e_ref08_Within : cFunc Try.prog kd_CBase Try.f76 = some c_ref08_Within := by kernel_rfl
/- touchstone/touchstonelaw08.Ranges: slots a, 0, b, 1, a, 2, b, 3, i, 5 -/
def c_law08_Ranges : AFunc := ⟨26, [.tmp 4],
  .seq (.region (⟨some 4, .mov (.val (.bool false)), none⟩ :: [])) <|
  .seq (.seq (.region (⟨some 6, .mov (.tmp 0), none⟩ ::
    ⟨some 7, .len false (.tmp 6), none⟩ ::
    ⟨some 8, .mov (.tmp 1), none⟩ ::
    ⟨some 9, .len false (.tmp 8), none⟩ ::
    ⟨some 10, .bin .neq (.tmp 7) (.tmp 9), none⟩ :: [])) <|
  .cond (.tmp 10) (.seq (.region (⟨some 4, .mov (.val (.bool false)), none⟩ :: [])) <|
    .ret) <|
  .skip) <|
  .seq (.seq (.region (⟨some 11, .mov (.tmp 0), none⟩ ::
    ⟨some 12, .len false (.tmp 11), none⟩ ::
    ⟨some 13, .mov (.val (.int .i64 0)), none⟩ :: [])) <|
  .block 0 (.loop (.seq (.region (⟨some 14, .bin .lss (.tmp 13) (.tmp 12), none⟩ :: [])) <|
      .seq (.cond (.tmp 14) (.skip) <|
      .exit 0) <|
      .seq (.block 1 (.seq (.region (⟨some 15, .mov (.tmp 13), none⟩ ::
          ⟨some 5, .mov (.tmp 15), none⟩ :: [])) <|
        .seq (.region (⟨some 16, .mov (.tmp 0), none⟩ ::
          ⟨some 17, .mov (.tmp 5), none⟩ ::
          ⟨some 18, .iaddr 2 (.tmp 16) (.tmp 17), none⟩ ::
          ⟨some 19, .load true 2 (.tmp 18), none⟩ ::
          ⟨some 20, .mov (.tmp 1), none⟩ ::
          ⟨some 21, .mov (.tmp 5), none⟩ ::
          ⟨some 22, .iaddr 2 (.tmp 20) (.tmp 21), none⟩ ::
          ⟨some 23, .load true 2 (.tmp 22), none⟩ ::
          ⟨some 24, .eqs true 2 (.tmp 19) (.tmp 23), none⟩ :: [])) <|
        .cond (.tmp 24) (.seq (.region (⟨some 4, .mov (.val (.bool false)), none⟩ :: [])) <|
          .ret) <|
        .skip)) <|
      .region (⟨some 25, .bin .add (.tmp 13) (.val (.int .i64 1)), none⟩ ::
        ⟨some 13, .mov (.tmp 25), none⟩ :: [])))) <|
  .seq (.region (⟨some 4, .mov (.val (.bool true)), none⟩ :: [])) <|
  .ret⟩
theorem e_law08_Ranges : cFunc Try.prog kd_CBase Try.f24 = some c_law08_Ranges := by kernel_rfl
end Go.Proofs.Ytclpkkbamgmooaa
