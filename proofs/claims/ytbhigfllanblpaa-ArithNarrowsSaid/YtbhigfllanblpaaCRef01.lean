/- The code of functions, as abstract code. Printed by program. -/
import Derived.Test.YtbhigfllanblpaaAv2
import Derived.Test.YtbhigfllanblpaaProg
namespace Go.Proofs.Ytbhigfllanblpaa
open Av
set_option linter.unusedVariables false
set_option maxRecDepth 100000
def kd_CRef01 (f : Nat) : Nat := 0
/- touchstone/touchstoneref01.Floor: slots a, 0, b, 1, a, 2, b, 3, q, 6 -/
def c_ref01_Floor : AFunc := ⟨32, [.tmp 4, .tmp 5],
  .seq (.region (⟨some 4, .mov (.val (.int .i64 0)), none⟩ ::
    ⟨some 5, .mov (.val (.int .i64 0)), none⟩ :: [])) <|
  .seq (.seq (.region (⟨some 7, .mov (.tmp 1), none⟩ ::
    ⟨some 8, .bin .eql (.tmp 7) (.val (.int .i64 0)), none⟩ :: [])) <|
  .cond (.tmp 8) (.seq (.region (⟨some 4, .mov (.val (.int .i64 0)), none⟩ ::
      ⟨some 5, .mov (.val (.int .i64 2)), none⟩ :: [])) <|
    .ret) <|
  .skip) <|
  .seq (.seq (.region (⟨some 9, .mov (.tmp 0), none⟩ ::
    ⟨some 10, .bin .eql (.tmp 9) (.val (.int .i64 (-9223372036854775808))), none⟩ ::
    ⟨some 11, .mov (.tmp 10), none⟩ ::
    ⟨some 12, .mov (.tmp 1), some (11, true)⟩ ::
    ⟨some 13, .bin .eql (.tmp 12) (.val (.int .i64 (-1))), some (11, true)⟩ ::
    ⟨some 14, .pick (.tmp 11) (.tmp 13) (.val (.bool false)), none⟩ :: [])) <|
  .cond (.tmp 14) (.seq (.region (⟨some 4, .mov (.val (.int .i64 0)), none⟩ ::
      ⟨some 5, .mov (.val (.int .i64 4)), none⟩ :: [])) <|
    .ret) <|
  .skip) <|
  .seq (.region (⟨some 15, .mov (.tmp 0), none⟩ ::
    ⟨some 16, .mov (.tmp 1), none⟩ ::
    ⟨some 17, .bin .quo (.tmp 15) (.tmp 16), none⟩ ::
    ⟨some 6, .mov (.tmp 17), none⟩ :: [])) <|
  .seq (.seq (.region (⟨some 18, .mov (.tmp 0), none⟩ ::
    ⟨some 19, .mov (.tmp 1), none⟩ ::
    ⟨some 20, .bin .rem (.tmp 18) (.tmp 19), none⟩ ::
    ⟨some 21, .bin .neq (.tmp 20) (.val (.int .i64 0)), none⟩ ::
    ⟨some 22, .mov (.tmp 21), none⟩ ::
    ⟨some 23, .mov (.tmp 0), some (22, true)⟩ ::
    ⟨some 24, .bin .lss (.tmp 23) (.val (.int .i64 0)), some (22, true)⟩ ::
    ⟨some 25, .mov (.tmp 1), some (22, true)⟩ ::
    ⟨some 26, .bin .lss (.tmp 25) (.val (.int .i64 0)), some (22, true)⟩ ::
    ⟨some 27, .eqb true (.tmp 24) (.tmp 26), some (22, true)⟩ ::
    ⟨some 28, .pick (.tmp 22) (.tmp 27) (.val (.bool false)), none⟩ :: [])) <|
  .cond (.tmp 28) (.region (⟨some 29, .mov (.tmp 6), none⟩ ::
      ⟨some 30, .bin .sub (.tmp 29) (.val (.int .i64 1)), none⟩ ::
      ⟨some 6, .mov (.tmp 30), none⟩ :: [])) <|
  .skip) <|
  .seq (.region (⟨some 31, .mov (.tmp 6), none⟩ ::
    ⟨some 4, .mov (.tmp 31), none⟩ ::
    ⟨some 5, .mov (.val (.int .i64 0)), none⟩ :: [])) <|
  .ret⟩
theorem e_ref01_Floor : cFunc Try.prog kd_CRef01 Try.f147 = some c_ref01_Floor := by kernel_rfl
/- touchstone/touchstoneref01.Ceil: slots a, 0, b, 1, a, 2, b, 3, q, 6 -/
def c_ref01_Ceil : AFunc := ⟨32, [.tmp 4, .tmp 5],
  .seq (.region (⟨some 4, .mov (.val (.int .i64 0)), none⟩ ::
    ⟨some 5, .mov (.val (.int .i64 0)), none⟩ :: [])) <|
  .seq (.seq (.region (⟨some 7, .mov (.tmp 1), none⟩ ::
    ⟨some 8, .bin .eql (.tmp 7) (.val (.int .i64 0)), none⟩ :: [])) <|
  .cond (.tmp 8) (.seq (.region (⟨some 4, .mov (.val (.int .i64 0)), none⟩ ::
      ⟨some 5, .mov (.val (.int .i64 2)), none⟩ :: [])) <|
    .ret) <|
  .skip) <|
  .seq (.seq (.region (⟨some 9, .mov (.tmp 0), none⟩ ::
    ⟨some 10, .bin .eql (.tmp 9) (.val (.int .i64 (-9223372036854775808))), none⟩ ::
    ⟨some 11, .mov (.tmp 10), none⟩ ::
    ⟨some 12, .mov (.tmp 1), some (11, true)⟩ ::
    ⟨some 13, .bin .eql (.tmp 12) (.val (.int .i64 (-1))), some (11, true)⟩ ::
    ⟨some 14, .pick (.tmp 11) (.tmp 13) (.val (.bool false)), none⟩ :: [])) <|
  .cond (.tmp 14) (.seq (.region (⟨some 4, .mov (.val (.int .i64 0)), none⟩ ::
      ⟨some 5, .mov (.val (.int .i64 4)), none⟩ :: [])) <|
    .ret) <|
  .skip) <|
  .seq (.region (⟨some 15, .mov (.tmp 0), none⟩ ::
    ⟨some 16, .mov (.tmp 1), none⟩ ::
    ⟨some 17, .bin .quo (.tmp 15) (.tmp 16), none⟩ ::
    ⟨some 6, .mov (.tmp 17), none⟩ :: [])) <|
  .seq (.seq (.region (⟨some 18, .mov (.tmp 0), none⟩ ::
    ⟨some 19, .mov (.tmp 1), none⟩ ::
    ⟨some 20, .bin .rem (.tmp 18) (.tmp 19), none⟩ ::
    ⟨some 21, .bin .neq (.tmp 20) (.val (.int .i64 0)), none⟩ ::
    ⟨some 22, .mov (.tmp 21), none⟩ ::
    ⟨some 23, .mov (.tmp 0), some (22, true)⟩ ::
    ⟨some 24, .bin .lss (.tmp 23) (.val (.int .i64 0)), some (22, true)⟩ ::
    ⟨some 25, .mov (.tmp 1), some (22, true)⟩ ::
    ⟨some 26, .bin .lss (.tmp 25) (.val (.int .i64 0)), some (22, true)⟩ ::
    ⟨some 27, .eqb false (.tmp 24) (.tmp 26), some (22, true)⟩ ::
    ⟨some 28, .pick (.tmp 22) (.tmp 27) (.val (.bool false)), none⟩ :: [])) <|
  .cond (.tmp 28) (.region (⟨some 29, .mov (.tmp 6), none⟩ ::
      ⟨some 30, .bin .add (.tmp 29) (.val (.int .i64 1)), none⟩ ::
      ⟨some 6, .mov (.tmp 30), none⟩ :: [])) <|
  .skip) <|
  .seq (.region (⟨some 31, .mov (.tmp 6), none⟩ ::
    ⟨some 4, .mov (.tmp 31), none⟩ ::
    ⟨some 5, .mov (.val (.int .i64 0)), none⟩ :: [])) <|
  .ret⟩
theorem e_ref01_Ceil : cFunc Try.prog kd_CRef01 Try.f157 = some c_ref01_Ceil := by kernel_rfl
end Go.Proofs.Ytbhigfllanblpaa
