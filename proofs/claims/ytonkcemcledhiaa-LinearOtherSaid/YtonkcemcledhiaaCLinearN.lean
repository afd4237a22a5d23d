/- The code of functions, as abstract code. Printed by program. -/
import Derived.Test.YtonkcemcledhiaaAv2
import Derived.Test.YtonkcemcledhiaaProg
namespace Go.Proofs.Ytonkcemcledhiaa
open Av
set_option linter.unusedVariables false
set_option maxRecDepth 100000
def kd_CLinearN (f : Nat) : Nat := if f = 52 then 2 else if f = 51 then 2 else if f = 53 then 2 else if f = 54 then 2 else if f = 50 then 3 else if f = 45 then 3 else if f = 1000000 + 26 then 1 else 0
/- touchstone/linear.own: slots d, 0, d, 1, out, 3, _, 4, x, 5 -/
def c_linear_ownO : AFunc := ⟨19, [.tmp 2],
  .seq (.region (⟨some 2, .mov (.val .nils), none⟩ :: [])) <|
  .seq (.region (⟨some 3, .mov (.val .nils), none⟩ :: [])) <|
  .seq (.seq (.region (⟨some 6, .mov (.tmp 0), none⟩ ::
    ⟨some 7, .len false (.tmp 6), none⟩ ::
    ⟨some 8, .mov (.val (.int .i64 0)), none⟩ :: [])) <|
  .block 0 (.loop (.seq (.region (⟨some 9, .bin .lss (.tmp 8) (.tmp 7), none⟩ :: [])) <|
      .seq (.cond (.tmp 9) (.skip) <|
      .exit 0) <|
      .seq (.block 1 (.seq (.region (⟨some 10, .iaddr 1 (.tmp 6) (.tmp 8), none⟩ ::
          ⟨some 11, .load false 1 (.tmp 10), none⟩ ::
          ⟨some 5, .mov (.tmp 11), none⟩ :: [])) <|
        .region (⟨some 12, .mov (.tmp 3), none⟩ ::
          ⟨some 13, .mov (.tmp 5), none⟩ ::
          ⟨some 14, .callo (.val (.fn (.func 45) [])) [(.tmp 13)], none⟩ ::
          ⟨some 15, .bslm 1 [(.tmp 14)], none⟩ ::
          ⟨some 16, .app 1 24 (.tmp 12) (.tmp 15), none⟩ ::
          ⟨some 3, .mov (.tmp 16), none⟩ :: []))) <|
      .region (⟨some 17, .bin .add (.tmp 8) (.val (.int .i64 1)), none⟩ ::
        ⟨some 8, .mov (.tmp 17), none⟩ :: [])))) <|
  .seq (.region (⟨some 18, .mov (.tmp 3), none⟩ ::
    ⟨some 2, .mov (.tmp 18), none⟩ :: [])) <|
  .ret⟩
theorem e_linear_ownO : cFunc Try.prog kd_CLinearN Try.f54 = some c_linear_ownO := by kernel_rfl
/- touchstone/linear.Narrow: slots c, 0, d, 1, c, 2, d, 3, s, 6, ok, 7 -/
def c_linear_NarrowO : AFunc := ⟨42, [.tmp 4, .tmp 5],
  .seq (.region (⟨some 2, .box 4 (.tmp 0), none⟩ ::
    ⟨some 4, .mov (.val .nils), none⟩ ::
    ⟨some 5, .mov (.val (.int .i64 0)), none⟩ :: [])) <|
  .seq (.seq (.region (⟨some 8, .load true 4 (.tmp 2), none⟩ ::
    ⟨some 9, .mov (.tmp 1), none⟩ ::
    ⟨some 10, .call (.val (.fn (.func 49) [])) [(.tmp 8), (.tmp 9)], none⟩ ::
    ⟨some 11, .un .not (.tmp 10), none⟩ :: [])) <|
  .cond (.tmp 11) (.seq (.region (⟨some 4, .mov (.val .nils), none⟩ ::
      ⟨some 5, .mov (.val (.int .i64 2)), none⟩ :: [])) <|
    .ret) <|
  .skip) <|
  .seq (.region (⟨some 12, .load true 4 (.tmp 2), none⟩ ::
    ⟨some 13, .mov (.tmp 1), none⟩ ::
    ⟨some 14, .callo (.val (.fn (.func 50) [])) [(.tmp 12), (.tmp 13)], none⟩ ::
    ⟨some 6, .mov (.tmp 14), none⟩ :: [])) <|
  .seq (.region (⟨some 7, .mov (.val (.bool false)), none⟩ :: [])) <|
  .seq (.seq (.region (⟨some 15, .faddr 0 (.tmp 2), none⟩ ::
    ⟨some 16, .load false 1 (.tmp 15), none⟩ :: [])) <|
  .block 0 (.seq (.region (⟨some 18, .bin .eql (.tmp 16) (.val (.int .i64 1)), none⟩ ::
      ⟨some 17, .mov (.tmp 18), none⟩ :: [])) <|
    .cond (.tmp 17) (.region (⟨some 19, .mov (.tmp 6), none⟩ ::
        ⟨some 20, .faddr 3 (.tmp 2), none⟩ ::
        ⟨some 21, .load false 1 (.tmp 20), none⟩ ::
        ⟨some 22, .callm (.val (.fn (.func 51) [])) [(.tmp 19), (.tmp 21)], none⟩ ::
        ⟨some 7, .mov (.tmp 22), none⟩ :: [])) <|
    .seq (.region (⟨some 24, .bin .eql (.tmp 16) (.val (.int .i64 2)), none⟩ ::
      ⟨some 23, .mov (.tmp 24), none⟩ :: [])) <|
    .cond (.tmp 23) (.region (⟨some 25, .mov (.tmp 6), none⟩ ::
        ⟨some 26, .faddr 3 (.tmp 2), none⟩ ::
        ⟨some 27, .load false 1 (.tmp 26), none⟩ ::
        ⟨some 28, .callm (.val (.fn (.func 52) [])) [(.tmp 25), (.tmp 27)], none⟩ ::
        ⟨some 7, .mov (.tmp 28), none⟩ :: [])) <|
    .seq (.region (⟨some 30, .bin .eql (.tmp 16) (.val (.int .i64 3)), none⟩ ::
      ⟨some 29, .mov (.tmp 30), none⟩ :: [])) <|
    .cond (.tmp 29) (.region (⟨some 31, .mov (.tmp 6), none⟩ ::
        ⟨some 32, .faddr 3 (.tmp 2), none⟩ ::
        ⟨some 33, .load false 1 (.tmp 32), none⟩ ::
        ⟨some 34, .callm (.val (.fn (.func 53) [])) [(.tmp 31), (.tmp 33)], none⟩ ::
        ⟨some 7, .mov (.tmp 34), none⟩ :: [])) <|
    .seq (.region (⟨some 4, .mov (.val .nils), none⟩ ::
      ⟨some 5, .mov (.val (.int .i64 10)), none⟩ :: [])) <|
    .ret)) <|
  .seq (.seq (.region (⟨some 35, .mov (.tmp 7), none⟩ ::
    ⟨some 36, .un .not (.tmp 35), none⟩ :: [])) <|
  .cond (.tmp 36) (.seq (.region (⟨some 4, .mov (.val .nils), none⟩ ::
      ⟨some 5, .mov (.val (.int .i64 12)), none⟩ :: [])) <|
    .ret) <|
  .skip) <|
  .seq (.region (⟨some 37, .mov (.tmp 6), none⟩ ::
    ⟨some 38, .nilc (.tmp 37), none⟩ ::
    ⟨some 39, .faddr 1 (.tmp 38), none⟩ ::
    ⟨some 40, .load false 1 (.tmp 39), none⟩ ::
    ⟨some 41, .callm (.val (.fn (.func 54) [])) [(.tmp 40)], none⟩ ::
    ⟨some 4, .mov (.tmp 41), none⟩ ::
    ⟨some 5, .mov (.val (.int .i64 0)), none⟩ :: [])) <|
  .ret⟩
theorem e_linear_NarrowO : cFunc Try.prog kd_CLinearN Try.f23 = some c_linear_NarrowO := by kernel_rfl
end Go.Proofs.Ytonkcemcledhiaa
