/- The code of functions, as abstract code. Printed by program. -/
import Derived.Test.YtonkcemcledhiaaAv2
import Derived.Test.YtonkcemcledhiaaProg
namespace Go.Proofs.Ytonkcemcledhiaa
open Av
set_option linter.unusedVariables false
set_option maxRecDepth 100000
def kd_CLogicN (f : Nat) : Nat := if f = 42 then 2 else if f = 43 then 2 else if f = 44 then 2 else if f = 41 then 3 else if f = 45 then 3 else 0
/- touchstone/logic.Narrow: slots c, 0, d, 1, c, 2, d, 3, b, 6, i, 7, x, 8 -/
def c_logic_NarrowO : AFunc := ⟨68, [.tmp 4, .tmp 5],
  .seq (.region (⟨some 2, .box 4 (.tmp 0), none⟩ ::
    ⟨some 4, .mov (.val .nils), none⟩ ::
    ⟨some 5, .mov (.val (.int .i64 0)), none⟩ :: [])) <|
  .seq (.seq (.region (⟨some 9, .mov (.tmp 1), none⟩ ::
    ⟨some 10, .load true 4 (.tmp 2), none⟩ ::
    ⟨some 11, .bslice 4 [(.tmp 10)], none⟩ ::
    ⟨some 12, .build [.nils, .nils, (.int .i64 0), (.int .i64 0)] [(0, 1, (.tmp 9)), (1, 1, (.tmp 11))], none⟩ ::
    ⟨some 13, .call (.val (.fn (.func 40) [])) [(.tmp 12)], none⟩ ::
    ⟨some 14, .un .not (.tmp 13), none⟩ :: [])) <|
  .cond (.tmp 14) (.seq (.region (⟨some 4, .mov (.val .nils), none⟩ ::
      ⟨some 5, .mov (.val (.int .i64 2)), none⟩ :: [])) <|
    .ret) <|
  .skip) <|
  .seq (.region (⟨some 15, .faddr 1 (.tmp 2), none⟩ ::
    ⟨some 16, .load false 1 (.tmp 15), none⟩ ::
    ⟨some 17, .mov (.tmp 1), none⟩ ::
    ⟨some 18, .callo (.val (.fn (.func 41) [])) [(.tmp 17)], none⟩ ::
    ⟨some 19, .build [.nils, .nils, (.bool false)] [(0, 1, (.tmp 16)), (1, 1, (.tmp 18)), (2, 1, (.val (.bool false)))], none⟩ ::
    ⟨some 20, .box 3 (.tmp 19), none⟩ ::
    ⟨some 6, .mov (.tmp 20), none⟩ :: [])) <|
  .seq (.seq (.region (⟨some 21, .faddr 0 (.tmp 2), none⟩ ::
    ⟨some 22, .load false 1 (.tmp 21), none⟩ :: [])) <|
  .block 0 (.seq (.region (⟨some 24, .bin .eql (.tmp 22) (.val (.int .i64 11)), none⟩ ::
      ⟨some 23, .mov (.tmp 24), none⟩ :: [])) <|
    .cond (.tmp 23) (.region (⟨some 25, .mov (.tmp 6), none⟩ ::
        ⟨some 26, .faddr 2 (.tmp 2), none⟩ ::
        ⟨some 27, .load false 1 (.tmp 26), none⟩ ::
        ⟨some 28, .callm (.val (.fn (.func 42) [])) [(.tmp 25), (.tmp 27)], none⟩ :: [])) <|
    .seq (.region (⟨some 30, .bin .eql (.tmp 22) (.val (.int .i64 12)), none⟩ ::
      ⟨some 29, .mov (.tmp 30), none⟩ :: [])) <|
    .cond (.tmp 29) (.region (⟨some 31, .mov (.tmp 6), none⟩ ::
        ⟨some 32, .callm (.val (.fn (.func 43) [])) [(.tmp 31), (.val (.int .i64 1))], none⟩ :: [])) <|
    .seq (.region (⟨some 34, .bin .eql (.tmp 22) (.val (.int .i64 13)), none⟩ ::
      ⟨some 33, .mov (.tmp 34), none⟩ :: [])) <|
    .cond (.tmp 33) (.region (⟨some 35, .mov (.tmp 6), none⟩ ::
        ⟨some 36, .callm (.val (.fn (.func 43) [])) [(.tmp 35), (.val (.int .i64 0))], none⟩ :: [])) <|
    .seq (.region (⟨some 38, .bin .eql (.tmp 22) (.val (.int .i64 14)), none⟩ ::
      ⟨some 37, .mov (.tmp 38), none⟩ :: [])) <|
    .cond (.tmp 37) (.region (⟨some 39, .mov (.tmp 6), none⟩ ::
        ⟨some 40, .callm (.val (.fn (.func 44) [])) [(.tmp 39)], none⟩ :: [])) <|
    .seq (.region (⟨some 4, .mov (.val .nils), none⟩ ::
      ⟨some 5, .mov (.val (.int .i64 10)), none⟩ :: [])) <|
    .ret)) <|
  .seq (.seq (.region (⟨some 41, .mov (.tmp 6), none⟩ ::
    ⟨some 42, .nilc (.tmp 41), none⟩ ::
    ⟨some 43, .faddr 2 (.tmp 42), none⟩ ::
    ⟨some 44, .load false 1 (.tmp 43), none⟩ :: [])) <|
  .cond (.tmp 44) (.seq (.region (⟨some 4, .mov (.val .nils), none⟩ ::
      ⟨some 5, .mov (.val (.int .i64 12)), none⟩ :: [])) <|
    .ret) <|
  .skip) <|
  .seq (.seq (.region (⟨some 45, .mov (.tmp 6), none⟩ ::
    ⟨some 46, .nilc (.tmp 45), none⟩ ::
    ⟨some 47, .faddr 1 (.tmp 46), none⟩ ::
    ⟨some 48, .load false 1 (.tmp 47), none⟩ ::
    ⟨some 49, .len false (.tmp 48), none⟩ ::
    ⟨some 50, .mov (.val (.int .i64 0)), none⟩ :: [])) <|
  .block 1 (.loop (.seq (.region (⟨some 51, .bin .lss (.tmp 50) (.tmp 49), none⟩ :: [])) <|
      .seq (.cond (.tmp 51) (.skip) <|
      .exit 1) <|
      .seq (.block 2 (.seq (.region (⟨some 52, .mov (.tmp 50), none⟩ ::
          ⟨some 53, .iaddr 1 (.tmp 48) (.tmp 50), none⟩ ::
          ⟨some 54, .load false 1 (.tmp 53), none⟩ ::
          ⟨some 7, .mov (.tmp 52), none⟩ ::
          ⟨some 8, .mov (.tmp 54), none⟩ :: [])) <|
        .region (⟨some 55, .mov (.tmp 6), none⟩ ::
          ⟨some 56, .nilc (.tmp 55), none⟩ ::
          ⟨some 57, .faddr 1 (.tmp 56), none⟩ ::
          ⟨some 58, .load false 1 (.tmp 57), none⟩ ::
          ⟨some 59, .mov (.tmp 7), none⟩ ::
          ⟨some 60, .mov (.tmp 8), none⟩ ::
          ⟨some 61, .callo (.val (.fn (.func 45) [])) [(.tmp 60)], none⟩ ::
          ⟨some 62, .iaddr 1 (.tmp 58) (.tmp 59), none⟩ ::
          ⟨none, .store 1 (.tmp 62) (.tmp 61), none⟩ :: []))) <|
      .region (⟨some 63, .bin .add (.tmp 50) (.val (.int .i64 1)), none⟩ ::
        ⟨some 50, .mov (.tmp 63), none⟩ :: [])))) <|
  .seq (.region (⟨some 64, .mov (.tmp 6), none⟩ ::
    ⟨some 65, .nilc (.tmp 64), none⟩ ::
    ⟨some 66, .faddr 1 (.tmp 65), none⟩ ::
    ⟨some 67, .load false 1 (.tmp 66), none⟩ ::
    ⟨some 4, .mov (.tmp 67), none⟩ ::
    ⟨some 5, .mov (.val (.int .i64 0)), none⟩ :: [])) <|
  .ret⟩
theorem e_logic_NarrowO : cFunc Try.prog kd_CLogicN Try.f17 = some c_logic_NarrowO := by kernel_rfl
end Go.Proofs.Ytonkcemcledhiaa
