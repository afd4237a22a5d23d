/- The code of functions, as abstract code. Printed by program. -/
import Derived.Test.YtonkcemcledhiaaAv2
import Derived.Test.YtonkcemcledhiaaProg
namespace Go.Proofs.Ytonkcemcledhiaa
open Av
set_option linter.unusedVariables false
set_option maxRecDepth 100000
def kd_CArithN (f : Nat) : Nat := if f = 41 then 3 else if f = 56 then 2 else if f = 57 then 2 else if f = 58 then 2 else if f = 59 then 2 else if f = 60 then 2 else if f = 45 then 3 else 0
/- touchstone/arith.Narrow: slots c, 0, d, 1, c, 2, d, 3, b, 6, i, 7, x, 8 -/
def c_arith_NarrowO : AFunc := ⟨70, [.tmp 4, .tmp 5],
  .seq (.region (⟨some 2, .box 4 (.tmp 0), none⟩ ::
    ⟨some 4, .mov (.val .nils), none⟩ ::
    ⟨some 5, .mov (.val (.int .i64 0)), none⟩ :: [])) <|
  .seq (.seq (.region (⟨some 9, .mov (.tmp 1), none⟩ ::
    ⟨some 10, .load true 4 (.tmp 2), none⟩ ::
    ⟨some 11, .bslice 4 [(.tmp 10)], none⟩ ::
    ⟨some 12, .build [.nils, .nils, (.int .i64 0), (.int .i64 0)] [(0, 1, (.tmp 9)), (1, 1, (.tmp 11))], none⟩ ::
    ⟨some 13, .call (.val (.fn (.func 40) [])) [(.tmp 12)], none⟩ ::
    ⟨some 14, .un .not (.tmp 13), none⟩ :: [])) <|
  .cond (.tmp 14) (.seq (.region (⟨some 4, .mov (.val .nils), none⟩ ::
      ⟨some 5, .mov (.val (.int .i64 2)), none⟩ :: [])) <|
    .ret) <|
  .skip) <|
  .seq (.region (⟨some 15, .mov (.tmp 1), none⟩ ::
    ⟨some 16, .callo (.val (.fn (.func 41) [])) [(.tmp 15)], none⟩ ::
    ⟨some 17, .faddr 1 (.tmp 2), none⟩ ::
    ⟨some 18, .load false 1 (.tmp 17), none⟩ ::
    ⟨some 19, .build [.nils, .nils, (.bool false)] [(0, 1, (.tmp 16)), (1, 1, (.tmp 18)), (2, 1, (.val (.bool false)))], none⟩ ::
    ⟨some 20, .box 3 (.tmp 19), none⟩ ::
    ⟨some 6, .mov (.tmp 20), none⟩ :: [])) <|
  .seq (.seq (.region (⟨some 21, .faddr 0 (.tmp 2), none⟩ ::
    ⟨some 22, .load false 1 (.tmp 21), none⟩ :: [])) <|
  .block 0 (.seq (.region (⟨some 24, .bin .eql (.tmp 22) (.val (.int .i64 7)), none⟩ ::
      ⟨some 23, .mov (.tmp 24), none⟩ :: [])) <|
    .cond (.tmp 23) (.region (⟨some 25, .mov (.tmp 6), none⟩ ::
        ⟨some 26, .callm (.val (.fn (.func 56) [])) [(.tmp 25)], none⟩ :: [])) <|
    .seq (.region (⟨some 28, .bin .eql (.tmp 22) (.val (.int .i64 8)), none⟩ ::
      ⟨some 27, .mov (.tmp 28), none⟩ :: [])) <|
    .cond (.tmp 27) (.region (⟨some 29, .mov (.tmp 6), none⟩ ::
        ⟨some 30, .callm (.val (.fn (.func 57) [])) [(.tmp 29)], none⟩ :: [])) <|
    .seq (.region (⟨some 32, .bin .eql (.tmp 22) (.val (.int .i64 9)), none⟩ ::
      ⟨some 31, .mov (.tmp 32), none⟩ :: [])) <|
    .cond (.tmp 31) (.region (⟨some 33, .mov (.tmp 6), none⟩ ::
        ⟨some 34, .callm (.val (.fn (.func 58) [])) [(.tmp 33)], none⟩ :: [])) <|
    .seq (.region (⟨some 36, .bin .eql (.tmp 22) (.val (.int .i64 10)), none⟩ ::
      ⟨some 35, .mov (.tmp 36), none⟩ :: [])) <|
    .cond (.tmp 35) (.region (⟨some 37, .mov (.tmp 6), none⟩ ::
        ⟨some 38, .callm (.val (.fn (.func 59) [])) [(.tmp 37)], none⟩ :: [])) <|
    .seq (.region (⟨some 40, .bin .eql (.tmp 22) (.val (.int .i64 15)), none⟩ ::
      ⟨some 39, .mov (.tmp 40), none⟩ :: [])) <|
    .cond (.tmp 39) (.region (⟨some 41, .mov (.tmp 6), none⟩ ::
        ⟨some 42, .callm (.val (.fn (.func 60) [])) [(.tmp 41)], none⟩ :: [])) <|
    .seq (.region (⟨some 4, .mov (.val .nils), none⟩ ::
      ⟨some 5, .mov (.val (.int .i64 10)), none⟩ :: [])) <|
    .ret)) <|
  .seq (.seq (.region (⟨some 43, .mov (.tmp 6), none⟩ ::
    ⟨some 44, .nilc (.tmp 43), none⟩ ::
    ⟨some 45, .faddr 2 (.tmp 44), none⟩ ::
    ⟨some 46, .load false 1 (.tmp 45), none⟩ :: [])) <|
  .cond (.tmp 46) (.seq (.region (⟨some 4, .mov (.val .nils), none⟩ ::
      ⟨some 5, .mov (.val (.int .i64 12)), none⟩ :: [])) <|
    .ret) <|
  .skip) <|
  .seq (.seq (.region (⟨some 47, .mov (.tmp 6), none⟩ ::
    ⟨some 48, .nilc (.tmp 47), none⟩ ::
    ⟨some 49, .faddr 0 (.tmp 48), none⟩ ::
    ⟨some 50, .load false 1 (.tmp 49), none⟩ ::
    ⟨some 51, .len false (.tmp 50), none⟩ ::
    ⟨some 52, .mov (.val (.int .i64 0)), none⟩ :: [])) <|
  .block 1 (.loop (.seq (.region (⟨some 53, .bin .lss (.tmp 52) (.tmp 51), none⟩ :: [])) <|
      .seq (.cond (.tmp 53) (.skip) <|
      .exit 1) <|
      .seq (.block 2 (.seq (.region (⟨some 54, .mov (.tmp 52), none⟩ ::
          ⟨some 55, .iaddr 1 (.tmp 50) (.tmp 52), none⟩ ::
          ⟨some 56, .load false 1 (.tmp 55), none⟩ ::
          ⟨some 7, .mov (.tmp 54), none⟩ ::
          ⟨some 8, .mov (.tmp 56), none⟩ :: [])) <|
        .region (⟨some 57, .mov (.tmp 6), none⟩ ::
          ⟨some 58, .nilc (.tmp 57), none⟩ ::
          ⟨some 59, .faddr 0 (.tmp 58), none⟩ ::
          ⟨some 60, .load false 1 (.tmp 59), none⟩ ::
          ⟨some 61, .mov (.tmp 7), none⟩ ::
          ⟨some 62, .mov (.tmp 8), none⟩ ::
          ⟨some 63, .callo (.val (.fn (.func 45) [])) [(.tmp 62)], none⟩ ::
          ⟨some 64, .iaddr 1 (.tmp 60) (.tmp 61), none⟩ ::
          ⟨none, .store 1 (.tmp 64) (.tmp 63), none⟩ :: []))) <|
      .region (⟨some 65, .bin .add (.tmp 52) (.val (.int .i64 1)), none⟩ ::
        ⟨some 52, .mov (.tmp 65), none⟩ :: [])))) <|
  .seq (.region (⟨some 66, .mov (.tmp 6), none⟩ ::
    ⟨some 67, .nilc (.tmp 66), none⟩ ::
    ⟨some 68, .faddr 0 (.tmp 67), none⟩ ::
    ⟨some 69, .load false 1 (.tmp 68), none⟩ ::
    ⟨some 4, .mov (.tmp 69), none⟩ ::
    ⟨some 5, .mov (.val (.int .i64 0)), none⟩ :: [])) <|
  .ret⟩
theorem e_arith_NarrowO : cFunc Try.prog kd_CArithN Try.f29 = some c_arith_NarrowO := by kernel_rfl
end Go.Proofs.Ytonkcemcledhiaa
