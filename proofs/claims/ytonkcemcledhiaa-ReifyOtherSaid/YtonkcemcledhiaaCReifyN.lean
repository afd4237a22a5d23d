/- The code of functions, as abstract code. Printed by program. -/
import Derived.Test.YtonkcemcledhiaaAv2
import Derived.Test.YtonkcemcledhiaaProg
namespace Go.Proofs.Ytonkcemcledhiaa
open Av
set_option linter.unusedVariables false
set_option maxRecDepth 100000
def kd_CReifyN (f : Nat) : Nat := if f = 55 then 2 else if f = 45 then 3 else if f = 1000000 + 26 then 1 else 0
/- touchstone/reify.Narrow: slots c, 0, d, 1, c, 2, d, 3, k, 6, f, 7, out, 8, e, 9, own, 10, _, 11, x, 12 -/
def c_reify_NarrowO : AFunc := ⟨73, [.tmp 4, .tmp 5],
  .seq (.region (⟨some 2, .box 4 (.tmp 0), none⟩ ::
    ⟨some 4, .mov (.val .nils), none⟩ ::
    ⟨some 5, .mov (.val (.int .i64 0)), none⟩ :: [])) <|
  .seq (.block 0 (.seq (.region (⟨some 14, .mov (.tmp 1), none⟩ ::
      ⟨some 15, .load true 4 (.tmp 2), none⟩ ::
      ⟨some 16, .bslice 4 [(.tmp 15)], none⟩ ::
      ⟨some 17, .build [.nils, .nils, (.int .i64 0), (.int .i64 0)] [(0, 1, (.tmp 14)), (1, 1, (.tmp 16))], none⟩ ::
      ⟨some 18, .call (.val (.fn (.func 40) [])) [(.tmp 17)], none⟩ ::
      ⟨some 19, .un .not (.tmp 18), none⟩ ::
      ⟨some 13, .mov (.tmp 19), none⟩ :: [])) <|
    .cond (.tmp 13) (.seq (.region (⟨some 4, .mov (.val .nils), none⟩ ::
        ⟨some 5, .mov (.val (.int .i64 2)), none⟩ :: [])) <|
      .ret) <|
    .seq (.region (⟨some 21, .faddr 0 (.tmp 2), none⟩ ::
      ⟨some 22, .load false 1 (.tmp 21), none⟩ ::
      ⟨some 23, .bin .lss (.tmp 22) (.val (.int .i64 4)), none⟩ ::
      ⟨some 24, .mov (.tmp 23), none⟩ ::
      ⟨some 25, .faddr 0 (.tmp 2), some (24, false)⟩ ::
      ⟨some 26, .load false 1 (.tmp 25), some (24, false)⟩ ::
      ⟨some 27, .bin .gtr (.tmp 26) (.val (.int .i64 6)), some (24, false)⟩ ::
      ⟨some 28, .pick (.tmp 24) (.val (.bool true)) (.tmp 27), none⟩ ::
      ⟨some 20, .mov (.tmp 28), none⟩ :: [])) <|
    .cond (.tmp 20) (.seq (.region (⟨some 4, .mov (.val .nils), none⟩ ::
        ⟨some 5, .mov (.val (.int .i64 10)), none⟩ :: [])) <|
      .ret) <|
    .skip)) <|
  .seq (.region (⟨some 29, .faddr 1 (.tmp 2), none⟩ ::
    ⟨some 30, .load false 1 (.tmp 29), none⟩ ::
    ⟨some 31, .len false (.tmp 30), none⟩ ::
    ⟨some 32, .bin .sub (.tmp 31) (.val (.int .i64 1)), none⟩ ::
    ⟨some 6, .mov (.tmp 32), none⟩ :: [])) <|
  .seq (.region (⟨some 33, .load true 4 (.tmp 2), none⟩ ::
    ⟨some 34, .faddr 0 (.tmp 2), none⟩ ::
    ⟨some 35, .load false 1 (.tmp 34), none⟩ ::
    ⟨some 36, .faddr 1 (.tmp 2), none⟩ ::
    ⟨some 37, .load false 1 (.tmp 36), none⟩ ::
    ⟨some 38, .mov (.tmp 6), none⟩ ::
    ⟨some 39, .iaddr 1 (.tmp 37) (.tmp 38), none⟩ ::
    ⟨some 40, .load false 1 (.tmp 39), none⟩ ::
    ⟨some 41, .mov (.tmp 1), none⟩ ::
    ⟨some 42, .build [(.int .i64 0), .nils, .nils, (.int .i64 0), (.int .i64 0), (.int .i64 0), .nils] [(0, 4, (.tmp 33)), (4, 1, (.tmp 35)), (5, 1, (.tmp 40)), (6, 1, (.tmp 41))], none⟩ ::
    ⟨some 43, .box 7 (.tmp 42), none⟩ ::
    ⟨some 7, .mov (.tmp 43), none⟩ :: [])) <|
  .seq (.region (⟨some 44, .mov (.tmp 7), none⟩ ::
    ⟨some 45, .faddr 1 (.tmp 2), none⟩ ::
    ⟨some 46, .load false 1 (.tmp 45), none⟩ ::
    ⟨some 47, .mov (.tmp 6), none⟩ ::
    ⟨some 48, .slc 1 (.tmp 46) none (some (.tmp 47)), none⟩ ::
    ⟨some 49, .nilc (.tmp 44), none⟩ ::
    ⟨some 50, .faddr 0 (.tmp 49), none⟩ ::
    ⟨some 51, .faddr 1 (.tmp 50), none⟩ ::
    ⟨none, .store 1 (.tmp 51) (.tmp 48), none⟩ :: [])) <|
  .seq (.region (⟨some 53, .mov (.tmp 7), none⟩ ::
    ⟨some 54, .callm (.val (.fn (.func 55) [])) [(.tmp 53)], none⟩ ::
    ⟨some 52, .mov (.tmp 54), none⟩ ::
    ⟨some 55, .ext (.tmp 52) 0, none⟩ ::
    ⟨some 56, .ext (.tmp 52) 1, none⟩ ::
    ⟨some 8, .mov (.tmp 55), none⟩ ::
    ⟨some 9, .mov (.tmp 56), none⟩ :: [])) <|
  .seq (.seq (.region (⟨some 57, .mov (.tmp 9), none⟩ ::
    ⟨some 58, .bin .neq (.tmp 57) (.val (.int .i64 0)), none⟩ :: [])) <|
  .cond (.tmp 58) (.seq (.region (⟨some 59, .mov (.tmp 9), none⟩ ::
      ⟨some 4, .mov (.val .nils), none⟩ ::
      ⟨some 5, .mov (.tmp 59), none⟩ :: [])) <|
    .ret) <|
  .skip) <|
  .seq (.region (⟨some 10, .mov (.val .nils), none⟩ :: [])) <|
  .seq (.seq (.region (⟨some 60, .mov (.tmp 8), none⟩ ::
    ⟨some 61, .len false (.tmp 60), none⟩ ::
    ⟨some 62, .mov (.val (.int .i64 0)), none⟩ :: [])) <|
  .block 1 (.loop (.seq (.region (⟨some 63, .bin .lss (.tmp 62) (.tmp 61), none⟩ :: [])) <|
      .seq (.cond (.tmp 63) (.skip) <|
      .exit 1) <|
      .seq (.block 2 (.seq (.region (⟨some 64, .iaddr 1 (.tmp 60) (.tmp 62), none⟩ ::
          ⟨some 65, .load false 1 (.tmp 64), none⟩ ::
          ⟨some 12, .mov (.tmp 65), none⟩ :: [])) <|
        .region (⟨some 66, .mov (.tmp 10), none⟩ ::
          ⟨some 67, .mov (.tmp 12), none⟩ ::
          ⟨some 68, .callo (.val (.fn (.func 45) [])) [(.tmp 67)], none⟩ ::
          ⟨some 69, .bslm 1 [(.tmp 68)], none⟩ ::
          ⟨some 70, .app 1 24 (.tmp 66) (.tmp 69), none⟩ ::
          ⟨some 10, .mov (.tmp 70), none⟩ :: []))) <|
      .region (⟨some 71, .bin .add (.tmp 62) (.val (.int .i64 1)), none⟩ ::
        ⟨some 62, .mov (.tmp 71), none⟩ :: [])))) <|
  .seq (.region (⟨some 72, .mov (.tmp 10), none⟩ ::
    ⟨some 4, .mov (.tmp 72), none⟩ ::
    ⟨some 5, .mov (.val (.int .i64 0)), none⟩ :: [])) <|
  .ret⟩
theorem e_reify_NarrowO : cFunc Try.prog kd_CReifyN Try.f26 = some c_reify_NarrowO := by kernel_rfl
end Go.Proofs.Ytonkcemcledhiaa
