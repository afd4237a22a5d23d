/- The code of functions, as abstract code. Printed by program. -/
import Derived.Test.YtfcphijidcfboaaAv2
import Derived.Test.YtfcphijidcfboaaProg
namespace Go.Proofs.Ytfcphijidcfboaa
open Av
set_option linter.unusedVariables false
set_option maxRecDepth 100000
def kd_CElemN (f : Nat) : Nat := if f = 42 then 3 else if f = 43 then 2 else if f = 44 then 2 else if f = 45 then 3 else if f = 1000000 + 26 then 1 else 0
/- touchstone/elem.Narrow: slots c, 0, d, 1, c, 2, d, 3, e, 6, ok, 7, out, 8, _, 9, x, 10 -/
def c_elem_NarrowO : AFunc := ⟨53, [.tmp 4, .tmp 5],
  .seq (.region (⟨some 2, .box 4 (.tmp 0), none⟩ ::
    ⟨some 4, .mov (.val .nils), none⟩ ::
    ⟨some 5, .mov (.val (.int .i64 0)), none⟩ :: [])) <|
  .seq (.seq (.region (⟨some 11, .mov (.tmp 1), none⟩ ::
    ⟨some 12, .load true 4 (.tmp 2), none⟩ ::
    ⟨some 13, .bslice 4 [(.tmp 12)], none⟩ ::
    ⟨some 14, .build [.nils, .nils, (.int .i64 0), (.int .i64 0)] [(0, 1, (.tmp 11)), (1, 1, (.tmp 13))], none⟩ ::
    ⟨some 15, .call (.val (.fn (.func 41) [])) [(.tmp 14)], none⟩ ::
    ⟨some 16, .un .not (.tmp 15), none⟩ :: [])) <|
  .cond (.tmp 16) (.seq (.region (⟨some 4, .mov (.val .nils), none⟩ ::
      ⟨some 5, .mov (.val (.int .i64 2)), none⟩ :: [])) <|
    .ret) <|
  .skip) <|
  .seq (.region (⟨some 18, .load true 4 (.tmp 2), none⟩ ::
    ⟨some 19, .mov (.tmp 1), none⟩ ::
    ⟨some 20, .callo (.val (.fn (.func 42) [])) [(.tmp 18), (.tmp 19)], none⟩ ::
    ⟨some 17, .mov (.tmp 20), none⟩ ::
    ⟨some 21, .ext (.tmp 17) 0, none⟩ ::
    ⟨some 22, .ext (.tmp 17) 1, none⟩ ::
    ⟨some 6, .mov (.tmp 21), none⟩ ::
    ⟨some 7, .mov (.tmp 22), none⟩ :: [])) <|
  .seq (.seq (.region (⟨some 23, .mov (.tmp 7), none⟩ ::
    ⟨some 24, .un .not (.tmp 23), none⟩ :: [])) <|
  .cond (.tmp 24) (.seq (.region (⟨some 4, .mov (.val .nils), none⟩ ::
      ⟨some 5, .mov (.val (.int .i64 10)), none⟩ :: [])) <|
    .ret) <|
  .skip) <|
  .seq (.region (⟨some 25, .mov (.tmp 6), none⟩ ::
    ⟨some 26, .callm (.val (.fn (.func 43) [])) [(.tmp 25)], none⟩ :: [])) <|
  .seq (.seq (.region (⟨some 27, .faddr 0 (.tmp 2), none⟩ ::
    ⟨some 28, .load false 1 (.tmp 27), none⟩ ::
    ⟨some 29, .bin .eql (.tmp 28) (.val (.int .i64 17)), none⟩ :: [])) <|
  .cond (.tmp 29) (.region (⟨some 30, .mov (.tmp 6), none⟩ ::
      ⟨some 31, .faddr 1 (.tmp 2), none⟩ ::
      ⟨some 32, .load false 1 (.tmp 31), none⟩ ::
      ⟨some 33, .callm (.val (.fn (.func 44) [])) [(.tmp 30), (.tmp 32)], none⟩ :: [])) <|
  .skip) <|
  .seq (.region (⟨some 8, .mov (.val .nils), none⟩ :: [])) <|
  .seq (.seq (.region (⟨some 34, .mov (.tmp 6), none⟩ ::
    ⟨some 35, .nilc (.tmp 34), none⟩ ::
    ⟨some 36, .faddr 3 (.tmp 35), none⟩ ::
    ⟨some 37, .load false 1 (.tmp 36), none⟩ ::
    ⟨some 38, .len false (.tmp 37), none⟩ ::
    ⟨some 39, .mov (.val (.int .i64 0)), none⟩ :: [])) <|
  .block 0 (.loop (.seq (.region (⟨some 40, .bin .lss (.tmp 39) (.tmp 38), none⟩ :: [])) <|
      .seq (.cond (.tmp 40) (.skip) <|
      .exit 0) <|
      .seq (.block 1 (.seq (.region (⟨some 41, .iaddr 1 (.tmp 37) (.tmp 39), none⟩ ::
          ⟨some 42, .load false 1 (.tmp 41), none⟩ ::
          ⟨some 10, .mov (.tmp 42), none⟩ :: [])) <|
        .seq (.seq (.region (⟨some 43, .mov (.tmp 10), none⟩ ::
          ⟨some 44, .len false (.tmp 43), none⟩ ::
          ⟨some 45, .bin .eql (.tmp 44) (.val (.int .i64 0)), none⟩ :: [])) <|
        .cond (.tmp 45) (.seq (.region (⟨some 4, .mov (.val .nils), none⟩ ::
            ⟨some 5, .mov (.val (.int .i64 12)), none⟩ :: [])) <|
          .ret) <|
        .skip) <|
        .region (⟨some 46, .mov (.tmp 8), none⟩ ::
          ⟨some 47, .mov (.tmp 10), none⟩ ::
          ⟨some 48, .callo (.val (.fn (.func 45) [])) [(.tmp 47)], none⟩ ::
          ⟨some 49, .bslm 1 [(.tmp 48)], none⟩ ::
          ⟨some 50, .app 1 24 (.tmp 46) (.tmp 49), none⟩ ::
          ⟨some 8, .mov (.tmp 50), none⟩ :: []))) <|
      .region (⟨some 51, .bin .add (.tmp 39) (.val (.int .i64 1)), none⟩ ::
        ⟨some 39, .mov (.tmp 51), none⟩ :: [])))) <|
  .seq (.region (⟨some 52, .mov (.tmp 8), none⟩ ::
    ⟨some 4, .mov (.tmp 52), none⟩ ::
    ⟨some 5, .mov (.val (.int .i64 0)), none⟩ :: [])) <|
  .ret⟩
theorem e_elem_NarrowO : cFunc Try.prog kd_CElemN Try.f15 = some c_elem_NarrowO := by kernel_rfl
end Go.Proofs.Ytfcphijidcfboaa
