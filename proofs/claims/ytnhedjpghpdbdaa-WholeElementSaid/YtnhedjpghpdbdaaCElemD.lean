/- The code of functions, as abstract code. Printed by program. -/
import Derived.Test.YtnhedjpghpdbdaaAv2
import Derived.Test.YtnhedjpghpdbdaaProg
namespace Go.Proofs.Ytnhedjpghpdbdaa
open Av
set_option linter.unusedVariables false
set_option maxRecDepth 100000
def kd_CElemD (f : Nat) : Nat := if f = 132 then 1 else if f = 4000000 then 1 else 0
/- slices.DeleteFunc[[]touchstone/elem.choice,touchstone/elem.choice]: slots s, 0, del, 1, s, 2, del, 3, i, 5, j, 6, v, 7 -/
def c_slices_DeleteFunc_selem_choice_elem_choice : AFunc := ⟨42, [.tmp 4],
  .seq (.region (⟨some 4, .mov (.val .nils), none⟩ :: [])) <|
  .seq (.region (⟨some 8, .mov (.tmp 0), none⟩ ::
    ⟨some 9, .mov (.tmp 1), none⟩ ::
    ⟨some 10, .callv (.val (.fn (.func 132) [])) [(.tmp 8), (.tmp 9)], none⟩ ::
    ⟨some 5, .mov (.tmp 10), none⟩ :: [])) <|
  .seq (.seq (.region (⟨some 11, .mov (.tmp 5), none⟩ ::
    ⟨some 12, .bin .eql (.tmp 11) (.val (.int .i64 (-1))), none⟩ :: [])) <|
  .cond (.tmp 12) (.seq (.region (⟨some 13, .mov (.tmp 0), none⟩ ::
      ⟨some 4, .mov (.tmp 13), none⟩ :: [])) <|
    .ret) <|
  .skip) <|
  .seq (.seq (.region (⟨some 14, .mov (.tmp 5), none⟩ ::
    ⟨some 15, .bin .add (.tmp 14) (.val (.int .i64 1)), none⟩ ::
    ⟨some 6, .mov (.tmp 15), none⟩ :: [])) <|
  .block 0 (.loop (.seq (.seq (.region (⟨some 16, .mov (.tmp 6), none⟩ ::
        ⟨some 17, .mov (.tmp 0), none⟩ ::
        ⟨some 18, .len false (.tmp 17), none⟩ ::
        ⟨some 19, .bin .lss (.tmp 16) (.tmp 18), none⟩ :: [])) <|
      .cond (.tmp 19) (.skip) <|
      .exit 0) <|
      .seq (.block 1 (.seq (.region (⟨some 22, .mov (.tmp 0), none⟩ ::
          ⟨some 23, .mov (.tmp 6), none⟩ ::
          ⟨some 24, .iaddr 2 (.tmp 22) (.tmp 23), none⟩ ::
          ⟨some 25, .load true 2 (.tmp 24), none⟩ ::
          ⟨some 7, .alloc (.agg [(.int .i64 0), .nils]), none⟩ ::
          ⟨none, .store 2 (.tmp 7) (.tmp 25), none⟩ :: [])) <|
        .seq (.region (⟨some 26, .mov (.tmp 1), none⟩ ::
          ⟨some 27, .load true 2 (.tmp 7), none⟩ ::
          ⟨some 28, .callv (.tmp 26) [(.tmp 27)], none⟩ ::
          ⟨some 29, .un .not (.tmp 28), none⟩ :: [])) <|
        .cond (.tmp 29) (.seq (.region (⟨some 30, .mov (.tmp 0), none⟩ ::
            ⟨some 31, .mov (.tmp 5), none⟩ ::
            ⟨some 32, .load true 2 (.tmp 7), none⟩ ::
            ⟨some 33, .iaddr 2 (.tmp 30) (.tmp 31), none⟩ ::
            ⟨none, .store 2 (.tmp 33) (.tmp 32), none⟩ :: [])) <|
          .region (⟨some 34, .mov (.tmp 5), none⟩ ::
            ⟨some 35, .bin .add (.tmp 34) (.val (.int .i64 1)), none⟩ ::
            ⟨some 5, .mov (.tmp 35), none⟩ :: [])) <|
        .skip)) <|
      .region (⟨some 20, .mov (.tmp 6), none⟩ ::
        ⟨some 21, .bin .add (.tmp 20) (.val (.int .i64 1)), none⟩ ::
        ⟨some 6, .mov (.tmp 21), none⟩ :: [])))) <|
  .seq (.region (⟨some 36, .mov (.tmp 0), none⟩ ::
    ⟨some 37, .mov (.tmp 5), none⟩ ::
    ⟨some 38, .slc 2 (.tmp 36) (some (.tmp 37)) none, none⟩ ::
    ⟨none, .clr 2 (.tmp 38), none⟩ :: [])) <|
  .seq (.region (⟨some 39, .mov (.tmp 0), none⟩ ::
    ⟨some 40, .mov (.tmp 5), none⟩ ::
    ⟨some 41, .slc 2 (.tmp 39) none (some (.tmp 40)), none⟩ ::
    ⟨some 4, .mov (.tmp 41), none⟩ :: [])) <|
  .ret⟩
theorem e_slices_DeleteFunc_selem_choice_elem_choice : cFunc Try.prog kd_CElemD Try.f113 = some c_slices_DeleteFunc_selem_choice_elem_choice := by kernel_rfl
end Go.Proofs.Ytnhedjpghpdbdaa
