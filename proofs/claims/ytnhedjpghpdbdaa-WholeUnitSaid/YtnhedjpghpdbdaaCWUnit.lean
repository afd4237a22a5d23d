/- The code of functions, as abstract code. Printed by program. -/
import Derived.Test.YtnhedjpghpdbdaaAv2
import Derived.Test.YtnhedjpghpdbdaaProg
namespace Go.Proofs.Ytnhedjpghpdbdaa
open Av
set_option linter.unusedVariables false
set_option maxRecDepth 100000
def kd_CWUnit (f : Nat) : Nat := if f = 12 then 2 else 0
/- touchstone/touchstonetop.WholeUnit: slots x, 0, a, 1, x, 2, a, 3, unit, 5 -/
def c_top_WholeUnit : AFunc := ⟨47, [.tmp 4],
  .seq (.region (⟨some 4, .mov (.val (.bool false)), none⟩ :: [])) <|
  .seq (.seq (.region (⟨some 6, .bslice 1 [(.val (.int .i64 0)), (.val (.int .i64 0))], none⟩ ::
    ⟨some 7, .build [(.int .i64 0), .nils, .nils, (.int .i64 0)] [(0, 1, (.val (.int .i64 18))), (1, 1, (.tmp 6))], none⟩ ::
    ⟨some 8, .bslice 1 [(.val (.int .i64 1))], none⟩ ::
    ⟨some 9, .callm (.val (.fn (.func 12) [])) [(.tmp 7), (.tmp 8)], none⟩ ::
    ⟨some 10, .mov (.tmp 9), none⟩ ::
    ⟨some 11, .bslice 1 [(.val (.int .i64 0))], some (10, false)⟩ ::
    ⟨some 12, .bslice 1 [(.val (.int .i64 1)), (.val (.int .i64 1))], some (10, false)⟩ ::
    ⟨some 13, .build [(.int .i64 0), .nils, .nils, (.int .i64 0)] [(0, 1, (.val (.int .i64 19))), (1, 1, (.tmp 11)), (2, 1, (.tmp 12)), (3, 1, (.val (.int .i64 1)))], some (10, false)⟩ ::
    ⟨some 14, .bslice 1 [(.val (.int .i64 1))], some (10, false)⟩ ::
    ⟨some 15, .callm (.val (.fn (.func 12) [])) [(.tmp 13), (.tmp 14)], some (10, false)⟩ ::
    ⟨some 16, .un .not (.tmp 15), some (10, false)⟩ ::
    ⟨some 17, .pick (.tmp 10) (.val (.bool true)) (.tmp 16), none⟩ :: [])) <|
  .cond (.tmp 17) (.seq (.region (⟨some 4, .mov (.val (.bool false)), none⟩ :: [])) <|
    .ret) <|
  .skip) <|
  .seq (.seq (.region (⟨some 18, .mov (.tmp 0), none⟩ ::
    ⟨some 19, .len false (.tmp 18), none⟩ ::
    ⟨some 20, .bin .gtr (.tmp 19) (.val (.int .i64 100)), none⟩ ::
    ⟨some 21, .mov (.tmp 20), none⟩ ::
    ⟨some 22, .mov (.tmp 1), some (21, false)⟩ ::
    ⟨some 23, .len false (.tmp 22), some (21, false)⟩ ::
    ⟨some 24, .bin .gtr (.tmp 23) (.val (.int .i64 200)), some (21, false)⟩ ::
    ⟨some 25, .pick (.tmp 21) (.val (.bool true)) (.tmp 24), none⟩ :: [])) <|
  .cond (.tmp 25) (.seq (.region (⟨some 4, .mov (.val (.bool true)), none⟩ :: [])) <|
    .ret) <|
  .skip) <|
  .seq (.region (⟨some 26, .mov (.tmp 0), none⟩ ::
    ⟨some 27, .build [(.int .i64 0), .nils, .nils, (.int .i64 0)] [(0, 1, (.val (.int .i64 19))), (1, 1, (.tmp 26)), (3, 1, (.val (.int .i64 1)))], none⟩ ::
    ⟨some 5, .alloc (.agg [(.int .i64 0), .nils, .nils, (.int .i64 0)]), none⟩ ::
    ⟨none, .store 4 (.tmp 5) (.tmp 27), none⟩ :: [])) <|
  .seq (.seq (.region (⟨some 28, .mov (.tmp 0), none⟩ ::
    ⟨some 29, .len false (.tmp 28), none⟩ ::
    ⟨some 30, .bin .mul (.val (.int .i64 2)) (.tmp 29), none⟩ ::
    ⟨some 31, .mov (.val (.int .i64 0)), none⟩ :: [])) <|
  .block 0 (.loop (.seq (.region (⟨some 32, .bin .lss (.tmp 31) (.tmp 30), none⟩ :: [])) <|
      .seq (.cond (.tmp 32) (.skip) <|
      .exit 0) <|
      .seq (.block 1 (.region (⟨some 33, .faddr 2 (.tmp 5), none⟩ ::
          ⟨some 34, .load false 1 (.tmp 33), none⟩ ::
          ⟨some 35, .bslice 1 [(.val (.int .i64 1))], none⟩ ::
          ⟨some 36, .app 1 8 (.tmp 34) (.tmp 35), none⟩ ::
          ⟨some 37, .faddr 2 (.tmp 5), none⟩ ::
          ⟨none, .store 1 (.tmp 37) (.tmp 36), none⟩ :: []))) <|
      .region (⟨some 38, .bin .add (.tmp 31) (.val (.int .i64 1)), none⟩ ::
        ⟨some 31, .mov (.tmp 38), none⟩ :: [])))) <|
  .seq (.region (⟨some 39, .load true 4 (.tmp 5), none⟩ ::
    ⟨some 40, .mov (.tmp 1), none⟩ ::
    ⟨some 41, .callm (.val (.fn (.func 12) [])) [(.tmp 39), (.tmp 40)], none⟩ ::
    ⟨some 42, .mov (.tmp 0), none⟩ ::
    ⟨some 43, .build [(.int .i64 0), .nils, .nils, (.int .i64 0)] [(0, 1, (.val (.int .i64 18))), (1, 1, (.tmp 42))], none⟩ ::
    ⟨some 44, .mov (.tmp 1), none⟩ ::
    ⟨some 45, .callm (.val (.fn (.func 12) [])) [(.tmp 43), (.tmp 44)], none⟩ ::
    ⟨some 46, .eqb false (.tmp 41) (.tmp 45), none⟩ ::
    ⟨some 4, .mov (.tmp 46), none⟩ :: [])) <|
  .ret⟩
theorem e_top_WholeUnit : cFunc Try.prog kd_CWUnit Try.f3 = some c_top_WholeUnit := by kernel_rfl
end Go.Proofs.Ytnhedjpghpdbdaa
