/- The code of functions, as abstract code. Printed by program. -/
import Derived.Test.YtonkcemcledhiaaAv2
import Derived.Test.YtonkcemcledhiaaProg
namespace Go.Proofs.Ytonkcemcledhiaa
open Av
set_option linter.unusedVariables false
set_option maxRecDepth 100000
def kd_CHallLaw (f : Nat) : Nat := 0
/- touchstone/touchstonelaw17.HallNarrows: slots c, 0, d, 1, c, 2, d, 3, x, 5, e, 6, y, 7, f, 8 -/
def c_law17_HallNarrows : AFunc := ⟨35, [.tmp 4],
  .seq (.region (⟨some 2, .box 4 (.tmp 0), none⟩ ::
    ⟨some 4, .mov (.val (.bool false)), none⟩ :: [])) <|
  .seq (.seq (.region (⟨some 9, .call (.val (.fn (.func 30) [])) [], none⟩ ::
    ⟨some 10, .un .not (.tmp 9), none⟩ :: [])) <|
  .cond (.tmp 10) (.seq (.region (⟨some 4, .mov (.val (.bool false)), none⟩ :: [])) <|
    .ret) <|
  .skip) <|
  .seq (.seq (.region (⟨some 11, .load true 4 (.tmp 2), none⟩ ::
    ⟨some 12, .mov (.tmp 1), none⟩ ::
    ⟨some 13, .call (.val (.fn (.func 21) [])) [(.tmp 11), (.tmp 12)], none⟩ ::
    ⟨some 14, .un .not (.tmp 13), none⟩ :: [])) <|
  .cond (.tmp 14) (.seq (.region (⟨some 4, .mov (.val (.bool true)), none⟩ :: [])) <|
    .ret) <|
  .skip) <|
  .seq (.region (⟨some 16, .load true 4 (.tmp 2), none⟩ ::
    ⟨some 17, .mov (.tmp 1), none⟩ ::
    ⟨some 18, .call (.val (.fn (.func 31) [])) [(.tmp 16), (.tmp 17)], none⟩ ::
    ⟨some 15, .mov (.tmp 18), none⟩ ::
    ⟨some 19, .ext (.tmp 15) 0, none⟩ ::
    ⟨some 20, .ext (.tmp 15) 1, none⟩ ::
    ⟨some 5, .mov (.tmp 19), none⟩ ::
    ⟨some 6, .mov (.tmp 20), none⟩ :: [])) <|
  .seq (.region (⟨some 22, .load true 4 (.tmp 2), none⟩ ::
    ⟨some 23, .mov (.tmp 1), none⟩ ::
    ⟨some 24, .call (.val (.fn (.func 32) [])) [(.tmp 22), (.tmp 23)], none⟩ ::
    ⟨some 21, .mov (.tmp 24), none⟩ ::
    ⟨some 25, .ext (.tmp 21) 0, none⟩ ::
    ⟨some 26, .ext (.tmp 21) 1, none⟩ ::
    ⟨some 7, .mov (.tmp 25), none⟩ ::
    ⟨some 8, .mov (.tmp 26), none⟩ :: [])) <|
  .seq (.region (⟨some 27, .mov (.tmp 5), none⟩ ::
    ⟨some 28, .mov (.tmp 7), none⟩ ::
    ⟨some 29, .call (.val (.fn (.func 18) [])) [(.tmp 27), (.tmp 28)], none⟩ ::
    ⟨some 30, .mov (.tmp 29), none⟩ ::
    ⟨some 31, .mov (.tmp 6), some (30, true)⟩ ::
    ⟨some 32, .mov (.tmp 8), some (30, true)⟩ ::
    ⟨some 33, .bin .eql (.tmp 31) (.tmp 32), some (30, true)⟩ ::
    ⟨some 34, .pick (.tmp 30) (.tmp 33) (.val (.bool false)), none⟩ ::
    ⟨some 4, .mov (.tmp 34), none⟩ :: [])) <|
  .ret⟩
theorem e_law17_HallNarrows : cFunc Try.prog kd_CHallLaw Try.f7 = some c_law17_HallNarrows := by kernel_rfl
/- touchstone/touchstonelaw17.HallKeeps: slots c, 0, d, 1, c, 2, d, 3, out, 5, e, 6 -/
/- touchstone/touchstonelaw17.HallOrder: slots c, 0, d, 1, cut, 2, c, 3, d, 4, cut, 5, small, 7, x, 8, e, 9, y, 10, f, 11 -/
end Go.Proofs.Ytonkcemcledhiaa
