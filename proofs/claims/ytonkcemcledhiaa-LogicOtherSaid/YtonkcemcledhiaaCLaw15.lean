/- The code of functions, as abstract code. Printed by program. -/
import Derived.Test.YtonkcemcledhiaaAv2
import Derived.Test.YtonkcemcledhiaaProg
namespace Go.Proofs.Ytonkcemcledhiaa
open Av
set_option linter.unusedVariables false
set_option maxRecDepth 100000
def kd_CLaw15 (f : Nat) : Nat := 0
/- touchstone/touchstonelaw15.alive: slots d, 1, x, 2, e, 3, _, 4, f, 5 -/
def c_law15_alive : AFunc := ⟨44, [.tmp 0],
  .seq (.region (⟨some 0, .mov (.val (.bool false)), none⟩ :: [])) <|
  .seq (.region (⟨some 6, .build [(.int .i64 0), (.int .i64 0)] [(0, 1, (.val (.int .i64 0))), (1, 1, (.val (.int .i64 0)))], none⟩ ::
    ⟨some 7, .bslice 2 [(.tmp 6)], none⟩ ::
    ⟨some 8, .build [(.int .i64 0), (.int .i64 0)] [(0, 1, (.val (.int .i64 0))), (1, 1, (.val (.int .i64 1)))], none⟩ ::
    ⟨some 9, .bslice 2 [(.tmp 8)], none⟩ ::
    ⟨some 10, .bslice 1 [(.tmp 7), (.tmp 9)], none⟩ ::
    ⟨some 1, .mov (.tmp 10), none⟩ :: [])) <|
  .seq (.region (⟨some 12, .bslice 1 [(.val (.int .i64 0)), (.val (.int .i64 1))], none⟩ ::
    ⟨some 13, .bslice 1 [(.val (.int .i64 1)), (.val (.int .i64 (-1)))], none⟩ ::
    ⟨some 14, .build [(.int .i64 0), .nils, .nils, (.int .i64 0)] [(0, 1, (.val (.int .i64 11))), (1, 1, (.tmp 12)), (2, 1, (.tmp 13))], none⟩ ::
    ⟨some 15, .mov (.tmp 1), none⟩ ::
    ⟨some 16, .call (.val (.fn (.func 17) [])) [(.tmp 14), (.tmp 15)], none⟩ ::
    ⟨some 11, .mov (.tmp 16), none⟩ ::
    ⟨some 17, .ext (.tmp 11) 0, none⟩ ::
    ⟨some 18, .ext (.tmp 11) 1, none⟩ ::
    ⟨some 2, .mov (.tmp 17), none⟩ ::
    ⟨some 3, .mov (.tmp 18), none⟩ :: [])) <|
  .seq (.region (⟨some 20, .build [(.int .i64 0), .nils, .nils, (.int .i64 0)] [(0, 1, (.val (.int .i64 18)))], none⟩ ::
    ⟨some 21, .mov (.tmp 1), none⟩ ::
    ⟨some 22, .call (.val (.fn (.func 17) [])) [(.tmp 20), (.tmp 21)], none⟩ ::
    ⟨some 19, .mov (.tmp 22), none⟩ ::
    ⟨some 23, .ext (.tmp 19) 0, none⟩ ::
    ⟨some 24, .ext (.tmp 19) 1, none⟩ ::
    ⟨some 4, .mov (.tmp 23), none⟩ ::
    ⟨some 5, .mov (.tmp 24), none⟩ :: [])) <|
  .seq (.region (⟨some 25, .mov (.tmp 3), none⟩ ::
    ⟨some 26, .bin .eql (.tmp 25) (.val (.int .i64 0)), none⟩ ::
    ⟨some 27, .mov (.tmp 26), none⟩ ::
    ⟨some 28, .mov (.tmp 2), some (27, true)⟩ ::
    ⟨some 29, .len false (.tmp 28), some (27, true)⟩ ::
    ⟨some 30, .bin .eql (.tmp 29) (.val (.int .i64 2)), some (27, true)⟩ ::
    ⟨some 31, .pick (.tmp 27) (.tmp 30) (.val (.bool false)), none⟩ ::
    ⟨some 32, .mov (.tmp 31), none⟩ ::
    ⟨some 33, .mov (.tmp 2), some (32, true)⟩ ::
    ⟨some 34, .iaddr 1 (.tmp 33) (.val (.int .i64 1)), some (32, true)⟩ ::
    ⟨some 35, .load false 1 (.tmp 34), some (32, true)⟩ ::
    ⟨some 36, .build [(.int .i64 0), (.int .i64 0)] [(0, 1, (.val (.int .i64 0))), (1, 1, (.val (.int .i64 0)))], some (32, true)⟩ ::
    ⟨some 37, .bslice 2 [(.tmp 36)], some (32, true)⟩ ::
    ⟨some 38, .call (.val (.fn (.func 19) [])) [(.tmp 35), (.tmp 37)], some (32, true)⟩ ::
    ⟨some 39, .pick (.tmp 32) (.tmp 38) (.val (.bool false)), none⟩ ::
    ⟨some 40, .mov (.tmp 39), none⟩ ::
    ⟨some 41, .mov (.tmp 5), some (40, true)⟩ ::
    ⟨some 42, .bin .eql (.tmp 41) (.val (.int .i64 10)), some (40, true)⟩ ::
    ⟨some 43, .pick (.tmp 40) (.tmp 42) (.val (.bool false)), none⟩ ::
    ⟨some 0, .mov (.tmp 43), none⟩ :: [])) <|
  .ret⟩
theorem e_law15_alive : cFunc Try.prog kd_CLaw15 Try.f15 = some c_law15_alive := by kernel_rfl
/- touchstone/touchstonelaw15.mine: slots c, 0, d, 1, c, 2, d, 3 -/
def c_law15_mine : AFunc := ⟨23, [.tmp 4],
  .seq (.region (⟨some 2, .box 4 (.tmp 0), none⟩ ::
    ⟨some 4, .mov (.val (.bool false)), none⟩ :: [])) <|
  .seq (.region (⟨some 5, .faddr 0 (.tmp 2), none⟩ ::
    ⟨some 6, .load false 1 (.tmp 5), none⟩ ::
    ⟨some 7, .bin .geq (.tmp 6) (.val (.int .i64 11)), none⟩ ::
    ⟨some 8, .mov (.tmp 7), none⟩ ::
    ⟨some 9, .faddr 0 (.tmp 2), some (8, true)⟩ ::
    ⟨some 10, .load false 1 (.tmp 9), some (8, true)⟩ ::
    ⟨some 11, .bin .leq (.tmp 10) (.val (.int .i64 14)), some (8, true)⟩ ::
    ⟨some 12, .pick (.tmp 8) (.tmp 11) (.val (.bool false)), none⟩ ::
    ⟨some 13, .mov (.tmp 12), none⟩ ::
    ⟨some 14, .load true 4 (.tmp 2), some (13, true)⟩ ::
    ⟨some 15, .mov (.tmp 1), some (13, true)⟩ ::
    ⟨some 16, .call (.val (.fn (.func 21) [])) [(.tmp 14), (.tmp 15)], some (13, true)⟩ ::
    ⟨some 17, .pick (.tmp 13) (.tmp 16) (.val (.bool false)), none⟩ ::
    ⟨some 18, .mov (.tmp 17), none⟩ ::
    ⟨some 19, .load true 4 (.tmp 2), some (18, true)⟩ ::
    ⟨some 20, .mov (.tmp 1), some (18, true)⟩ ::
    ⟨some 21, .call (.val (.fn (.func 22) [])) [(.tmp 19), (.tmp 20)], some (18, true)⟩ ::
    ⟨some 22, .pick (.tmp 18) (.tmp 21) (.val (.bool false)), none⟩ ::
    ⟨some 4, .mov (.tmp 22), none⟩ :: [])) <|
  .ret⟩
theorem e_law15_mine : cFunc Try.prog kd_CLaw15 Try.f16 = some c_law15_mine := by kernel_rfl
/- touchstone/touchstonelaw15.LogicNarrows: slots c, 0, d, 1, c, 2, d, 3, x, 5, e, 6, y, 7, f, 8 -/
/- touchstone/touchstonelaw15.LogicOrder: slots c, 0, d, 1, cut, 2, c, 3, d, 4, cut, 5, small, 7, x, 8, e, 9, y, 10, f, 11 -/
end Go.Proofs.Ytonkcemcledhiaa
