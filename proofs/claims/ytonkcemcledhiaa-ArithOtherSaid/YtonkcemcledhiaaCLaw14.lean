/- The code of functions, as abstract code. Printed by program. -/
import Derived.Test.YtonkcemcledhiaaAv2
import Derived.Test.YtonkcemcledhiaaProg
namespace Go.Proofs.Ytonkcemcledhiaa
open Av
set_option linter.unusedVariables false
set_option maxRecDepth 100000
def kd_CLaw14 (f : Nat) : Nat := 0
/- touchstone/touchstonelaw14.alive: slots d, 1, x, 2, e, 3, _, 4, f, 5 -/
def c_law14_alive : AFunc := ⟨45, [.tmp 0],
  .seq (.region (⟨some 0, .mov (.val (.bool false)), none⟩ :: [])) <|
  .seq (.region (⟨some 6, .build [(.int .i64 0), (.int .i64 0)] [(0, 1, (.val (.int .i64 0))), (1, 1, (.val (.int .i64 9)))], none⟩ ::
    ⟨some 7, .bslice 2 [(.tmp 6)], none⟩ ::
    ⟨some 8, .build [(.int .i64 0), (.int .i64 0)] [(0, 1, (.val (.int .i64 2))), (1, 1, (.val (.int .i64 3)))], none⟩ ::
    ⟨some 9, .bslice 2 [(.tmp 8)], none⟩ ::
    ⟨some 10, .build [(.int .i64 0), (.int .i64 0)] [(0, 1, (.val (.int .i64 7))), (1, 1, (.val (.int .i64 8)))], none⟩ ::
    ⟨some 11, .bslice 2 [(.tmp 10)], none⟩ ::
    ⟨some 12, .bslice 1 [(.tmp 7), (.tmp 9), (.tmp 11)], none⟩ ::
    ⟨some 1, .mov (.tmp 12), none⟩ :: [])) <|
  .seq (.region (⟨some 14, .bslice 1 [(.val (.int .i64 0)), (.val (.int .i64 1)), (.val (.int .i64 2))], none⟩ ::
    ⟨some 15, .build [(.int .i64 0), .nils, .nils, (.int .i64 0)] [(0, 1, (.val (.int .i64 7))), (1, 1, (.tmp 14))], none⟩ ::
    ⟨some 16, .mov (.tmp 1), none⟩ ::
    ⟨some 17, .call (.val (.fn (.func 29) [])) [(.tmp 15), (.tmp 16)], none⟩ ::
    ⟨some 13, .mov (.tmp 17), none⟩ ::
    ⟨some 18, .ext (.tmp 13) 0, none⟩ ::
    ⟨some 19, .ext (.tmp 13) 1, none⟩ ::
    ⟨some 2, .mov (.tmp 18), none⟩ ::
    ⟨some 3, .mov (.tmp 19), none⟩ :: [])) <|
  .seq (.region (⟨some 21, .build [(.int .i64 0), .nils, .nils, (.int .i64 0)] [(0, 1, (.val (.int .i64 18)))], none⟩ ::
    ⟨some 22, .mov (.tmp 1), none⟩ ::
    ⟨some 23, .call (.val (.fn (.func 29) [])) [(.tmp 21), (.tmp 22)], none⟩ ::
    ⟨some 20, .mov (.tmp 23), none⟩ ::
    ⟨some 24, .ext (.tmp 20) 0, none⟩ ::
    ⟨some 25, .ext (.tmp 20) 1, none⟩ ::
    ⟨some 4, .mov (.tmp 24), none⟩ ::
    ⟨some 5, .mov (.tmp 25), none⟩ :: [])) <|
  .seq (.region (⟨some 26, .mov (.tmp 3), none⟩ ::
    ⟨some 27, .bin .eql (.tmp 26) (.val (.int .i64 0)), none⟩ ::
    ⟨some 28, .mov (.tmp 27), none⟩ ::
    ⟨some 29, .mov (.tmp 2), some (28, true)⟩ ::
    ⟨some 30, .len false (.tmp 29), some (28, true)⟩ ::
    ⟨some 31, .bin .eql (.tmp 30) (.val (.int .i64 3)), some (28, true)⟩ ::
    ⟨some 32, .pick (.tmp 28) (.tmp 31) (.val (.bool false)), none⟩ ::
    ⟨some 33, .mov (.tmp 32), none⟩ ::
    ⟨some 34, .mov (.tmp 2), some (33, true)⟩ ::
    ⟨some 35, .iaddr 1 (.tmp 34) (.val (.int .i64 0)), some (33, true)⟩ ::
    ⟨some 36, .load false 1 (.tmp 35), some (33, true)⟩ ::
    ⟨some 37, .build [(.int .i64 0), (.int .i64 0)] [(0, 1, (.val (.int .i64 3))), (1, 1, (.val (.int .i64 4)))], some (33, true)⟩ ::
    ⟨some 38, .bslice 2 [(.tmp 37)], some (33, true)⟩ ::
    ⟨some 39, .call (.val (.fn (.func 19) [])) [(.tmp 36), (.tmp 38)], some (33, true)⟩ ::
    ⟨some 40, .pick (.tmp 33) (.tmp 39) (.val (.bool false)), none⟩ ::
    ⟨some 41, .mov (.tmp 40), none⟩ ::
    ⟨some 42, .mov (.tmp 5), some (41, true)⟩ ::
    ⟨some 43, .bin .eql (.tmp 42) (.val (.int .i64 10)), some (41, true)⟩ ::
    ⟨some 44, .pick (.tmp 41) (.tmp 43) (.val (.bool false)), none⟩ ::
    ⟨some 0, .mov (.tmp 44), none⟩ :: [])) <|
  .ret⟩
theorem e_law14_alive : cFunc Try.prog kd_CLaw14 Try.f27 = some c_law14_alive := by kernel_rfl
/- touchstone/touchstonelaw14.mine: slots c, 0, d, 1, c, 2, d, 3 -/
def c_law14_mine : AFunc := ⟨28, [.tmp 4],
  .seq (.region (⟨some 2, .box 4 (.tmp 0), none⟩ ::
    ⟨some 4, .mov (.val (.bool false)), none⟩ :: [])) <|
  .seq (.region (⟨some 5, .faddr 0 (.tmp 2), none⟩ ::
    ⟨some 6, .load false 1 (.tmp 5), none⟩ ::
    ⟨some 7, .bin .geq (.tmp 6) (.val (.int .i64 7)), none⟩ ::
    ⟨some 8, .mov (.tmp 7), none⟩ ::
    ⟨some 9, .faddr 0 (.tmp 2), some (8, true)⟩ ::
    ⟨some 10, .load false 1 (.tmp 9), some (8, true)⟩ ::
    ⟨some 11, .bin .leq (.tmp 10) (.val (.int .i64 10)), some (8, true)⟩ ::
    ⟨some 12, .pick (.tmp 8) (.tmp 11) (.val (.bool false)), none⟩ ::
    ⟨some 13, .mov (.tmp 12), none⟩ ::
    ⟨some 14, .faddr 0 (.tmp 2), some (13, false)⟩ ::
    ⟨some 15, .load false 1 (.tmp 14), some (13, false)⟩ ::
    ⟨some 16, .bin .eql (.tmp 15) (.val (.int .i64 15)), some (13, false)⟩ ::
    ⟨some 17, .pick (.tmp 13) (.val (.bool true)) (.tmp 16), none⟩ ::
    ⟨some 18, .mov (.tmp 17), none⟩ ::
    ⟨some 19, .load true 4 (.tmp 2), some (18, true)⟩ ::
    ⟨some 20, .mov (.tmp 1), some (18, true)⟩ ::
    ⟨some 21, .call (.val (.fn (.func 21) [])) [(.tmp 19), (.tmp 20)], some (18, true)⟩ ::
    ⟨some 22, .pick (.tmp 18) (.tmp 21) (.val (.bool false)), none⟩ ::
    ⟨some 23, .mov (.tmp 22), none⟩ ::
    ⟨some 24, .load true 4 (.tmp 2), some (23, true)⟩ ::
    ⟨some 25, .mov (.tmp 1), some (23, true)⟩ ::
    ⟨some 26, .call (.val (.fn (.func 22) [])) [(.tmp 24), (.tmp 25)], some (23, true)⟩ ::
    ⟨some 27, .pick (.tmp 23) (.tmp 26) (.val (.bool false)), none⟩ ::
    ⟨some 4, .mov (.tmp 27), none⟩ :: [])) <|
  .ret⟩
theorem e_law14_mine : cFunc Try.prog kd_CLaw14 Try.f28 = some c_law14_mine := by kernel_rfl
end Go.Proofs.Ytonkcemcledhiaa
