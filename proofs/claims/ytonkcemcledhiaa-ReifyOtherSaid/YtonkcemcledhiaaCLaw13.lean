/- The code of functions, as abstract code. Printed by program. -/
import Derived.Test.YtonkcemcledhiaaAv2
import Derived.Test.YtonkcemcledhiaaProg
namespace Go.Proofs.Ytonkcemcledhiaa
open Av
set_option linter.unusedVariables false
set_option maxRecDepth 100000
def kd_CLaw13 (f : Nat) : Nat := 0
/- touchstone/touchstonelaw13.alive: slots d, 1, c, 2, x, 3, e, 4, _, 5, f, 6 -/
def c_law13_alive : AFunc := ⟨46, [.tmp 0],
  .seq (.region (⟨some 0, .mov (.val (.bool false)), none⟩ :: [])) <|
  .seq (.region (⟨some 7, .build [(.int .i64 0), (.int .i64 0)] [(0, 1, (.val (.int .i64 0))), (1, 1, (.val (.int .i64 9)))], none⟩ ::
    ⟨some 8, .bslice 2 [(.tmp 7)], none⟩ ::
    ⟨some 9, .build [(.int .i64 0), (.int .i64 0)] [(0, 1, (.val (.int .i64 0))), (1, 1, (.val (.int .i64 0)))], none⟩ ::
    ⟨some 10, .bslice 2 [(.tmp 9)], none⟩ ::
    ⟨some 11, .bslice 1 [(.tmp 8), (.tmp 10)], none⟩ ::
    ⟨some 1, .mov (.tmp 11), none⟩ :: [])) <|
  .seq (.region (⟨some 12, .bslice 1 [(.val (.int .i64 0)), (.val (.int .i64 1))], none⟩ ::
    ⟨some 13, .bslice 1 [(.val (.int .i64 1))], none⟩ ::
    ⟨some 14, .build [(.int .i64 0), .nils, .nils, (.int .i64 0)] [(0, 1, (.val (.int .i64 5))), (1, 1, (.tmp 12)), (2, 1, (.tmp 13)), (3, 1, (.val (.int .i64 3)))], none⟩ ::
    ⟨some 2, .alloc (.agg [(.int .i64 0), .nils, .nils, (.int .i64 0)]), none⟩ ::
    ⟨none, .store 4 (.tmp 2) (.tmp 14), none⟩ :: [])) <|
  .seq (.region (⟨some 16, .load true 4 (.tmp 2), none⟩ ::
    ⟨some 17, .mov (.tmp 1), none⟩ ::
    ⟨some 18, .call (.val (.fn (.func 26) [])) [(.tmp 16), (.tmp 17)], none⟩ ::
    ⟨some 15, .mov (.tmp 18), none⟩ ::
    ⟨some 19, .ext (.tmp 15) 0, none⟩ ::
    ⟨some 20, .ext (.tmp 15) 1, none⟩ ::
    ⟨some 3, .mov (.tmp 19), none⟩ ::
    ⟨some 4, .mov (.tmp 20), none⟩ :: [])) <|
  .seq (.region (⟨some 22, .build [(.int .i64 0), .nils, .nils, (.int .i64 0)] [(0, 1, (.val (.int .i64 18)))], none⟩ ::
    ⟨some 23, .mov (.tmp 1), none⟩ ::
    ⟨some 24, .call (.val (.fn (.func 26) [])) [(.tmp 22), (.tmp 23)], none⟩ ::
    ⟨some 21, .mov (.tmp 24), none⟩ ::
    ⟨some 25, .ext (.tmp 21) 0, none⟩ ::
    ⟨some 26, .ext (.tmp 21) 1, none⟩ ::
    ⟨some 5, .mov (.tmp 25), none⟩ ::
    ⟨some 6, .mov (.tmp 26), none⟩ :: [])) <|
  .seq (.region (⟨some 27, .mov (.tmp 4), none⟩ ::
    ⟨some 28, .bin .eql (.tmp 27) (.val (.int .i64 0)), none⟩ ::
    ⟨some 29, .mov (.tmp 28), none⟩ ::
    ⟨some 30, .mov (.tmp 3), some (29, true)⟩ ::
    ⟨some 31, .len false (.tmp 30), some (29, true)⟩ ::
    ⟨some 32, .bin .eql (.tmp 31) (.val (.int .i64 2)), some (29, true)⟩ ::
    ⟨some 33, .pick (.tmp 29) (.tmp 32) (.val (.bool false)), none⟩ ::
    ⟨some 34, .mov (.tmp 33), none⟩ ::
    ⟨some 35, .mov (.tmp 3), some (34, true)⟩ ::
    ⟨some 36, .iaddr 1 (.tmp 35) (.val (.int .i64 0)), some (34, true)⟩ ::
    ⟨some 37, .load false 1 (.tmp 36), some (34, true)⟩ ::
    ⟨some 38, .build [(.int .i64 0), (.int .i64 0)] [(0, 1, (.val (.int .i64 4))), (1, 1, (.val (.int .i64 9)))], some (34, true)⟩ ::
    ⟨some 39, .bslice 2 [(.tmp 38)], some (34, true)⟩ ::
    ⟨some 40, .call (.val (.fn (.func 19) [])) [(.tmp 37), (.tmp 39)], some (34, true)⟩ ::
    ⟨some 41, .pick (.tmp 34) (.tmp 40) (.val (.bool false)), none⟩ ::
    ⟨some 42, .mov (.tmp 41), none⟩ ::
    ⟨some 43, .mov (.tmp 6), some (42, true)⟩ ::
    ⟨some 44, .bin .eql (.tmp 43) (.val (.int .i64 10)), some (42, true)⟩ ::
    ⟨some 45, .pick (.tmp 42) (.tmp 44) (.val (.bool false)), none⟩ ::
    ⟨some 0, .mov (.tmp 45), none⟩ :: [])) <|
  .ret⟩
theorem e_law13_alive : cFunc Try.prog kd_CLaw13 Try.f24 = some c_law13_alive := by kernel_rfl
/- touchstone/touchstonelaw13.mine: slots c, 0, d, 1, c, 2, d, 3 -/
def c_law13_mine : AFunc := ⟨23, [.tmp 4],
  .seq (.region (⟨some 2, .box 4 (.tmp 0), none⟩ ::
    ⟨some 4, .mov (.val (.bool false)), none⟩ :: [])) <|
  .seq (.region (⟨some 5, .faddr 0 (.tmp 2), none⟩ ::
    ⟨some 6, .load false 1 (.tmp 5), none⟩ ::
    ⟨some 7, .bin .geq (.tmp 6) (.val (.int .i64 4)), none⟩ ::
    ⟨some 8, .mov (.tmp 7), none⟩ ::
    ⟨some 9, .faddr 0 (.tmp 2), some (8, true)⟩ ::
    ⟨some 10, .load false 1 (.tmp 9), some (8, true)⟩ ::
    ⟨some 11, .bin .leq (.tmp 10) (.val (.int .i64 6)), some (8, true)⟩ ::
    ⟨some 12, .pick (.tmp 8) (.tmp 11) (.val (.bool false)), none⟩ ::
    ⟨some 13, .mov (.tmp 12), none⟩ ::
    ⟨some 14, .load true 4 (.tmp 2), some (13, true)⟩ ::
    ⟨some 15, .mov (.tmp 1), some (13, true)⟩ ::
    ⟨some 16, .call (.val (.fn (.func 21) [])) [(.tmp 14), (.tmp 15)], some (13, true)⟩ ::
    ⟨some 17, .pick (.tmp 13) (.tmp 16) (.val (.bool false)), none⟩ ::
    ⟨some 18, .mov (.tmp 17), none⟩ ::
    ⟨some 19, .load true 4 (.tmp 2), some (18, true)⟩ ::
    ⟨some 20, .mov (.tmp 1), some (18, true)⟩ ::
    ⟨some 21, .call (.val (.fn (.func 22) [])) [(.tmp 19), (.tmp 20)], some (18, true)⟩ ::
    ⟨some 22, .pick (.tmp 18) (.tmp 21) (.val (.bool false)), none⟩ ::
    ⟨some 4, .mov (.tmp 22), none⟩ :: [])) <|
  .ret⟩
theorem e_law13_mine : cFunc Try.prog kd_CLaw13 Try.f25 = some c_law13_mine := by kernel_rfl
end Go.Proofs.Ytonkcemcledhiaa
