/- The code of functions, as abstract code. Printed by program. -/
import Derived.Test.YtonkcemcledhiaaAv2
import Derived.Test.YtonkcemcledhiaaProg
namespace Go.Proofs.Ytonkcemcledhiaa
open Av
set_option linter.unusedVariables false
set_option maxRecDepth 100000
def kd_CLaw17 (f : Nat) : Nat := 0
/- touchstone/touchstonelaw17.alive: slots d, 1, x, 2, e, 3, _, 4, f, 5 -/
def c_law17_alive : AFunc := ⟨61, [.tmp 0],
  .seq (.region (⟨some 0, .mov (.val (.bool false)), none⟩ :: [])) <|
  .seq (.region (⟨some 6, .build [(.int .i64 0), (.int .i64 0)] [(0, 1, (.val (.int .i64 1))), (1, 1, (.val (.int .i64 2)))], none⟩ ::
    ⟨some 7, .bslice 2 [(.tmp 6)], none⟩ ::
    ⟨some 8, .build [(.int .i64 0), (.int .i64 0)] [(0, 1, (.val (.int .i64 1))), (1, 1, (.val (.int .i64 2)))], none⟩ ::
    ⟨some 9, .bslice 2 [(.tmp 8)], none⟩ ::
    ⟨some 10, .build [(.int .i64 0), (.int .i64 0)] [(0, 1, (.val (.int .i64 1))), (1, 1, (.val (.int .i64 4)))], none⟩ ::
    ⟨some 11, .bslice 2 [(.tmp 10)], none⟩ ::
    ⟨some 12, .bslice 1 [(.tmp 7), (.tmp 9), (.tmp 11)], none⟩ ::
    ⟨some 1, .mov (.tmp 12), none⟩ :: [])) <|
  .seq (.region (⟨some 14, .bslice 1 [(.val (.int .i64 0)), (.val (.int .i64 1)), (.val (.int .i64 2))], none⟩ ::
    ⟨some 15, .build [(.int .i64 0), .nils, .nils, (.int .i64 0)] [(0, 1, (.val (.int .i64 18))), (1, 1, (.tmp 14))], none⟩ ::
    ⟨some 16, .mov (.tmp 1), none⟩ ::
    ⟨some 17, .call (.val (.fn (.func 31) [])) [(.tmp 15), (.tmp 16)], none⟩ ::
    ⟨some 13, .mov (.tmp 17), none⟩ ::
    ⟨some 18, .ext (.tmp 13) 0, none⟩ ::
    ⟨some 19, .ext (.tmp 13) 1, none⟩ ::
    ⟨some 2, .mov (.tmp 18), none⟩ ::
    ⟨some 3, .mov (.tmp 19), none⟩ :: [])) <|
  .seq (.region (⟨some 21, .bslice 1 [(.val (.int .i64 0)), (.val (.int .i64 1))], none⟩ ::
    ⟨some 22, .build [(.int .i64 0), .nils, .nils, (.int .i64 0)] [(0, 1, (.val (.int .i64 15))), (1, 1, (.tmp 21))], none⟩ ::
    ⟨some 23, .mov (.tmp 1), none⟩ ::
    ⟨some 24, .call (.val (.fn (.func 31) [])) [(.tmp 22), (.tmp 23)], none⟩ ::
    ⟨some 20, .mov (.tmp 24), none⟩ ::
    ⟨some 25, .ext (.tmp 20) 0, none⟩ ::
    ⟨some 26, .ext (.tmp 20) 1, none⟩ ::
    ⟨some 4, .mov (.tmp 25), none⟩ ::
    ⟨some 5, .mov (.tmp 26), none⟩ :: [])) <|
  .seq (.region (⟨some 27, .mov (.tmp 3), none⟩ ::
    ⟨some 28, .bin .eql (.tmp 27) (.val (.int .i64 0)), none⟩ ::
    ⟨some 29, .mov (.tmp 28), none⟩ ::
    ⟨some 30, .mov (.tmp 2), some (29, true)⟩ ::
    ⟨some 31, .len false (.tmp 30), some (29, true)⟩ ::
    ⟨some 32, .bin .eql (.tmp 31) (.val (.int .i64 3)), some (29, true)⟩ ::
    ⟨some 33, .pick (.tmp 29) (.tmp 32) (.val (.bool false)), none⟩ ::
    ⟨some 34, .mov (.tmp 33), none⟩ ::
    ⟨some 35, .mov (.tmp 2), some (34, true)⟩ ::
    ⟨some 36, .iaddr 1 (.tmp 35) (.val (.int .i64 2)), some (34, true)⟩ ::
    ⟨some 37, .load false 1 (.tmp 36), some (34, true)⟩ ::
    ⟨some 38, .build [(.int .i64 0), (.int .i64 0)] [(0, 1, (.val (.int .i64 3))), (1, 1, (.val (.int .i64 4)))], some (34, true)⟩ ::
    ⟨some 39, .bslice 2 [(.tmp 38)], some (34, true)⟩ ::
    ⟨some 40, .call (.val (.fn (.func 19) [])) [(.tmp 37), (.tmp 39)], some (34, true)⟩ ::
    ⟨some 41, .pick (.tmp 34) (.tmp 40) (.val (.bool false)), none⟩ ::
    ⟨some 42, .mov (.tmp 41), none⟩ ::
    ⟨some 43, .mov (.tmp 5), some (42, true)⟩ ::
    ⟨some 44, .bin .eql (.tmp 43) (.val (.int .i64 10)), some (42, true)⟩ ::
    ⟨some 45, .pick (.tmp 42) (.tmp 44) (.val (.bool false)), none⟩ ::
    ⟨some 46, .mov (.tmp 45), none⟩ ::
    ⟨some 47, .build [(.int .i64 0), (.int .i64 0)] [(0, 1, (.val (.int .i64 1))), (1, 1, (.val (.int .i64 2)))], some (46, true)⟩ ::
    ⟨some 48, .build [(.int .i64 0), (.int .i64 0)] [(0, 1, (.val (.int .i64 1))), (1, 1, (.val (.int .i64 2)))], some (46, true)⟩ ::
    ⟨some 49, .build [(.int .i64 0), (.int .i64 0)] [(0, 1, (.val (.int .i64 2))), (1, 1, (.val (.int .i64 3)))], some (46, true)⟩ ::
    ⟨some 50, .bslice 2 [(.tmp 47), (.tmp 48), (.tmp 49)], some (46, true)⟩ ::
    ⟨some 51, .call (.val (.fn (.func 38) [])) [(.tmp 50)], some (46, true)⟩ ::
    ⟨some 52, .pick (.tmp 46) (.tmp 51) (.val (.bool false)), none⟩ ::
    ⟨some 53, .mov (.tmp 52), none⟩ ::
    ⟨some 54, .build [(.int .i64 0), (.int .i64 0)] [(0, 1, (.val (.int .i64 1))), (1, 1, (.val (.int .i64 2)))], some (53, true)⟩ ::
    ⟨some 55, .build [(.int .i64 0), (.int .i64 0)] [(0, 1, (.val (.int .i64 1))), (1, 1, (.val (.int .i64 2)))], some (53, true)⟩ ::
    ⟨some 56, .build [(.int .i64 0), (.int .i64 0)] [(0, 1, (.val (.int .i64 1))), (1, 1, (.val (.int .i64 2)))], some (53, true)⟩ ::
    ⟨some 57, .bslice 2 [(.tmp 54), (.tmp 55), (.tmp 56)], some (53, true)⟩ ::
    ⟨some 58, .call (.val (.fn (.func 38) [])) [(.tmp 57)], some (53, true)⟩ ::
    ⟨some 59, .un .not (.tmp 58), some (53, true)⟩ ::
    ⟨some 60, .pick (.tmp 53) (.tmp 59) (.val (.bool false)), none⟩ ::
    ⟨some 0, .mov (.tmp 60), none⟩ :: [])) <|
  .ret⟩
theorem e_law17_alive : cFunc Try.prog kd_CLaw17 Try.f30 = some c_law17_alive := by kernel_rfl
/- touchstone/touchstonelaw17.mine: slots c, 0, d, 1, c, 2, d, 3 -/
/- touchstone/touchstonelaw17.HallRooms: slots l, 0, l, 1 -/
end Go.Proofs.Ytonkcemcledhiaa
