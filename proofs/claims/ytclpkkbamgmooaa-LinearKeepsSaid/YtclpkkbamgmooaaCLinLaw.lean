/- The code of functions, as abstract code. Printed by program. -/
import Derived.Test.YtclpkkbamgmooaaAv2
import Derived.Test.YtclpkkbamgmooaaProg
namespace Go.Proofs.Ytclpkkbamgmooaa
open Av
set_option linter.unusedVariables false
set_option maxRecDepth 100000
def kd_CLinLaw (f : Nat) : Nat := 0
/- touchstone/touchstonelaw12.alive: slots d, 1, c, 2, out, 3, e, 4, r, 5, ok, 6, _, 7, f, 8 -/
def c_law12_alive : AFunc := ⟨64, [.tmp 0],
  .seq (.region (⟨some 0, .mov (.val (.bool false)), none⟩ :: [])) <|
  .seq (.region (⟨some 9, .build [(.int .i64 0), (.int .i64 0)] [(0, 1, (.val (.int .i64 0))), (1, 1, (.val (.int .i64 5)))], none⟩ ::
    ⟨some 10, .bslice 2 [(.tmp 9)], none⟩ ::
    ⟨some 11, .build [(.int .i64 0), (.int .i64 0)] [(0, 1, (.val (.int .i64 0))), (1, 1, (.val (.int .i64 5)))], none⟩ ::
    ⟨some 12, .bslice 2 [(.tmp 11)], none⟩ ::
    ⟨some 13, .bslice 1 [(.tmp 10), (.tmp 12)], none⟩ ::
    ⟨some 1, .mov (.tmp 13), none⟩ :: [])) <|
  .seq (.region (⟨some 14, .bslice 1 [(.val (.int .i64 0)), (.val (.int .i64 1))], none⟩ ::
    ⟨some 15, .bslice 1 [(.val (.int .i64 1)), (.val (.int .i64 1))], none⟩ ::
    ⟨some 16, .build [(.int .i64 0), .nils, .nils, (.int .i64 0)] [(0, 1, (.val (.int .i64 1))), (1, 1, (.tmp 14)), (2, 1, (.tmp 15)), (3, 1, (.val (.int .i64 9)))], none⟩ ::
    ⟨some 2, .alloc (.agg [(.int .i64 0), .nils, .nils, (.int .i64 0)]), none⟩ ::
    ⟨none, .store 4 (.tmp 2) (.tmp 16), none⟩ :: [])) <|
  .seq (.region (⟨some 18, .load true 4 (.tmp 2), none⟩ ::
    ⟨some 19, .mov (.tmp 1), none⟩ ::
    ⟨some 20, .call (.val (.fn (.func 26) [])) [(.tmp 18), (.tmp 19)], none⟩ ::
    ⟨some 17, .mov (.tmp 20), none⟩ ::
    ⟨some 21, .ext (.tmp 17) 0, none⟩ ::
    ⟨some 22, .ext (.tmp 17) 1, none⟩ ::
    ⟨some 3, .mov (.tmp 21), none⟩ ::
    ⟨some 4, .mov (.tmp 22), none⟩ :: [])) <|
  .seq (.region (⟨some 24, .load true 4 (.tmp 2), none⟩ ::
    ⟨some 25, .mov (.tmp 1), none⟩ ::
    ⟨some 26, .call (.val (.fn (.func 28) [])) [(.tmp 24), (.tmp 25)], none⟩ ::
    ⟨some 23, .mov (.tmp 26), none⟩ ::
    ⟨some 27, .ext (.tmp 23) 0, none⟩ ::
    ⟨some 28, .ext (.tmp 23) 1, none⟩ ::
    ⟨some 5, .alloc (.agg [(.int .i64 0), (.int .i64 0)]), none⟩ ::
    ⟨none, .store 2 (.tmp 5) (.tmp 27), none⟩ ::
    ⟨some 6, .mov (.tmp 28), none⟩ :: [])) <|
  .seq (.region (⟨some 30, .bslice 1 [(.val (.int .i64 0))], none⟩ ::
    ⟨some 31, .bslice 1 [(.val (.int .i64 1))], none⟩ ::
    ⟨some 32, .build [(.int .i64 0), .nils, .nils, (.int .i64 0)] [(0, 1, (.val (.int .i64 2))), (1, 1, (.tmp 30)), (2, 1, (.tmp 31)), (3, 1, (.val (.int .i64 (-1))))], none⟩ ::
    ⟨some 33, .mov (.tmp 1), none⟩ ::
    ⟨some 34, .call (.val (.fn (.func 26) [])) [(.tmp 32), (.tmp 33)], none⟩ ::
    ⟨some 29, .mov (.tmp 34), none⟩ ::
    ⟨some 35, .ext (.tmp 29) 0, none⟩ ::
    ⟨some 36, .ext (.tmp 29) 1, none⟩ ::
    ⟨some 7, .mov (.tmp 35), none⟩ ::
    ⟨some 8, .mov (.tmp 36), none⟩ :: [])) <|
  .seq (.region (⟨some 37, .mov (.tmp 4), none⟩ ::
    ⟨some 38, .bin .eql (.tmp 37) (.val (.int .i64 0)), none⟩ ::
    ⟨some 39, .mov (.tmp 38), none⟩ ::
    ⟨some 40, .mov (.tmp 3), some (39, true)⟩ ::
    ⟨some 41, .len false (.tmp 40), some (39, true)⟩ ::
    ⟨some 42, .bin .eql (.tmp 41) (.val (.int .i64 2)), some (39, true)⟩ ::
    ⟨some 43, .pick (.tmp 39) (.tmp 42) (.val (.bool false)), none⟩ ::
    ⟨some 44, .mov (.tmp 43), none⟩ ::
    ⟨some 45, .mov (.tmp 3), some (44, true)⟩ ::
    ⟨some 46, .iaddr 1 (.tmp 45) (.val (.int .i64 1)), some (44, true)⟩ ::
    ⟨some 47, .load false 1 (.tmp 46), some (44, true)⟩ ::
    ⟨some 48, .build [(.int .i64 0), (.int .i64 0)] [(0, 1, (.val (.int .i64 4))), (1, 1, (.val (.int .i64 5)))], some (44, true)⟩ ::
    ⟨some 49, .bslice 2 [(.tmp 48)], some (44, true)⟩ ::
    ⟨some 50, .call (.val (.fn (.func 24) [])) [(.tmp 47), (.tmp 49)], some (44, true)⟩ ::
    ⟨some 51, .pick (.tmp 44) (.tmp 50) (.val (.bool false)), none⟩ ::
    ⟨some 52, .mov (.tmp 51), none⟩ ::
    ⟨some 53, .mov (.tmp 6), some (52, true)⟩ ::
    ⟨some 54, .pick (.tmp 52) (.tmp 53) (.val (.bool false)), none⟩ ::
    ⟨some 55, .mov (.tmp 54), none⟩ ::
    ⟨some 56, .load true 2 (.tmp 5), some (55, true)⟩ ::
    ⟨some 57, .build [(.int .i64 0), (.int .i64 0)] [(0, 1, (.val (.int .i64 0))), (1, 1, (.val (.int .i64 10)))], some (55, true)⟩ ::
    ⟨some 58, .eqs false 2 (.tmp 56) (.tmp 57), some (55, true)⟩ ::
    ⟨some 59, .pick (.tmp 55) (.tmp 58) (.val (.bool false)), none⟩ ::
    ⟨some 60, .mov (.tmp 59), none⟩ ::
    ⟨some 61, .mov (.tmp 8), some (60, true)⟩ ::
    ⟨some 62, .bin .eql (.tmp 61) (.val (.int .i64 12)), some (60, true)⟩ ::
    ⟨some 63, .pick (.tmp 60) (.tmp 62) (.val (.bool false)), none⟩ ::
    ⟨some 0, .mov (.tmp 63), none⟩ :: [])) <|
  .ret⟩
theorem e_law12_alive : cFunc Try.prog kd_CLinLaw Try.f25 = some c_law12_alive := by kernel_rfl
/- touchstone/touchstonelaw12.LinearEnds: slots c, 0, d, 1, c, 2, d, 3, x, 5, p, 6, y, 7, q, 8 -/
def c_law12_LinearEnds : AFunc := ⟨35, [.tmp 4],
  .seq (.region (⟨some 2, .box 4 (.tmp 0), none⟩ ::
    ⟨some 4, .mov (.val (.bool false)), none⟩ :: [])) <|
  .seq (.seq (.region (⟨some 9, .call (.val (.fn (.func 25) [])) [], none⟩ ::
    ⟨some 10, .un .not (.tmp 9), none⟩ :: [])) <|
  .cond (.tmp 10) (.seq (.region (⟨some 4, .mov (.val (.bool false)), none⟩ :: [])) <|
    .ret) <|
  .skip) <|
  .seq (.seq (.region (⟨some 11, .load true 4 (.tmp 2), none⟩ ::
    ⟨some 12, .mov (.tmp 1), none⟩ ::
    ⟨some 13, .call (.val (.fn (.func 15) [])) [(.tmp 11), (.tmp 12)], none⟩ ::
    ⟨some 14, .un .not (.tmp 13), none⟩ :: [])) <|
  .cond (.tmp 14) (.seq (.region (⟨some 4, .mov (.val (.bool true)), none⟩ :: [])) <|
    .ret) <|
  .skip) <|
  .seq (.region (⟨some 16, .load true 4 (.tmp 2), none⟩ ::
    ⟨some 17, .mov (.tmp 1), none⟩ ::
    ⟨some 18, .call (.val (.fn (.func 28) [])) [(.tmp 16), (.tmp 17)], none⟩ ::
    ⟨some 15, .mov (.tmp 18), none⟩ ::
    ⟨some 19, .ext (.tmp 15) 0, none⟩ ::
    ⟨some 20, .ext (.tmp 15) 1, none⟩ ::
    ⟨some 5, .alloc (.agg [(.int .i64 0), (.int .i64 0)]), none⟩ ::
    ⟨none, .store 2 (.tmp 5) (.tmp 19), none⟩ ::
    ⟨some 6, .mov (.tmp 20), none⟩ :: [])) <|
  .seq (.region (⟨some 22, .load true 4 (.tmp 2), none⟩ ::
    ⟨some 23, .mov (.tmp 1), none⟩ ::
    ⟨some 24, .call (.val (.fn (.func 29) [])) [(.tmp 22), (.tmp 23)], none⟩ ::
    ⟨some 21, .mov (.tmp 24), none⟩ ::
    ⟨some 25, .ext (.tmp 21) 0, none⟩ ::
    ⟨some 26, .ext (.tmp 21) 1, none⟩ ::
    ⟨some 7, .alloc (.agg [(.int .i64 0), (.int .i64 0)]), none⟩ ::
    ⟨none, .store 2 (.tmp 7) (.tmp 25), none⟩ ::
    ⟨some 8, .mov (.tmp 26), none⟩ :: [])) <|
  .seq (.region (⟨some 27, .load true 2 (.tmp 5), none⟩ ::
    ⟨some 28, .load true 2 (.tmp 7), none⟩ ::
    ⟨some 29, .eqs false 2 (.tmp 27) (.tmp 28), none⟩ ::
    ⟨some 30, .mov (.tmp 29), none⟩ ::
    ⟨some 31, .mov (.tmp 6), some (30, true)⟩ ::
    ⟨some 32, .mov (.tmp 8), some (30, true)⟩ ::
    ⟨some 33, .eqb false (.tmp 31) (.tmp 32), some (30, true)⟩ ::
    ⟨some 34, .pick (.tmp 30) (.tmp 33) (.val (.bool false)), none⟩ ::
    ⟨some 4, .mov (.tmp 34), none⟩ :: [])) <|
  .ret⟩
theorem e_law12_LinearEnds : cFunc Try.prog kd_CLinLaw Try.f8 = some c_law12_LinearEnds := by kernel_rfl
end Go.Proofs.Ytclpkkbamgmooaa
