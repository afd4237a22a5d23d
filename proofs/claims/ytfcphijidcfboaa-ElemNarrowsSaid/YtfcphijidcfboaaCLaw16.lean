/- The code of functions, as abstract code. Printed by program. -/
import Derived.Test.YtfcphijidcfboaaAv2
import Derived.Test.YtfcphijidcfboaaProg
namespace Go.Proofs.Ytfcphijidcfboaa
open Av
set_option linter.unusedVariables false
set_option maxRecDepth 100000
def kd_CLaw16 (f : Nat) : Nat := 0
/- touchstone/touchstonelaw16.alive: slots d, 1, x, 2, e, 3, _, 4, f, 5 -/
def c_law16_alive : AFunc := ⟨53, [.tmp 0],
  .seq (.region (⟨some 0, .mov (.val (.bool false)), none⟩ :: [])) <|
  .seq (.region (⟨some 6, .build [(.int .i64 0), (.int .i64 0)] [(0, 1, (.val (.int .i64 0))), (1, 1, (.val (.int .i64 9)))], none⟩ ::
    ⟨some 7, .bslice 2 [(.tmp 6)], none⟩ ::
    ⟨some 8, .build [(.int .i64 0), (.int .i64 0)] [(0, 1, (.val (.int .i64 5))), (1, 1, (.val (.int .i64 6)))], none⟩ ::
    ⟨some 9, .bslice 2 [(.tmp 8)], none⟩ ::
    ⟨some 10, .bslice 1 [(.tmp 7), (.tmp 9)], none⟩ ::
    ⟨some 1, .mov (.tmp 10), none⟩ :: [])) <|
  .seq (.region (⟨some 12, .bslice 1 [(.val (.int .i64 0)), (.val (.int .i64 1))], none⟩ ::
    ⟨some 13, .bslice 1 [(.val (.int .i64 5)), (.val (.int .i64 7)), (.val (.int .i64 5))], none⟩ ::
    ⟨some 14, .build [(.int .i64 0), .nils, .nils, (.int .i64 0)] [(0, 1, (.val (.int .i64 16))), (1, 1, (.tmp 12)), (2, 1, (.tmp 13))], none⟩ ::
    ⟨some 15, .mov (.tmp 1), none⟩ ::
    ⟨some 16, .call (.val (.fn (.func 15) [])) [(.tmp 14), (.tmp 15)], none⟩ ::
    ⟨some 11, .mov (.tmp 16), none⟩ ::
    ⟨some 17, .ext (.tmp 11) 0, none⟩ ::
    ⟨some 18, .ext (.tmp 11) 1, none⟩ ::
    ⟨some 2, .mov (.tmp 17), none⟩ ::
    ⟨some 3, .mov (.tmp 18), none⟩ :: [])) <|
  .seq (.region (⟨some 20, .build [(.int .i64 0), .nils, .nils, (.int .i64 0)] [(0, 1, (.val (.int .i64 18)))], none⟩ ::
    ⟨some 21, .mov (.tmp 1), none⟩ ::
    ⟨some 22, .call (.val (.fn (.func 15) [])) [(.tmp 20), (.tmp 21)], none⟩ ::
    ⟨some 19, .mov (.tmp 22), none⟩ ::
    ⟨some 23, .ext (.tmp 19) 0, none⟩ ::
    ⟨some 24, .ext (.tmp 19) 1, none⟩ ::
    ⟨some 4, .mov (.tmp 23), none⟩ ::
    ⟨some 5, .mov (.tmp 24), none⟩ :: [])) <|
  .seq (.region (⟨some 25, .mov (.tmp 3), none⟩ ::
    ⟨some 26, .bin .eql (.tmp 25) (.val (.int .i64 0)), none⟩ ::
    ⟨some 27, .mov (.tmp 26), none⟩ ::
    ⟨some 28, .mov (.tmp 2), some (27, true)⟩ ::
    ⟨some 29, .len false (.tmp 28), some (27, true)⟩ ::
    ⟨some 30, .bin .eql (.tmp 29) (.val (.int .i64 2)), some (27, true)⟩ ::
    ⟨some 31, .pick (.tmp 27) (.tmp 30) (.val (.bool false)), none⟩ ::
    ⟨some 32, .mov (.tmp 31), none⟩ ::
    ⟨some 33, .mov (.tmp 2), some (32, true)⟩ ::
    ⟨some 34, .iaddr 1 (.tmp 33) (.val (.int .i64 0)), some (32, true)⟩ ::
    ⟨some 35, .load false 1 (.tmp 34), some (32, true)⟩ ::
    ⟨some 36, .build [(.int .i64 0), (.int .i64 0)] [(0, 1, (.val (.int .i64 1))), (1, 1, (.val (.int .i64 1)))], some (32, true)⟩ ::
    ⟨some 37, .build [(.int .i64 0), (.int .i64 0)] [(0, 1, (.val (.int .i64 3))), (1, 1, (.val (.int .i64 3)))], some (32, true)⟩ ::
    ⟨some 38, .bslice 2 [(.tmp 36), (.tmp 37)], some (32, true)⟩ ::
    ⟨some 39, .call (.val (.fn (.func 16) [])) [(.tmp 35), (.tmp 38)], some (32, true)⟩ ::
    ⟨some 40, .pick (.tmp 32) (.tmp 39) (.val (.bool false)), none⟩ ::
    ⟨some 41, .mov (.tmp 40), none⟩ ::
    ⟨some 42, .mov (.tmp 2), some (41, true)⟩ ::
    ⟨some 43, .iaddr 1 (.tmp 42) (.val (.int .i64 1)), some (41, true)⟩ ::
    ⟨some 44, .load false 1 (.tmp 43), some (41, true)⟩ ::
    ⟨some 45, .build [(.int .i64 0), (.int .i64 0)] [(0, 1, (.val (.int .i64 5))), (1, 1, (.val (.int .i64 5)))], some (41, true)⟩ ::
    ⟨some 46, .bslice 2 [(.tmp 45)], some (41, true)⟩ ::
    ⟨some 47, .call (.val (.fn (.func 16) [])) [(.tmp 44), (.tmp 46)], some (41, true)⟩ ::
    ⟨some 48, .pick (.tmp 41) (.tmp 47) (.val (.bool false)), none⟩ ::
    ⟨some 49, .mov (.tmp 48), none⟩ ::
    ⟨some 50, .mov (.tmp 5), some (49, true)⟩ ::
    ⟨some 51, .bin .eql (.tmp 50) (.val (.int .i64 10)), some (49, true)⟩ ::
    ⟨some 52, .pick (.tmp 49) (.tmp 51) (.val (.bool false)), none⟩ ::
    ⟨some 0, .mov (.tmp 52), none⟩ :: [])) <|
  .ret⟩
theorem e_law16_alive : cFunc Try.prog kd_CLaw16 Try.f20 = some c_law16_alive := by kernel_rfl
/- touchstone/touchstonelaw16.mine: slots c, 0, d, 1, c, 2, d, 3 -/
def c_law16_mine : AFunc := ⟨23, [.tmp 4],
  .seq (.region (⟨some 2, .box 4 (.tmp 0), none⟩ ::
    ⟨some 4, .mov (.val (.bool false)), none⟩ :: [])) <|
  .seq (.region (⟨some 5, .faddr 0 (.tmp 2), none⟩ ::
    ⟨some 6, .load false 1 (.tmp 5), none⟩ ::
    ⟨some 7, .bin .eql (.tmp 6) (.val (.int .i64 16)), none⟩ ::
    ⟨some 8, .mov (.tmp 7), none⟩ ::
    ⟨some 9, .faddr 0 (.tmp 2), some (8, false)⟩ ::
    ⟨some 10, .load false 1 (.tmp 9), some (8, false)⟩ ::
    ⟨some 11, .bin .eql (.tmp 10) (.val (.int .i64 17)), some (8, false)⟩ ::
    ⟨some 12, .pick (.tmp 8) (.val (.bool true)) (.tmp 11), none⟩ ::
    ⟨some 13, .mov (.tmp 12), none⟩ ::
    ⟨some 14, .load true 4 (.tmp 2), some (13, true)⟩ ::
    ⟨some 15, .mov (.tmp 1), some (13, true)⟩ ::
    ⟨some 16, .call (.val (.fn (.func 17) [])) [(.tmp 14), (.tmp 15)], some (13, true)⟩ ::
    ⟨some 17, .pick (.tmp 13) (.tmp 16) (.val (.bool false)), none⟩ ::
    ⟨some 18, .mov (.tmp 17), none⟩ ::
    ⟨some 19, .load true 4 (.tmp 2), some (18, true)⟩ ::
    ⟨some 20, .mov (.tmp 1), some (18, true)⟩ ::
    ⟨some 21, .call (.val (.fn (.func 18) [])) [(.tmp 19), (.tmp 20)], some (18, true)⟩ ::
    ⟨some 22, .pick (.tmp 18) (.tmp 21) (.val (.bool false)), none⟩ ::
    ⟨some 4, .mov (.tmp 22), none⟩ :: [])) <|
  .ret⟩
theorem e_law16_mine : cFunc Try.prog kd_CLaw16 Try.f23 = some c_law16_mine := by kernel_rfl
/- touchstone/touchstonelaw16.ElemOrder: slots c, 0, d, 1, cut, 2, c, 3, d, 4, cut, 5, small, 7, x, 8, e, 9, y, 10, f, 11 -/
def c_law16_ElemOrder : AFunc := ⟨59, [.tmp 6],
  .seq (.region (⟨some 3, .box 4 (.tmp 0), none⟩ ::
    ⟨some 6, .mov (.val (.bool false)), none⟩ :: [])) <|
  .seq (.seq (.region (⟨some 12, .call (.val (.fn (.func 20) [])) [], none⟩ ::
    ⟨some 13, .un .not (.tmp 12), none⟩ :: [])) <|
  .cond (.tmp 13) (.seq (.region (⟨some 6, .mov (.val (.bool false)), none⟩ :: [])) <|
    .ret) <|
  .skip) <|
  .seq (.seq (.region (⟨some 14, .load true 4 (.tmp 3), none⟩ ::
    ⟨some 15, .mov (.tmp 1), none⟩ ::
    ⟨some 16, .call (.val (.fn (.func 23) [])) [(.tmp 14), (.tmp 15)], none⟩ ::
    ⟨some 17, .un .not (.tmp 16), none⟩ ::
    ⟨some 18, .mov (.tmp 17), none⟩ ::
    ⟨some 19, .mov (.tmp 2), some (18, false)⟩ ::
    ⟨some 20, .len false (.tmp 19), some (18, false)⟩ ::
    ⟨some 21, .mov (.tmp 1), some (18, false)⟩ ::
    ⟨some 22, .len false (.tmp 21), some (18, false)⟩ ::
    ⟨some 23, .bin .neq (.tmp 20) (.tmp 22), some (18, false)⟩ ::
    ⟨some 24, .pick (.tmp 18) (.val (.bool true)) (.tmp 23), none⟩ :: [])) <|
  .cond (.tmp 24) (.seq (.region (⟨some 6, .mov (.val (.bool true)), none⟩ :: [])) <|
    .ret) <|
  .skip) <|
  .seq (.region (⟨some 25, .mov (.tmp 1), none⟩ ::
    ⟨some 26, .mov (.tmp 2), none⟩ ::
    ⟨some 27, .call (.val (.fn (.func 25) [])) [(.tmp 25), (.tmp 26)], none⟩ ::
    ⟨some 7, .mov (.tmp 27), none⟩ :: [])) <|
  .seq (.region (⟨some 29, .load true 4 (.tmp 3), none⟩ ::
    ⟨some 30, .mov (.tmp 1), none⟩ ::
    ⟨some 31, .call (.val (.fn (.func 15) [])) [(.tmp 29), (.tmp 30)], none⟩ ::
    ⟨some 28, .mov (.tmp 31), none⟩ ::
    ⟨some 32, .ext (.tmp 28) 0, none⟩ ::
    ⟨some 33, .ext (.tmp 28) 1, none⟩ ::
    ⟨some 8, .mov (.tmp 32), none⟩ ::
    ⟨some 9, .mov (.tmp 33), none⟩ :: [])) <|
  .seq (.region (⟨some 35, .load true 4 (.tmp 3), none⟩ ::
    ⟨some 36, .mov (.tmp 7), none⟩ ::
    ⟨some 37, .call (.val (.fn (.func 15) [])) [(.tmp 35), (.tmp 36)], none⟩ ::
    ⟨some 34, .mov (.tmp 37), none⟩ ::
    ⟨some 38, .ext (.tmp 34) 0, none⟩ ::
    ⟨some 39, .ext (.tmp 34) 1, none⟩ ::
    ⟨some 10, .mov (.tmp 38), none⟩ ::
    ⟨some 11, .mov (.tmp 39), none⟩ :: [])) <|
  .seq (.seq (.region (⟨some 40, .mov (.tmp 9), none⟩ ::
    ⟨some 41, .bin .eql (.tmp 40) (.val (.int .i64 12)), none⟩ :: [])) <|
  .cond (.tmp 41) (.seq (.region (⟨some 42, .mov (.tmp 11), none⟩ ::
      ⟨some 43, .bin .eql (.tmp 42) (.val (.int .i64 12)), none⟩ ::
      ⟨some 6, .mov (.tmp 43), none⟩ :: [])) <|
    .ret) <|
  .skip) <|
  .seq (.region (⟨some 44, .mov (.tmp 9), none⟩ ::
    ⟨some 45, .bin .eql (.tmp 44) (.val (.int .i64 0)), none⟩ ::
    ⟨some 46, .mov (.tmp 45), none⟩ ::
    ⟨some 47, .mov (.tmp 11), some (46, true)⟩ ::
    ⟨some 48, .bin .eql (.tmp 47) (.val (.int .i64 12)), some (46, true)⟩ ::
    ⟨some 49, .mov (.tmp 48), some (46, true)⟩ ::
    ⟨some 50, .mov (.tmp 11), some (49, false)⟩ ::
    ⟨some 51, .bin .eql (.tmp 50) (.val (.int .i64 0)), some (49, false)⟩ ::
    ⟨some 52, .mov (.tmp 51), some (49, false)⟩ ::
    ⟨some 53, .mov (.tmp 10), some (52, true)⟩ ::
    ⟨some 54, .mov (.tmp 8), some (52, true)⟩ ::
    ⟨some 55, .call (.val (.fn (.func 26) [])) [(.tmp 53), (.tmp 54)], some (52, true)⟩ ::
    ⟨some 56, .pick (.tmp 52) (.tmp 55) (.val (.bool false)), some (49, false)⟩ ::
    ⟨some 57, .pick (.tmp 49) (.val (.bool true)) (.tmp 56), some (46, true)⟩ ::
    ⟨some 58, .pick (.tmp 46) (.tmp 57) (.val (.bool false)), none⟩ ::
    ⟨some 6, .mov (.tmp 58), none⟩ :: [])) <|
  .ret⟩
theorem e_law16_ElemOrder : cFunc Try.prog kd_CLaw16 Try.f6 = some c_law16_ElemOrder := by kernel_rfl
/- touchstone/touchstonelaw16.ElemKeeps: slots c, 0, d, 1, c, 2, d, 3, out, 5, e, 6 -/
def c_law16_ElemKeeps : AFunc := ⟨35, [.tmp 4],
  .seq (.region (⟨some 2, .box 4 (.tmp 0), none⟩ ::
    ⟨some 4, .mov (.val (.bool false)), none⟩ :: [])) <|
  .seq (.seq (.region (⟨some 7, .call (.val (.fn (.func 20) [])) [], none⟩ ::
    ⟨some 8, .un .not (.tmp 7), none⟩ :: [])) <|
  .cond (.tmp 8) (.seq (.region (⟨some 4, .mov (.val (.bool false)), none⟩ :: [])) <|
    .ret) <|
  .skip) <|
  .seq (.seq (.region (⟨some 9, .load true 4 (.tmp 2), none⟩ ::
    ⟨some 10, .mov (.tmp 1), none⟩ ::
    ⟨some 11, .call (.val (.fn (.func 17) [])) [(.tmp 9), (.tmp 10)], none⟩ ::
    ⟨some 12, .un .not (.tmp 11), none⟩ ::
    ⟨some 13, .mov (.tmp 12), none⟩ ::
    ⟨some 14, .mov (.tmp 1), some (13, false)⟩ ::
    ⟨some 15, .call (.val (.fn (.func 22) [])) [(.tmp 14)], some (13, false)⟩ ::
    ⟨some 16, .un .not (.tmp 15), some (13, false)⟩ ::
    ⟨some 17, .pick (.tmp 13) (.val (.bool true)) (.tmp 16), none⟩ ::
    ⟨some 18, .mov (.tmp 17), none⟩ ::
    ⟨some 19, .load true 4 (.tmp 2), some (18, false)⟩ ::
    ⟨some 20, .mov (.tmp 1), some (18, false)⟩ ::
    ⟨some 21, .call (.val (.fn (.func 23) [])) [(.tmp 19), (.tmp 20)], some (18, false)⟩ ::
    ⟨some 22, .un .not (.tmp 21), some (18, false)⟩ ::
    ⟨some 23, .pick (.tmp 18) (.val (.bool true)) (.tmp 22), none⟩ :: [])) <|
  .cond (.tmp 23) (.seq (.region (⟨some 4, .mov (.val (.bool true)), none⟩ :: [])) <|
    .ret) <|
  .skip) <|
  .seq (.region (⟨some 25, .load true 4 (.tmp 2), none⟩ ::
    ⟨some 26, .mov (.tmp 1), none⟩ ::
    ⟨some 27, .call (.val (.fn (.func 15) [])) [(.tmp 25), (.tmp 26)], none⟩ ::
    ⟨some 24, .mov (.tmp 27), none⟩ ::
    ⟨some 28, .ext (.tmp 24) 0, none⟩ ::
    ⟨some 29, .ext (.tmp 24) 1, none⟩ ::
    ⟨some 5, .mov (.tmp 28), none⟩ ::
    ⟨some 6, .mov (.tmp 29), none⟩ :: [])) <|
  .seq (.region (⟨some 30, .load true 4 (.tmp 2), none⟩ ::
    ⟨some 31, .mov (.tmp 1), none⟩ ::
    ⟨some 32, .mov (.tmp 5), none⟩ ::
    ⟨some 33, .mov (.tmp 6), none⟩ ::
    ⟨some 34, .call (.val (.fn (.func 24) [])) [(.tmp 30), (.tmp 31), (.tmp 32), (.tmp 33)], none⟩ ::
    ⟨some 4, .mov (.tmp 34), none⟩ :: [])) <|
  .ret⟩
theorem e_law16_ElemKeeps : cFunc Try.prog kd_CLaw16 Try.f5 = some c_law16_ElemKeeps := by kernel_rfl
/- touchstone/touchstonelaw16.ElemNarrows: slots c, 0, d, 1, c, 2, d, 3, x, 5, e, 6, y, 7, f, 8 -/
def c_law16_ElemNarrows : AFunc := ⟨35, [.tmp 4],
  .seq (.region (⟨some 2, .box 4 (.tmp 0), none⟩ ::
    ⟨some 4, .mov (.val (.bool false)), none⟩ :: [])) <|
  .seq (.seq (.region (⟨some 9, .call (.val (.fn (.func 20) [])) [], none⟩ ::
    ⟨some 10, .un .not (.tmp 9), none⟩ :: [])) <|
  .cond (.tmp 10) (.seq (.region (⟨some 4, .mov (.val (.bool false)), none⟩ :: [])) <|
    .ret) <|
  .skip) <|
  .seq (.seq (.region (⟨some 11, .load true 4 (.tmp 2), none⟩ ::
    ⟨some 12, .mov (.tmp 1), none⟩ ::
    ⟨some 13, .call (.val (.fn (.func 17) [])) [(.tmp 11), (.tmp 12)], none⟩ ::
    ⟨some 14, .un .not (.tmp 13), none⟩ :: [])) <|
  .cond (.tmp 14) (.seq (.region (⟨some 4, .mov (.val (.bool true)), none⟩ :: [])) <|
    .ret) <|
  .skip) <|
  .seq (.region (⟨some 16, .load true 4 (.tmp 2), none⟩ ::
    ⟨some 17, .mov (.tmp 1), none⟩ ::
    ⟨some 18, .call (.val (.fn (.func 15) [])) [(.tmp 16), (.tmp 17)], none⟩ ::
    ⟨some 15, .mov (.tmp 18), none⟩ ::
    ⟨some 19, .ext (.tmp 15) 0, none⟩ ::
    ⟨some 20, .ext (.tmp 15) 1, none⟩ ::
    ⟨some 5, .mov (.tmp 19), none⟩ ::
    ⟨some 6, .mov (.tmp 20), none⟩ :: [])) <|
  .seq (.region (⟨some 22, .load true 4 (.tmp 2), none⟩ ::
    ⟨some 23, .mov (.tmp 1), none⟩ ::
    ⟨some 24, .call (.val (.fn (.func 21) [])) [(.tmp 22), (.tmp 23)], none⟩ ::
    ⟨some 21, .mov (.tmp 24), none⟩ ::
    ⟨some 25, .ext (.tmp 21) 0, none⟩ ::
    ⟨some 26, .ext (.tmp 21) 1, none⟩ ::
    ⟨some 7, .mov (.tmp 25), none⟩ ::
    ⟨some 8, .mov (.tmp 26), none⟩ :: [])) <|
  .seq (.region (⟨some 27, .mov (.tmp 5), none⟩ ::
    ⟨some 28, .mov (.tmp 7), none⟩ ::
    ⟨some 29, .call (.val (.fn (.func 19) [])) [(.tmp 27), (.tmp 28)], none⟩ ::
    ⟨some 30, .mov (.tmp 29), none⟩ ::
    ⟨some 31, .mov (.tmp 6), some (30, true)⟩ ::
    ⟨some 32, .mov (.tmp 8), some (30, true)⟩ ::
    ⟨some 33, .bin .eql (.tmp 31) (.tmp 32), some (30, true)⟩ ::
    ⟨some 34, .pick (.tmp 30) (.tmp 33) (.val (.bool false)), none⟩ ::
    ⟨some 4, .mov (.tmp 34), none⟩ :: [])) <|
  .ret⟩
theorem e_law16_ElemNarrows : cFunc Try.prog kd_CLaw16 Try.f4 = some c_law16_ElemNarrows := by kernel_rfl
end Go.Proofs.Ytfcphijidcfboaa
