/- The code of functions, as abstract code. Printed by program. -/
import Derived.Test.YtclpkkbamgmooaaAv2
import Derived.Test.YtclpkkbamgmooaaProg
namespace Go.Proofs.Ytclpkkbamgmooaa
open Av
set_option linter.unusedVariables false
set_option maxRecDepth 100000
def kd_CLaw15 (f : Nat) : Nat := 0
/- touchstone/touchstonelaw15.alive: slots d, 1, x, 2, e, 3, _, 4, f, 5 -/
def c_law15_alive : AFunc := ⟨44, [.tmp 0],
  .seq (.region (⟨some 0, .mov (.val (.bool false)), none⟩ :: [])) <|
  .seq (.region (⟨some 6, .build [(.int .i64 0), (.int .i64 0)] [(0, 1, (.val (.int .i64 0))), (1, 1, (.val (.int .i64 0)))], none⟩ ::
    ⟨some 7, .bslice 2 [(.tmp 6)], none⟩ ::
    ⟨some 8, .build [(.int .i64 0), (.int .i64 0)] [(0, 1, (.val (.int .i64 0))), (1, 1, (.val (.int .i64 1)))], none⟩ ::
    ⟨some 9, .bslice 2 [(.tmp 8)], none⟩ ::
    ⟨some 10, .bslice 1 [(.tmp 7), (.tmp 9)], none⟩ ::
    ⟨some 1, .mov (.tmp 10), none⟩ :: [])) <|
  .seq (.region (⟨some 12, .bslice 1 [(.val (.int .i64 0)), (.val (.int .i64 1))], none⟩ ::
    ⟨some 13, .bslice 1 [(.val (.int .i64 1)), (.val (.int .i64 (-1)))], none⟩ ::
    ⟨some 14, .build [(.int .i64 0), .nils, .nils, (.int .i64 0)] [(0, 1, (.val (.int .i64 11))), (1, 1, (.tmp 12)), (2, 1, (.tmp 13))], none⟩ ::
    ⟨some 15, .mov (.tmp 1), none⟩ ::
    ⟨some 16, .call (.val (.fn (.func 16) [])) [(.tmp 14), (.tmp 15)], none⟩ ::
    ⟨some 11, .mov (.tmp 16), none⟩ ::
    ⟨some 17, .ext (.tmp 11) 0, none⟩ ::
    ⟨some 18, .ext (.tmp 11) 1, none⟩ ::
    ⟨some 2, .mov (.tmp 17), none⟩ ::
    ⟨some 3, .mov (.tmp 18), none⟩ :: [])) <|
  .seq (.region (⟨some 20, .build [(.int .i64 0), .nils, .nils, (.int .i64 0)] [(0, 1, (.val (.int .i64 18)))], none⟩ ::
    ⟨some 21, .mov (.tmp 1), none⟩ ::
    ⟨some 22, .call (.val (.fn (.func 16) [])) [(.tmp 20), (.tmp 21)], none⟩ ::
    ⟨some 19, .mov (.tmp 22), none⟩ ::
    ⟨some 23, .ext (.tmp 19) 0, none⟩ ::
    ⟨some 24, .ext (.tmp 19) 1, none⟩ ::
    ⟨some 4, .mov (.tmp 23), none⟩ ::
    ⟨some 5, .mov (.tmp 24), none⟩ :: [])) <|
  .seq (.region (⟨some 25, .mov (.tmp 3), none⟩ ::
    ⟨some 26, .bin .eql (.tmp 25) (.val (.int .i64 0)), none⟩ ::
    ⟨some 27, .mov (.tmp 26), none⟩ ::
    ⟨some 28, .mov (.tmp 2), some (27, true)⟩ ::
    ⟨some 29, .len false (.tmp 28), some (27, true)⟩ ::
    ⟨some 30, .bin .eql (.tmp 29) (.val (.int .i64 2)), some (27, true)⟩ ::
    ⟨some 31, .pick (.tmp 27) (.tmp 30) (.val (.bool false)), none⟩ ::
    ⟨some 32, .mov (.tmp 31), none⟩ ::
    ⟨some 33, .mov (.tmp 2), some (32, true)⟩ ::
    ⟨some 34, .iaddr 1 (.tmp 33) (.val (.int .i64 1)), some (32, true)⟩ ::
    ⟨some 35, .load false 1 (.tmp 34), some (32, true)⟩ ::
    ⟨some 36, .build [(.int .i64 0), (.int .i64 0)] [(0, 1, (.val (.int .i64 0))), (1, 1, (.val (.int .i64 0)))], some (32, true)⟩ ::
    ⟨some 37, .bslice 2 [(.tmp 36)], some (32, true)⟩ ::
    ⟨some 38, .call (.val (.fn (.func 24) [])) [(.tmp 35), (.tmp 37)], some (32, true)⟩ ::
    ⟨some 39, .pick (.tmp 32) (.tmp 38) (.val (.bool false)), none⟩ ::
    ⟨some 40, .mov (.tmp 39), none⟩ ::
    ⟨some 41, .mov (.tmp 5), some (40, true)⟩ ::
    ⟨some 42, .bin .eql (.tmp 41) (.val (.int .i64 10)), some (40, true)⟩ ::
    ⟨some 43, .pick (.tmp 40) (.tmp 42) (.val (.bool false)), none⟩ ::
    ⟨some 0, .mov (.tmp 43), none⟩ :: [])) <|
  .ret⟩
theorem e_law15_alive : cFunc Try.prog kd_CLaw15 Try.f14 = some c_law15_alive := by kernel_rfl
/- touchstone/touchstonelaw15.mine: slots c, 0, d, 1, c, 2, d, 3 -/
def c_law15_mine : AFunc := ⟨23, [.tmp 4],
  .seq (.region (⟨some 2, .box 4 (.tmp 0), none⟩ ::
    ⟨some 4, .mov (.val (.bool false)), none⟩ :: [])) <|
  .seq (.region (⟨some 5, .faddr 0 (.tmp 2), none⟩ ::
    ⟨some 6, .load false 1 (.tmp 5), none⟩ ::
    ⟨some 7, .bin .geq (.tmp 6) (.val (.int .i64 11)), none⟩ ::
    ⟨some 8, .mov (.tmp 7), none⟩ ::
    ⟨some 9, .faddr 0 (.tmp 2), some (8, true)⟩ ::
    ⟨some 10, .load false 1 (.tmp 9), some (8, true)⟩ ::
    ⟨some 11, .bin .leq (.tmp 10) (.val (.int .i64 14)), some (8, true)⟩ ::
    ⟨some 12, .pick (.tmp 8) (.tmp 11) (.val (.bool false)), none⟩ ::
    ⟨some 13, .mov (.tmp 12), none⟩ ::
    ⟨some 14, .load true 4 (.tmp 2), some (13, true)⟩ ::
    ⟨some 15, .mov (.tmp 1), some (13, true)⟩ ::
    ⟨some 16, .call (.val (.fn (.func 15) [])) [(.tmp 14), (.tmp 15)], some (13, true)⟩ ::
    ⟨some 17, .pick (.tmp 13) (.tmp 16) (.val (.bool false)), none⟩ ::
    ⟨some 18, .mov (.tmp 17), none⟩ ::
    ⟨some 19, .load true 4 (.tmp 2), some (18, true)⟩ ::
    ⟨some 20, .mov (.tmp 1), some (18, true)⟩ ::
    ⟨some 21, .call (.val (.fn (.func 30) [])) [(.tmp 19), (.tmp 20)], some (18, true)⟩ ::
    ⟨some 22, .pick (.tmp 18) (.tmp 21) (.val (.bool false)), none⟩ ::
    ⟨some 4, .mov (.tmp 22), none⟩ :: [])) <|
  .ret⟩
theorem e_law15_mine : cFunc Try.prog kd_CLaw15 Try.f20 = some c_law15_mine := by kernel_rfl
/- touchstone/touchstonelaw15.LogicNarrows: slots c, 0, d, 1, c, 2, d, 3, x, 5, e, 6, y, 7, f, 8 -/
def c_law15_LogicNarrows : AFunc := ⟨35, [.tmp 4],
  .seq (.region (⟨some 2, .box 4 (.tmp 0), none⟩ ::
    ⟨some 4, .mov (.val (.bool false)), none⟩ :: [])) <|
  .seq (.seq (.region (⟨some 9, .call (.val (.fn (.func 14) [])) [], none⟩ ::
    ⟨some 10, .un .not (.tmp 9), none⟩ :: [])) <|
  .cond (.tmp 10) (.seq (.region (⟨some 4, .mov (.val (.bool false)), none⟩ :: [])) <|
    .ret) <|
  .skip) <|
  .seq (.seq (.region (⟨some 11, .load true 4 (.tmp 2), none⟩ ::
    ⟨some 12, .mov (.tmp 1), none⟩ ::
    ⟨some 13, .call (.val (.fn (.func 15) [])) [(.tmp 11), (.tmp 12)], none⟩ ::
    ⟨some 14, .un .not (.tmp 13), none⟩ :: [])) <|
  .cond (.tmp 14) (.seq (.region (⟨some 4, .mov (.val (.bool true)), none⟩ :: [])) <|
    .ret) <|
  .skip) <|
  .seq (.region (⟨some 16, .load true 4 (.tmp 2), none⟩ ::
    ⟨some 17, .mov (.tmp 1), none⟩ ::
    ⟨some 18, .call (.val (.fn (.func 16) [])) [(.tmp 16), (.tmp 17)], none⟩ ::
    ⟨some 15, .mov (.tmp 18), none⟩ ::
    ⟨some 19, .ext (.tmp 15) 0, none⟩ ::
    ⟨some 20, .ext (.tmp 15) 1, none⟩ ::
    ⟨some 5, .mov (.tmp 19), none⟩ ::
    ⟨some 6, .mov (.tmp 20), none⟩ :: [])) <|
  .seq (.region (⟨some 22, .load true 4 (.tmp 2), none⟩ ::
    ⟨some 23, .mov (.tmp 1), none⟩ ::
    ⟨some 24, .call (.val (.fn (.func 17) [])) [(.tmp 22), (.tmp 23)], none⟩ ::
    ⟨some 21, .mov (.tmp 24), none⟩ ::
    ⟨some 25, .ext (.tmp 21) 0, none⟩ ::
    ⟨some 26, .ext (.tmp 21) 1, none⟩ ::
    ⟨some 7, .mov (.tmp 25), none⟩ ::
    ⟨some 8, .mov (.tmp 26), none⟩ :: [])) <|
  .seq (.region (⟨some 27, .mov (.tmp 5), none⟩ ::
    ⟨some 28, .mov (.tmp 7), none⟩ ::
    ⟨some 29, .call (.val (.fn (.func 18) [])) [(.tmp 27), (.tmp 28)], none⟩ ::
    ⟨some 30, .mov (.tmp 29), none⟩ ::
    ⟨some 31, .mov (.tmp 6), some (30, true)⟩ ::
    ⟨some 32, .mov (.tmp 8), some (30, true)⟩ ::
    ⟨some 33, .bin .eql (.tmp 31) (.tmp 32), some (30, true)⟩ ::
    ⟨some 34, .pick (.tmp 30) (.tmp 33) (.val (.bool false)), none⟩ ::
    ⟨some 4, .mov (.tmp 34), none⟩ :: [])) <|
  .ret⟩
theorem e_law15_LogicNarrows : cFunc Try.prog kd_CLaw15 Try.f3 = some c_law15_LogicNarrows := by kernel_rfl
/- touchstone/touchstonelaw15.LogicOrder: slots c, 0, d, 1, cut, 2, c, 3, d, 4, cut, 5, small, 7, x, 8, e, 9, y, 10, f, 11 -/
def c_law15_LogicOrder : AFunc := ⟨59, [.tmp 6],
  .seq (.region (⟨some 3, .box 4 (.tmp 0), none⟩ ::
    ⟨some 6, .mov (.val (.bool false)), none⟩ :: [])) <|
  .seq (.seq (.region (⟨some 12, .call (.val (.fn (.func 14) [])) [], none⟩ ::
    ⟨some 13, .un .not (.tmp 12), none⟩ :: [])) <|
  .cond (.tmp 13) (.seq (.region (⟨some 6, .mov (.val (.bool false)), none⟩ :: [])) <|
    .ret) <|
  .skip) <|
  .seq (.seq (.region (⟨some 14, .load true 4 (.tmp 3), none⟩ ::
    ⟨some 15, .mov (.tmp 1), none⟩ ::
    ⟨some 16, .call (.val (.fn (.func 20) [])) [(.tmp 14), (.tmp 15)], none⟩ ::
    ⟨some 17, .un .not (.tmp 16), none⟩ ::
    ⟨some 18, .mov (.tmp 17), none⟩ ::
    ⟨some 19, .mov (.tmp 2), some (18, false)⟩ ::
    ⟨some 20, .len false (.tmp 19), some (18, false)⟩ ::
    ⟨some 21, .mov (.tmp 1), some (18, false)⟩ ::
    ⟨some 22, .len false (.tmp 21), some (18, false)⟩ ::
    ⟨some 23, .bin .neq (.tmp 20) (.tmp 22), some (18, false)⟩ ::
    ⟨some 24, .pick (.tmp 18) (.val (.bool true)) (.tmp 23), none⟩ :: [])) <|
  .cond (.tmp 24) (.seq (.region (⟨some 6, .mov (.val (.bool true)), none⟩ :: [])) <|
    .ret) <|
  .skip) <|
  .seq (.region (⟨some 25, .mov (.tmp 1), none⟩ ::
    ⟨some 26, .mov (.tmp 2), none⟩ ::
    ⟨some 27, .call (.val (.fn (.func 22) [])) [(.tmp 25), (.tmp 26)], none⟩ ::
    ⟨some 7, .mov (.tmp 27), none⟩ :: [])) <|
  .seq (.region (⟨some 29, .load true 4 (.tmp 3), none⟩ ::
    ⟨some 30, .mov (.tmp 1), none⟩ ::
    ⟨some 31, .call (.val (.fn (.func 16) [])) [(.tmp 29), (.tmp 30)], none⟩ ::
    ⟨some 28, .mov (.tmp 31), none⟩ ::
    ⟨some 32, .ext (.tmp 28) 0, none⟩ ::
    ⟨some 33, .ext (.tmp 28) 1, none⟩ ::
    ⟨some 8, .mov (.tmp 32), none⟩ ::
    ⟨some 9, .mov (.tmp 33), none⟩ :: [])) <|
  .seq (.region (⟨some 35, .load true 4 (.tmp 3), none⟩ ::
    ⟨some 36, .mov (.tmp 7), none⟩ ::
    ⟨some 37, .call (.val (.fn (.func 16) [])) [(.tmp 35), (.tmp 36)], none⟩ ::
    ⟨some 34, .mov (.tmp 37), none⟩ ::
    ⟨some 38, .ext (.tmp 34) 0, none⟩ ::
    ⟨some 39, .ext (.tmp 34) 1, none⟩ ::
    ⟨some 10, .mov (.tmp 38), none⟩ ::
    ⟨some 11, .mov (.tmp 39), none⟩ :: [])) <|
  .seq (.seq (.region (⟨some 40, .mov (.tmp 9), none⟩ ::
    ⟨some 41, .bin .eql (.tmp 40) (.val (.int .i64 12)), none⟩ :: [])) <|
  .cond (.tmp 41) (.seq (.region (⟨some 42, .mov (.tmp 11), none⟩ ::
      ⟨some 43, .bin .eql (.tmp 42) (.val (.int .i64 12)), none⟩ ::
      ⟨some 6, .mov (.tmp 43), none⟩ :: [])) <|
    .ret) <|
  .skip) <|
  .seq (.region (⟨some 44, .mov (.tmp 9), none⟩ ::
    ⟨some 45, .bin .eql (.tmp 44) (.val (.int .i64 0)), none⟩ ::
    ⟨some 46, .mov (.tmp 45), none⟩ ::
    ⟨some 47, .mov (.tmp 11), some (46, true)⟩ ::
    ⟨some 48, .bin .eql (.tmp 47) (.val (.int .i64 12)), some (46, true)⟩ ::
    ⟨some 49, .mov (.tmp 48), some (46, true)⟩ ::
    ⟨some 50, .mov (.tmp 11), some (49, false)⟩ ::
    ⟨some 51, .bin .eql (.tmp 50) (.val (.int .i64 0)), some (49, false)⟩ ::
    ⟨some 52, .mov (.tmp 51), some (49, false)⟩ ::
    ⟨some 53, .mov (.tmp 10), some (52, true)⟩ ::
    ⟨some 54, .mov (.tmp 8), some (52, true)⟩ ::
    ⟨some 55, .call (.val (.fn (.func 23) [])) [(.tmp 53), (.tmp 54)], some (52, true)⟩ ::
    ⟨some 56, .pick (.tmp 52) (.tmp 55) (.val (.bool false)), some (49, false)⟩ ::
    ⟨some 57, .pick (.tmp 49) (.val (.bool true)) (.tmp 56), some (46, true)⟩ ::
    ⟨some 58, .pick (.tmp 46) (.tmp 57) (.val (.bool false)), none⟩ ::
    ⟨some 6, .mov (.tmp 58), none⟩ :: [])) <|
  .ret⟩
theorem e_law15_LogicOrder : cFunc Try.prog kd_CLaw15 Try.f5 = some c_law15_LogicOrder := by kernel_rfl
/- touchstone/touchstonelaw12.Smaller: slots d, 0, cut, 1, d, 2, cut, 3, out, 5, x, 6, m, 7 -/
def c_law12_Smaller : AFunc := ⟨43, [.tmp 4],
  .seq (.region (⟨some 4, .mov (.val .nils), none⟩ :: [])) <|
  .seq (.region (⟨some 5, .mov (.val .nils), none⟩ :: [])) <|
  .seq (.seq (.region (⟨some 8, .mov (.tmp 0), none⟩ ::
    ⟨some 9, .len false (.tmp 8), none⟩ ::
    ⟨some 10, .mov (.val (.int .i64 0)), none⟩ :: [])) <|
  .block 0 (.loop (.seq (.region (⟨some 11, .bin .lss (.tmp 10) (.tmp 9), none⟩ :: [])) <|
      .seq (.cond (.tmp 11) (.skip) <|
      .exit 0) <|
      .seq (.block 1 (.seq (.region (⟨some 12, .mov (.tmp 10), none⟩ ::
          ⟨some 6, .mov (.tmp 12), none⟩ :: [])) <|
        .seq (.region (⟨some 13, .mov (.tmp 0), none⟩ ::
          ⟨some 14, .mov (.tmp 6), none⟩ ::
          ⟨some 15, .iaddr 1 (.tmp 13) (.tmp 14), none⟩ ::
          ⟨some 16, .load false 1 (.tmp 15), none⟩ ::
          ⟨some 17, .mov (.tmp 1), none⟩ ::
          ⟨some 18, .mov (.tmp 6), none⟩ ::
          ⟨some 19, .iaddr 1 (.tmp 17) (.tmp 18), none⟩ ::
          ⟨some 20, .load false 1 (.tmp 19), none⟩ ::
          ⟨some 21, .call (.val (.fn (.func 46) [])) [(.tmp 16), (.tmp 20)], none⟩ ::
          ⟨some 7, .mov (.tmp 21), none⟩ :: [])) <|
        .seq (.seq (.region (⟨some 22, .mov (.tmp 7), none⟩ ::
          ⟨some 23, .len false (.tmp 22), none⟩ ::
          ⟨some 24, .bin .eql (.tmp 23) (.val (.int .i64 0)), none⟩ ::
          ⟨some 25, .mov (.tmp 24), none⟩ ::
          ⟨some 26, .mov (.tmp 1), some (25, false)⟩ ::
          ⟨some 27, .mov (.tmp 6), some (25, false)⟩ ::
          ⟨some 28, .iaddr 1 (.tmp 26) (.tmp 27), some (25, false)⟩ ::
          ⟨some 29, .load false 1 (.tmp 28), some (25, false)⟩ ::
          ⟨some 30, .len false (.tmp 29), some (25, false)⟩ ::
          ⟨some 31, .bin .gtr (.tmp 30) (.val (.int .i64 100)), some (25, false)⟩ ::
          ⟨some 32, .pick (.tmp 25) (.val (.bool true)) (.tmp 31), none⟩ :: [])) <|
        .cond (.tmp 32) (.region (⟨some 33, .mov (.tmp 0), none⟩ ::
            ⟨some 34, .mov (.tmp 6), none⟩ ::
            ⟨some 35, .iaddr 1 (.tmp 33) (.tmp 34), none⟩ ::
            ⟨some 36, .load false 1 (.tmp 35), none⟩ ::
            ⟨some 7, .mov (.tmp 36), none⟩ :: [])) <|
        .skip) <|
        .region (⟨some 37, .mov (.tmp 5), none⟩ ::
          ⟨some 38, .mov (.tmp 7), none⟩ ::
          ⟨some 39, .bslice 1 [(.tmp 38)], none⟩ ::
          ⟨some 40, .app 1 24 (.tmp 37) (.tmp 39), none⟩ ::
          ⟨some 5, .mov (.tmp 40), none⟩ :: []))) <|
      .region (⟨some 41, .bin .add (.tmp 10) (.val (.int .i64 1)), none⟩ ::
        ⟨some 10, .mov (.tmp 41), none⟩ :: [])))) <|
  .seq (.region (⟨some 42, .mov (.tmp 5), none⟩ ::
    ⟨some 4, .mov (.tmp 42), none⟩ :: [])) <|
  .ret⟩
theorem e_law12_Smaller : cFunc Try.prog kd_CLaw15 Try.f22 = some c_law12_Smaller := by kernel_rfl
/- touchstone/touchstonelaw12.Under: slots a, 0, b, 1, a, 2, b, 3, x, 5 -/
def c_law12_Under : AFunc := ⟨32, [.tmp 4],
  .seq (.region (⟨some 4, .mov (.val (.bool false)), none⟩ :: [])) <|
  .seq (.seq (.region (⟨some 6, .mov (.tmp 0), none⟩ ::
    ⟨some 7, .len false (.tmp 6), none⟩ ::
    ⟨some 8, .mov (.tmp 1), none⟩ ::
    ⟨some 9, .len false (.tmp 8), none⟩ ::
    ⟨some 10, .bin .neq (.tmp 7) (.tmp 9), none⟩ :: [])) <|
  .cond (.tmp 10) (.seq (.region (⟨some 4, .mov (.val (.bool false)), none⟩ :: [])) <|
    .ret) <|
  .skip) <|
  .seq (.seq (.region (⟨some 11, .mov (.tmp 0), none⟩ ::
    ⟨some 12, .len false (.tmp 11), none⟩ ::
    ⟨some 13, .mov (.val (.int .i64 0)), none⟩ :: [])) <|
  .block 0 (.loop (.seq (.region (⟨some 14, .bin .lss (.tmp 13) (.tmp 12), none⟩ :: [])) <|
      .seq (.cond (.tmp 14) (.skip) <|
      .exit 0) <|
      .seq (.block 1 (.seq (.region (⟨some 15, .mov (.tmp 13), none⟩ ::
          ⟨some 5, .mov (.tmp 15), none⟩ :: [])) <|
        .seq (.region (⟨some 16, .mov (.tmp 0), none⟩ ::
          ⟨some 17, .mov (.tmp 5), none⟩ ::
          ⟨some 18, .iaddr 1 (.tmp 16) (.tmp 17), none⟩ ::
          ⟨some 19, .load false 1 (.tmp 18), none⟩ ::
          ⟨some 20, .mov (.tmp 1), none⟩ ::
          ⟨some 21, .mov (.tmp 5), none⟩ ::
          ⟨some 22, .iaddr 1 (.tmp 20) (.tmp 21), none⟩ ::
          ⟨some 23, .load false 1 (.tmp 22), none⟩ ::
          ⟨some 24, .call (.val (.fn (.func 46) [])) [(.tmp 19), (.tmp 23)], none⟩ ::
          ⟨some 25, .mov (.tmp 0), none⟩ ::
          ⟨some 26, .mov (.tmp 5), none⟩ ::
          ⟨some 27, .iaddr 1 (.tmp 25) (.tmp 26), none⟩ ::
          ⟨some 28, .load false 1 (.tmp 27), none⟩ ::
          ⟨some 29, .call (.val (.fn (.func 45) [])) [(.tmp 24), (.tmp 28)], none⟩ ::
          ⟨some 30, .un .not (.tmp 29), none⟩ :: [])) <|
        .cond (.tmp 30) (.seq (.region (⟨some 4, .mov (.val (.bool false)), none⟩ :: [])) <|
          .ret) <|
        .skip)) <|
      .region (⟨some 31, .bin .add (.tmp 13) (.val (.int .i64 1)), none⟩ ::
        ⟨some 13, .mov (.tmp 31), none⟩ :: [])))) <|
  .seq (.region (⟨some 4, .mov (.val (.bool true)), none⟩ :: [])) <|
  .ret⟩
theorem e_law12_Under : cFunc Try.prog kd_CLaw15 Try.f23 = some c_law12_Under := by kernel_rfl
/- touchstone/touchstonetop.WholeClause: slots x, 0, flag, 1, d, 2, x, 3, flag, 4, d, 5, one, 7, y, 8, e, 9, or, 10, clause, 11, a, 12, b, 13, f, 14 -/
def c_top_WholeClause : AFunc := ⟨102, [.tmp 6],
  .seq (.region (⟨some 6, .mov (.val (.bool false)), none⟩ :: [])) <|
  .seq (.region (⟨some 15, .build [(.int .i64 0), (.int .i64 0)] [(0, 1, (.val (.int .i64 0))), (1, 1, (.val (.int .i64 1)))], none⟩ ::
    ⟨some 16, .bslice 2 [(.tmp 15)], none⟩ ::
    ⟨some 17, .build [(.int .i64 0), (.int .i64 0)] [(0, 1, (.val (.int .i64 1))), (1, 1, (.val (.int .i64 1)))], none⟩ ::
    ⟨some 18, .bslice 2 [(.tmp 17)], none⟩ ::
    ⟨some 19, .bslice 1 [(.tmp 16), (.tmp 18)], none⟩ ::
    ⟨some 7, .mov (.tmp 19), none⟩ :: [])) <|
  .seq (.region (⟨some 21, .bslice 1 [(.val (.int .i64 0)), (.val (.int .i64 1))], none⟩ ::
    ⟨some 22, .build [(.int .i64 0), .nils, .nils, (.int .i64 0)] [(0, 1, (.val (.int .i64 13))), (1, 1, (.tmp 21))], none⟩ ::
    ⟨some 23, .mov (.tmp 7), none⟩ ::
    ⟨some 24, .call (.val (.fn (.func 16) [])) [(.tmp 22), (.tmp 23)], none⟩ ::
    ⟨some 20, .mov (.tmp 24), none⟩ ::
    ⟨some 25, .ext (.tmp 20) 0, none⟩ ::
    ⟨some 26, .ext (.tmp 20) 1, none⟩ ::
    ⟨some 8, .mov (.tmp 25), none⟩ ::
    ⟨some 9, .mov (.tmp 26), none⟩ :: [])) <|
  .seq (.seq (.region (⟨some 27, .mov (.tmp 9), none⟩ ::
    ⟨some 28, .bin .neq (.tmp 27) (.val (.int .i64 0)), none⟩ ::
    ⟨some 29, .mov (.tmp 28), none⟩ ::
    ⟨some 30, .mov (.tmp 8), some (29, false)⟩ ::
    ⟨some 31, .len false (.tmp 30), some (29, false)⟩ ::
    ⟨some 32, .bin .neq (.tmp 31) (.val (.int .i64 2)), some (29, false)⟩ ::
    ⟨some 33, .pick (.tmp 29) (.val (.bool true)) (.tmp 32), none⟩ ::
    ⟨some 34, .mov (.tmp 33), none⟩ ::
    ⟨some 35, .mov (.tmp 8), some (34, false)⟩ ::
    ⟨some 36, .iaddr 1 (.tmp 35) (.val (.int .i64 0)), some (34, false)⟩ ::
    ⟨some 37, .load false 1 (.tmp 36), some (34, false)⟩ ::
    ⟨some 38, .build [(.int .i64 0), (.int .i64 0)] [(0, 1, (.val (.int .i64 1))), (1, 1, (.val (.int .i64 1)))], some (34, false)⟩ ::
    ⟨some 39, .bslice 2 [(.tmp 38)], some (34, false)⟩ ::
    ⟨some 40, .call (.val (.fn (.func 24) [])) [(.tmp 37), (.tmp 39)], some (34, false)⟩ ::
    ⟨some 41, .un .not (.tmp 40), some (34, false)⟩ ::
    ⟨some 42, .pick (.tmp 34) (.val (.bool true)) (.tmp 41), none⟩ :: [])) <|
  .cond (.tmp 42) (.seq (.region (⟨some 6, .mov (.val (.bool false)), none⟩ :: [])) <|
    .ret) <|
  .skip) <|
  .seq (.seq (.region (⟨some 43, .mov (.tmp 0), none⟩ ::
    ⟨some 44, .len false (.tmp 43), none⟩ ::
    ⟨some 45, .bin .gtr (.tmp 44) (.val (.int .i64 31)), none⟩ :: [])) <|
  .cond (.tmp 45) (.seq (.region (⟨some 6, .mov (.val (.bool true)), none⟩ :: [])) <|
    .ret) <|
  .skip) <|
  .seq (.region (⟨some 46, .mov (.tmp 0), none⟩ ::
    ⟨some 47, .app 1 8 (.val .nils) (.tmp 46), none⟩ ::
    ⟨some 48, .mov (.tmp 1), none⟩ ::
    ⟨some 49, .bslice 1 [(.tmp 48)], none⟩ ::
    ⟨some 50, .app 1 8 (.tmp 47) (.tmp 49), none⟩ ::
    ⟨some 51, .build [(.int .i64 0), .nils, .nils, (.int .i64 0)] [(0, 1, (.val (.int .i64 13))), (1, 1, (.tmp 50))], none⟩ ::
    ⟨some 10, .alloc (.agg [(.int .i64 0), .nils, .nils, (.int .i64 0)]), none⟩ ::
    ⟨none, .store 4 (.tmp 10) (.tmp 51), none⟩ :: [])) <|
  .seq (.region (⟨some 52, .mov (.tmp 0), none⟩ ::
    ⟨some 53, .build [(.int .i64 0), .nils, .nils, (.int .i64 0)] [(0, 1, (.val (.int .i64 11))), (1, 1, (.tmp 52))], none⟩ ::
    ⟨some 11, .alloc (.agg [(.int .i64 0), .nils, .nils, (.int .i64 0)]), none⟩ ::
    ⟨none, .store 4 (.tmp 11) (.tmp 53), none⟩ :: [])) <|
  .seq (.seq (.region (⟨some 54, .mov (.tmp 0), none⟩ ::
    ⟨some 55, .len false (.tmp 54), none⟩ ::
    ⟨some 56, .mov (.val (.int .i64 0)), none⟩ :: [])) <|
  .block 0 (.loop (.seq (.region (⟨some 57, .bin .lss (.tmp 56) (.tmp 55), none⟩ :: [])) <|
      .seq (.cond (.tmp 57) (.skip) <|
      .exit 0) <|
      .seq (.block 1 (.region (⟨some 58, .faddr 2 (.tmp 11), none⟩ ::
          ⟨some 59, .load false 1 (.tmp 58), none⟩ ::
          ⟨some 60, .bslice 1 [(.val (.int .i64 1))], none⟩ ::
          ⟨some 61, .app 1 8 (.tmp 59) (.tmp 60), none⟩ ::
          ⟨some 62, .faddr 2 (.tmp 11), none⟩ ::
          ⟨none, .store 1 (.tmp 62) (.tmp 61), none⟩ :: []))) <|
      .region (⟨some 63, .bin .add (.tmp 56) (.val (.int .i64 1)), none⟩ ::
        ⟨some 56, .mov (.tmp 63), none⟩ :: [])))) <|
  .seq (.seq (.region (⟨some 64, .load true 4 (.tmp 10), none⟩ ::
    ⟨some 65, .mov (.tmp 2), none⟩ ::
    ⟨some 66, .call (.val (.fn (.func 15) [])) [(.tmp 64), (.tmp 65)], none⟩ ::
    ⟨some 67, .un .not (.tmp 66), none⟩ ::
    ⟨some 68, .mov (.tmp 67), none⟩ ::
    ⟨some 69, .load true 4 (.tmp 10), some (68, false)⟩ ::
    ⟨some 70, .mov (.tmp 2), some (68, false)⟩ ::
    ⟨some 71, .call (.val (.fn (.func 30) [])) [(.tmp 69), (.tmp 70)], some (68, false)⟩ ::
    ⟨some 72, .un .not (.tmp 71), some (68, false)⟩ ::
    ⟨some 73, .pick (.tmp 68) (.val (.bool true)) (.tmp 72), none⟩ ::
    ⟨some 74, .mov (.tmp 73), none⟩ ::
    ⟨some 75, .mov (.tmp 2), some (74, false)⟩ ::
    ⟨some 76, .mov (.tmp 1), some (74, false)⟩ ::
    ⟨some 77, .iaddr 1 (.tmp 75) (.tmp 76), some (74, false)⟩ ::
    ⟨some 78, .load false 1 (.tmp 77), some (74, false)⟩ ::
    ⟨some 79, .call (.val (.fn (.func 32) [])) [(.tmp 78)], some (74, false)⟩ ::
    ⟨some 80, .bin .neq (.tmp 79) (.val (.int .i64 1)), some (74, false)⟩ ::
    ⟨some 81, .pick (.tmp 74) (.val (.bool true)) (.tmp 80), none⟩ :: [])) <|
  .cond (.tmp 81) (.seq (.region (⟨some 6, .mov (.val (.bool true)), none⟩ :: [])) <|
    .ret) <|
  .skip) <|
  .seq (.region (⟨some 83, .load true 4 (.tmp 10), none⟩ ::
    ⟨some 84, .mov (.tmp 2), none⟩ ::
    ⟨some 85, .call (.val (.fn (.func 16) [])) [(.tmp 83), (.tmp 84)], none⟩ ::
    ⟨some 82, .mov (.tmp 85), none⟩ ::
    ⟨some 86, .ext (.tmp 82) 0, none⟩ ::
    ⟨some 87, .ext (.tmp 82) 1, none⟩ ::
    ⟨some 12, .mov (.tmp 86), none⟩ ::
    ⟨some 9, .mov (.tmp 87), none⟩ :: [])) <|
  .seq (.region (⟨some 89, .load true 4 (.tmp 11), none⟩ ::
    ⟨some 90, .mov (.tmp 2), none⟩ ::
    ⟨some 91, .call (.val (.fn (.func 16) [])) [(.tmp 89), (.tmp 90)], none⟩ ::
    ⟨some 88, .mov (.tmp 91), none⟩ ::
    ⟨some 92, .ext (.tmp 88) 0, none⟩ ::
    ⟨some 93, .ext (.tmp 88) 1, none⟩ ::
    ⟨some 13, .mov (.tmp 92), none⟩ ::
    ⟨some 14, .mov (.tmp 93), none⟩ :: [])) <|
  .seq (.region (⟨some 94, .mov (.tmp 9), none⟩ ::
    ⟨some 95, .mov (.tmp 14), none⟩ ::
    ⟨some 96, .bin .eql (.tmp 94) (.tmp 95), none⟩ ::
    ⟨some 97, .mov (.tmp 96), none⟩ ::
    ⟨some 98, .mov (.tmp 12), some (97, true)⟩ ::
    ⟨some 99, .mov (.tmp 13), some (97, true)⟩ ::
    ⟨some 100, .call (.val (.fn (.func 18) [])) [(.tmp 98), (.tmp 99)], some (97, true)⟩ ::
    ⟨some 101, .pick (.tmp 97) (.tmp 100) (.val (.bool false)), none⟩ ::
    ⟨some 6, .mov (.tmp 101), none⟩ :: [])) <|
  .ret⟩
theorem e_top_WholeClause : cFunc Try.prog kd_CLaw15 Try.f12 = some c_top_WholeClause := by kernel_rfl
end Go.Proofs.Ytclpkkbamgmooaa
