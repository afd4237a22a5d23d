/- The code of functions, as abstract code. Printed by program. -/
import Derived.Test.YtfcphijidcfboaaAv2
import Derived.Test.YtfcphijidcfboaaProg
namespace Go.Proofs.Ytfcphijidcfboaa
open Av
set_option linter.unusedVariables false
set_option maxRecDepth 100000
def kd_CLaw11 (f : Nat) : Nat := if f = 31 then 1 else if f = 38 then 1 else 0
/- touchstone/touchstonelaw11.alive: slots lin, 1, n, 2, ok, 3, m, 4 -/
def c_law11_alive : AFunc := ⟨62, [.tmp 0],
  .seq (.region (⟨some 0, .mov (.val (.bool false)), none⟩ :: [])) <|
  .seq (.region (⟨some 5, .bslice 1 [(.val (.int .i64 0)), (.val (.int .i64 1))], none⟩ ::
    ⟨some 6, .bslice 1 [(.val (.int .i64 2)), (.val (.int .i64 (-1)))], none⟩ ::
    ⟨some 7, .build [(.int .i64 0), .nils, .nils, (.int .i64 0)] [(0, 1, (.val (.int .i64 2))), (1, 1, (.tmp 5)), (2, 1, (.tmp 6)), (3, 1, (.val (.int .i64 3)))], none⟩ ::
    ⟨some 1, .alloc (.agg [(.int .i64 0), .nils, .nils, (.int .i64 0)]), none⟩ ::
    ⟨none, .store 4 (.tmp 1) (.tmp 7), none⟩ :: [])) <|
  .seq (.region (⟨some 9, .load true 4 (.tmp 1), none⟩ ::
    ⟨some 10, .bslice 1 [(.val (.int .i64 2)), (.val (.int .i64 0))], none⟩ ::
    ⟨some 11, .call (.val (.fn (.func 29) [])) [(.tmp 9), (.tmp 10)], none⟩ ::
    ⟨some 8, .mov (.tmp 11), none⟩ ::
    ⟨some 12, .ext (.tmp 8) 0, none⟩ ::
    ⟨some 13, .ext (.tmp 8) 1, none⟩ ::
    ⟨some 2, .mov (.tmp 12), none⟩ ::
    ⟨some 3, .mov (.tmp 13), none⟩ :: [])) <|
  .seq (.region (⟨some 14, .build [(.int .i64 0), (.int .i64 0)] [(0, 1, (.val (.int .i64 0))), (1, 1, (.val (.int .i64 3)))], none⟩ ::
    ⟨some 15, .bslice 2 [(.tmp 14)], none⟩ ::
    ⟨some 16, .build [(.int .i64 0), (.int .i64 0)] [(0, 1, (.val (.int .i64 0))), (1, 1, (.val (.int .i64 3)))], none⟩ ::
    ⟨some 17, .bslice 2 [(.tmp 16)], none⟩ ::
    ⟨some 18, .bslice 1 [(.tmp 15), (.tmp 17)], none⟩ ::
    ⟨some 19, .load true 4 (.tmp 1), none⟩ ::
    ⟨some 20, .bslice 4 [(.tmp 19)], none⟩ ::
    ⟨some 21, .build [.nils, .nils, (.int .i64 0), (.int .i64 0)] [(0, 1, (.tmp 18)), (1, 1, (.tmp 20)), (2, 1, (.val (.int .i64 1)))], none⟩ ::
    ⟨some 4, .alloc (.agg [.nils, .nils, (.int .i64 0), (.int .i64 0)]), none⟩ ::
    ⟨none, .store 4 (.tmp 4) (.tmp 21), none⟩ :: [])) <|
  .seq (.region (⟨some 22, .load true 4 (.tmp 1), none⟩ ::
    ⟨some 23, .bslice 1 [(.val (.int .i64 2)), (.val (.int .i64 1))], none⟩ ::
    ⟨some 24, .callv (.val (.fn (.func 31) [])) [(.tmp 22), (.tmp 23)], none⟩ ::
    ⟨some 25, .mov (.tmp 24), none⟩ ::
    ⟨some 26, .load true 4 (.tmp 1), some (25, true)⟩ ::
    ⟨some 27, .bslice 1 [(.val (.int .i64 2)), (.val (.int .i64 0))], some (25, true)⟩ ::
    ⟨some 28, .callv (.val (.fn (.func 31) [])) [(.tmp 26), (.tmp 27)], some (25, true)⟩ ::
    ⟨some 29, .un .not (.tmp 28), some (25, true)⟩ ::
    ⟨some 30, .pick (.tmp 25) (.tmp 29) (.val (.bool false)), none⟩ ::
    ⟨some 31, .mov (.tmp 30), none⟩ ::
    ⟨some 32, .mov (.tmp 2), some (31, true)⟩ ::
    ⟨some 33, .bin .eql (.tmp 32) (.val (.int .i64 4)), some (31, true)⟩ ::
    ⟨some 34, .pick (.tmp 31) (.tmp 33) (.val (.bool false)), none⟩ ::
    ⟨some 35, .mov (.tmp 34), none⟩ ::
    ⟨some 36, .mov (.tmp 3), some (35, true)⟩ ::
    ⟨some 37, .pick (.tmp 35) (.tmp 36) (.val (.bool false)), none⟩ ::
    ⟨some 38, .mov (.tmp 37), none⟩ ::
    ⟨some 39, .load true 4 (.tmp 4), some (38, true)⟩ ::
    ⟨some 40, .bslice 1 [(.val (.int .i64 2)), (.val (.int .i64 1))], some (38, true)⟩ ::
    ⟨some 41, .call (.val (.fn (.func 34) [])) [(.tmp 39), (.tmp 40)], some (38, true)⟩ ::
    ⟨some 42, .pick (.tmp 38) (.tmp 41) (.val (.bool false)), none⟩ ::
    ⟨some 43, .mov (.tmp 42), none⟩ ::
    ⟨some 44, .load true 4 (.tmp 4), some (43, true)⟩ ::
    ⟨some 45, .bslice 1 [(.val (.int .i64 2)), (.val (.int .i64 4))], some (43, true)⟩ ::
    ⟨some 46, .call (.val (.fn (.func 34) [])) [(.tmp 44), (.tmp 45)], some (43, true)⟩ ::
    ⟨some 47, .un .not (.tmp 46), some (43, true)⟩ ::
    ⟨some 48, .pick (.tmp 43) (.tmp 47) (.val (.bool false)), none⟩ ::
    ⟨some 49, .mov (.tmp 48), none⟩ ::
    ⟨some 50, .load true 4 (.tmp 4), some (49, true)⟩ ::
    ⟨some 51, .bslice 1 [(.val (.int .i64 1)), (.val (.int .i64 0))], some (49, true)⟩ ::
    ⟨some 52, .bslice 1 [(.val (.int .i64 2)), (.val (.int .i64 0))], some (49, true)⟩ ::
    ⟨some 53, .call (.val (.fn (.func 36) [])) [(.tmp 50), (.tmp 51), (.tmp 52)], some (49, true)⟩ ::
    ⟨some 54, .pick (.tmp 49) (.tmp 53) (.val (.bool false)), none⟩ ::
    ⟨some 55, .mov (.tmp 54), none⟩ ::
    ⟨some 56, .load true 4 (.tmp 4), some (55, true)⟩ ::
    ⟨some 57, .bslice 1 [(.val (.int .i64 2)), (.val (.int .i64 0))], some (55, true)⟩ ::
    ⟨some 58, .bslice 1 [(.val (.int .i64 2)), (.val (.int .i64 1))], some (55, true)⟩ ::
    ⟨some 59, .call (.val (.fn (.func 36) [])) [(.tmp 56), (.tmp 57), (.tmp 58)], some (55, true)⟩ ::
    ⟨some 60, .un .not (.tmp 59), some (55, true)⟩ ::
    ⟨some 61, .pick (.tmp 55) (.tmp 60) (.val (.bool false)), none⟩ ::
    ⟨some 0, .mov (.tmp 61), none⟩ :: [])) <|
  .ret⟩
theorem e_law11_alive : cFunc Try.prog kd_CLaw11 Try.f27 = some c_law11_alive := by kernel_rfl
/- touchstone/touchstonelaw11.Fits: slots c, 0, a, 1, c, 2, a, 3 -/
def c_law11_Fits : AFunc := ⟨20, [.tmp 4],
  .seq (.region (⟨some 2, .box 4 (.tmp 0), none⟩ ::
    ⟨some 4, .mov (.val (.bool false)), none⟩ :: [])) <|
  .seq (.region (⟨some 5, .faddr 1 (.tmp 2), none⟩ ::
    ⟨some 6, .load false 1 (.tmp 5), none⟩ ::
    ⟨some 7, .len false (.tmp 6), none⟩ ::
    ⟨some 8, .bin .leq (.tmp 7) (.val (.int .i64 200)), none⟩ ::
    ⟨some 9, .mov (.tmp 8), none⟩ ::
    ⟨some 10, .faddr 2 (.tmp 2), some (9, true)⟩ ::
    ⟨some 11, .load false 1 (.tmp 10), some (9, true)⟩ ::
    ⟨some 12, .len false (.tmp 11), some (9, true)⟩ ::
    ⟨some 13, .bin .leq (.tmp 12) (.val (.int .i64 200)), some (9, true)⟩ ::
    ⟨some 14, .pick (.tmp 9) (.tmp 13) (.val (.bool false)), none⟩ ::
    ⟨some 15, .mov (.tmp 14), none⟩ ::
    ⟨some 16, .mov (.tmp 1), some (15, true)⟩ ::
    ⟨some 17, .len false (.tmp 16), some (15, true)⟩ ::
    ⟨some 18, .bin .leq (.tmp 17) (.val (.int .i64 200)), some (15, true)⟩ ::
    ⟨some 19, .pick (.tmp 15) (.tmp 18) (.val (.bool false)), none⟩ ::
    ⟨some 4, .mov (.tmp 19), none⟩ :: [])) <|
  .ret⟩
theorem e_law11_Fits : cFunc Try.prog kd_CLaw11 Try.f28 = some c_law11_Fits := by kernel_rfl
/- touchstone/touchstonelaw11.SenseKin: slots c, 0, a, 1, c, 2, a, 3, d, 5, n, 6, plain, 7, h, 8 -/
def c_law11_SenseKin : AFunc := ⟨80, [.tmp 4],
  .seq (.region (⟨some 2, .box 4 (.tmp 0), none⟩ ::
    ⟨some 4, .mov (.val (.bool false)), none⟩ :: [])) <|
  .seq (.seq (.region (⟨some 9, .call (.val (.fn (.func 27) [])) [], none⟩ ::
    ⟨some 10, .un .not (.tmp 9), none⟩ :: [])) <|
  .cond (.tmp 10) (.seq (.region (⟨some 4, .mov (.val (.bool false)), none⟩ :: [])) <|
    .ret) <|
  .skip) <|
  .seq (.seq (.region (⟨some 11, .load true 4 (.tmp 2), none⟩ ::
    ⟨some 12, .mov (.tmp 1), none⟩ ::
    ⟨some 13, .call (.val (.fn (.func 28) [])) [(.tmp 11), (.tmp 12)], none⟩ ::
    ⟨some 14, .un .not (.tmp 13), none⟩ ::
    ⟨some 15, .mov (.tmp 14), none⟩ ::
    ⟨some 16, .faddr 0 (.tmp 2), some (15, false)⟩ ::
    ⟨some 17, .load false 1 (.tmp 16), some (15, false)⟩ ::
    ⟨some 18, .bin .lss (.tmp 17) (.val (.int .i64 4)), some (15, false)⟩ ::
    ⟨some 19, .pick (.tmp 15) (.val (.bool true)) (.tmp 18), none⟩ ::
    ⟨some 20, .mov (.tmp 19), none⟩ ::
    ⟨some 21, .faddr 0 (.tmp 2), some (20, false)⟩ ::
    ⟨some 22, .load false 1 (.tmp 21), some (20, false)⟩ ::
    ⟨some 23, .bin .gtr (.tmp 22) (.val (.int .i64 6)), some (20, false)⟩ ::
    ⟨some 24, .pick (.tmp 20) (.val (.bool true)) (.tmp 23), none⟩ ::
    ⟨some 25, .mov (.tmp 24), none⟩ ::
    ⟨some 26, .load true 4 (.tmp 2), some (25, false)⟩ ::
    ⟨some 27, .mov (.tmp 1), some (25, false)⟩ ::
    ⟨some 28, .callv (.val (.fn (.func 38) [])) [(.tmp 26), (.tmp 27)], some (25, false)⟩ ::
    ⟨some 29, .un .not (.tmp 28), some (25, false)⟩ ::
    ⟨some 30, .pick (.tmp 25) (.val (.bool true)) (.tmp 29), none⟩ ::
    ⟨some 31, .mov (.tmp 30), none⟩ ::
    ⟨some 32, .faddr 1 (.tmp 2), some (31, false)⟩ ::
    ⟨some 33, .load false 1 (.tmp 32), some (31, false)⟩ ::
    ⟨some 34, .len false (.tmp 33), some (31, false)⟩ ::
    ⟨some 35, .bin .eql (.tmp 34) (.val (.int .i64 0)), some (31, false)⟩ ::
    ⟨some 36, .pick (.tmp 31) (.val (.bool true)) (.tmp 35), none⟩ :: [])) <|
  .cond (.tmp 36) (.seq (.region (⟨some 4, .mov (.val (.bool true)), none⟩ :: [])) <|
    .ret) <|
  .skip) <|
  .seq (.region (⟨some 37, .load true 4 (.tmp 2), none⟩ ::
    ⟨some 5, .alloc (.agg [(.int .i64 0), .nils, .nils, (.int .i64 0)]), none⟩ ::
    ⟨none, .store 4 (.tmp 5) (.tmp 37), none⟩ :: [])) <|
  .seq (.region (⟨some 38, .faddr 1 (.tmp 2), none⟩ ::
    ⟨some 39, .load false 1 (.tmp 38), none⟩ ::
    ⟨some 40, .len false (.tmp 39), none⟩ ::
    ⟨some 41, .bin .sub (.tmp 40) (.val (.int .i64 1)), none⟩ ::
    ⟨some 6, .mov (.tmp 41), none⟩ :: [])) <|
  .seq (.region (⟨some 42, .faddr 1 (.tmp 2), none⟩ ::
    ⟨some 43, .load false 1 (.tmp 42), none⟩ ::
    ⟨some 44, .mov (.tmp 6), none⟩ ::
    ⟨some 45, .slc 1 (.tmp 43) none (some (.tmp 44)), none⟩ ::
    ⟨some 46, .faddr 1 (.tmp 5), none⟩ ::
    ⟨none, .store 1 (.tmp 46) (.tmp 45), none⟩ :: [])) <|
  .seq (.region (⟨some 47, .faddr 0 (.tmp 5), none⟩ ::
    ⟨none, .store 1 (.tmp 47) (.val (.int .i64 2)), none⟩ :: [])) <|
  .seq (.seq (.region (⟨some 48, .faddr 0 (.tmp 2), none⟩ ::
    ⟨some 49, .load false 1 (.tmp 48), none⟩ ::
    ⟨some 50, .bin .eql (.tmp 49) (.val (.int .i64 4)), none⟩ :: [])) <|
  .cond (.tmp 50) (.region (⟨some 51, .faddr 0 (.tmp 5), none⟩ ::
      ⟨none, .store 1 (.tmp 51) (.val (.int .i64 1)), none⟩ :: [])) <|
  .skip) <|
  .seq (.region (⟨some 52, .load true 4 (.tmp 5), none⟩ ::
    ⟨some 53, .mov (.tmp 1), none⟩ ::
    ⟨some 54, .callv (.val (.fn (.func 31) [])) [(.tmp 52), (.tmp 53)], none⟩ ::
    ⟨some 7, .mov (.tmp 54), none⟩ :: [])) <|
  .seq (.region (⟨some 55, .load true 4 (.tmp 2), none⟩ ::
    ⟨some 56, .mov (.tmp 1), none⟩ ::
    ⟨some 57, .callv (.val (.fn (.func 31) [])) [(.tmp 55), (.tmp 56)], none⟩ ::
    ⟨some 8, .mov (.tmp 57), none⟩ :: [])) <|
  .seq (.block 0 (.seq (.region (⟨some 59, .mov (.tmp 1), none⟩ ::
      ⟨some 60, .faddr 1 (.tmp 2), none⟩ ::
      ⟨some 61, .load false 1 (.tmp 60), none⟩ ::
      ⟨some 62, .mov (.tmp 6), none⟩ ::
      ⟨some 63, .iaddr 1 (.tmp 61) (.tmp 62), none⟩ ::
      ⟨some 64, .load false 1 (.tmp 63), none⟩ ::
      ⟨some 65, .iaddr 1 (.tmp 59) (.tmp 64), none⟩ ::
      ⟨some 66, .load false 1 (.tmp 65), none⟩ ::
      ⟨some 67, .bin .eql (.tmp 66) (.val (.int .i64 1)), none⟩ ::
      ⟨some 58, .mov (.tmp 67), none⟩ :: [])) <|
    .cond (.tmp 58) (.seq (.region (⟨some 68, .mov (.tmp 8), none⟩ ::
        ⟨some 69, .mov (.tmp 7), none⟩ ::
        ⟨some 70, .eqb false (.tmp 68) (.tmp 69), none⟩ ::
        ⟨some 4, .mov (.tmp 70), none⟩ :: [])) <|
      .ret) <|
    .seq (.region (⟨some 72, .faddr 0 (.tmp 2), none⟩ ::
      ⟨some 73, .load false 1 (.tmp 72), none⟩ ::
      ⟨some 74, .bin .eql (.tmp 73) (.val (.int .i64 6)), none⟩ ::
      ⟨some 71, .mov (.tmp 74), none⟩ :: [])) <|
    .cond (.tmp 71) (.seq (.region (⟨some 75, .mov (.tmp 8), none⟩ ::
        ⟨some 4, .mov (.tmp 75), none⟩ :: [])) <|
      .ret) <|
    .skip)) <|
  .seq (.region (⟨some 76, .mov (.tmp 8), none⟩ ::
    ⟨some 77, .mov (.tmp 7), none⟩ ::
    ⟨some 78, .un .not (.tmp 77), none⟩ ::
    ⟨some 79, .eqb false (.tmp 76) (.tmp 78), none⟩ ::
    ⟨some 4, .mov (.tmp 79), none⟩ :: [])) <|
  .ret⟩
theorem e_law11_SenseKin : cFunc Try.prog kd_CLaw11 Try.f10 = some c_law11_SenseKin := by kernel_rfl
/- touchstone/touchstonelaw11.SenseOrder: slots m, 0, l, 1, m, 2, l, 3, ab, 5, bc, 6, ac, 7 -/
def c_law11_SenseOrder : AFunc := ⟨79, [.tmp 4],
  .seq (.region (⟨some 2, .box 4 (.tmp 0), none⟩ ::
    ⟨some 3, .box 3 (.tmp 1), none⟩ ::
    ⟨some 4, .mov (.val (.bool false)), none⟩ :: [])) <|
  .seq (.seq (.region (⟨some 8, .call (.val (.fn (.func 27) [])) [], none⟩ ::
    ⟨some 9, .un .not (.tmp 8), none⟩ :: [])) <|
  .cond (.tmp 9) (.seq (.region (⟨some 4, .mov (.val (.bool false)), none⟩ :: [])) <|
    .ret) <|
  .skip) <|
  .seq (.seq (.region (⟨some 10, .load true 4 (.tmp 2), none⟩ ::
    ⟨some 11, .call (.val (.fn (.func 33) [])) [(.tmp 10)], none⟩ ::
    ⟨some 12, .un .not (.tmp 11), none⟩ ::
    ⟨some 13, .mov (.tmp 12), none⟩ ::
    ⟨some 14, .faddr 0 (.tmp 3), some (13, false)⟩ ::
    ⟨some 15, .load false 1 (.tmp 14), some (13, false)⟩ ::
    ⟨some 16, .len false (.tmp 15), some (13, false)⟩ ::
    ⟨some 17, .bin .gtr (.tmp 16) (.val (.int .i64 200)), some (13, false)⟩ ::
    ⟨some 18, .pick (.tmp 13) (.val (.bool true)) (.tmp 17), none⟩ ::
    ⟨some 19, .mov (.tmp 18), none⟩ ::
    ⟨some 20, .faddr 1 (.tmp 3), some (19, false)⟩ ::
    ⟨some 21, .load false 1 (.tmp 20), some (19, false)⟩ ::
    ⟨some 22, .len false (.tmp 21), some (19, false)⟩ ::
    ⟨some 23, .bin .gtr (.tmp 22) (.val (.int .i64 200)), some (19, false)⟩ ::
    ⟨some 24, .pick (.tmp 19) (.val (.bool true)) (.tmp 23), none⟩ ::
    ⟨some 25, .mov (.tmp 24), none⟩ ::
    ⟨some 26, .faddr 2 (.tmp 3), some (25, false)⟩ ::
    ⟨some 27, .load false 1 (.tmp 26), some (25, false)⟩ ::
    ⟨some 28, .len false (.tmp 27), some (25, false)⟩ ::
    ⟨some 29, .bin .gtr (.tmp 28) (.val (.int .i64 200)), some (25, false)⟩ ::
    ⟨some 30, .pick (.tmp 25) (.val (.bool true)) (.tmp 29), none⟩ :: [])) <|
  .cond (.tmp 30) (.seq (.region (⟨some 4, .mov (.val (.bool true)), none⟩ :: [])) <|
    .ret) <|
  .skip) <|
  .seq (.region (⟨some 31, .load true 4 (.tmp 2), none⟩ ::
    ⟨some 32, .faddr 0 (.tmp 3), none⟩ ::
    ⟨some 33, .load false 1 (.tmp 32), none⟩ ::
    ⟨some 34, .faddr 1 (.tmp 3), none⟩ ::
    ⟨some 35, .load false 1 (.tmp 34), none⟩ ::
    ⟨some 36, .call (.val (.fn (.func 36) [])) [(.tmp 31), (.tmp 33), (.tmp 35)], none⟩ ::
    ⟨some 37, .load true 4 (.tmp 2), none⟩ ::
    ⟨some 38, .faddr 1 (.tmp 3), none⟩ ::
    ⟨some 39, .load false 1 (.tmp 38), none⟩ ::
    ⟨some 40, .faddr 2 (.tmp 3), none⟩ ::
    ⟨some 41, .load false 1 (.tmp 40), none⟩ ::
    ⟨some 42, .call (.val (.fn (.func 36) [])) [(.tmp 37), (.tmp 39), (.tmp 41)], none⟩ ::
    ⟨some 43, .load true 4 (.tmp 2), none⟩ ::
    ⟨some 44, .faddr 0 (.tmp 3), none⟩ ::
    ⟨some 45, .load false 1 (.tmp 44), none⟩ ::
    ⟨some 46, .faddr 2 (.tmp 3), none⟩ ::
    ⟨some 47, .load false 1 (.tmp 46), none⟩ ::
    ⟨some 48, .call (.val (.fn (.func 36) [])) [(.tmp 43), (.tmp 45), (.tmp 47)], none⟩ ::
    ⟨some 5, .mov (.tmp 36), none⟩ ::
    ⟨some 6, .mov (.tmp 42), none⟩ ::
    ⟨some 7, .mov (.tmp 48), none⟩ :: [])) <|
  .seq (.region (⟨some 49, .load true 4 (.tmp 2), none⟩ ::
    ⟨some 50, .faddr 0 (.tmp 3), none⟩ ::
    ⟨some 51, .load false 1 (.tmp 50), none⟩ ::
    ⟨some 52, .faddr 0 (.tmp 3), none⟩ ::
    ⟨some 53, .load false 1 (.tmp 52), none⟩ ::
    ⟨some 54, .call (.val (.fn (.func 36) [])) [(.tmp 49), (.tmp 51), (.tmp 53)], none⟩ ::
    ⟨some 55, .un .not (.tmp 54), none⟩ ::
    ⟨some 56, .mov (.tmp 55), none⟩ ::
    ⟨some 57, .mov (.tmp 5), some (56, true)⟩ ::
    ⟨some 58, .mov (.tmp 57), some (56, true)⟩ ::
    ⟨some 59, .load true 4 (.tmp 2), some (58, true)⟩ ::
    ⟨some 60, .faddr 1 (.tmp 3), some (58, true)⟩ ::
    ⟨some 61, .load false 1 (.tmp 60), some (58, true)⟩ ::
    ⟨some 62, .faddr 0 (.tmp 3), some (58, true)⟩ ::
    ⟨some 63, .load false 1 (.tmp 62), some (58, true)⟩ ::
    ⟨some 64, .call (.val (.fn (.func 36) [])) [(.tmp 59), (.tmp 61), (.tmp 63)], some (58, true)⟩ ::
    ⟨some 65, .pick (.tmp 58) (.tmp 64) (.val (.bool false)), some (56, true)⟩ ::
    ⟨some 66, .un .not (.tmp 65), some (56, true)⟩ ::
    ⟨some 67, .pick (.tmp 56) (.tmp 66) (.val (.bool false)), none⟩ ::
    ⟨some 68, .mov (.tmp 67), none⟩ ::
    ⟨some 69, .mov (.tmp 5), some (68, true)⟩ ::
    ⟨some 70, .un .not (.tmp 69), some (68, true)⟩ ::
    ⟨some 71, .mov (.tmp 70), some (68, true)⟩ ::
    ⟨some 72, .mov (.tmp 6), some (71, false)⟩ ::
    ⟨some 73, .un .not (.tmp 72), some (71, false)⟩ ::
    ⟨some 74, .pick (.tmp 71) (.val (.bool true)) (.tmp 73), some (68, true)⟩ ::
    ⟨some 75, .mov (.tmp 74), some (68, true)⟩ ::
    ⟨some 76, .mov (.tmp 7), some (75, false)⟩ ::
    ⟨some 77, .pick (.tmp 75) (.val (.bool true)) (.tmp 76), some (68, true)⟩ ::
    ⟨some 78, .pick (.tmp 68) (.tmp 77) (.val (.bool false)), none⟩ ::
    ⟨some 4, .mov (.tmp 78), none⟩ :: [])) <|
  .ret⟩
theorem e_law11_SenseOrder : cFunc Try.prog kd_CLaw11 Try.f14 = some c_law11_SenseOrder := by kernel_rfl
/- touchstone/touchstonelaw11.SenseHolds: slots c, 0, a, 1, c, 2, a, 3, x, 5, p, 6, y, 7, q, 8 -/
def c_law11_SenseHolds : AFunc := ⟨44, [.tmp 4],
  .seq (.region (⟨some 2, .box 4 (.tmp 0), none⟩ ::
    ⟨some 4, .mov (.val (.bool false)), none⟩ :: [])) <|
  .seq (.seq (.region (⟨some 9, .call (.val (.fn (.func 27) [])) [], none⟩ ::
    ⟨some 10, .un .not (.tmp 9), none⟩ :: [])) <|
  .cond (.tmp 10) (.seq (.region (⟨some 4, .mov (.val (.bool false)), none⟩ :: [])) <|
    .ret) <|
  .skip) <|
  .seq (.seq (.region (⟨some 11, .load true 4 (.tmp 2), none⟩ ::
    ⟨some 12, .mov (.tmp 1), none⟩ ::
    ⟨some 13, .call (.val (.fn (.func 28) [])) [(.tmp 11), (.tmp 12)], none⟩ ::
    ⟨some 14, .un .not (.tmp 13), none⟩ :: [])) <|
  .cond (.tmp 14) (.seq (.region (⟨some 4, .mov (.val (.bool true)), none⟩ :: [])) <|
    .ret) <|
  .skip) <|
  .seq (.region (⟨some 16, .load true 4 (.tmp 2), none⟩ ::
    ⟨some 17, .mov (.tmp 1), none⟩ ::
    ⟨some 18, .call (.val (.fn (.func 29) [])) [(.tmp 16), (.tmp 17)], none⟩ ::
    ⟨some 15, .mov (.tmp 18), none⟩ ::
    ⟨some 19, .ext (.tmp 15) 0, none⟩ ::
    ⟨some 20, .ext (.tmp 15) 1, none⟩ ::
    ⟨some 5, .mov (.tmp 19), none⟩ ::
    ⟨some 6, .mov (.tmp 20), none⟩ :: [])) <|
  .seq (.region (⟨some 22, .load true 4 (.tmp 2), none⟩ ::
    ⟨some 23, .mov (.tmp 1), none⟩ ::
    ⟨some 24, .call (.val (.fn (.func 30) [])) [(.tmp 22), (.tmp 23)], none⟩ ::
    ⟨some 21, .mov (.tmp 24), none⟩ ::
    ⟨some 25, .ext (.tmp 21) 0, none⟩ ::
    ⟨some 26, .ext (.tmp 21) 1, none⟩ ::
    ⟨some 7, .mov (.tmp 25), none⟩ ::
    ⟨some 8, .mov (.tmp 26), none⟩ :: [])) <|
  .seq (.region (⟨some 27, .load true 4 (.tmp 2), none⟩ ::
    ⟨some 28, .mov (.tmp 1), none⟩ ::
    ⟨some 29, .callv (.val (.fn (.func 31) [])) [(.tmp 27), (.tmp 28)], none⟩ ::
    ⟨some 30, .load true 4 (.tmp 2), none⟩ ::
    ⟨some 31, .mov (.tmp 1), none⟩ ::
    ⟨some 32, .call (.val (.fn (.func 32) [])) [(.tmp 30), (.tmp 31)], none⟩ ::
    ⟨some 33, .eqb false (.tmp 29) (.tmp 32), none⟩ ::
    ⟨some 34, .mov (.tmp 33), none⟩ ::
    ⟨some 35, .mov (.tmp 5), some (34, true)⟩ ::
    ⟨some 36, .mov (.tmp 7), some (34, true)⟩ ::
    ⟨some 37, .bin .eql (.tmp 35) (.tmp 36), some (34, true)⟩ ::
    ⟨some 38, .pick (.tmp 34) (.tmp 37) (.val (.bool false)), none⟩ ::
    ⟨some 39, .mov (.tmp 38), none⟩ ::
    ⟨some 40, .mov (.tmp 6), some (39, true)⟩ ::
    ⟨some 41, .mov (.tmp 8), some (39, true)⟩ ::
    ⟨some 42, .eqb false (.tmp 40) (.tmp 41), some (39, true)⟩ ::
    ⟨some 43, .pick (.tmp 39) (.tmp 42) (.val (.bool false)), none⟩ ::
    ⟨some 4, .mov (.tmp 43), none⟩ :: [])) <|
  .ret⟩
theorem e_law11_SenseHolds : cFunc Try.prog kd_CLaw11 Try.f8 = some c_law11_SenseHolds := by kernel_rfl
/- touchstone/touchstonelaw11.SenseFew: slots c, 0, a, 1, with, 2, c, 3, a, 4, with, 5, at, 7, v, 8, _, 9, x, 10, b, 11 -/
def c_law11_SenseFew : AFunc := ⟨56, [.tmp 6],
  .seq (.region (⟨some 3, .box 4 (.tmp 0), none⟩ ::
    ⟨some 5, .box 2 (.tmp 2), none⟩ ::
    ⟨some 6, .mov (.val (.bool false)), none⟩ :: [])) <|
  .seq (.seq (.region (⟨some 12, .call (.val (.fn (.func 27) [])) [], none⟩ ::
    ⟨some 13, .un .not (.tmp 12), none⟩ :: [])) <|
  .cond (.tmp 13) (.seq (.region (⟨some 6, .mov (.val (.bool false)), none⟩ :: [])) <|
    .ret) <|
  .skip) <|
  .seq (.region (⟨some 14, .faddr 0 (.tmp 5), none⟩ ::
    ⟨some 15, .load false 1 (.tmp 14), none⟩ ::
    ⟨some 16, .faddr 1 (.tmp 5), none⟩ ::
    ⟨some 17, .load false 1 (.tmp 16), none⟩ ::
    ⟨some 7, .mov (.tmp 15), none⟩ ::
    ⟨some 8, .mov (.tmp 17), none⟩ :: [])) <|
  .seq (.seq (.region (⟨some 18, .load true 4 (.tmp 3), none⟩ ::
    ⟨some 19, .mov (.tmp 1), none⟩ ::
    ⟨some 20, .call (.val (.fn (.func 28) [])) [(.tmp 18), (.tmp 19)], none⟩ ::
    ⟨some 21, .un .not (.tmp 20), none⟩ ::
    ⟨some 22, .mov (.tmp 21), none⟩ ::
    ⟨some 23, .mov (.tmp 7), some (22, false)⟩ ::
    ⟨some 24, .bin .lss (.tmp 23) (.val (.int .i64 0)), some (22, false)⟩ ::
    ⟨some 25, .pick (.tmp 22) (.val (.bool true)) (.tmp 24), none⟩ ::
    ⟨some 26, .mov (.tmp 25), none⟩ ::
    ⟨some 27, .mov (.tmp 7), some (26, false)⟩ ::
    ⟨some 28, .mov (.tmp 1), some (26, false)⟩ ::
    ⟨some 29, .len false (.tmp 28), some (26, false)⟩ ::
    ⟨some 30, .bin .geq (.tmp 27) (.tmp 29), some (26, false)⟩ ::
    ⟨some 31, .pick (.tmp 26) (.val (.bool true)) (.tmp 30), none⟩ :: [])) <|
  .cond (.tmp 31) (.seq (.region (⟨some 6, .mov (.val (.bool true)), none⟩ :: [])) <|
    .ret) <|
  .skip) <|
  .seq (.seq (.region (⟨some 32, .faddr 1 (.tmp 3), none⟩ ::
    ⟨some 33, .load false 1 (.tmp 32), none⟩ ::
    ⟨some 34, .len false (.tmp 33), none⟩ ::
    ⟨some 35, .mov (.val (.int .i64 0)), none⟩ :: [])) <|
  .block 0 (.loop (.seq (.region (⟨some 36, .bin .lss (.tmp 35) (.tmp 34), none⟩ :: [])) <|
      .seq (.cond (.tmp 36) (.skip) <|
      .exit 0) <|
      .seq (.block 1 (.seq (.region (⟨some 37, .iaddr 1 (.tmp 33) (.tmp 35), none⟩ ::
          ⟨some 38, .load false 1 (.tmp 37), none⟩ ::
          ⟨some 10, .mov (.tmp 38), none⟩ :: [])) <|
        .seq (.region (⟨some 39, .mov (.tmp 10), none⟩ ::
          ⟨some 40, .mov (.tmp 7), none⟩ ::
          ⟨some 41, .bin .eql (.tmp 39) (.tmp 40), none⟩ :: [])) <|
        .cond (.tmp 41) (.seq (.region (⟨some 6, .mov (.val (.bool true)), none⟩ :: [])) <|
          .ret) <|
        .skip)) <|
      .region (⟨some 42, .bin .add (.tmp 35) (.val (.int .i64 1)), none⟩ ::
        ⟨some 35, .mov (.tmp 42), none⟩ :: [])))) <|
  .seq (.region (⟨some 43, .mov (.tmp 1), none⟩ ::
    ⟨some 44, .app 1 8 (.val .nils) (.tmp 43), none⟩ ::
    ⟨some 11, .mov (.tmp 44), none⟩ :: [])) <|
  .seq (.region (⟨some 45, .mov (.tmp 11), none⟩ ::
    ⟨some 46, .mov (.tmp 7), none⟩ ::
    ⟨some 47, .mov (.tmp 8), none⟩ ::
    ⟨some 48, .iaddr 1 (.tmp 45) (.tmp 46), none⟩ ::
    ⟨none, .store 1 (.tmp 48) (.tmp 47), none⟩ :: [])) <|
  .seq (.region (⟨some 49, .load true 4 (.tmp 3), none⟩ ::
    ⟨some 50, .mov (.tmp 1), none⟩ ::
    ⟨some 51, .callv (.val (.fn (.func 31) [])) [(.tmp 49), (.tmp 50)], none⟩ ::
    ⟨some 52, .load true 4 (.tmp 3), none⟩ ::
    ⟨some 53, .mov (.tmp 11), none⟩ ::
    ⟨some 54, .callv (.val (.fn (.func 31) [])) [(.tmp 52), (.tmp 53)], none⟩ ::
    ⟨some 55, .eqb false (.tmp 51) (.tmp 54), none⟩ ::
    ⟨some 6, .mov (.tmp 55), none⟩ :: [])) <|
  .ret⟩
theorem e_law11_SenseFew : cFunc Try.prog kd_CLaw11 Try.f13 = some c_law11_SenseFew := by kernel_rfl
/- touchstone/touchstonelaw11.SenseMoved: slots c, 0, a, 1, by, 2, c, 3, a, 4, by, 5, b, 7, i, 8 -/
def c_law11_SenseMoved : AFunc := ⟨77, [.tmp 6],
  .seq (.region (⟨some 3, .box 4 (.tmp 0), none⟩ ::
    ⟨some 6, .mov (.val (.bool false)), none⟩ :: [])) <|
  .seq (.seq (.region (⟨some 9, .call (.val (.fn (.func 27) [])) [], none⟩ ::
    ⟨some 10, .un .not (.tmp 9), none⟩ :: [])) <|
  .cond (.tmp 10) (.seq (.region (⟨some 6, .mov (.val (.bool false)), none⟩ :: [])) <|
    .ret) <|
  .skip) <|
  .seq (.seq (.region (⟨some 11, .load true 4 (.tmp 3), none⟩ ::
    ⟨some 12, .mov (.tmp 1), none⟩ ::
    ⟨some 13, .call (.val (.fn (.func 28) [])) [(.tmp 11), (.tmp 12)], none⟩ ::
    ⟨some 14, .un .not (.tmp 13), none⟩ ::
    ⟨some 15, .mov (.tmp 14), none⟩ ::
    ⟨some 16, .faddr 0 (.tmp 3), some (15, false)⟩ ::
    ⟨some 17, .load false 1 (.tmp 16), some (15, false)⟩ ::
    ⟨some 18, .bin .neq (.tmp 17) (.val (.int .i64 18)), some (15, false)⟩ ::
    ⟨some 19, .mov (.tmp 18), some (15, false)⟩ ::
    ⟨some 20, .faddr 0 (.tmp 3), some (19, true)⟩ ::
    ⟨some 21, .load false 1 (.tmp 20), some (19, true)⟩ ::
    ⟨some 22, .bin .neq (.tmp 21) (.val (.int .i64 19)), some (19, true)⟩ ::
    ⟨some 23, .pick (.tmp 19) (.tmp 22) (.val (.bool false)), some (15, false)⟩ ::
    ⟨some 24, .pick (.tmp 15) (.val (.bool true)) (.tmp 23), none⟩ ::
    ⟨some 25, .mov (.tmp 24), none⟩ ::
    ⟨some 26, .load true 4 (.tmp 3), some (25, false)⟩ ::
    ⟨some 27, .mov (.tmp 1), some (25, false)⟩ ::
    ⟨some 28, .callv (.val (.fn (.func 38) [])) [(.tmp 26), (.tmp 27)], some (25, false)⟩ ::
    ⟨some 29, .un .not (.tmp 28), some (25, false)⟩ ::
    ⟨some 30, .pick (.tmp 25) (.val (.bool true)) (.tmp 29), none⟩ ::
    ⟨some 31, .mov (.tmp 30), none⟩ ::
    ⟨some 32, .mov (.tmp 2), some (31, false)⟩ ::
    ⟨some 33, .bin .lss (.tmp 32) (.val (.int .i64 (-1048576))), some (31, false)⟩ ::
    ⟨some 34, .pick (.tmp 31) (.val (.bool true)) (.tmp 33), none⟩ ::
    ⟨some 35, .mov (.tmp 34), none⟩ ::
    ⟨some 36, .mov (.tmp 2), some (35, false)⟩ ::
    ⟨some 37, .bin .gtr (.tmp 36) (.val (.int .i64 1048576)), some (35, false)⟩ ::
    ⟨some 38, .pick (.tmp 35) (.val (.bool true)) (.tmp 37), none⟩ :: [])) <|
  .cond (.tmp 38) (.seq (.region (⟨some 6, .mov (.val (.bool true)), none⟩ :: [])) <|
    .ret) <|
  .skip) <|
  .seq (.region (⟨some 39, .mov (.tmp 1), none⟩ ::
    ⟨some 40, .app 1 8 (.val .nils) (.tmp 39), none⟩ ::
    ⟨some 7, .mov (.tmp 40), none⟩ :: [])) <|
  .seq (.seq (.region (⟨some 41, .mov (.tmp 7), none⟩ ::
    ⟨some 42, .len false (.tmp 41), none⟩ ::
    ⟨some 43, .mov (.val (.int .i64 0)), none⟩ :: [])) <|
  .block 0 (.loop (.seq (.region (⟨some 44, .bin .lss (.tmp 43) (.tmp 42), none⟩ :: [])) <|
      .seq (.cond (.tmp 44) (.skip) <|
      .exit 0) <|
      .seq (.block 1 (.seq (.region (⟨some 45, .mov (.tmp 43), none⟩ ::
          ⟨some 8, .mov (.tmp 45), none⟩ :: [])) <|
        .seq (.region (⟨some 46, .mov (.tmp 7), none⟩ ::
          ⟨some 47, .mov (.tmp 8), none⟩ ::
          ⟨some 48, .iaddr 1 (.tmp 46) (.tmp 47), none⟩ ::
          ⟨some 49, .load false 1 (.tmp 48), none⟩ ::
          ⟨some 50, .bin .geq (.tmp 49) (.val (.int .i64 (-1048576))), none⟩ ::
          ⟨some 51, .mov (.tmp 50), none⟩ ::
          ⟨some 52, .mov (.tmp 7), some (51, true)⟩ ::
          ⟨some 53, .mov (.tmp 8), some (51, true)⟩ ::
          ⟨some 54, .iaddr 1 (.tmp 52) (.tmp 53), some (51, true)⟩ ::
          ⟨some 55, .load false 1 (.tmp 54), some (51, true)⟩ ::
          ⟨some 56, .bin .leq (.tmp 55) (.val (.int .i64 1048576)), some (51, true)⟩ ::
          ⟨some 57, .pick (.tmp 51) (.tmp 56) (.val (.bool false)), none⟩ :: [])) <|
        .cond (.tmp 57) (.region (⟨some 58, .mov (.tmp 7), none⟩ ::
            ⟨some 59, .mov (.tmp 8), none⟩ ::
            ⟨some 60, .iaddr 1 (.tmp 58) (.tmp 59), none⟩ ::
            ⟨some 61, .load false 1 (.tmp 60), none⟩ ::
            ⟨some 62, .mov (.tmp 2), none⟩ ::
            ⟨some 63, .bin .add (.tmp 61) (.tmp 62), none⟩ ::
            ⟨some 64, .iaddr 1 (.tmp 58) (.tmp 59), none⟩ ::
            ⟨none, .store 1 (.tmp 64) (.tmp 63), none⟩ :: [])) <|
        .skip)) <|
      .region (⟨some 65, .bin .add (.tmp 43) (.val (.int .i64 1)), none⟩ ::
        ⟨some 43, .mov (.tmp 65), none⟩ :: [])))) <|
  .seq (.seq (.region (⟨some 66, .load true 4 (.tmp 3), none⟩ ::
    ⟨some 67, .mov (.tmp 7), none⟩ ::
    ⟨some 68, .callv (.val (.fn (.func 38) [])) [(.tmp 66), (.tmp 67)], none⟩ ::
    ⟨some 69, .un .not (.tmp 68), none⟩ :: [])) <|
  .cond (.tmp 69) (.seq (.region (⟨some 6, .mov (.val (.bool true)), none⟩ :: [])) <|
    .ret) <|
  .skip) <|
  .seq (.region (⟨some 70, .load true 4 (.tmp 3), none⟩ ::
    ⟨some 71, .mov (.tmp 1), none⟩ ::
    ⟨some 72, .callv (.val (.fn (.func 31) [])) [(.tmp 70), (.tmp 71)], none⟩ ::
    ⟨some 73, .load true 4 (.tmp 3), none⟩ ::
    ⟨some 74, .mov (.tmp 7), none⟩ ::
    ⟨some 75, .callv (.val (.fn (.func 31) [])) [(.tmp 73), (.tmp 74)], none⟩ ::
    ⟨some 76, .eqb false (.tmp 72) (.tmp 75), none⟩ ::
    ⟨some 6, .mov (.tmp 76), none⟩ :: [])) <|
  .ret⟩
theorem e_law11_SenseMoved : cFunc Try.prog kd_CLaw11 Try.f12 = some c_law11_SenseMoved := by kernel_rfl
/- touchstone/touchstonelaw11.SenseTurned: slots c, 0, a, 1, at, 2, c, 3, a, 4, at, 5, d, 7, signs, 8, _, 9, x, 10, first, 11, last, 12 -/
def c_law11_SenseTurned : AFunc := ⟨107, [.tmp 6],
  .seq (.region (⟨some 3, .box 4 (.tmp 0), none⟩ ::
    ⟨some 6, .mov (.val (.bool false)), none⟩ :: [])) <|
  .seq (.seq (.region (⟨some 13, .call (.val (.fn (.func 27) [])) [], none⟩ ::
    ⟨some 14, .un .not (.tmp 13), none⟩ :: [])) <|
  .cond (.tmp 14) (.seq (.region (⟨some 6, .mov (.val (.bool false)), none⟩ :: [])) <|
    .ret) <|
  .skip) <|
  .seq (.seq (.region (⟨some 15, .load true 4 (.tmp 3), none⟩ ::
    ⟨some 16, .mov (.tmp 1), none⟩ ::
    ⟨some 17, .call (.val (.fn (.func 28) [])) [(.tmp 15), (.tmp 16)], none⟩ ::
    ⟨some 18, .un .not (.tmp 17), none⟩ :: [])) <|
  .cond (.tmp 18) (.seq (.region (⟨some 6, .mov (.val (.bool true)), none⟩ :: [])) <|
    .ret) <|
  .skip) <|
  .seq (.region (⟨some 19, .load true 4 (.tmp 3), none⟩ ::
    ⟨some 7, .alloc (.agg [(.int .i64 0), .nils, .nils, (.int .i64 0)]), none⟩ ::
    ⟨none, .store 4 (.tmp 7) (.tmp 19), none⟩ :: [])) <|
  .seq (.seq (.region (⟨some 20, .faddr 0 (.tmp 3), none⟩ ::
    ⟨some 21, .load false 1 (.tmp 20), none⟩ :: [])) <|
  .block 0 (.seq (.seq (.region (⟨some 23, .bin .eql (.tmp 21) (.val (.int .i64 1)), none⟩ ::
      ⟨some 22, .mov (.tmp 23), none⟩ :: [])) <|
    .cond (.tmp 22) (.skip) <|
    .region (⟨some 24, .bin .eql (.tmp 21) (.val (.int .i64 3)), none⟩ ::
      ⟨some 22, .mov (.tmp 24), none⟩ :: [])) <|
    .cond (.tmp 22) (.seq (.region (⟨some 8, .mov (.val .nils), none⟩ :: [])) <|
      .seq (.seq (.region (⟨some 25, .faddr 2 (.tmp 3), none⟩ ::
        ⟨some 26, .load false 1 (.tmp 25), none⟩ ::
        ⟨some 27, .len false (.tmp 26), none⟩ ::
        ⟨some 28, .mov (.val (.int .i64 0)), none⟩ :: [])) <|
      .block 1 (.loop (.seq (.region (⟨some 29, .bin .lss (.tmp 28) (.tmp 27), none⟩ :: [])) <|
          .seq (.cond (.tmp 29) (.skip) <|
          .exit 1) <|
          .seq (.block 2 (.seq (.region (⟨some 30, .iaddr 1 (.tmp 26) (.tmp 28), none⟩ ::
              ⟨some 31, .load false 1 (.tmp 30), none⟩ ::
              ⟨some 10, .mov (.tmp 31), none⟩ :: [])) <|
            .seq (.seq (.region (⟨some 32, .mov (.tmp 10), none⟩ ::
              ⟨some 33, .bin .lss (.tmp 32) (.val (.int .i64 (-1048576))), none⟩ ::
              ⟨some 34, .mov (.tmp 33), none⟩ ::
              ⟨some 35, .mov (.tmp 10), some (34, false)⟩ ::
              ⟨some 36, .bin .gtr (.tmp 35) (.val (.int .i64 1048576)), some (34, false)⟩ ::
              ⟨some 37, .pick (.tmp 34) (.val (.bool true)) (.tmp 36), none⟩ :: [])) <|
            .cond (.tmp 37) (.seq (.region (⟨some 6, .mov (.val (.bool true)), none⟩ :: [])) <|
              .ret) <|
            .skip) <|
            .region (⟨some 38, .mov (.tmp 8), none⟩ ::
              ⟨some 39, .mov (.tmp 10), none⟩ ::
              ⟨some 40, .un .neg (.tmp 39), none⟩ ::
              ⟨some 41, .bslice 1 [(.tmp 40)], none⟩ ::
              ⟨some 42, .app 1 8 (.tmp 38) (.tmp 41), none⟩ ::
              ⟨some 8, .mov (.tmp 42), none⟩ :: []))) <|
          .region (⟨some 43, .bin .add (.tmp 28) (.val (.int .i64 1)), none⟩ ::
            ⟨some 28, .mov (.tmp 43), none⟩ :: [])))) <|
      .seq (.region (⟨some 44, .mov (.tmp 8), none⟩ ::
        ⟨some 45, .faddr 2 (.tmp 7), none⟩ ::
        ⟨none, .store 1 (.tmp 45) (.tmp 44), none⟩ :: [])) <|
      .seq (.seq (.region (⟨some 46, .faddr 3 (.tmp 3), none⟩ ::
        ⟨some 47, .load false 1 (.tmp 46), none⟩ ::
        ⟨some 48, .bin .lss (.tmp 47) (.val (.int .i64 (-1048576))), none⟩ ::
        ⟨some 49, .mov (.tmp 48), none⟩ ::
        ⟨some 50, .faddr 3 (.tmp 3), some (49, false)⟩ ::
        ⟨some 51, .load false 1 (.tmp 50), some (49, false)⟩ ::
        ⟨some 52, .bin .gtr (.tmp 51) (.val (.int .i64 1048576)), some (49, false)⟩ ::
        ⟨some 53, .pick (.tmp 49) (.val (.bool true)) (.tmp 52), none⟩ :: [])) <|
      .cond (.tmp 53) (.seq (.region (⟨some 6, .mov (.val (.bool true)), none⟩ :: [])) <|
        .ret) <|
      .skip) <|
      .region (⟨some 54, .faddr 3 (.tmp 3), none⟩ ::
        ⟨some 55, .load false 1 (.tmp 54), none⟩ ::
        ⟨some 56, .un .neg (.tmp 55), none⟩ ::
        ⟨some 57, .faddr 3 (.tmp 7), none⟩ ::
        ⟨none, .store 1 (.tmp 57) (.tmp 56), none⟩ :: [])) <|
    .seq (.region (⟨some 59, .bin .eql (.tmp 21) (.val (.int .i64 18)), none⟩ ::
      ⟨some 58, .mov (.tmp 59), none⟩ :: [])) <|
    .cond (.tmp 58) (.region (⟨some 60, .faddr 1 (.tmp 3), none⟩ ::
        ⟨some 61, .load false 1 (.tmp 60), none⟩ ::
        ⟨some 62, .mov (.tmp 2), none⟩ ::
        ⟨some 63, .call (.val (.fn (.func 39) [])) [(.tmp 61), (.tmp 62)], none⟩ ::
        ⟨some 64, .faddr 1 (.tmp 7), none⟩ ::
        ⟨none, .store 1 (.tmp 64) (.tmp 63), none⟩ :: [])) <|
    .seq (.region (⟨some 66, .bin .eql (.tmp 21) (.val (.int .i64 19)), none⟩ ::
      ⟨some 65, .mov (.tmp 66), none⟩ :: [])) <|
    .cond (.tmp 65) (.seq (.seq (.region (⟨some 67, .faddr 2 (.tmp 3), none⟩ ::
        ⟨some 68, .load false 1 (.tmp 67), none⟩ ::
        ⟨some 69, .len false (.tmp 68), none⟩ ::
        ⟨some 70, .faddr 1 (.tmp 3), none⟩ ::
        ⟨some 71, .load false 1 (.tmp 70), none⟩ ::
        ⟨some 72, .len false (.tmp 71), none⟩ ::
        ⟨some 73, .bin .mul (.val (.int .i64 2)) (.tmp 72), none⟩ ::
        ⟨some 74, .bin .neq (.tmp 69) (.tmp 73), none⟩ :: [])) <|
      .cond (.tmp 74) (.seq (.region (⟨some 6, .mov (.val (.bool true)), none⟩ :: [])) <|
        .ret) <|
      .skip) <|
      .seq (.region (⟨some 75, .faddr 1 (.tmp 3), none⟩ ::
        ⟨some 76, .load false 1 (.tmp 75), none⟩ ::
        ⟨some 77, .mov (.tmp 2), none⟩ ::
        ⟨some 78, .call (.val (.fn (.func 39) [])) [(.tmp 76), (.tmp 77)], none⟩ ::
        ⟨some 79, .faddr 1 (.tmp 7), none⟩ ::
        ⟨none, .store 1 (.tmp 79) (.tmp 78), none⟩ :: [])) <|
      .seq (.region (⟨some 80, .faddr 2 (.tmp 3), none⟩ ::
        ⟨some 81, .load false 1 (.tmp 80), none⟩ ::
        ⟨some 82, .faddr 1 (.tmp 3), none⟩ ::
        ⟨some 83, .load false 1 (.tmp 82), none⟩ ::
        ⟨some 84, .len false (.tmp 83), none⟩ ::
        ⟨some 85, .slc 1 (.tmp 81) none (some (.tmp 84)), none⟩ ::
        ⟨some 86, .mov (.tmp 2), none⟩ ::
        ⟨some 87, .call (.val (.fn (.func 40) [])) [(.tmp 85), (.tmp 86)], none⟩ ::
        ⟨some 88, .faddr 2 (.tmp 3), none⟩ ::
        ⟨some 89, .load false 1 (.tmp 88), none⟩ ::
        ⟨some 90, .faddr 1 (.tmp 3), none⟩ ::
        ⟨some 91, .load false 1 (.tmp 90), none⟩ ::
        ⟨some 92, .len false (.tmp 91), none⟩ ::
        ⟨some 93, .slc 1 (.tmp 89) (some (.tmp 92)) none, none⟩ ::
        ⟨some 94, .mov (.tmp 2), none⟩ ::
        ⟨some 95, .call (.val (.fn (.func 40) [])) [(.tmp 93), (.tmp 94)], none⟩ ::
        ⟨some 11, .mov (.tmp 87), none⟩ ::
        ⟨some 12, .mov (.tmp 95), none⟩ :: [])) <|
      .region (⟨some 96, .mov (.tmp 11), none⟩ ::
        ⟨some 97, .mov (.tmp 12), none⟩ ::
        ⟨some 98, .app 1 8 (.tmp 96) (.tmp 97), none⟩ ::
        ⟨some 99, .faddr 2 (.tmp 7), none⟩ ::
        ⟨none, .store 1 (.tmp 99) (.tmp 98), none⟩ :: [])) <|
    .seq (.region (⟨some 6, .mov (.val (.bool true)), none⟩ :: [])) <|
    .ret)) <|
  .seq (.region (⟨some 100, .load true 4 (.tmp 7), none⟩ ::
    ⟨some 101, .mov (.tmp 1), none⟩ ::
    ⟨some 102, .callv (.val (.fn (.func 31) [])) [(.tmp 100), (.tmp 101)], none⟩ ::
    ⟨some 103, .load true 4 (.tmp 3), none⟩ ::
    ⟨some 104, .mov (.tmp 1), none⟩ ::
    ⟨some 105, .callv (.val (.fn (.func 31) [])) [(.tmp 103), (.tmp 104)], none⟩ ::
    ⟨some 106, .eqb false (.tmp 102) (.tmp 105), none⟩ ::
    ⟨some 6, .mov (.tmp 106), none⟩ :: [])) <|
  .ret⟩
theorem e_law11_SenseTurned : cFunc Try.prog kd_CLaw11 Try.f11 = some c_law11_SenseTurned := by kernel_rfl
/- touchstone/touchstonelaw11.SenseAll: slots m, 0, a, 1, b, 2, m, 3, a, 4, b, 5 -/
def c_law11_SenseAll : AFunc := ⟨40, [.tmp 6],
  .seq (.region (⟨some 3, .box 4 (.tmp 0), none⟩ ::
    ⟨some 6, .mov (.val (.bool false)), none⟩ :: [])) <|
  .seq (.seq (.region (⟨some 7, .call (.val (.fn (.func 27) [])) [], none⟩ ::
    ⟨some 8, .un .not (.tmp 7), none⟩ :: [])) <|
  .cond (.tmp 8) (.seq (.region (⟨some 6, .mov (.val (.bool false)), none⟩ :: [])) <|
    .ret) <|
  .skip) <|
  .seq (.seq (.region (⟨some 9, .load true 4 (.tmp 3), none⟩ ::
    ⟨some 10, .call (.val (.fn (.func 33) [])) [(.tmp 9)], none⟩ ::
    ⟨some 11, .un .not (.tmp 10), none⟩ ::
    ⟨some 12, .mov (.tmp 11), none⟩ ::
    ⟨some 13, .mov (.tmp 1), some (12, false)⟩ ::
    ⟨some 14, .len false (.tmp 13), some (12, false)⟩ ::
    ⟨some 15, .bin .gtr (.tmp 14) (.val (.int .i64 200)), some (12, false)⟩ ::
    ⟨some 16, .pick (.tmp 12) (.val (.bool true)) (.tmp 15), none⟩ ::
    ⟨some 17, .mov (.tmp 16), none⟩ ::
    ⟨some 18, .mov (.tmp 2), some (17, false)⟩ ::
    ⟨some 19, .len false (.tmp 18), some (17, false)⟩ ::
    ⟨some 20, .bin .gtr (.tmp 19) (.val (.int .i64 200)), some (17, false)⟩ ::
    ⟨some 21, .pick (.tmp 17) (.val (.bool true)) (.tmp 20), none⟩ :: [])) <|
  .cond (.tmp 21) (.seq (.region (⟨some 6, .mov (.val (.bool true)), none⟩ :: [])) <|
    .ret) <|
  .skip) <|
  .seq (.region (⟨some 22, .load true 4 (.tmp 3), none⟩ ::
    ⟨some 23, .mov (.tmp 1), none⟩ ::
    ⟨some 24, .call (.val (.fn (.func 34) [])) [(.tmp 22), (.tmp 23)], none⟩ ::
    ⟨some 25, .load true 4 (.tmp 3), none⟩ ::
    ⟨some 26, .mov (.tmp 1), none⟩ ::
    ⟨some 27, .call (.val (.fn (.func 35) [])) [(.tmp 25), (.tmp 26)], none⟩ ::
    ⟨some 28, .eqb false (.tmp 24) (.tmp 27), none⟩ ::
    ⟨some 29, .mov (.tmp 28), none⟩ ::
    ⟨some 30, .load true 4 (.tmp 3), some (29, true)⟩ ::
    ⟨some 31, .mov (.tmp 1), some (29, true)⟩ ::
    ⟨some 32, .mov (.tmp 2), some (29, true)⟩ ::
    ⟨some 33, .call (.val (.fn (.func 36) [])) [(.tmp 30), (.tmp 31), (.tmp 32)], some (29, true)⟩ ::
    ⟨some 34, .load true 4 (.tmp 3), some (29, true)⟩ ::
    ⟨some 35, .mov (.tmp 1), some (29, true)⟩ ::
    ⟨some 36, .mov (.tmp 2), some (29, true)⟩ ::
    ⟨some 37, .call (.val (.fn (.func 37) [])) [(.tmp 34), (.tmp 35), (.tmp 36)], some (29, true)⟩ ::
    ⟨some 38, .eqb false (.tmp 33) (.tmp 37), some (29, true)⟩ ::
    ⟨some 39, .pick (.tmp 29) (.tmp 38) (.val (.bool false)), none⟩ ::
    ⟨some 6, .mov (.tmp 39), none⟩ :: [])) <|
  .ret⟩
theorem e_law11_SenseAll : cFunc Try.prog kd_CLaw11 Try.f9 = some c_law11_SenseAll := by kernel_rfl
/- touchstone/touchstonelaw11.turned[int]: slots l, 0, at, 1, l, 2, at, 3, out, 5, i, 6 -/
def c_law11_turned_int : AFunc := ⟨27, [.tmp 4],
  .seq (.region (⟨some 4, .mov (.val .nils), none⟩ :: [])) <|
  .seq (.region (⟨some 5, .mov (.val .nils), none⟩ :: [])) <|
  .seq (.seq (.region (⟨some 7, .mov (.tmp 0), none⟩ ::
    ⟨some 8, .len false (.tmp 7), none⟩ ::
    ⟨some 9, .mov (.val (.int .i64 0)), none⟩ :: [])) <|
  .block 0 (.loop (.seq (.region (⟨some 10, .bin .lss (.tmp 9) (.tmp 8), none⟩ :: [])) <|
      .seq (.cond (.tmp 10) (.skip) <|
      .exit 0) <|
      .seq (.block 1 (.seq (.region (⟨some 11, .mov (.tmp 9), none⟩ ::
          ⟨some 6, .mov (.tmp 11), none⟩ :: [])) <|
        .region (⟨some 12, .mov (.tmp 5), none⟩ ::
          ⟨some 13, .mov (.tmp 0), none⟩ ::
          ⟨some 14, .mov (.tmp 6), none⟩ ::
          ⟨some 15, .mov (.tmp 1), none⟩ ::
          ⟨some 16, .conv .i64 (.tmp 15), none⟩ ::
          ⟨some 17, .bin .add (.tmp 14) (.tmp 16), none⟩ ::
          ⟨some 18, .mov (.tmp 0), none⟩ ::
          ⟨some 19, .len false (.tmp 18), none⟩ ::
          ⟨some 20, .bin .rem (.tmp 17) (.tmp 19), none⟩ ::
          ⟨some 21, .iaddr 1 (.tmp 13) (.tmp 20), none⟩ ::
          ⟨some 22, .load false 1 (.tmp 21), none⟩ ::
          ⟨some 23, .bslice 1 [(.tmp 22)], none⟩ ::
          ⟨some 24, .app 1 8 (.tmp 12) (.tmp 23), none⟩ ::
          ⟨some 5, .mov (.tmp 24), none⟩ :: []))) <|
      .region (⟨some 25, .bin .add (.tmp 9) (.val (.int .i64 1)), none⟩ ::
        ⟨some 9, .mov (.tmp 25), none⟩ :: [])))) <|
  .seq (.region (⟨some 26, .mov (.tmp 5), none⟩ ::
    ⟨some 4, .mov (.tmp 26), none⟩ :: [])) <|
  .ret⟩
theorem e_law11_turned_int : cFunc Try.prog kd_CLaw11 Try.f39 = some c_law11_turned_int := by kernel_rfl
/- touchstone/touchstonelaw11.turned[int64]: slots l, 0, at, 1, l, 2, at, 3, out, 5, i, 6 -/
def c_law11_turned_int64 : AFunc := ⟨27, [.tmp 4],
  .seq (.region (⟨some 4, .mov (.val .nils), none⟩ :: [])) <|
  .seq (.region (⟨some 5, .mov (.val .nils), none⟩ :: [])) <|
  .seq (.seq (.region (⟨some 7, .mov (.tmp 0), none⟩ ::
    ⟨some 8, .len false (.tmp 7), none⟩ ::
    ⟨some 9, .mov (.val (.int .i64 0)), none⟩ :: [])) <|
  .block 0 (.loop (.seq (.region (⟨some 10, .bin .lss (.tmp 9) (.tmp 8), none⟩ :: [])) <|
      .seq (.cond (.tmp 10) (.skip) <|
      .exit 0) <|
      .seq (.block 1 (.seq (.region (⟨some 11, .mov (.tmp 9), none⟩ ::
          ⟨some 6, .mov (.tmp 11), none⟩ :: [])) <|
        .region (⟨some 12, .mov (.tmp 5), none⟩ ::
          ⟨some 13, .mov (.tmp 0), none⟩ ::
          ⟨some 14, .mov (.tmp 6), none⟩ ::
          ⟨some 15, .mov (.tmp 1), none⟩ ::
          ⟨some 16, .conv .i64 (.tmp 15), none⟩ ::
          ⟨some 17, .bin .add (.tmp 14) (.tmp 16), none⟩ ::
          ⟨some 18, .mov (.tmp 0), none⟩ ::
          ⟨some 19, .len false (.tmp 18), none⟩ ::
          ⟨some 20, .bin .rem (.tmp 17) (.tmp 19), none⟩ ::
          ⟨some 21, .iaddr 1 (.tmp 13) (.tmp 20), none⟩ ::
          ⟨some 22, .load false 1 (.tmp 21), none⟩ ::
          ⟨some 23, .bslice 1 [(.tmp 22)], none⟩ ::
          ⟨some 24, .app 1 8 (.tmp 12) (.tmp 23), none⟩ ::
          ⟨some 5, .mov (.tmp 24), none⟩ :: []))) <|
      .region (⟨some 25, .bin .add (.tmp 9) (.val (.int .i64 1)), none⟩ ::
        ⟨some 9, .mov (.tmp 25), none⟩ :: [])))) <|
  .seq (.region (⟨some 26, .mov (.tmp 5), none⟩ ::
    ⟨some 4, .mov (.tmp 26), none⟩ :: [])) <|
  .ret⟩
theorem e_law11_turned_int64 : cFunc Try.prog kd_CLaw11 Try.f40 = some c_law11_turned_int64 := by kernel_rfl
end Go.Proofs.Ytfcphijidcfboaa
