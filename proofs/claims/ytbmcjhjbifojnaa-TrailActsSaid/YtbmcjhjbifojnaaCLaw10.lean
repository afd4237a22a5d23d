/- The code of functions, as abstract code. Printed by program. -/
import Derived.Test.YtbmcjhjbifojnaaAv2
import Derived.Test.YtbmcjhjbifojnaaProg
namespace Go.Proofs.Ytbmcjhjbifojnaa
open Av
set_option linter.unusedVariables false
set_option maxRecDepth 100000
def kd_CLaw10 (f : Nat) : Nat := if f = 24 then 1 else if f = 23 then 1 else if f = 26 then 3 else if f = 22 then 3 else if f = 12 then 2 else if f = 15 then 2 else if f = 17 then 2 else if f = 20 then 2 else if f = 9 then 3 else 0
/- touchstone/touchstonelaw10.Fits: slots doms, 0, doms, 1, i, 3 -/
def c_law10_Fits : AFunc := ⟨20, [.tmp 2],
  .seq (.region (⟨some 2, .mov (.val (.bool false)), none⟩ :: [])) <|
  .seq (.seq (.region (⟨some 4, .mov (.tmp 0), none⟩ ::
    ⟨some 5, .len false (.tmp 4), none⟩ ::
    ⟨some 6, .mov (.val (.int .i64 0)), none⟩ :: [])) <|
  .block 0 (.loop (.seq (.region (⟨some 7, .bin .lss (.tmp 6) (.tmp 5), none⟩ :: [])) <|
      .seq (.cond (.tmp 7) (.skip) <|
      .exit 0) <|
      .seq (.block 1 (.seq (.region (⟨some 8, .mov (.tmp 6), none⟩ ::
          ⟨some 3, .mov (.tmp 8), none⟩ :: [])) <|
        .seq (.region (⟨some 9, .mov (.tmp 3), none⟩ ::
          ⟨some 10, .bin .geq (.tmp 9) (.val (.int .i64 100)), none⟩ ::
          ⟨some 11, .mov (.tmp 10), none⟩ ::
          ⟨some 12, .mov (.tmp 0), some (11, false)⟩ ::
          ⟨some 13, .mov (.tmp 3), some (11, false)⟩ ::
          ⟨some 14, .iaddr 1 (.tmp 12) (.tmp 13), some (11, false)⟩ ::
          ⟨some 15, .load false 1 (.tmp 14), some (11, false)⟩ ::
          ⟨some 16, .len false (.tmp 15), some (11, false)⟩ ::
          ⟨some 17, .bin .gtr (.tmp 16) (.val (.int .i64 300)), some (11, false)⟩ ::
          ⟨some 18, .pick (.tmp 11) (.val (.bool true)) (.tmp 17), none⟩ :: [])) <|
        .cond (.tmp 18) (.seq (.region (⟨some 2, .mov (.val (.bool false)), none⟩ :: [])) <|
          .ret) <|
        .skip)) <|
      .region (⟨some 19, .bin .add (.tmp 6) (.val (.int .i64 1)), none⟩ ::
        ⟨some 6, .mov (.tmp 19), none⟩ :: [])))) <|
  .seq (.region (⟨some 2, .mov (.val (.bool true)), none⟩ :: [])) <|
  .ret⟩
theorem e_law10_Fits : cFunc Try.prog kd_CLaw10 Try.f8 = some c_law10_Fits := by kernel_rfl
/- touchstone/touchstonelaw10.alive: slots s, 1, ok, 2, e, 3, _, 4, f, 5, c, 6 -/
def c_law10_alive : AFunc := ⟨77, [.tmp 0],
  .seq (.region (⟨some 0, .mov (.val (.bool false)), none⟩ :: [])) <|
  .seq (.region (⟨some 7, .build [(.int .i64 0), (.int .i64 0)] [(0, 1, (.val (.int .i64 1))), (1, 1, (.val (.int .i64 5)))], none⟩ ::
    ⟨some 8, .bslice 2 [(.tmp 7)], none⟩ ::
    ⟨some 9, .bslice 1 [(.tmp 8)], none⟩ ::
    ⟨some 10, .callo (.val (.fn (.func 9) [])) [(.tmp 9)], none⟩ ::
    ⟨some 1, .mov (.tmp 10), none⟩ :: [])) <|
  .seq (.seq (.region (⟨some 11, .mov (.tmp 1), none⟩ ::
    ⟨some 12, .isnp false (.tmp 11), none⟩ ::
    ⟨some 13, .mov (.tmp 12), none⟩ ::
    ⟨some 14, .mov (.tmp 1), some (13, false)⟩ ::
    ⟨some 15, .callm (.val (.fn (.func 15) [])) [(.tmp 14)], some (13, false)⟩ ::
    ⟨some 16, .bin .neq (.tmp 15) (.val (.int .i64 0)), some (13, false)⟩ ::
    ⟨some 17, .pick (.tmp 13) (.val (.bool true)) (.tmp 16), none⟩ :: [])) <|
  .cond (.tmp 17) (.seq (.region (⟨some 0, .mov (.val (.bool false)), none⟩ :: [])) <|
    .ret) <|
  .skip) <|
  .seq (.region (⟨some 19, .mov (.tmp 1), none⟩ ::
    ⟨some 20, .build [(.int .i64 0), (.int .i64 0)] [(0, 1, (.val (.int .i64 3))), (1, 1, (.val (.int .i64 9)))], none⟩ ::
    ⟨some 21, .bslice 2 [(.tmp 20)], none⟩ ::
    ⟨some 22, .callm (.val (.fn (.func 12) [])) [(.tmp 19), (.val (.int .i64 0)), (.tmp 21)], none⟩ ::
    ⟨some 18, .mov (.tmp 22), none⟩ ::
    ⟨some 23, .ext (.tmp 18) 0, none⟩ ::
    ⟨some 24, .ext (.tmp 18) 1, none⟩ ::
    ⟨some 2, .mov (.tmp 23), none⟩ ::
    ⟨some 3, .mov (.tmp 24), none⟩ :: [])) <|
  .seq (.region (⟨some 26, .mov (.tmp 1), none⟩ ::
    ⟨some 27, .build [(.int .i64 0), (.int .i64 0)] [(0, 1, (.val (.int .i64 7))), (1, 1, (.val (.int .i64 9)))], none⟩ ::
    ⟨some 28, .bslice 2 [(.tmp 27)], none⟩ ::
    ⟨some 29, .callm (.val (.fn (.func 12) [])) [(.tmp 26), (.val (.int .i64 0)), (.tmp 28)], none⟩ ::
    ⟨some 25, .mov (.tmp 29), none⟩ ::
    ⟨some 30, .ext (.tmp 25) 0, none⟩ ::
    ⟨some 31, .ext (.tmp 25) 1, none⟩ ::
    ⟨some 4, .mov (.tmp 30), none⟩ ::
    ⟨some 5, .mov (.tmp 31), none⟩ :: [])) <|
  .seq (.region (⟨some 32, .mov (.tmp 1), none⟩ ::
    ⟨some 33, .callm (.val (.fn (.func 20) [])) [(.tmp 32)], none⟩ ::
    ⟨some 6, .mov (.tmp 33), none⟩ :: [])) <|
  .seq (.region (⟨some 34, .mov (.tmp 2), none⟩ ::
    ⟨some 35, .mov (.tmp 34), none⟩ ::
    ⟨some 36, .mov (.tmp 3), some (35, true)⟩ ::
    ⟨some 37, .bin .eql (.tmp 36) (.val (.int .i64 0)), some (35, true)⟩ ::
    ⟨some 38, .pick (.tmp 35) (.tmp 37) (.val (.bool false)), none⟩ ::
    ⟨some 39, .mov (.tmp 38), none⟩ ::
    ⟨some 40, .mov (.tmp 5), some (39, true)⟩ ::
    ⟨some 41, .bin .eql (.tmp 40) (.val (.int .i64 12)), some (39, true)⟩ ::
    ⟨some 42, .pick (.tmp 39) (.tmp 41) (.val (.bool false)), none⟩ ::
    ⟨some 43, .mov (.tmp 42), none⟩ ::
    ⟨some 44, .mov (.tmp 6), some (43, true)⟩ ::
    ⟨some 45, .len false (.tmp 44), some (43, true)⟩ ::
    ⟨some 46, .bin .eql (.tmp 45) (.val (.int .i64 1)), some (43, true)⟩ ::
    ⟨some 47, .pick (.tmp 43) (.tmp 46) (.val (.bool false)), none⟩ ::
    ⟨some 48, .mov (.tmp 47), none⟩ ::
    ⟨some 49, .mov (.tmp 1), some (48, true)⟩ ::
    ⟨some 50, .callo (.val (.fn (.func 26) [])) [(.tmp 49), (.val (.int .i64 0))], some (48, true)⟩ ::
    ⟨some 51, .build [(.int .i64 0), (.int .i64 0)] [(0, 1, (.val (.int .i64 3))), (1, 1, (.val (.int .i64 5)))], some (48, true)⟩ ::
    ⟨some 52, .bslice 2 [(.tmp 51)], some (48, true)⟩ ::
    ⟨some 53, .call (.val (.fn (.func 25) [])) [(.tmp 50), (.tmp 52)], some (48, true)⟩ ::
    ⟨some 54, .pick (.tmp 48) (.tmp 53) (.val (.bool false)), none⟩ ::
    ⟨some 55, .mov (.tmp 54), none⟩ ::
    ⟨some 56, .mov (.tmp 1), some (55, true)⟩ ::
    ⟨some 57, .callv (.val (.fn (.func 23) [])) [(.tmp 56)], some (55, true)⟩ ::
    ⟨some 58, .bin .eql (.tmp 57) (.val (.int .i64 1)), some (55, true)⟩ ::
    ⟨some 59, .pick (.tmp 55) (.tmp 58) (.val (.bool false)), none⟩ ::
    ⟨some 60, .mov (.tmp 59), none⟩ ::
    ⟨some 61, .mov (.tmp 1), some (60, true)⟩ ::
    ⟨some 62, .callm (.val (.fn (.func 17) [])) [(.tmp 61)], some (60, true)⟩ ::
    ⟨some 63, .bin .eql (.tmp 62) (.val (.int .i64 0)), some (60, true)⟩ ::
    ⟨some 64, .pick (.tmp 60) (.tmp 63) (.val (.bool false)), none⟩ ::
    ⟨some 65, .mov (.tmp 64), none⟩ ::
    ⟨some 66, .mov (.tmp 1), some (65, true)⟩ ::
    ⟨some 67, .callo (.val (.fn (.func 26) [])) [(.tmp 66), (.val (.int .i64 0))], some (65, true)⟩ ::
    ⟨some 68, .build [(.int .i64 0), (.int .i64 0)] [(0, 1, (.val (.int .i64 1))), (1, 1, (.val (.int .i64 5)))], some (65, true)⟩ ::
    ⟨some 69, .bslice 2 [(.tmp 68)], some (65, true)⟩ ::
    ⟨some 70, .call (.val (.fn (.func 25) [])) [(.tmp 67), (.tmp 69)], some (65, true)⟩ ::
    ⟨some 71, .pick (.tmp 65) (.tmp 70) (.val (.bool false)), none⟩ ::
    ⟨some 72, .mov (.tmp 71), none⟩ ::
    ⟨some 73, .mov (.tmp 1), some (72, true)⟩ ::
    ⟨some 74, .callv (.val (.fn (.func 24) [])) [(.tmp 73)], some (72, true)⟩ ::
    ⟨some 75, .bin .eql (.tmp 74) (.val (.int .i64 1)), some (72, true)⟩ ::
    ⟨some 76, .pick (.tmp 72) (.tmp 75) (.val (.bool false)), none⟩ ::
    ⟨some 0, .mov (.tmp 76), none⟩ :: [])) <|
  .ret⟩
theorem e_law10_alive : cFunc Try.prog kd_CLaw10 Try.f7 = some c_law10_alive := by kernel_rfl
/- touchstone/touchstonelaw10.ints: slots a, 0, b, 1, a, 2, b, 3, i, 5 -/
def c_law10_ints : AFunc := ⟨26, [.tmp 4],
  .seq (.region (⟨some 4, .mov (.val (.bool false)), none⟩ :: [])) <|
  .seq (.seq (.region (⟨some 6, .mov (.tmp 0), none⟩ ::
    ⟨some 7, .len false (.tmp 6), none⟩ ::
    ⟨some 8, .mov (.tmp 1), none⟩ ::
    ⟨some 9, .len false (.tmp 8), none⟩ ::
    ⟨some 10, .bin .neq (.tmp 7) (.tmp 9), none⟩ :: [])) <|
  .cond (.tmp 10) (.seq (.region (⟨some 4, .mov (.val (.bool false)), none⟩ :: [])) <|
    .ret) <|
  .skip) <|
  .seq (.seq (.region (⟨some 11, .mov (.tmp 0), none⟩ ::
    ⟨some 12, .len false (.tmp 11), none⟩ ::
    ⟨some 13, .mov (.val (.int .i64 0)), none⟩ :: [])) <|
  .block 0 (.loop (.seq (.region (⟨some 14, .bin .lss (.tmp 13) (.tmp 12), none⟩ :: [])) <|
      .seq (.cond (.tmp 14) (.skip) <|
      .exit 0) <|
      .seq (.block 1 (.seq (.region (⟨some 15, .mov (.tmp 13), none⟩ ::
          ⟨some 5, .mov (.tmp 15), none⟩ :: [])) <|
        .seq (.region (⟨some 16, .mov (.tmp 0), none⟩ ::
          ⟨some 17, .mov (.tmp 5), none⟩ ::
          ⟨some 18, .iaddr 1 (.tmp 16) (.tmp 17), none⟩ ::
          ⟨some 19, .load false 1 (.tmp 18), none⟩ ::
          ⟨some 20, .mov (.tmp 1), none⟩ ::
          ⟨some 21, .mov (.tmp 5), none⟩ ::
          ⟨some 22, .iaddr 1 (.tmp 20) (.tmp 21), none⟩ ::
          ⟨some 23, .load false 1 (.tmp 22), none⟩ ::
          ⟨some 24, .bin .neq (.tmp 19) (.tmp 23), none⟩ :: [])) <|
        .cond (.tmp 24) (.seq (.region (⟨some 4, .mov (.val (.bool false)), none⟩ :: [])) <|
          .ret) <|
        .skip)) <|
      .region (⟨some 25, .bin .add (.tmp 13) (.val (.int .i64 1)), none⟩ ::
        ⟨some 13, .mov (.tmp 25), none⟩ :: [])))) <|
  .seq (.region (⟨some 4, .mov (.val (.bool true)), none⟩ :: [])) <|
  .ret⟩
theorem e_law10_ints : cFunc Try.prog kd_CLaw10 Try.f19 = some c_law10_ints := by kernel_rfl
/- touchstone/touchstonelaw10.get: slots m, 0, x, 1, m, 2, x, 3 -/
def c_law10_get : AFunc := ⟨19, [.tmp 4],
  .seq (.region (⟨some 2, .box 3 (.tmp 0), none⟩ ::
    ⟨some 4, .mov (.val .nils), none⟩ :: [])) <|
  .seq (.seq (.region (⟨some 5, .mov (.tmp 1), none⟩ ::
    ⟨some 6, .bin .lss (.tmp 5) (.val (.int .i64 0)), none⟩ ::
    ⟨some 7, .mov (.tmp 6), none⟩ ::
    ⟨some 8, .mov (.tmp 1), some (7, false)⟩ ::
    ⟨some 9, .faddr 0 (.tmp 2), some (7, false)⟩ ::
    ⟨some 10, .load false 1 (.tmp 9), some (7, false)⟩ ::
    ⟨some 11, .len false (.tmp 10), some (7, false)⟩ ::
    ⟨some 12, .bin .geq (.tmp 8) (.tmp 11), some (7, false)⟩ ::
    ⟨some 13, .pick (.tmp 7) (.val (.bool true)) (.tmp 12), none⟩ :: [])) <|
  .cond (.tmp 13) (.seq (.region (⟨some 4, .mov (.val .nils), none⟩ :: [])) <|
    .ret) <|
  .skip) <|
  .seq (.region (⟨some 14, .faddr 0 (.tmp 2), none⟩ ::
    ⟨some 15, .load false 1 (.tmp 14), none⟩ ::
    ⟨some 16, .mov (.tmp 1), none⟩ ::
    ⟨some 17, .iaddr 1 (.tmp 15) (.tmp 16), none⟩ ::
    ⟨some 18, .load false 1 (.tmp 17), none⟩ ::
    ⟨some 4, .mov (.tmp 18), none⟩ :: [])) <|
  .ret⟩
theorem e_law10_get : cFunc Try.prog kd_CLaw10 Try.f27 = some c_law10_get := by kernel_rfl
/- touchstone/touchstonelaw10.TrailActs: slots doms, 0, l, 1, doms, 2, l, 3, s, 5, m, 6, i, 7, a, 8, ok, 9, x, 10, e, 11, next, 12, y, 13, f, 14, next, 15, f, 16, next, 17, f, 18, next, 19, c, 20 -/
def c_law10_TrailActs : AFunc := ⟨162, [.tmp 4],
  .seq (.region (⟨some 4, .mov (.val (.bool false)), none⟩ :: [])) <|
  .seq (.seq (.region (⟨some 21, .call (.val (.fn (.func 7) [])) [], none⟩ ::
    ⟨some 22, .un .not (.tmp 21), none⟩ :: [])) <|
  .cond (.tmp 22) (.seq (.region (⟨some 4, .mov (.val (.bool false)), none⟩ :: [])) <|
    .ret) <|
  .skip) <|
  .seq (.seq (.region (⟨some 23, .mov (.tmp 0), none⟩ ::
    ⟨some 24, .call (.val (.fn (.func 8) [])) [(.tmp 23)], none⟩ ::
    ⟨some 25, .un .not (.tmp 24), none⟩ :: [])) <|
  .cond (.tmp 25) (.seq (.region (⟨some 4, .mov (.val (.bool true)), none⟩ :: [])) <|
    .ret) <|
  .skip) <|
  .seq (.region (⟨some 26, .mov (.tmp 0), none⟩ ::
    ⟨some 27, .callo (.val (.fn (.func 9) [])) [(.tmp 26)], none⟩ ::
    ⟨some 5, .mov (.tmp 27), none⟩ :: [])) <|
  .seq (.seq (.region (⟨some 28, .mov (.tmp 5), none⟩ ::
    ⟨some 29, .isnp true (.tmp 28), none⟩ ::
    ⟨some 30, .mov (.tmp 0), none⟩ ::
    ⟨some 31, .call (.val (.fn (.func 10) [])) [(.tmp 30)], none⟩ ::
    ⟨some 32, .eqb true (.tmp 29) (.tmp 31), none⟩ :: [])) <|
  .cond (.tmp 32) (.seq (.region (⟨some 4, .mov (.val (.bool false)), none⟩ :: [])) <|
    .ret) <|
  .skip) <|
  .seq (.region (⟨some 33, .mov (.tmp 0), none⟩ ::
    ⟨some 34, .call (.val (.fn (.func 11) [])) [(.tmp 33)], none⟩ ::
    ⟨some 6, .alloc (.agg [.nils, .nils, .nils]), none⟩ ::
    ⟨none, .store 3 (.tmp 6) (.tmp 34), none⟩ :: [])) <|
  .seq (.seq (.region (⟨some 7, .mov (.val (.int .i64 0)), none⟩ :: [])) <|
  .block 0 (.loop (.seq (.seq (.region (⟨some 35, .mov (.tmp 5), none⟩ ::
        ⟨some 36, .isnp true (.tmp 35), none⟩ ::
        ⟨some 37, .mov (.tmp 36), none⟩ ::
        ⟨some 38, .mov (.tmp 7), some (37, true)⟩ ::
        ⟨some 39, .mov (.tmp 1), some (37, true)⟩ ::
        ⟨some 40, .len false (.tmp 39), some (37, true)⟩ ::
        ⟨some 41, .bin .lss (.tmp 38) (.tmp 40), some (37, true)⟩ ::
        ⟨some 42, .pick (.tmp 37) (.tmp 41) (.val (.bool false)), none⟩ ::
        ⟨some 43, .mov (.tmp 42), none⟩ ::
        ⟨some 44, .mov (.tmp 7), some (43, true)⟩ ::
        ⟨some 45, .bin .lss (.tmp 44) (.val (.int .i64 700)), some (43, true)⟩ ::
        ⟨some 46, .pick (.tmp 43) (.tmp 45) (.val (.bool false)), none⟩ :: [])) <|
      .cond (.tmp 46) (.skip) <|
      .exit 0) <|
      .seq (.block 1 (.seq (.region (⟨some 49, .mov (.tmp 1), none⟩ ::
          ⟨some 50, .mov (.tmp 7), none⟩ ::
          ⟨some 51, .iaddr 3 (.tmp 49) (.tmp 50), none⟩ ::
          ⟨some 52, .load true 3 (.tmp 51), none⟩ ::
          ⟨some 8, .alloc (.agg [(.int .u8 0), (.int .i64 0), .nils]), none⟩ ::
          ⟨none, .store 3 (.tmp 8) (.tmp 52), none⟩ :: [])) <|
        .seq (.region (⟨some 9, .mov (.val (.bool true)), none⟩ :: [])) <|
        .seq (.seq (.region (⟨some 53, .faddr 0 (.tmp 8), none⟩ ::
          ⟨some 54, .load false 1 (.tmp 53), none⟩ ::
          ⟨some 55, .bin .rem (.tmp 54) (.val (.int .u8 4)), none⟩ :: [])) <|
        .block 2 (.seq (.region (⟨some 67, .bin .eql (.tmp 55) (.val (.int .u8 0)), none⟩ ::
            ⟨some 66, .mov (.tmp 67), none⟩ :: [])) <|
          .cond (.tmp 66) (.seq (.seq (.region (⟨some 68, .faddr 2 (.tmp 8), none⟩ ::
              ⟨some 69, .load false 1 (.tmp 68), none⟩ ::
              ⟨some 70, .len false (.tmp 69), none⟩ ::
              ⟨some 71, .bin .gtr (.tmp 70) (.val (.int .i64 300)), none⟩ :: [])) <|
            .cond (.tmp 71) (.exit 1) <|
            .skip) <|
            .seq (.region (⟨some 73, .mov (.tmp 5), none⟩ ::
              ⟨some 74, .faddr 1 (.tmp 8), none⟩ ::
              ⟨some 75, .load false 1 (.tmp 74), none⟩ ::
              ⟨some 76, .faddr 2 (.tmp 8), none⟩ ::
              ⟨some 77, .load false 1 (.tmp 76), none⟩ ::
              ⟨some 78, .callm (.val (.fn (.func 12) [])) [(.tmp 73), (.tmp 75), (.tmp 77)], none⟩ ::
              ⟨some 72, .mov (.tmp 78), none⟩ ::
              ⟨some 79, .ext (.tmp 72) 0, none⟩ ::
              ⟨some 80, .ext (.tmp 72) 1, none⟩ ::
              ⟨some 10, .mov (.tmp 79), none⟩ ::
              ⟨some 11, .mov (.tmp 80), none⟩ :: [])) <|
            .seq (.region (⟨some 82, .load true 3 (.tmp 6), none⟩ ::
              ⟨some 83, .faddr 1 (.tmp 8), none⟩ ::
              ⟨some 84, .load false 1 (.tmp 83), none⟩ ::
              ⟨some 85, .faddr 2 (.tmp 8), none⟩ ::
              ⟨some 86, .load false 1 (.tmp 85), none⟩ ::
              ⟨some 87, .call (.val (.fn (.func 13) [])) [(.tmp 82), (.tmp 84), (.tmp 86)], none⟩ ::
              ⟨some 81, .mov (.tmp 87), none⟩ ::
              ⟨some 88, .ext (.tmp 81) 0, none⟩ ::
              ⟨some 89, .ext (.tmp 81) 1, none⟩ ::
              ⟨some 90, .ext (.tmp 81) 2, none⟩ ::
              ⟨some 12, .alloc (.agg [.nils, .nils, .nils]), none⟩ ::
              ⟨none, .store 3 (.tmp 12) (.tmp 88), none⟩ ::
              ⟨some 13, .mov (.tmp 89), none⟩ ::
              ⟨some 14, .mov (.tmp 90), none⟩ :: [])) <|
            .seq (.region (⟨some 91, .load true 3 (.tmp 12), none⟩ ::
              ⟨none, .store 3 (.tmp 6) (.tmp 91), none⟩ :: [])) <|
            .region (⟨some 92, .mov (.tmp 10), none⟩ ::
              ⟨some 93, .mov (.tmp 13), none⟩ ::
              ⟨some 94, .eqb false (.tmp 92) (.tmp 93), none⟩ ::
              ⟨some 95, .mov (.tmp 94), none⟩ ::
              ⟨some 96, .mov (.tmp 11), some (95, true)⟩ ::
              ⟨some 97, .mov (.tmp 14), some (95, true)⟩ ::
              ⟨some 98, .bin .eql (.tmp 96) (.tmp 97), some (95, true)⟩ ::
              ⟨some 99, .pick (.tmp 95) (.tmp 98) (.val (.bool false)), none⟩ ::
              ⟨some 9, .mov (.tmp 99), none⟩ :: [])) <|
          .seq (.region (⟨some 101, .bin .eql (.tmp 55) (.val (.int .u8 1)), none⟩ ::
            ⟨some 100, .mov (.tmp 101), none⟩ :: [])) <|
          .cond (.tmp 100) (.seq (.region (⟨some 103, .load true 3 (.tmp 6), none⟩ ::
              ⟨some 104, .call (.val (.fn (.func 14) [])) [(.tmp 103)], none⟩ ::
              ⟨some 102, .mov (.tmp 104), none⟩ ::
              ⟨some 105, .ext (.tmp 102) 0, none⟩ ::
              ⟨some 106, .ext (.tmp 102) 1, none⟩ ::
              ⟨some 15, .alloc (.agg [.nils, .nils, .nils]), none⟩ ::
              ⟨none, .store 3 (.tmp 15) (.tmp 105), none⟩ ::
              ⟨some 16, .mov (.tmp 106), none⟩ :: [])) <|
            .seq (.region (⟨some 107, .load true 3 (.tmp 15), none⟩ ::
              ⟨none, .store 3 (.tmp 6) (.tmp 107), none⟩ :: [])) <|
            .region (⟨some 108, .mov (.tmp 5), none⟩ ::
              ⟨some 109, .callm (.val (.fn (.func 15) [])) [(.tmp 108)], none⟩ ::
              ⟨some 110, .mov (.tmp 16), none⟩ ::
              ⟨some 111, .bin .eql (.tmp 109) (.tmp 110), none⟩ ::
              ⟨some 9, .mov (.tmp 111), none⟩ :: [])) <|
          .seq (.region (⟨some 113, .bin .eql (.tmp 55) (.val (.int .u8 2)), none⟩ ::
            ⟨some 112, .mov (.tmp 113), none⟩ :: [])) <|
          .cond (.tmp 112) (.seq (.region (⟨some 115, .load true 3 (.tmp 6), none⟩ ::
              ⟨some 116, .call (.val (.fn (.func 16) [])) [(.tmp 115)], none⟩ ::
              ⟨some 114, .mov (.tmp 116), none⟩ ::
              ⟨some 117, .ext (.tmp 114) 0, none⟩ ::
              ⟨some 118, .ext (.tmp 114) 1, none⟩ ::
              ⟨some 17, .alloc (.agg [.nils, .nils, .nils]), none⟩ ::
              ⟨none, .store 3 (.tmp 17) (.tmp 117), none⟩ ::
              ⟨some 18, .mov (.tmp 118), none⟩ :: [])) <|
            .seq (.region (⟨some 119, .load true 3 (.tmp 17), none⟩ ::
              ⟨none, .store 3 (.tmp 6) (.tmp 119), none⟩ :: [])) <|
            .region (⟨some 120, .mov (.tmp 5), none⟩ ::
              ⟨some 121, .callm (.val (.fn (.func 17) [])) [(.tmp 120)], none⟩ ::
              ⟨some 122, .mov (.tmp 18), none⟩ ::
              ⟨some 123, .bin .eql (.tmp 121) (.tmp 122), none⟩ ::
              ⟨some 9, .mov (.tmp 123), none⟩ :: [])) <|
          .seq (.region (⟨some 57, .load true 3 (.tmp 6), none⟩ ::
            ⟨some 58, .call (.val (.fn (.func 18) [])) [(.tmp 57)], none⟩ ::
            ⟨some 56, .mov (.tmp 58), none⟩ ::
            ⟨some 59, .ext (.tmp 56) 0, none⟩ ::
            ⟨some 60, .ext (.tmp 56) 1, none⟩ ::
            ⟨some 19, .alloc (.agg [.nils, .nils, .nils]), none⟩ ::
            ⟨none, .store 3 (.tmp 19) (.tmp 59), none⟩ ::
            ⟨some 20, .mov (.tmp 60), none⟩ :: [])) <|
          .seq (.region (⟨some 61, .load true 3 (.tmp 19), none⟩ ::
            ⟨none, .store 3 (.tmp 6) (.tmp 61), none⟩ :: [])) <|
          .region (⟨some 62, .mov (.tmp 5), none⟩ ::
            ⟨some 63, .callm (.val (.fn (.func 20) [])) [(.tmp 62)], none⟩ ::
            ⟨some 64, .mov (.tmp 20), none⟩ ::
            ⟨some 65, .call (.val (.fn (.func 19) [])) [(.tmp 63), (.tmp 64)], none⟩ ::
            ⟨some 9, .mov (.tmp 65), none⟩ :: []))) <|
        .seq (.region (⟨some 124, .mov (.tmp 9), none⟩ ::
          ⟨some 125, .un .not (.tmp 124), none⟩ ::
          ⟨some 126, .mov (.tmp 125), none⟩ ::
          ⟨some 127, .mov (.tmp 5), some (126, false)⟩ ::
          ⟨some 128, .callo (.val (.fn (.func 22) [])) [(.tmp 127)], some (126, false)⟩ ::
          ⟨some 129, .faddr 0 (.tmp 6), some (126, false)⟩ ::
          ⟨some 130, .load false 1 (.tmp 129), some (126, false)⟩ ::
          ⟨some 131, .call (.val (.fn (.func 21) [])) [(.tmp 128), (.tmp 130)], some (126, false)⟩ ::
          ⟨some 132, .un .not (.tmp 131), some (126, false)⟩ ::
          ⟨some 133, .pick (.tmp 126) (.val (.bool true)) (.tmp 132), none⟩ ::
          ⟨some 134, .mov (.tmp 133), none⟩ ::
          ⟨some 135, .mov (.tmp 5), some (134, false)⟩ ::
          ⟨some 136, .callv (.val (.fn (.func 23) [])) [(.tmp 135)], some (134, false)⟩ ::
          ⟨some 137, .faddr 1 (.tmp 6), some (134, false)⟩ ::
          ⟨some 138, .load false 1 (.tmp 137), some (134, false)⟩ ::
          ⟨some 139, .len false (.tmp 138), some (134, false)⟩ ::
          ⟨some 140, .bin .neq (.tmp 136) (.tmp 139), some (134, false)⟩ ::
          ⟨some 141, .pick (.tmp 134) (.val (.bool true)) (.tmp 140), none⟩ ::
          ⟨some 142, .mov (.tmp 141), none⟩ ::
          ⟨some 143, .mov (.tmp 5), some (142, false)⟩ ::
          ⟨some 144, .callv (.val (.fn (.func 24) [])) [(.tmp 143)], some (142, false)⟩ ::
          ⟨some 145, .faddr 0 (.tmp 6), some (142, false)⟩ ::
          ⟨some 146, .load false 1 (.tmp 145), some (142, false)⟩ ::
          ⟨some 147, .len false (.tmp 146), some (142, false)⟩ ::
          ⟨some 148, .bin .neq (.tmp 144) (.tmp 147), some (142, false)⟩ ::
          ⟨some 149, .pick (.tmp 142) (.val (.bool true)) (.tmp 148), none⟩ ::
          ⟨some 150, .mov (.tmp 149), none⟩ ::
          ⟨some 151, .mov (.tmp 5), some (150, false)⟩ ::
          ⟨some 152, .faddr 1 (.tmp 8), some (150, false)⟩ ::
          ⟨some 153, .load false 1 (.tmp 152), some (150, false)⟩ ::
          ⟨some 154, .callo (.val (.fn (.func 26) [])) [(.tmp 151), (.tmp 153)], some (150, false)⟩ ::
          ⟨some 155, .load true 3 (.tmp 6), some (150, false)⟩ ::
          ⟨some 156, .faddr 1 (.tmp 8), some (150, false)⟩ ::
          ⟨some 157, .load false 1 (.tmp 156), some (150, false)⟩ ::
          ⟨some 158, .call (.val (.fn (.func 27) [])) [(.tmp 155), (.tmp 157)], some (150, false)⟩ ::
          ⟨some 159, .call (.val (.fn (.func 25) [])) [(.tmp 154), (.tmp 158)], some (150, false)⟩ ::
          ⟨some 160, .un .not (.tmp 159), some (150, false)⟩ ::
          ⟨some 161, .pick (.tmp 150) (.val (.bool true)) (.tmp 160), none⟩ :: [])) <|
        .cond (.tmp 161) (.seq (.region (⟨some 4, .mov (.val (.bool false)), none⟩ :: [])) <|
          .ret) <|
        .skip)) <|
      .region (⟨some 47, .mov (.tmp 7), none⟩ ::
        ⟨some 48, .bin .add (.tmp 47) (.val (.int .i64 1)), none⟩ ::
        ⟨some 7, .mov (.tmp 48), none⟩ :: [])))) <|
  .seq (.region (⟨some 4, .mov (.val (.bool true)), none⟩ :: [])) <|
  .ret⟩
theorem e_law10_TrailActs : cFunc Try.prog kd_CLaw10 Try.f3 = some c_law10_TrailActs := by kernel_rfl
/- touchstone/touchstonelaw10.TrailBack: slots doms, 0, ahead, 1, behind, 2, doms, 3, ahead, 4, behind, 5, s, 7, i, 8, a, 9, was, 10, level, 11, i, 12, a, 13 -/
/- touchstone/touchstonelaw10.TrailLess: slots doms, 0, l, 1, doms, 2, l, 3, s, 5, i, 6, a, 7, was, 8, ok, 9, e, 10, now, 11, x, 12, c, 13 -/
/- touchstone/touchstonelaw10.TrailNobody: slots a, 0, a, 1, _, 3, s, 4, ok, 5, e, 6, d, 7, s, 8, x, 9, y, 10, n, 11 -/
end Go.Proofs.Ytbmcjhjbifojnaa
