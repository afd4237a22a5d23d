/- The code of functions, as abstract code. Printed by program. -/
import Derived.Test.YtbmcjhjbifojnaaAv2
import Derived.Test.YtbmcjhjbifojnaaProg
namespace Go.Proofs.Ytbmcjhjbifojnaa
open Av
set_option linter.unusedVariables false
set_option maxRecDepth 100000
def kd_CLaw10 (f : Nat) : Nat := if f = 24 then 1 else if f = 23 then 1 else if f = 26 then 3 else if f = 22 then 3 else if f = 12 then 2 else if f = 15 then 2 else if f = 17 then 2 else if f = 20 then 2 else if f = 9 then 3 else 0
/- touchstone/touchstonelaw10.Fits: slots doms, 0, doms, 1, i, 3 -/
def c_law10_Fits : AFunc := ⟨20, [.tmp 2],
  .seq (.region (⟨some 2, .mov (.val (.bool false)), none⟩ :: [])) <|
  .seq (.seq (.region (⟨some 4, .mov (.tmp 0), none⟩ ::
    ⟨some 5, .len false (.tmp 4), none⟩ ::
    ⟨some 6, .mov (.val (.int .i64 0)), none⟩ :: [])) <|
  .block 0 (.loop (.seq (.region (⟨some 7, .bin .lss (.tmp 6) (.tmp 5), none⟩ :: [])) <|
      .seq (.cond (.tmp 7) (.skip) <|
      .exit 0) <|
      .seq (.block 1 (.seq (.region (⟨some 8, .mov (.tmp 6), none⟩ ::
          ⟨some 3, .mov (.tmp 8), none⟩ :: [])) <|
        .seq (.region (⟨some 9, .mov (.tmp 3), none⟩ ::
          ⟨some 10, .bin .geq (.tmp 9) (.val (.int .i64 100)), none⟩ ::
          ⟨some 11, .mov (.tmp 10), none⟩ ::
          ⟨some 12, .mov (.tmp 0), some (11, false)⟩ ::
          ⟨some 13, .mov (.tmp 3), some (11, false)⟩ ::
          ⟨some 14, .iaddr 1 (.tmp 12) (.tmp 13), some (11, false)⟩ ::
          ⟨some 15, .load false 1 (.tmp 14), some (11, false)⟩ ::
          ⟨some 16, .len false (.tmp 15), some (11, false)⟩ ::
          ⟨some 17, .bin .gtr (.tmp 16) (.val (.int .i64 300)), some (11, false)⟩ ::
          ⟨some 18, .pick (.tmp 11) (.val (.bool true)) (.tmp 17), none⟩ :: [])) <|
        .cond (.tmp 18) (.seq (.region (⟨some 2, .mov (.val (.bool false)), none⟩ :: [])) <|
          .ret) <|
        .skip)) <|
      .region (⟨some 19, .bin .add (.tmp 6) (.val (.int .i64 1)), none⟩ ::
        ⟨some 6, .mov (.tmp 19), none⟩ :: [])))) <|
  .seq (.region (⟨some 2, .mov (.val (.bool true)), none⟩ :: [])) <|
  .ret⟩
theorem e_law10_Fits : cFunc Try.prog kd_CLaw10 Try.f8 = some c_law10_Fits := by kernel_rfl
/- touchstone/touchstonelaw10.alive: slots s, 1, ok, 2, e, 3, _, 4, f, 5, c, 6 -/
def c_law10_alive : AFunc := ⟨77, [.tmp 0],
  .seq (.region (⟨some 0, .mov (.val (.bool false)), none⟩ :: [])) <|
  .seq (.region (⟨some 7, .build [(.int .i64 0), (.int .i64 0)] [(0, 1, (.val (.int .i64 1))), (1, 1, (.val (.int .i64 5)))], none⟩ ::
    ⟨some 8, .bslice 2 [(.tmp 7)], none⟩ ::
    ⟨some 9, .bslice 1 [(.tmp 8)], none⟩ ::
    ⟨some 10, .callo (.val (.fn (.func 9) [])) [(.tmp 9)], none⟩ ::
    ⟨some 1, .mov (.tmp 10), none⟩ :: [])) <|
  .seq (.seq (.region (⟨some 11, .mov (.tmp 1), none⟩ ::
    ⟨some 12, .isnp false (.tmp 11), none⟩ ::
    ⟨some 13, .mov (.tmp 12), none⟩ ::
    ⟨some 14, .mov (.tmp 1), some (13, false)⟩ ::
    ⟨some 15, .callm (.val (.fn (.func 15) [])) [(.tmp 14)], some (13, false)⟩ ::
    ⟨some 16, .bin .neq (.tmp 15) (.val (.int .i64 0)), some (13, false)⟩ ::
    ⟨some 17, .pick (.tmp 13) (.val (.bool true)) (.tmp 16), none⟩ :: [])) <|
  .cond (.tmp 17) (.seq (.region (⟨some 0, .mov (.val (.bool false)), none⟩ :: [])) <|
    .ret) <|
  .skip) <|
  .seq (.region (⟨some 19, .mov (.tmp 1), none⟩ ::
    ⟨some 20, .build [(.int .i64 0), (.int .i64 0)] [(0, 1, (.val (.int .i64 3))), (1, 1, (.val (.int .i64 9)))], none⟩ ::
    ⟨some 21, .bslice 2 [(.tmp 20)], none⟩ ::
    ⟨some 22, .callm (.val (.fn (.func 12) [])) [(.tmp 19), (.val (.int .i64 0)), (.tmp 21)], none⟩ ::
    ⟨some 18, .mov (.tmp 22), none⟩ ::
    ⟨some 23, .ext (.tmp 18) 0, none⟩ ::
    ⟨some 24, .ext (.tmp 18) 1, none⟩ ::
    ⟨some 2, .mov (.tmp 23), none⟩ ::
    ⟨some 3, .mov (.tmp 24), none⟩ :: [])) <|
  .seq (.region (⟨some 26, .mov (.tmp 1), none⟩ ::
    ⟨some 27, .build [(.int .i64 0), (.int .i64 0)] [(0, 1, (.val (.int .i64 7))), (1, 1, (.val (.int .i64 9)))], none⟩ ::
    ⟨some 28, .bslice 2 [(.tmp 27)], none⟩ ::
    ⟨some 29, .callm (.val (.fn (.func 12) [])) [(.tmp 26), (.val (.int .i64 0)), (.tmp 28)], none⟩ ::
    ⟨some 25, .mov (.tmp 29), none⟩ ::
    ⟨some 30, .ext (.tmp 25) 0, none⟩ ::
    ⟨some 31, .ext (.tmp 25) 1, none⟩ ::
    ⟨some 4, .mov (.tmp 30), none⟩ ::
    ⟨some 5, .mov (.tmp 31), none⟩ :: [])) <|
  .seq (.region (⟨some 32, .mov (.tmp 1), none⟩ ::
    ⟨some 33, .callm (.val (.fn (.func 20) [])) [(.tmp 32)], none⟩ ::
    ⟨some 6, .mov (.tmp 33), none⟩ :: [])) <|
  .seq (.region (⟨some 34, .mov (.tmp 2), none⟩ ::
    ⟨some 35, .mov (.tmp 34), none⟩ ::
    ⟨some 36, .mov (.tmp 3), some (35, true)⟩ ::
    ⟨some 37, .bin .eql (.tmp 36) (.val (.int .i64 0)), some (35, true)⟩ ::
    ⟨some 38, .pick (.tmp 35) (.tmp 37) (.val (.bool false)), none⟩ ::
    ⟨some 39, .mov (.tmp 38), none⟩ ::
    ⟨some 40, .mov (.tmp 5), some (39, true)⟩ ::
    ⟨some 41, .bin .eql (.tmp 40) (.val (.int .i64 12)), some (39, true)⟩ ::
    ⟨some 42, .pick (.tmp 39) (.tmp 41) (.val (.bool false)), none⟩ ::
    ⟨some 43, .mov (.tmp 42), none⟩ ::
    ⟨some 44, .mov (.tmp 6), some (43, true)⟩ ::
    ⟨some 45, .len false (.tmp 44), some (43, true)⟩ ::
    ⟨some 46, .bin .eql (.tmp 45) (.val (.int .i64 1)), some (43, true)⟩ ::
    ⟨some 47, .pick (.tmp 43) (.tmp 46) (.val (.bool false)), none⟩ ::
    ⟨some 48, .mov (.tmp 47), none⟩ ::
    ⟨some 49, .mov (.tmp 1), some (48, true)⟩ ::
    ⟨some 50, .callo (.val (.fn (.func 26) [])) [(.tmp 49), (.val (.int .i64 0))], some (48, true)⟩ ::
    ⟨some 51, .build [(.int .i64 0), (.int .i64 0)] [(0, 1, (.val (.int .i64 3))), (1, 1, (.val (.int .i64 5)))], some (48, true)⟩ ::
    ⟨some 52, .bslice 2 [(.tmp 51)], some (48, true)⟩ ::
    ⟨some 53, .call (.val (.fn (.func 25) [])) [(.tmp 50), (.tmp 52)], some (48, true)⟩ ::
    ⟨some 54, .pick (.tmp 48) (.tmp 53) (.val (.bool false)), none⟩ ::
    ⟨some 55, .mov (.tmp 54), none⟩ ::
    ⟨some 56, .mov (.tmp 1), some (55, true)⟩ ::
    ⟨some 57, .callv (.val (.fn (.func 23) [])) [(.tmp 56)], some (55, true)⟩ ::
    ⟨some 58, .bin .eql (.tmp 57) (.val (.int .i64 1)), some (55, true)⟩ ::
    ⟨some 59, .pick (.tmp 55) (.tmp 58) (.val (.bool false)), none⟩ ::
    ⟨some 60, .mov (.tmp 59), none⟩ ::
    ⟨some 61, .mov (.tmp 1), some (60, true)⟩ ::
    ⟨some 62, .callm (.val (.fn (.func 17) [])) [(.tmp 61)], some (60, true)⟩ ::
    ⟨some 63, .bin .eql (.tmp 62) (.val (.int .i64 0)), some (60, true)⟩ ::
    ⟨some 64, .pick (.tmp 60) (.tmp 63) (.val (.bool false)), none⟩ ::
    ⟨some 65, .mov (.tmp 64), none⟩ ::
    ⟨some 66, .mov (.tmp 1), some (65, true)⟩ ::
    ⟨some 67, .callo (.val (.fn (.func 26) [])) [(.tmp 66), (.val (.int .i64 0))], some (65, true)⟩ ::
    ⟨some 68, .build [(.int .i64 0), (.int .i64 0)] [(0, 1, (.val (.int .i64 1))), (1, 1, (.val (.int .i64 5)))], some (65, true)⟩ ::
    ⟨some 69, .bslice 2 [(.tmp 68)], some (65, true)⟩ ::
    ⟨some 70, .call (.val (.fn (.func 25) [])) [(.tmp 67), (.tmp 69)], some (65, true)⟩ ::
    ⟨some 71, .pick (.tmp 65) (.tmp 70) (.val (.bool false)), none⟩ ::
    ⟨some 72, .mov (.tmp 71), none⟩ ::
    ⟨some 73, .mov (.tmp 1), some (72, true)⟩ ::
    ⟨some 74, .callv (.val (.fn (.func 24) [])) [(.tmp 73)], some (72, true)⟩ ::
    ⟨some 75, .bin .eql (.tmp 74) (.val (.int .i64 1)), some (72, true)⟩ ::
    ⟨some 76, .pick (.tmp 72) (.tmp 75) (.val (.bool false)), none⟩ ::
    ⟨some 0, .mov (.tmp 76), none⟩ :: [])) <|
  .ret⟩
theorem e_law10_alive : cFunc Try.prog kd_CLaw10 Try.f7 = some c_law10_alive := by kernel_rfl
/- touchstone/touchstonelaw10.ints: slots a, 0, b, 1, a, 2, b, 3, i, 5 -/
def c_law10_ints : AFunc := ⟨26, [.tmp 4],
  .seq (.region (⟨some 4, .mov (.val (.bool false)), none⟩ :: [])) <|
  .seq (.seq (.region (⟨some 6, .mov (.tmp 0), none⟩ ::
    ⟨some 7, .len false (.tmp 6), none⟩ ::
    ⟨some 8, .mov (.tmp 1), none⟩ ::
    ⟨some 9, .len false (.tmp 8), none⟩ ::
    ⟨some 10, .bin .neq (.tmp 7) (.tmp 9), none⟩ :: [])) <|
  .cond (.tmp 10) (.seq (.region (⟨some 4, .mov (.val (.bool false)), none⟩ :: [])) <|
    .ret) <|
  .skip) <|
  .seq (.seq (.region (⟨some 11, .mov (.tmp 0), none⟩ ::
    ⟨some 12, .len false (.tmp 11), none⟩ ::
    ⟨some 13, .mov (.val (.int .i64 0)), none⟩ :: [])) <|
  .block 0 (.loop (.seq (.region (⟨some 14, .bin .lss (.tmp 13) (.tmp 12), none⟩ :: [])) <|
      .seq (.cond (.tmp 14) (.skip) <|
      .exit 0) <|
      .seq (.block 1 (.seq (.region (⟨some 15, .mov (.tmp 13), none⟩ ::
          ⟨some 5, .mov (.tmp 15), none⟩ :: [])) <|
        .seq (.region (⟨some 16, .mov (.tmp 0), none⟩ ::
          ⟨some 17, .mov (.tmp 5), none⟩ ::
          ⟨some 18, .iaddr 1 (.tmp 16) (.tmp 17), none⟩ ::
          ⟨some 19, .load false 1 (.tmp 18), none⟩ ::
          ⟨some 20, .mov (.tmp 1), none⟩ ::
          ⟨some 21, .mov (.tmp 5), none⟩ ::
          ⟨some 22, .iaddr 1 (.tmp 20) (.tmp 21), none⟩ ::
          ⟨some 23, .load false 1 (.tmp 22), none⟩ ::
          ⟨some 24, .bin .neq (.tmp 19) (.tmp 23), none⟩ :: [])) <|
        .cond (.tmp 24) (.seq (.region (⟨some 4, .mov (.val (.bool false)), none⟩ :: [])) <|
          .ret) <|
        .skip)) <|
      .region (⟨some 25, .bin .add (.tmp 13) (.val (.int .i64 1)), none⟩ ::
        ⟨some 13, .mov (.tmp 25), none⟩ :: [])))) <|
  .seq (.region (⟨some 4, .mov (.val (.bool true)), none⟩ :: [])) <|
  .ret⟩
theorem e_law10_ints : cFunc Try.prog kd_CLaw10 Try.f19 = some c_law10_ints := by kernel_rfl
/- touchstone/touchstonelaw10.get: slots m, 0, x, 1, m, 2, x, 3 -/
def c_law10_get : AFunc := ⟨19, [.tmp 4],
  .seq (.region (⟨some 2, .box 3 (.tmp 0), none⟩ ::
    ⟨some 4, .mov (.val .nils), none⟩ :: [])) <|
  .seq (.seq (.region (⟨some 5, .mov (.tmp 1), none⟩ ::
    ⟨some 6, .bin .lss (.tmp 5) (.val (.int .i64 0)), none⟩ ::
    ⟨some 7, .mov (.tmp 6), none⟩ ::
    ⟨some 8, .mov (.tmp 1), some (7, false)⟩ ::
    ⟨some 9, .faddr 0 (.tmp 2), some (7, false)⟩ ::
    ⟨some 10, .load false 1 (.tmp 9), some (7, false)⟩ ::
    ⟨some 11, .len false (.tmp 10), some (7, false)⟩ ::
    ⟨some 12, .bin .geq (.tmp 8) (.tmp 11), some (7, false)⟩ ::
    ⟨some 13, .pick (.tmp 7) (.val (.bool true)) (.tmp 12), none⟩ :: [])) <|
  .cond (.tmp 13) (.seq (.region (⟨some 4, .mov (.val .nils), none⟩ :: [])) <|
    .ret) <|
  .skip) <|
  .seq (.region (⟨some 14, .faddr 0 (.tmp 2), none⟩ ::
    ⟨some 15, .load false 1 (.tmp 14), none⟩ ::
    ⟨some 16, .mov (.tmp 1), none⟩ ::
    ⟨some 17, .iaddr 1 (.tmp 15) (.tmp 16), none⟩ ::
    ⟨some 18, .load false 1 (.tmp 17), none⟩ ::
    ⟨some 4, .mov (.tmp 18), none⟩ :: [])) <|
  .ret⟩
theorem e_law10_get : cFunc Try.prog kd_CLaw10 Try.f27 = some c_law10_get := by kernel_rfl
/- touchstone/touchstonelaw10.TrailActs: slots doms, 0, l, 1, doms, 2, l, 3, s, 5, m, 6, i, 7, a, 8, ok, 9, x, 10, e, 11, next, 12, y, 13, f, 14, next, 15, f, 16, next, 17, f, 18, next, 19, c, 20 -/
def c_law10_TrailActs : AFunc := ⟨162, [.tmp 4],
  .seq (.region (⟨some 4, .mov (.val (.bool false)), none⟩ :: [])) <|
  .seq (.seq (.region (⟨some 21, .call (.val (.fn (.func 7) [])) [], none⟩ ::
    ⟨some 22, .un .not (.tmp 21), none⟩ :: [])) <|
  .cond (.tmp 22) (.seq (.region (⟨some 4, .mov (.val (.bool false)), none⟩ :: [])) <|
    .ret) <|
  .skip) <|
  .seq (.seq (.region (⟨some 23, .mov (.tmp 0), none⟩ ::
    ⟨some 24, .call (.val (.fn (.func 8) [])) [(.tmp 23)], none⟩ ::
    ⟨some 25, .un .not (.tmp 24), none⟩ :: [])) <|
  .cond (.tmp 25) (.seq (.region (⟨some 4, .mov (.val (.bool true)), none⟩ :: [])) <|
    .ret) <|
  .skip) <|
  .seq (.region (⟨some 26, .mov (.tmp 0), none⟩ ::
    ⟨some 27, .callo (.val (.fn (.func 9) [])) [(.tmp 26)], none⟩ ::
    ⟨some 5, .mov (.tmp 27), none⟩ :: [])) <|
  .seq (.seq (.region (⟨some 28, .mov (.tmp 5), none⟩ ::
    ⟨some 29, .isnp true (.tmp 28), none⟩ ::
    ⟨some 30, .mov (.tmp 0), none⟩ ::
    ⟨some 31, .call (.val (.fn (.func 10) [])) [(.tmp 30)], none⟩ ::
    ⟨some 32, .eqb true (.tmp 29) (.tmp 31), none⟩ :: [])) <|
  .cond (.tmp 32) (.seq (.region (⟨some 4, .mov (.val (.bool false)), none⟩ :: [])) <|
    .ret) <|
  .skip) <|
  .seq (.region (⟨some 33, .mov (.tmp 0), none⟩ ::
    ⟨some 34, .call (.val (.fn (.func 11) [])) [(.tmp 33)], none⟩ ::
    ⟨some 6, .alloc (.agg [.nils, .nils, .nils]), none⟩ ::
    ⟨none, .store 3 (.tmp 6) (.tmp 34), none⟩ :: [])) <|
  .seq (.seq (.region (⟨some 7, .mov (.val (.int .i64 0)), none⟩ :: [])) <|
  .block 0 (.loop (.seq (.seq (.region (⟨some 35, .mov (.tmp 5), none⟩ ::
        ⟨some 36, .isnp true (.tmp 35), none⟩ ::
        ⟨some 37, .mov (.tmp 36), none⟩ ::
        ⟨some 38, .mov (.tmp 7), some (37, true)⟩ ::
        ⟨some 39, .mov (.tmp 1), some (37, true)⟩ ::
        ⟨some 40, .len false (.tmp 39), some (37, true)⟩ ::
        ⟨some 41, .bin .lss (.tmp 38) (.tmp 40), some (37, true)⟩ ::
        ⟨some 42, .pick (.tmp 37) (.tmp 41) (.val (.bool false)), none⟩ ::
        ⟨some 43, .mov (.tmp 42), none⟩ ::
        ⟨some 44, .mov (.tmp 7), some (43, true)⟩ ::
        ⟨some 45, .bin .lss (.tmp 44) (.val (.int .i64 700)), some (43, true)⟩ ::
        ⟨some 46, .pick (.tmp 43) (.tmp 45) (.val (.bool false)), none⟩ :: [])) <|
      .cond (.tmp 46) (.skip) <|
      .exit 0) <|
      .seq (.block 1 (.seq (.region (⟨some 49, .mov (.tmp 1), none⟩ ::
          ⟨some 50, .mov (.tmp 7), none⟩ ::
          ⟨some 51, .iaddr 3 (.tmp 49) (.tmp 50), none⟩ ::
          ⟨some 52, .load true 3 (.tmp 51), none⟩ ::
          ⟨some 8, .alloc (.agg [(.int .u8 0), (.int .i64 0), .nils]), none⟩ ::
          ⟨none, .store 3 (.tmp 8) (.tmp 52), none⟩ :: [])) <|
        .seq (.region (⟨some 9, .mov (.val (.bool true)), none⟩ :: [])) <|
        .seq (.seq (.region (⟨some 53, .faddr 0 (.tmp 8), none⟩ ::
          ⟨some 54, .load false 1 (.tmp 53), none⟩ ::
          ⟨some 55, .bin .rem (.tmp 54) (.val (.int .u8 4)), none⟩ :: [])) <|
        .block 2 (.seq (.region (⟨some 67, .bin .eql (.tmp 55) (.val (.int .u8 0)), none⟩ ::
            ⟨some 66, .mov (.tmp 67), none⟩ :: [])) <|
          .cond (.tmp 66) (.seq (.seq (.region (⟨some 68, .faddr 2 (.tmp 8), none⟩ ::
              ⟨some 69, .load false 1 (.tmp 68), none⟩ ::
              ⟨some 70, .len false (.tmp 69), none⟩ ::
              ⟨some 71, .bin .gtr (.tmp 70) (.val (.int .i64 300)), none⟩ :: [])) <|
            .cond (.tmp 71) (.exit 1) <|
            .skip) <|
            .seq (.region (⟨some 73, .mov (.tmp 5), none⟩ ::
              ⟨some 74, .faddr 1 (.tmp 8), none⟩ ::
              ⟨some 75, .load false 1 (.tmp 74), none⟩ ::
              ⟨some 76, .faddr 2 (.tmp 8), none⟩ ::
              ⟨some 77, .load false 1 (.tmp 76), none⟩ ::
              ⟨some 78, .callm (.val (.fn (.func 12) [])) [(.tmp 73), (.tmp 75), (.tmp 77)], none⟩ ::
              ⟨some 72, .mov (.tmp 78), none⟩ ::
              ⟨some 79, .ext (.tmp 72) 0, none⟩ ::
              ⟨some 80, .ext (.tmp 72) 1, none⟩ ::
              ⟨some 10, .mov (.tmp 79), none⟩ ::
              ⟨some 11, .mov (.tmp 80), none⟩ :: [])) <|
            .seq (.region (⟨some 82, .load true 3 (.tmp 6), none⟩ ::
              ⟨some 83, .faddr 1 (.tmp 8), none⟩ ::
              ⟨some 84, .load false 1 (.tmp 83), none⟩ ::
              ⟨some 85, .faddr 2 (.tmp 8), none⟩ ::
              ⟨some 86, .load false 1 (.tmp 85), none⟩ ::
              ⟨some 87, .call (.val (.fn (.func 13) [])) [(.tmp 82), (.tmp 84), (.tmp 86)], none⟩ ::
              ⟨some 81, .mov (.tmp 87), none⟩ ::
              ⟨some 88, .ext (.tmp 81) 0, none⟩ ::
              ⟨some 89, .ext (.tmp 81) 1, none⟩ ::
              ⟨some 90, .ext (.tmp 81) 2, none⟩ ::
              ⟨some 12, .alloc (.agg [.nils, .nils, .nils]), none⟩ ::
              ⟨none, .store 3 (.tmp 12) (.tmp 88), none⟩ ::
              ⟨some 13, .mov (.tmp 89), none⟩ ::
              ⟨some 14, .mov (.tmp 90), none⟩ :: [])) <|
            .seq (.region (⟨some 91, .load true 3 (.tmp 12), none⟩ ::
              ⟨none, .store 3 (.tmp 6) (.tmp 91), none⟩ :: [])) <|
            .region (⟨some 92, .mov (.tmp 10), none⟩ ::
              ⟨some 93, .mov (.tmp 13), none⟩ ::
              ⟨some 94, .eqb false (.tmp 92) (.tmp 93), none⟩ ::
              ⟨some 95, .mov (.tmp 94), none⟩ ::
              ⟨some 96, .mov (.tmp 11), some (95, true)⟩ ::
              ⟨some 97, .mov (.tmp 14), some (95, true)⟩ ::
              ⟨some 98, .bin .eql (.tmp 96) (.tmp 97), some (95, true)⟩ ::
              ⟨some 99, .pick (.tmp 95) (.tmp 98) (.val (.bool false)), none⟩ ::
              ⟨some 9, .mov (.tmp 99), none⟩ :: [])) <|
          .seq (.region (⟨some 101, .bin .eql (.tmp 55) (.val (.int .u8 1)), none⟩ ::
            ⟨some 100, .mov (.tmp 101), none⟩ :: [])) <|
          .cond (.tmp 100) (.seq (.region (⟨some 103, .load true 3 (.tmp 6), none⟩ ::
              ⟨some 104, .call (.val (.fn (.func 14) [])) [(.tmp 103)], none⟩ ::
              ⟨some 102, .mov (.tmp 104), none⟩ ::
              ⟨some 105, .ext (.tmp 102) 0, none⟩ ::
              ⟨some 106, .ext (.tmp 102) 1, none⟩ ::
              ⟨some 15, .alloc (.agg [.nils, .nils, .nils]), none⟩ ::
              ⟨none, .store 3 (.tmp 15) (.tmp 105), none⟩ ::
              ⟨some 16, .mov (.tmp 106), none⟩ :: [])) <|
            .seq (.region (⟨some 107, .load true 3 (.tmp 15), none⟩ ::
              ⟨none, .store 3 (.tmp 6) (.tmp 107), none⟩ :: [])) <|
            .region (⟨some 108, .mov (.tmp 5), none⟩ ::
              ⟨some 109, .callm (.val (.fn (.func 15) [])) [(.tmp 108)], none⟩ ::
              ⟨some 110, .mov (.tmp 16), none⟩ ::
              ⟨some 111, .bin .eql (.tmp 109) (.tmp 110), none⟩ ::
              ⟨some 9, .mov (.tmp 111), none⟩ :: [])) <|
          .seq (.region (⟨some 113, .bin .eql (.tmp 55) (.val (.int .u8 2)), none⟩ ::
            ⟨some 112, .mov (.tmp 113), none⟩ :: [])) <|
          .cond (.tmp 112) (.seq (.region (⟨some 115, .load true 3 (.tmp 6), none⟩ ::
              ⟨some 116, .call (.val (.fn (.func 16) [])) [(.tmp 115)], none⟩ ::
              ⟨some 114, .mov (.tmp 116), none⟩ ::
              ⟨some 117, .ext (.tmp 114) 0, none⟩ ::
              ⟨some 118, .ext (.tmp 114) 1, none⟩ ::
              ⟨some 17, .alloc (.agg [.nils, .nils, .nils]), none⟩ ::
              ⟨none, .store 3 (.tmp 17) (.tmp 117), none⟩ ::
              ⟨some 18, .mov (.tmp 118), none⟩ :: [])) <|
            .seq (.region (⟨some 119, .load true 3 (.tmp 17), none⟩ ::
              ⟨none, .store 3 (.tmp 6) (.tmp 119), none⟩ :: [])) <|
            .region (⟨some 120, .mov (.tmp 5), none⟩ ::
              ⟨some 121, .callm (.val (.fn (.func 17) [])) [(.tmp 120)], none⟩ ::
              ⟨some 122, .mov (.tmp 18), none⟩ ::
              ⟨some 123, .bin .eql (.tmp 121) (.tmp 122), none⟩ ::
              ⟨some 9, .mov (.tmp 123), none⟩ :: [])) <|
          .seq (.region (⟨some 57, .load true 3 (.tmp 6), none⟩ ::
            ⟨some 58, .call (.val (.fn (.func 18) [])) [(.tmp 57)], none⟩ ::
            ⟨some 56, .mov (.tmp 58), none⟩ ::
            ⟨some 59, .ext (.tmp 56) 0, none⟩ ::
            ⟨some 60, .ext (.tmp 56) 1, none⟩ ::
            ⟨some 19, .alloc (.agg [.nils, .nils, .nils]), none⟩ ::
            ⟨none, .store 3 (.tmp 19) (.tmp 59), none⟩ ::
            ⟨some 20, .mov (.tmp 60), none⟩ :: [])) <|
          .seq (.region (⟨some 61, .load true 3 (.tmp 19), none⟩ ::
            ⟨none, .store 3 (.tmp 6) (.tmp 61), none⟩ :: [])) <|
          .region (⟨some 62, .mov (.tmp 5), none⟩ ::
            ⟨some 63, .callm (.val (.fn (.func 20) [])) [(.tmp 62)], none⟩ ::
            ⟨some 64, .mov (.tmp 20), none⟩ ::
            ⟨some 65, .call (.val (.fn (.func 19) [])) [(.tmp 63), (.tmp 64)], none⟩ ::
            ⟨some 9, .mov (.tmp 65), none⟩ :: []))) <|
        .seq (.region (⟨some 124, .mov (.tmp 9), none⟩ ::
          ⟨some 125, .un .not (.tmp 124), none⟩ ::
          ⟨some 126, .mov (.tmp 125), none⟩ ::
          ⟨some 127, .mov (.tmp 5), some (126, false)⟩ ::
          ⟨some 128, .callo (.val (.fn (.func 22) [])) [(.tmp 127)], some (126, false)⟩ ::
          ⟨some 129, .faddr 0 (.tmp 6), some (126, false)⟩ ::
          ⟨some 130, .load false 1 (.tmp 129), some (126, false)⟩ ::
          ⟨some 131, .call (.val (.fn (.func 21) [])) [(.tmp 128), (.tmp 130)], some (126, false)⟩ ::
          ⟨some 132, .un .not (.tmp 131), some (126, false)⟩ ::
          ⟨some 133, .pick (.tmp 126) (.val (.bool true)) (.tmp 132), none⟩ ::
          ⟨some 134, .mov (.tmp 133), none⟩ ::
          ⟨some 135, .mov (.tmp 5), some (134, false)⟩ ::
          ⟨some 136, .callv (.val (.fn (.func 23) [])) [(.tmp 135)], some (134, false)⟩ ::
          ⟨some 137, .faddr 1 (.tmp 6), some (134, false)⟩ ::
          ⟨some 138, .load false 1 (.tmp 137), some (134, false)⟩ ::
          ⟨some 139, .len false (.tmp 138), some (134, false)⟩ ::
          ⟨some 140, .bin .neq (.tmp 136) (.tmp 139), some (134, false)⟩ ::
          ⟨some 141, .pick (.tmp 134) (.val (.bool true)) (.tmp 140), none⟩ ::
          ⟨some 142, .mov (.tmp 141), none⟩ ::
          ⟨some 143, .mov (.tmp 5), some (142, false)⟩ ::
          ⟨some 144, .callv (.val (.fn (.func 24) [])) [(.tmp 143)], some (142, false)⟩ ::
          ⟨some 145, .faddr 0 (.tmp 6), some (142, false)⟩ ::
          ⟨some 146, .load false 1 (.tmp 145), some (142, false)⟩ ::
          ⟨some 147, .len false (.tmp 146), some (142, false)⟩ ::
          ⟨some 148, .bin .neq (.tmp 144) (.tmp 147), some (142, false)⟩ ::
          ⟨some 149, .pick (.tmp 142) (.val (.bool true)) (.tmp 148), none⟩ ::
          ⟨some 150, .mov (.tmp 149), none⟩ ::
          ⟨some 151, .mov (.tmp 5), some (150, false)⟩ ::
          ⟨some 152, .faddr 1 (.tmp 8), some (150, false)⟩ ::
          ⟨some 153, .load false 1 (.tmp 152), some (150, false)⟩ ::
          ⟨some 154, .callo (.val (.fn (.func 26) [])) [(.tmp 151), (.tmp 153)], some (150, false)⟩ ::
          ⟨some 155, .load true 3 (.tmp 6), some (150, false)⟩ ::
          ⟨some 156, .faddr 1 (.tmp 8), some (150, false)⟩ ::
          ⟨some 157, .load false 1 (.tmp 156), some (150, false)⟩ ::
          ⟨some 158, .call (.val (.fn (.func 27) [])) [(.tmp 155), (.tmp 157)], some (150, false)⟩ ::
          ⟨some 159, .call (.val (.fn (.func 25) [])) [(.tmp 154), (.tmp 158)], some (150, false)⟩ ::
          ⟨some 160, .un .not (.tmp 159), some (150, false)⟩ ::
          ⟨some 161, .pick (.tmp 150) (.val (.bool true)) (.tmp 160), none⟩ :: [])) <|
        .cond (.tmp 161) (.seq (.region (⟨some 4, .mov (.val (.bool false)), none⟩ :: [])) <|
          .ret) <|
        .skip)) <|
      .region (⟨some 47, .mov (.tmp 7), none⟩ ::
        ⟨some 48, .bin .add (.tmp 47) (.val (.int .i64 1)), none⟩ ::
        ⟨some 7, .mov (.tmp 48), none⟩ :: [])))) <|
  .seq (.region (⟨some 4, .mov (.val (.bool true)), none⟩ :: [])) <|
  .ret⟩
theorem e_law10_TrailActs : cFunc Try.prog kd_CLaw10 Try.f3 = some c_law10_TrailActs := by kernel_rfl
/- touchstone/touchstonelaw10.TrailBack: slots doms, 0, ahead, 1, behind, 2, doms, 3, ahead, 4, behind, 5, s, 7, i, 8, a, 9, was, 10, level, 11, i, 12, a, 13 -/
def c_law10_TrailBack : AFunc := ⟨138, [.tmp 6],
  .seq (.region (⟨some 6, .mov (.val (.bool false)), none⟩ :: [])) <|
  .seq (.seq (.region (⟨some 14, .call (.val (.fn (.func 7) [])) [], none⟩ ::
    ⟨some 15, .un .not (.tmp 14), none⟩ :: [])) <|
  .cond (.tmp 15) (.seq (.region (⟨some 6, .mov (.val (.bool false)), none⟩ :: [])) <|
    .ret) <|
  .skip) <|
  .seq (.seq (.region (⟨some 16, .mov (.tmp 0), none⟩ ::
    ⟨some 17, .call (.val (.fn (.func 8) [])) [(.tmp 16)], none⟩ ::
    ⟨some 18, .un .not (.tmp 17), none⟩ :: [])) <|
  .cond (.tmp 18) (.seq (.region (⟨some 6, .mov (.val (.bool true)), none⟩ :: [])) <|
    .ret) <|
  .skip) <|
  .seq (.region (⟨some 19, .mov (.tmp 0), none⟩ ::
    ⟨some 20, .callo (.val (.fn (.func 9) [])) [(.tmp 19)], none⟩ ::
    ⟨some 7, .mov (.tmp 20), none⟩ :: [])) <|
  .seq (.seq (.region (⟨some 21, .mov (.tmp 7), none⟩ ::
    ⟨some 22, .isnp false (.tmp 21), none⟩ :: [])) <|
  .cond (.tmp 22) (.seq (.region (⟨some 23, .mov (.tmp 0), none⟩ ::
      ⟨some 24, .call (.val (.fn (.func 10) [])) [(.tmp 23)], none⟩ ::
      ⟨some 25, .un .not (.tmp 24), none⟩ ::
      ⟨some 6, .mov (.tmp 25), none⟩ :: [])) <|
    .ret) <|
  .skip) <|
  .seq (.seq (.region (⟨some 8, .mov (.val (.int .i64 0)), none⟩ :: [])) <|
  .block 0 (.loop (.seq (.seq (.region (⟨some 26, .mov (.tmp 8), none⟩ ::
        ⟨some 27, .mov (.tmp 1), none⟩ ::
        ⟨some 28, .len false (.tmp 27), none⟩ ::
        ⟨some 29, .bin .lss (.tmp 26) (.tmp 28), none⟩ ::
        ⟨some 30, .mov (.tmp 29), none⟩ ::
        ⟨some 31, .mov (.tmp 8), some (30, true)⟩ ::
        ⟨some 32, .bin .lss (.tmp 31) (.val (.int .i64 60)), some (30, true)⟩ ::
        ⟨some 33, .pick (.tmp 30) (.tmp 32) (.val (.bool false)), none⟩ :: [])) <|
      .cond (.tmp 33) (.skip) <|
      .exit 0) <|
      .seq (.block 1 (.seq (.region (⟨some 36, .mov (.tmp 1), none⟩ ::
          ⟨some 37, .mov (.tmp 8), none⟩ ::
          ⟨some 38, .iaddr 3 (.tmp 36) (.tmp 37), none⟩ ::
          ⟨some 39, .load true 3 (.tmp 38), none⟩ ::
          ⟨some 9, .alloc (.agg [(.int .u8 0), (.int .i64 0), .nils]), none⟩ ::
          ⟨none, .store 3 (.tmp 9) (.tmp 39), none⟩ :: [])) <|
        .seq (.region (⟨some 40, .faddr 0 (.tmp 9), none⟩ ::
          ⟨some 41, .load false 1 (.tmp 40), none⟩ ::
          ⟨some 42, .bin .rem (.tmp 41) (.val (.int .u8 4)), none⟩ ::
          ⟨some 43, .bin .neq (.tmp 42) (.val (.int .u8 0)), none⟩ :: [])) <|
        .cond (.tmp 43) (.region (⟨some 44, .mov (.tmp 7), none⟩ ::
            ⟨some 45, .callm (.val (.fn (.func 15) [])) [(.tmp 44)], none⟩ :: [])) <|
        .seq (.region (⟨some 46, .faddr 2 (.tmp 9), none⟩ ::
          ⟨some 47, .load false 1 (.tmp 46), none⟩ ::
          ⟨some 48, .len false (.tmp 47), none⟩ ::
          ⟨some 49, .bin .leq (.tmp 48) (.val (.int .i64 300)), none⟩ :: [])) <|
        .cond (.tmp 49) (.region (⟨some 50, .mov (.tmp 7), none⟩ ::
            ⟨some 51, .faddr 1 (.tmp 9), none⟩ ::
            ⟨some 52, .load false 1 (.tmp 51), none⟩ ::
            ⟨some 53, .faddr 2 (.tmp 9), none⟩ ::
            ⟨some 54, .load false 1 (.tmp 53), none⟩ ::
            ⟨some 55, .callm (.val (.fn (.func 12) [])) [(.tmp 50), (.tmp 52), (.tmp 54)], none⟩ :: [])) <|
        .skip)) <|
      .region (⟨some 34, .mov (.tmp 8), none⟩ ::
        ⟨some 35, .bin .add (.tmp 34) (.val (.int .i64 1)), none⟩ ::
        ⟨some 8, .mov (.tmp 35), none⟩ :: [])))) <|
  .seq (.region (⟨some 56, .mov (.tmp 7), none⟩ ::
    ⟨some 57, .callo (.val (.fn (.func 22) [])) [(.tmp 56)], none⟩ ::
    ⟨some 58, .mov (.tmp 7), none⟩ ::
    ⟨some 59, .callv (.val (.fn (.func 23) [])) [(.tmp 58)], none⟩ ::
    ⟨some 10, .mov (.tmp 57), none⟩ ::
    ⟨some 11, .mov (.tmp 59), none⟩ :: [])) <|
  .seq (.seq (.region (⟨some 60, .mov (.tmp 7), none⟩ ::
    ⟨some 61, .callm (.val (.fn (.func 15) [])) [(.tmp 60)], none⟩ ::
    ⟨some 62, .bin .neq (.tmp 61) (.val (.int .i64 0)), none⟩ :: [])) <|
  .cond (.tmp 62) (.seq (.region (⟨some 6, .mov (.val (.bool false)), none⟩ :: [])) <|
    .ret) <|
  .skip) <|
  .seq (.seq (.region (⟨some 12, .mov (.val (.int .i64 0)), none⟩ :: [])) <|
  .block 2 (.loop (.seq (.seq (.region (⟨some 63, .mov (.tmp 12), none⟩ ::
        ⟨some 64, .mov (.tmp 2), none⟩ ::
        ⟨some 65, .len false (.tmp 64), none⟩ ::
        ⟨some 66, .bin .lss (.tmp 63) (.tmp 65), none⟩ ::
        ⟨some 67, .mov (.tmp 66), none⟩ ::
        ⟨some 68, .mov (.tmp 12), some (67, true)⟩ ::
        ⟨some 69, .bin .lss (.tmp 68) (.val (.int .i64 60)), some (67, true)⟩ ::
        ⟨some 70, .pick (.tmp 67) (.tmp 69) (.val (.bool false)), none⟩ :: [])) <|
      .cond (.tmp 70) (.skip) <|
      .exit 2) <|
      .seq (.block 3 (.seq (.region (⟨some 73, .mov (.tmp 2), none⟩ ::
          ⟨some 74, .mov (.tmp 12), none⟩ ::
          ⟨some 75, .iaddr 3 (.tmp 73) (.tmp 74), none⟩ ::
          ⟨some 76, .load true 3 (.tmp 75), none⟩ ::
          ⟨some 13, .alloc (.agg [(.int .u8 0), (.int .i64 0), .nils]), none⟩ ::
          ⟨none, .store 3 (.tmp 13) (.tmp 76), none⟩ :: [])) <|
        .block 4 (.seq (.region (⟨some 78, .faddr 0 (.tmp 13), none⟩ ::
            ⟨some 79, .load false 1 (.tmp 78), none⟩ ::
            ⟨some 80, .bin .rem (.tmp 79) (.val (.int .u8 4)), none⟩ ::
            ⟨some 81, .bin .eql (.tmp 80) (.val (.int .u8 0)), none⟩ ::
            ⟨some 82, .mov (.tmp 81), none⟩ ::
            ⟨some 83, .faddr 2 (.tmp 13), some (82, true)⟩ ::
            ⟨some 84, .load false 1 (.tmp 83), some (82, true)⟩ ::
            ⟨some 85, .len false (.tmp 84), some (82, true)⟩ ::
            ⟨some 86, .bin .leq (.tmp 85) (.val (.int .i64 300)), some (82, true)⟩ ::
            ⟨some 87, .pick (.tmp 82) (.tmp 86) (.val (.bool false)), none⟩ ::
            ⟨some 77, .mov (.tmp 87), none⟩ :: [])) <|
          .cond (.tmp 77) (.region (⟨some 88, .mov (.tmp 7), none⟩ ::
              ⟨some 89, .faddr 1 (.tmp 13), none⟩ ::
              ⟨some 90, .load false 1 (.tmp 89), none⟩ ::
              ⟨some 91, .faddr 2 (.tmp 13), none⟩ ::
              ⟨some 92, .load false 1 (.tmp 91), none⟩ ::
              ⟨some 93, .callm (.val (.fn (.func 12) [])) [(.tmp 88), (.tmp 90), (.tmp 92)], none⟩ :: [])) <|
          .seq (.region (⟨some 95, .faddr 0 (.tmp 13), none⟩ ::
            ⟨some 96, .load false 1 (.tmp 95), none⟩ ::
            ⟨some 97, .bin .rem (.tmp 96) (.val (.int .u8 4)), none⟩ ::
            ⟨some 98, .bin .eql (.tmp 97) (.val (.int .u8 1)), none⟩ ::
            ⟨some 94, .mov (.tmp 98), none⟩ :: [])) <|
          .cond (.tmp 94) (.region (⟨some 99, .mov (.tmp 7), none⟩ ::
              ⟨some 100, .callm (.val (.fn (.func 15) [])) [(.tmp 99)], none⟩ :: [])) <|
          .seq (.region (⟨some 102, .faddr 0 (.tmp 13), none⟩ ::
            ⟨some 103, .load false 1 (.tmp 102), none⟩ ::
            ⟨some 104, .bin .rem (.tmp 103) (.val (.int .u8 4)), none⟩ ::
            ⟨some 105, .bin .eql (.tmp 104) (.val (.int .u8 2)), none⟩ ::
            ⟨some 106, .mov (.tmp 105), none⟩ ::
            ⟨some 107, .mov (.tmp 7), some (106, true)⟩ ::
            ⟨some 108, .callv (.val (.fn (.func 23) [])) [(.tmp 107)], some (106, true)⟩ ::
            ⟨some 109, .mov (.tmp 11), some (106, true)⟩ ::
            ⟨some 110, .bin .add (.tmp 109) (.val (.int .i64 1)), some (106, true)⟩ ::
            ⟨some 111, .bin .gtr (.tmp 108) (.tmp 110), some (106, true)⟩ ::
            ⟨some 112, .pick (.tmp 106) (.tmp 111) (.val (.bool false)), none⟩ ::
            ⟨some 101, .mov (.tmp 112), none⟩ :: [])) <|
          .cond (.tmp 101) (.region (⟨some 113, .mov (.tmp 7), none⟩ ::
              ⟨some 114, .callm (.val (.fn (.func 17) [])) [(.tmp 113)], none⟩ :: [])) <|
          .skip))) <|
      .region (⟨some 71, .mov (.tmp 12), none⟩ ::
        ⟨some 72, .bin .add (.tmp 71) (.val (.int .i64 1)), none⟩ ::
        ⟨some 12, .mov (.tmp 72), none⟩ :: [])))) <|
  .seq (.block 5 (.loop (.seq (.seq (.region (⟨some 115, .mov (.tmp 7), none⟩ ::
        ⟨some 116, .callv (.val (.fn (.func 23) [])) [(.tmp 115)], none⟩ ::
        ⟨some 117, .mov (.tmp 11), none⟩ ::
        ⟨some 118, .bin .gtr (.tmp 116) (.tmp 117), none⟩ :: [])) <|
      .cond (.tmp 118) (.skip) <|
      .exit 5) <|
      .block 6 (.seq (.region (⟨some 119, .mov (.tmp 7), none⟩ ::
          ⟨some 120, .callm (.val (.fn (.func 17) [])) [(.tmp 119)], none⟩ ::
          ⟨some 121, .bin .neq (.tmp 120) (.val (.int .i64 0)), none⟩ :: [])) <|
        .cond (.tmp 121) (.seq (.region (⟨some 6, .mov (.val (.bool false)), none⟩ :: [])) <|
          .ret) <|
        .skip)))) <|
  .seq (.region (⟨some 122, .mov (.tmp 7), none⟩ ::
    ⟨some 123, .callo (.val (.fn (.func 22) [])) [(.tmp 122)], none⟩ ::
    ⟨some 124, .mov (.tmp 10), none⟩ ::
    ⟨some 125, .call (.val (.fn (.func 21) [])) [(.tmp 123), (.tmp 124)], none⟩ ::
    ⟨some 126, .mov (.tmp 125), none⟩ ::
    ⟨some 127, .mov (.tmp 7), some (126, true)⟩ ::
    ⟨some 128, .callv (.val (.fn (.func 23) [])) [(.tmp 127)], some (126, true)⟩ ::
    ⟨some 129, .mov (.tmp 11), some (126, true)⟩ ::
    ⟨some 130, .bin .eql (.tmp 128) (.tmp 129), some (126, true)⟩ ::
    ⟨some 131, .pick (.tmp 126) (.tmp 130) (.val (.bool false)), none⟩ ::
    ⟨some 132, .mov (.tmp 131), none⟩ ::
    ⟨some 133, .mov (.tmp 7), some (132, true)⟩ ::
    ⟨some 134, .callm (.val (.fn (.func 20) [])) [(.tmp 133)], some (132, true)⟩ ::
    ⟨some 135, .len false (.tmp 134), some (132, true)⟩ ::
    ⟨some 136, .bin .eql (.tmp 135) (.val (.int .i64 0)), some (132, true)⟩ ::
    ⟨some 137, .pick (.tmp 132) (.tmp 136) (.val (.bool false)), none⟩ ::
    ⟨some 6, .mov (.tmp 137), none⟩ :: [])) <|
  .ret⟩
theorem e_law10_TrailBack : cFunc Try.prog kd_CLaw10 Try.f4 = some c_law10_TrailBack := by kernel_rfl
/- touchstone/touchstonelaw10.TrailLess: slots doms, 0, l, 1, doms, 2, l, 3, s, 5, i, 6, a, 7, was, 8, ok, 9, e, 10, now, 11, x, 12, c, 13 -/
def c_law10_TrailLess : AFunc := ⟨170, [.tmp 4],
  .seq (.region (⟨some 4, .mov (.val (.bool false)), none⟩ :: [])) <|
  .seq (.seq (.region (⟨some 14, .call (.val (.fn (.func 7) [])) [], none⟩ ::
    ⟨some 15, .un .not (.tmp 14), none⟩ :: [])) <|
  .cond (.tmp 15) (.seq (.region (⟨some 4, .mov (.val (.bool false)), none⟩ :: [])) <|
    .ret) <|
  .skip) <|
  .seq (.seq (.region (⟨some 16, .mov (.tmp 0), none⟩ ::
    ⟨some 17, .call (.val (.fn (.func 8) [])) [(.tmp 16)], none⟩ ::
    ⟨some 18, .un .not (.tmp 17), none⟩ :: [])) <|
  .cond (.tmp 18) (.seq (.region (⟨some 4, .mov (.val (.bool true)), none⟩ :: [])) <|
    .ret) <|
  .skip) <|
  .seq (.region (⟨some 19, .mov (.tmp 0), none⟩ ::
    ⟨some 20, .callo (.val (.fn (.func 9) [])) [(.tmp 19)], none⟩ ::
    ⟨some 5, .mov (.tmp 20), none⟩ :: [])) <|
  .seq (.seq (.region (⟨some 21, .mov (.tmp 5), none⟩ ::
    ⟨some 22, .isnp false (.tmp 21), none⟩ :: [])) <|
  .cond (.tmp 22) (.seq (.region (⟨some 23, .mov (.tmp 0), none⟩ ::
      ⟨some 24, .call (.val (.fn (.func 10) [])) [(.tmp 23)], none⟩ ::
      ⟨some 25, .un .not (.tmp 24), none⟩ ::
      ⟨some 4, .mov (.tmp 25), none⟩ :: [])) <|
    .ret) <|
  .skip) <|
  .seq (.seq (.region (⟨some 6, .mov (.val (.int .i64 0)), none⟩ :: [])) <|
  .block 0 (.loop (.seq (.seq (.region (⟨some 26, .mov (.tmp 6), none⟩ ::
        ⟨some 27, .mov (.tmp 1), none⟩ ::
        ⟨some 28, .len false (.tmp 27), none⟩ ::
        ⟨some 29, .bin .lss (.tmp 26) (.tmp 28), none⟩ ::
        ⟨some 30, .mov (.tmp 29), none⟩ ::
        ⟨some 31, .mov (.tmp 6), some (30, true)⟩ ::
        ⟨some 32, .bin .lss (.tmp 31) (.val (.int .i64 80)), some (30, true)⟩ ::
        ⟨some 33, .pick (.tmp 30) (.tmp 32) (.val (.bool false)), none⟩ :: [])) <|
      .cond (.tmp 33) (.skip) <|
      .exit 0) <|
      .seq (.block 1 (.seq (.region (⟨some 36, .mov (.tmp 1), none⟩ ::
          ⟨some 37, .mov (.tmp 6), none⟩ ::
          ⟨some 38, .iaddr 3 (.tmp 36) (.tmp 37), none⟩ ::
          ⟨some 39, .load true 3 (.tmp 38), none⟩ ::
          ⟨some 7, .alloc (.agg [(.int .u8 0), (.int .i64 0), .nils]), none⟩ ::
          ⟨none, .store 3 (.tmp 7) (.tmp 39), none⟩ :: [])) <|
        .seq (.seq (.region (⟨some 40, .faddr 0 (.tmp 7), none⟩ ::
          ⟨some 41, .load false 1 (.tmp 40), none⟩ ::
          ⟨some 42, .bin .rem (.tmp 41) (.val (.int .u8 4)), none⟩ ::
          ⟨some 43, .bin .neq (.tmp 42) (.val (.int .u8 0)), none⟩ ::
          ⟨some 44, .mov (.tmp 43), none⟩ ::
          ⟨some 45, .faddr 2 (.tmp 7), some (44, false)⟩ ::
          ⟨some 46, .load false 1 (.tmp 45), some (44, false)⟩ ::
          ⟨some 47, .len false (.tmp 46), some (44, false)⟩ ::
          ⟨some 48, .bin .gtr (.tmp 47) (.val (.int .i64 300)), some (44, false)⟩ ::
          ⟨some 49, .pick (.tmp 44) (.val (.bool true)) (.tmp 48), none⟩ :: [])) <|
        .cond (.tmp 49) (.exit 1) <|
        .skip) <|
        .seq (.region (⟨some 50, .mov (.tmp 5), none⟩ ::
          ⟨some 51, .callm (.val (.fn (.func 20) [])) [(.tmp 50)], none⟩ :: [])) <|
        .seq (.region (⟨some 52, .mov (.tmp 5), none⟩ ::
          ⟨some 53, .callo (.val (.fn (.func 22) [])) [(.tmp 52)], none⟩ ::
          ⟨some 8, .mov (.tmp 53), none⟩ :: [])) <|
        .seq (.region (⟨some 55, .mov (.tmp 5), none⟩ ::
          ⟨some 56, .faddr 1 (.tmp 7), none⟩ ::
          ⟨some 57, .load false 1 (.tmp 56), none⟩ ::
          ⟨some 58, .faddr 2 (.tmp 7), none⟩ ::
          ⟨some 59, .load false 1 (.tmp 58), none⟩ ::
          ⟨some 60, .callm (.val (.fn (.func 12) [])) [(.tmp 55), (.tmp 57), (.tmp 59)], none⟩ ::
          ⟨some 54, .mov (.tmp 60), none⟩ ::
          ⟨some 61, .ext (.tmp 54) 0, none⟩ ::
          ⟨some 62, .ext (.tmp 54) 1, none⟩ ::
          ⟨some 9, .mov (.tmp 61), none⟩ ::
          ⟨some 10, .mov (.tmp 62), none⟩ :: [])) <|
        .seq (.region (⟨some 63, .mov (.tmp 5), none⟩ ::
          ⟨some 64, .callo (.val (.fn (.func 22) [])) [(.tmp 63)], none⟩ ::
          ⟨some 11, .mov (.tmp 64), none⟩ :: [])) <|
        .seq (.seq (.region (⟨some 65, .mov (.tmp 11), none⟩ ::
          ⟨some 66, .len false (.tmp 65), none⟩ ::
          ⟨some 67, .mov (.val (.int .i64 0)), none⟩ :: [])) <|
        .block 2 (.loop (.seq (.region (⟨some 68, .bin .lss (.tmp 67) (.tmp 66), none⟩ :: [])) <|
            .seq (.cond (.tmp 68) (.skip) <|
            .exit 2) <|
            .seq (.block 3 (.seq (.region (⟨some 69, .mov (.tmp 67), none⟩ ::
                ⟨some 12, .mov (.tmp 69), none⟩ :: [])) <|
              .seq (.region (⟨some 70, .mov (.tmp 11), none⟩ ::
                ⟨some 71, .mov (.tmp 12), none⟩ ::
                ⟨some 72, .iaddr 1 (.tmp 70) (.tmp 71), none⟩ ::
                ⟨some 73, .load false 1 (.tmp 72), none⟩ ::
                ⟨some 74, .call (.val (.fn (.func 28) [])) [(.tmp 73)], none⟩ ::
                ⟨some 75, .un .not (.tmp 74), none⟩ ::
                ⟨some 76, .mov (.tmp 75), none⟩ ::
                ⟨some 77, .mov (.tmp 11), some (76, false)⟩ ::
                ⟨some 78, .mov (.tmp 12), some (76, false)⟩ ::
                ⟨some 79, .iaddr 1 (.tmp 77) (.tmp 78), some (76, false)⟩ ::
                ⟨some 80, .load false 1 (.tmp 79), some (76, false)⟩ ::
                ⟨some 81, .len false (.tmp 80), some (76, false)⟩ ::
                ⟨some 82, .bin .eql (.tmp 81) (.val (.int .i64 0)), some (76, false)⟩ ::
                ⟨some 83, .pick (.tmp 76) (.val (.bool true)) (.tmp 82), none⟩ ::
                ⟨some 84, .mov (.tmp 83), none⟩ ::
                ⟨some 85, .mov (.tmp 11), some (84, false)⟩ ::
                ⟨some 86, .mov (.tmp 12), some (84, false)⟩ ::
                ⟨some 87, .iaddr 1 (.tmp 85) (.tmp 86), some (84, false)⟩ ::
                ⟨some 88, .load false 1 (.tmp 87), some (84, false)⟩ ::
                ⟨some 89, .mov (.tmp 8), some (84, false)⟩ ::
                ⟨some 90, .mov (.tmp 12), some (84, false)⟩ ::
                ⟨some 91, .iaddr 1 (.tmp 89) (.tmp 90), some (84, false)⟩ ::
                ⟨some 92, .load false 1 (.tmp 91), some (84, false)⟩ ::
                ⟨some 93, .call (.val (.fn (.func 30) [])) [(.tmp 88), (.tmp 92)], some (84, false)⟩ ::
                ⟨some 94, .mov (.tmp 11), some (84, false)⟩ ::
                ⟨some 95, .mov (.tmp 12), some (84, false)⟩ ::
                ⟨some 96, .iaddr 1 (.tmp 94) (.tmp 95), some (84, false)⟩ ::
                ⟨some 97, .load false 1 (.tmp 96), some (84, false)⟩ ::
                ⟨some 98, .call (.val (.fn (.func 29) [])) [(.tmp 93), (.tmp 97)], some (84, false)⟩ ::
                ⟨some 99, .un .not (.tmp 98), some (84, false)⟩ ::
                ⟨some 100, .pick (.tmp 84) (.val (.bool true)) (.tmp 99), none⟩ ::
                ⟨some 101, .mov (.tmp 100), none⟩ ::
                ⟨some 102, .mov (.tmp 12), some (101, false)⟩ ::
                ⟨some 103, .faddr 1 (.tmp 7), some (101, false)⟩ ::
                ⟨some 104, .load false 1 (.tmp 103), some (101, false)⟩ ::
                ⟨some 105, .bin .neq (.tmp 102) (.tmp 104), some (101, false)⟩ ::
                ⟨some 106, .mov (.tmp 105), some (101, false)⟩ ::
                ⟨some 107, .mov (.tmp 8), some (106, true)⟩ ::
                ⟨some 108, .mov (.tmp 12), some (106, true)⟩ ::
                ⟨some 109, .iaddr 1 (.tmp 107) (.tmp 108), some (106, true)⟩ ::
                ⟨some 110, .load false 1 (.tmp 109), some (106, true)⟩ ::
                ⟨some 111, .mov (.tmp 11), some (106, true)⟩ ::
                ⟨some 112, .mov (.tmp 12), some (106, true)⟩ ::
                ⟨some 113, .iaddr 1 (.tmp 111) (.tmp 112), some (106, true)⟩ ::
                ⟨some 114, .load false 1 (.tmp 113), some (106, true)⟩ ::
                ⟨some 115, .call (.val (.fn (.func 25) [])) [(.tmp 110), (.tmp 114)], some (106, true)⟩ ::
                ⟨some 116, .un .not (.tmp 115), some (106, true)⟩ ::
                ⟨some 117, .pick (.tmp 106) (.tmp 116) (.val (.bool false)), some (101, false)⟩ ::
                ⟨some 118, .pick (.tmp 101) (.val (.bool true)) (.tmp 117), none⟩ :: [])) <|
              .cond (.tmp 118) (.seq (.region (⟨some 4, .mov (.val (.bool false)), none⟩ :: [])) <|
                .ret) <|
              .skip)) <|
            .region (⟨some 119, .bin .add (.tmp 67) (.val (.int .i64 1)), none⟩ ::
              ⟨some 67, .mov (.tmp 119), none⟩ :: [])))) <|
        .seq (.region (⟨some 120, .mov (.tmp 5), none⟩ ::
          ⟨some 121, .callm (.val (.fn (.func 20) [])) [(.tmp 120)], none⟩ ::
          ⟨some 13, .mov (.tmp 121), none⟩ :: [])) <|
        .seq (.region (⟨some 122, .mov (.tmp 9), none⟩ ::
          ⟨some 123, .mov (.tmp 13), none⟩ ::
          ⟨some 124, .len false (.tmp 123), none⟩ ::
          ⟨some 125, .bin .eql (.tmp 124) (.val (.int .i64 1)), none⟩ ::
          ⟨some 126, .eqb true (.tmp 122) (.tmp 125), none⟩ ::
          ⟨some 127, .mov (.tmp 126), none⟩ ::
          ⟨some 128, .mov (.tmp 9), some (127, false)⟩ ::
          ⟨some 129, .mov (.tmp 128), some (127, false)⟩ ::
          ⟨some 130, .mov (.tmp 13), some (129, true)⟩ ::
          ⟨some 131, .iaddr 1 (.tmp 130) (.val (.int .i64 0)), some (129, true)⟩ ::
          ⟨some 132, .load false 1 (.tmp 131), some (129, true)⟩ ::
          ⟨some 133, .faddr 1 (.tmp 7), some (129, true)⟩ ::
          ⟨some 134, .load false 1 (.tmp 133), some (129, true)⟩ ::
          ⟨some 135, .bin .neq (.tmp 132) (.tmp 134), some (129, true)⟩ ::
          ⟨some 136, .mov (.tmp 135), some (129, true)⟩ ::
          ⟨some 137, .mov (.tmp 10), some (136, false)⟩ ::
          ⟨some 138, .bin .neq (.tmp 137) (.val (.int .i64 0)), some (136, false)⟩ ::
          ⟨some 139, .pick (.tmp 136) (.val (.bool true)) (.tmp 138), some (129, true)⟩ ::
          ⟨some 140, .mov (.tmp 139), some (129, true)⟩ ::
          ⟨some 141, .mov (.tmp 8), some (140, false)⟩ ::
          ⟨some 142, .faddr 1 (.tmp 7), some (140, false)⟩ ::
          ⟨some 143, .load false 1 (.tmp 142), some (140, false)⟩ ::
          ⟨some 144, .iaddr 1 (.tmp 141) (.tmp 143), some (140, false)⟩ ::
          ⟨some 145, .load false 1 (.tmp 144), some (140, false)⟩ ::
          ⟨some 146, .mov (.tmp 11), some (140, false)⟩ ::
          ⟨some 147, .faddr 1 (.tmp 7), some (140, false)⟩ ::
          ⟨some 148, .load false 1 (.tmp 147), some (140, false)⟩ ::
          ⟨some 149, .iaddr 1 (.tmp 146) (.tmp 148), some (140, false)⟩ ::
          ⟨some 150, .load false 1 (.tmp 149), some (140, false)⟩ ::
          ⟨some 151, .call (.val (.fn (.func 25) [])) [(.tmp 145), (.tmp 150)], some (140, false)⟩ ::
          ⟨some 152, .pick (.tmp 140) (.val (.bool true)) (.tmp 151), some (129, true)⟩ ::
          ⟨some 153, .pick (.tmp 129) (.tmp 152) (.val (.bool false)), some (127, false)⟩ ::
          ⟨some 154, .pick (.tmp 127) (.val (.bool true)) (.tmp 153), none⟩ ::
          ⟨some 155, .mov (.tmp 154), none⟩ ::
          ⟨some 156, .mov (.tmp 9), some (155, false)⟩ ::
          ⟨some 157, .un .not (.tmp 156), some (155, false)⟩ ::
          ⟨some 158, .mov (.tmp 157), some (155, false)⟩ ::
          ⟨some 159, .mov (.tmp 8), some (158, true)⟩ ::
          ⟨some 160, .mov (.tmp 11), some (158, true)⟩ ::
          ⟨some 161, .call (.val (.fn (.func 21) [])) [(.tmp 159), (.tmp 160)], some (158, true)⟩ ::
          ⟨some 162, .un .not (.tmp 161), some (158, true)⟩ ::
          ⟨some 163, .pick (.tmp 158) (.tmp 162) (.val (.bool false)), some (155, false)⟩ ::
          ⟨some 164, .pick (.tmp 155) (.val (.bool true)) (.tmp 163), none⟩ ::
          ⟨some 165, .mov (.tmp 164), none⟩ ::
          ⟨some 166, .mov (.tmp 13), some (165, false)⟩ ::
          ⟨some 167, .len false (.tmp 166), some (165, false)⟩ ::
          ⟨some 168, .bin .gtr (.tmp 167) (.val (.int .i64 1)), some (165, false)⟩ ::
          ⟨some 169, .pick (.tmp 165) (.val (.bool true)) (.tmp 168), none⟩ :: [])) <|
        .cond (.tmp 169) (.seq (.region (⟨some 4, .mov (.val (.bool false)), none⟩ :: [])) <|
          .ret) <|
        .skip)) <|
      .region (⟨some 34, .mov (.tmp 6), none⟩ ::
        ⟨some 35, .bin .add (.tmp 34) (.val (.int .i64 1)), none⟩ ::
        ⟨some 6, .mov (.tmp 35), none⟩ :: [])))) <|
  .seq (.region (⟨some 4, .mov (.val (.bool true)), none⟩ :: [])) <|
  .ret⟩
theorem e_law10_TrailLess : cFunc Try.prog kd_CLaw10 Try.f5 = some c_law10_TrailLess := by kernel_rfl
/- touchstone/touchstonelaw10.TrailNobody: slots a, 0, a, 1, _, 3, s, 4, ok, 5, e, 6, d, 7, s, 8, x, 9, y, 10, n, 11 -/
def c_law10_TrailNobody : AFunc := ⟨128, [.tmp 2],
  .seq (.region (⟨some 1, .box 3 (.tmp 0), none⟩ ::
    ⟨some 2, .mov (.val (.bool false)), none⟩ :: [])) <|
  .seq (.seq (.region (⟨some 12, .call (.val (.fn (.func 7) [])) [], none⟩ ::
    ⟨some 13, .un .not (.tmp 12), none⟩ :: [])) <|
  .cond (.tmp 13) (.seq (.region (⟨some 2, .mov (.val (.bool false)), none⟩ :: [])) <|
    .ret) <|
  .skip) <|
  .seq (.seq (.region (⟨some 14, .faddr 2 (.tmp 1), none⟩ ::
    ⟨some 15, .load false 1 (.tmp 14), none⟩ ::
    ⟨some 16, .len false (.tmp 15), none⟩ ::
    ⟨some 17, .bin .gtr (.tmp 16) (.val (.int .i64 300)), none⟩ :: [])) <|
  .cond (.tmp 17) (.seq (.region (⟨some 2, .mov (.val (.bool true)), none⟩ :: [])) <|
    .ret) <|
  .skip) <|
  .seq (.seq (.region (⟨some 18, .build [(.bool false), .nils, .nils, .nils, .nilm] [], none⟩ ::
    ⟨some 19, .box 5 (.tmp 18), none⟩ ::
    ⟨some 20, .bslice 1 [(.val .nilp), (.tmp 19)], none⟩ ::
    ⟨some 21, .len false (.tmp 20), none⟩ ::
    ⟨some 22, .mov (.val (.int .i64 0)), none⟩ :: [])) <|
  .block 0 (.loop (.seq (.region (⟨some 23, .bin .lss (.tmp 22) (.tmp 21), none⟩ :: [])) <|
      .seq (.cond (.tmp 23) (.skip) <|
      .exit 0) <|
      .seq (.block 1 (.seq (.region (⟨some 24, .iaddr 1 (.tmp 20) (.tmp 22), none⟩ ::
          ⟨some 25, .load false 1 (.tmp 24), none⟩ ::
          ⟨some 4, .mov (.tmp 25), none⟩ :: [])) <|
        .seq (.region (⟨some 27, .mov (.tmp 4), none⟩ ::
          ⟨some 28, .faddr 1 (.tmp 1), none⟩ ::
          ⟨some 29, .load false 1 (.tmp 28), none⟩ ::
          ⟨some 30, .faddr 2 (.tmp 1), none⟩ ::
          ⟨some 31, .load false 1 (.tmp 30), none⟩ ::
          ⟨some 32, .callm (.val (.fn (.func 12) [])) [(.tmp 27), (.tmp 29), (.tmp 31)], none⟩ ::
          ⟨some 26, .mov (.tmp 32), none⟩ ::
          ⟨some 33, .ext (.tmp 26) 0, none⟩ ::
          ⟨some 34, .ext (.tmp 26) 1, none⟩ ::
          ⟨some 5, .mov (.tmp 33), none⟩ ::
          ⟨some 6, .mov (.tmp 34), none⟩ :: [])) <|
        .seq (.region (⟨some 35, .mov (.tmp 5), none⟩ ::
          ⟨some 36, .mov (.tmp 35), none⟩ ::
          ⟨some 37, .mov (.tmp 6), some (36, false)⟩ ::
          ⟨some 38, .bin .neq (.tmp 37) (.val (.int .i64 1)), some (36, false)⟩ ::
          ⟨some 39, .pick (.tmp 36) (.val (.bool true)) (.tmp 38), none⟩ ::
          ⟨some 40, .mov (.tmp 39), none⟩ ::
          ⟨some 41, .mov (.tmp 4), some (40, false)⟩ ::
          ⟨some 42, .callm (.val (.fn (.func 15) [])) [(.tmp 41)], some (40, false)⟩ ::
          ⟨some 43, .bin .neq (.tmp 42) (.val (.int .i64 1)), some (40, false)⟩ ::
          ⟨some 44, .pick (.tmp 40) (.val (.bool true)) (.tmp 43), none⟩ ::
          ⟨some 45, .mov (.tmp 44), none⟩ ::
          ⟨some 46, .mov (.tmp 4), some (45, false)⟩ ::
          ⟨some 47, .callm (.val (.fn (.func 17) [])) [(.tmp 46)], some (45, false)⟩ ::
          ⟨some 48, .bin .neq (.tmp 47) (.val (.int .i64 1)), some (45, false)⟩ ::
          ⟨some 49, .pick (.tmp 45) (.val (.bool true)) (.tmp 48), none⟩ ::
          ⟨some 50, .mov (.tmp 49), none⟩ ::
          ⟨some 51, .mov (.tmp 4), some (50, false)⟩ ::
          ⟨some 52, .callv (.val (.fn (.func 24) [])) [(.tmp 51)], some (50, false)⟩ ::
          ⟨some 53, .bin .neq (.tmp 52) (.val (.int .i64 0)), some (50, false)⟩ ::
          ⟨some 54, .pick (.tmp 50) (.val (.bool true)) (.tmp 53), none⟩ ::
          ⟨some 55, .mov (.tmp 54), none⟩ ::
          ⟨some 56, .mov (.tmp 4), some (55, false)⟩ ::
          ⟨some 57, .callv (.val (.fn (.func 23) [])) [(.tmp 56)], some (55, false)⟩ ::
          ⟨some 58, .bin .neq (.tmp 57) (.val (.int .i64 0)), some (55, false)⟩ ::
          ⟨some 59, .pick (.tmp 55) (.val (.bool true)) (.tmp 58), none⟩ ::
          ⟨some 60, .mov (.tmp 59), none⟩ ::
          ⟨some 61, .mov (.tmp 4), some (60, false)⟩ ::
          ⟨some 62, .faddr 1 (.tmp 1), some (60, false)⟩ ::
          ⟨some 63, .load false 1 (.tmp 62), some (60, false)⟩ ::
          ⟨some 64, .callo (.val (.fn (.func 26) [])) [(.tmp 61), (.tmp 63)], some (60, false)⟩ ::
          ⟨some 65, .len false (.tmp 64), some (60, false)⟩ ::
          ⟨some 66, .bin .neq (.tmp 65) (.val (.int .i64 0)), some (60, false)⟩ ::
          ⟨some 67, .pick (.tmp 60) (.val (.bool true)) (.tmp 66), none⟩ ::
          ⟨some 68, .mov (.tmp 67), none⟩ ::
          ⟨some 69, .mov (.tmp 4), some (68, false)⟩ ::
          ⟨some 70, .callo (.val (.fn (.func 22) [])) [(.tmp 69)], some (68, false)⟩ ::
          ⟨some 71, .len false (.tmp 70), some (68, false)⟩ ::
          ⟨some 72, .bin .neq (.tmp 71) (.val (.int .i64 0)), some (68, false)⟩ ::
          ⟨some 73, .pick (.tmp 68) (.val (.bool true)) (.tmp 72), none⟩ ::
          ⟨some 74, .mov (.tmp 73), none⟩ ::
          ⟨some 75, .mov (.tmp 4), some (74, false)⟩ ::
          ⟨some 76, .callm (.val (.fn (.func 20) [])) [(.tmp 75)], some (74, false)⟩ ::
          ⟨some 77, .len false (.tmp 76), some (74, false)⟩ ::
          ⟨some 78, .bin .neq (.tmp 77) (.val (.int .i64 0)), some (74, false)⟩ ::
          ⟨some 79, .pick (.tmp 74) (.val (.bool true)) (.tmp 78), none⟩ :: [])) <|
        .cond (.tmp 79) (.seq (.region (⟨some 2, .mov (.val (.bool false)), none⟩ :: [])) <|
          .ret) <|
        .skip)) <|
      .region (⟨some 80, .bin .add (.tmp 22) (.val (.int .i64 1)), none⟩ ::
        ⟨some 22, .mov (.tmp 80), none⟩ :: [])))) <|
  .seq (.region (⟨some 81, .build [(.int .i64 0), (.int .i64 0)] [(0, 1, (.val (.int .i64 1))), (1, 1, (.val (.int .i64 5)))], none⟩ ::
    ⟨some 82, .bslice 2 [(.tmp 81)], none⟩ ::
    ⟨some 83, .bslice 1 [(.tmp 82)], none⟩ ::
    ⟨some 7, .mov (.tmp 83), none⟩ :: [])) <|
  .seq (.region (⟨some 84, .mov (.tmp 7), none⟩ ::
    ⟨some 85, .callo (.val (.fn (.func 9) [])) [(.tmp 84)], none⟩ ::
    ⟨some 8, .mov (.tmp 85), none⟩ :: [])) <|
  .seq (.seq (.region (⟨some 86, .mov (.tmp 8), none⟩ ::
    ⟨some 87, .isnp false (.tmp 86), none⟩ :: [])) <|
  .cond (.tmp 87) (.seq (.region (⟨some 2, .mov (.val (.bool false)), none⟩ :: [])) <|
    .ret) <|
  .skip) <|
  .seq (.region (⟨some 88, .mov (.tmp 7), none⟩ ::
    ⟨some 89, .iaddr 1 (.tmp 88) (.val (.int .i64 0)), none⟩ ::
    ⟨some 90, .load false 1 (.tmp 89), none⟩ ::
    ⟨some 91, .iaddr 2 (.tmp 90) (.val (.int .i64 0)), none⟩ ::
    ⟨some 92, .faddr 1 (.tmp 91), none⟩ ::
    ⟨none, .store 1 (.tmp 92) (.val (.int .i64 9)), none⟩ :: [])) <|
  .seq (.region (⟨some 93, .mov (.tmp 8), none⟩ ::
    ⟨some 94, .callo (.val (.fn (.func 26) [])) [(.tmp 93), (.val (.int .i64 0))], none⟩ ::
    ⟨some 9, .mov (.tmp 94), none⟩ :: [])) <|
  .seq (.seq (.region (⟨some 95, .mov (.tmp 9), none⟩ ::
    ⟨some 96, .len false (.tmp 95), none⟩ ::
    ⟨some 97, .bin .neq (.tmp 96) (.val (.int .i64 1)), none⟩ ::
    ⟨some 98, .mov (.tmp 97), none⟩ ::
    ⟨some 99, .mov (.tmp 9), some (98, false)⟩ ::
    ⟨some 100, .iaddr 2 (.tmp 99) (.val (.int .i64 0)), some (98, false)⟩ ::
    ⟨some 101, .faddr 1 (.tmp 100), some (98, false)⟩ ::
    ⟨some 102, .load false 1 (.tmp 101), some (98, false)⟩ ::
    ⟨some 103, .bin .neq (.tmp 102) (.val (.int .i64 5)), some (98, false)⟩ ::
    ⟨some 104, .pick (.tmp 98) (.val (.bool true)) (.tmp 103), none⟩ :: [])) <|
  .cond (.tmp 104) (.seq (.region (⟨some 2, .mov (.val (.bool false)), none⟩ :: [])) <|
    .ret) <|
  .skip) <|
  .seq (.region (⟨some 105, .mov (.tmp 9), none⟩ ::
    ⟨some 106, .iaddr 2 (.tmp 105) (.val (.int .i64 0)), none⟩ ::
    ⟨some 107, .faddr 1 (.tmp 106), none⟩ ::
    ⟨none, .store 1 (.tmp 107) (.val (.int .i64 8)), none⟩ :: [])) <|
  .seq (.region (⟨some 108, .mov (.tmp 8), none⟩ ::
    ⟨some 109, .callo (.val (.fn (.func 22) [])) [(.tmp 108)], none⟩ ::
    ⟨some 10, .mov (.tmp 109), none⟩ :: [])) <|
  .seq (.region (⟨some 110, .mov (.tmp 10), none⟩ ::
    ⟨some 111, .iaddr 1 (.tmp 110) (.val (.int .i64 0)), none⟩ ::
    ⟨some 112, .load false 1 (.tmp 111), none⟩ ::
    ⟨some 113, .iaddr 2 (.tmp 112) (.val (.int .i64 0)), none⟩ ::
    ⟨some 114, .faddr 0 (.tmp 113), none⟩ ::
    ⟨none, .store 1 (.tmp 114) (.val (.int .i64 4)), none⟩ :: [])) <|
  .seq (.region (⟨some 115, .build [(.int .i64 0), (.int .i64 0)] [(0, 1, (.val (.int .i64 2))), (1, 1, (.val (.int .i64 4)))], none⟩ ::
    ⟨some 116, .bslice 2 [(.tmp 115)], none⟩ ::
    ⟨some 11, .mov (.tmp 116), none⟩ :: [])) <|
  .seq (.region (⟨some 117, .mov (.tmp 8), none⟩ ::
    ⟨some 118, .mov (.tmp 11), none⟩ ::
    ⟨some 119, .callm (.val (.fn (.func 12) [])) [(.tmp 117), (.val (.int .i64 0)), (.tmp 118)], none⟩ :: [])) <|
  .seq (.region (⟨some 120, .mov (.tmp 11), none⟩ ::
    ⟨some 121, .iaddr 2 (.tmp 120) (.val (.int .i64 0)), none⟩ ::
    ⟨some 122, .faddr 0 (.tmp 121), none⟩ ::
    ⟨none, .store 1 (.tmp 122) (.val (.int .i64 3)), none⟩ :: [])) <|
  .seq (.region (⟨some 123, .mov (.tmp 8), none⟩ ::
    ⟨some 124, .callo (.val (.fn (.func 26) [])) [(.tmp 123), (.val (.int .i64 0))], none⟩ ::
    ⟨some 125, .build [(.int .i64 0), (.int .i64 0)] [(0, 1, (.val (.int .i64 2))), (1, 1, (.val (.int .i64 4)))], none⟩ ::
    ⟨some 126, .bslice 2 [(.tmp 125)], none⟩ ::
    ⟨some 127, .call (.val (.fn (.func 25) [])) [(.tmp 124), (.tmp 126)], none⟩ ::
    ⟨some 2, .mov (.tmp 127), none⟩ :: [])) <|
  .ret⟩
theorem e_law10_TrailNobody : cFunc Try.prog kd_CLaw10 Try.f6 = some c_law10_TrailNobody := by kernel_rfl
end Go.Proofs.Ytbmcjhjbifojnaa
