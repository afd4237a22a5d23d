/- The code of functions, as abstract code. Printed by program. -/
import Derived.Test.YtnhedjpghpdbdaaAv2
import Derived.Test.YtnhedjpghpdbdaaProg
namespace Go.Proofs.Ytnhedjpghpdbdaa
open Av
set_option linter.unusedVariables false
set_option maxRecDepth 100000
def kd_CLaw18 (f : Nat) : Nat := 0
/- touchstone/touchstonelaw18.alive: slots d, 1, c, 2, x, 3, e, 4, n, 5, ok, 6, _, 7, f, 8 -/
def c_law18_alive : AFunc := ⟨62, [.tmp 0],
  .seq (.region (⟨some 0, .mov (.val (.bool false)), none⟩ :: [])) <|
  .seq (.region (⟨some 9, .build [(.int .i64 0), (.int .i64 0)] [(0, 1, (.val (.int .i64 2))), (1, 1, (.val (.int .i64 3)))], none⟩ ::
    ⟨some 10, .bslice 2 [(.tmp 9)], none⟩ ::
    ⟨some 11, .build [(.int .i64 0), (.int .i64 0)] [(0, 1, (.val (.int .i64 2))), (1, 1, (.val (.int .i64 9)))], none⟩ ::
    ⟨some 12, .bslice 2 [(.tmp 11)], none⟩ ::
    ⟨some 13, .bslice 1 [(.tmp 10), (.tmp 12)], none⟩ ::
    ⟨some 1, .mov (.tmp 13), none⟩ :: [])) <|
  .seq (.region (⟨some 14, .bslice 1 [(.val (.int .i64 0)), (.val (.int .i64 1))], none⟩ ::
    ⟨some 15, .bslice 1 [(.val (.int .i64 3)), (.val (.int .i64 2)), (.val (.int .i64 1)), (.val (.int .i64 1))], none⟩ ::
    ⟨some 16, .build [(.int .i64 0), .nils, .nils, (.int .i64 0)] [(0, 1, (.val (.int .i64 19))), (1, 1, (.tmp 14)), (2, 1, (.tmp 15)), (3, 1, (.val (.int .i64 1)))], none⟩ ::
    ⟨some 2, .alloc (.agg [(.int .i64 0), .nils, .nils, (.int .i64 0)]), none⟩ ::
    ⟨none, .store 4 (.tmp 2) (.tmp 16), none⟩ :: [])) <|
  .seq (.region (⟨some 18, .load true 4 (.tmp 2), none⟩ ::
    ⟨some 19, .mov (.tmp 1), none⟩ ::
    ⟨some 20, .call (.val (.fn (.func 20) [])) [(.tmp 18), (.tmp 19)], none⟩ ::
    ⟨some 17, .mov (.tmp 20), none⟩ ::
    ⟨some 21, .ext (.tmp 17) 0, none⟩ ::
    ⟨some 22, .ext (.tmp 17) 1, none⟩ ::
    ⟨some 3, .mov (.tmp 21), none⟩ ::
    ⟨some 4, .mov (.tmp 22), none⟩ :: [])) <|
  .seq (.region (⟨some 24, .load true 4 (.tmp 2), none⟩ ::
    ⟨some 25, .mov (.tmp 1), none⟩ ::
    ⟨some 26, .call (.val (.fn (.func 27) [])) [(.tmp 24), (.tmp 25), (.val (.int .i64 3))], none⟩ ::
    ⟨some 23, .mov (.tmp 26), none⟩ ::
    ⟨some 27, .ext (.tmp 23) 0, none⟩ ::
    ⟨some 28, .ext (.tmp 23) 1, none⟩ ::
    ⟨some 5, .mov (.tmp 27), none⟩ ::
    ⟨some 6, .mov (.tmp 28), none⟩ :: [])) <|
  .seq (.region (⟨some 30, .bslice 1 [(.val (.int .i64 0)), (.val (.int .i64 1))], none⟩ ::
    ⟨some 31, .build [(.int .i64 0), .nils, .nils, (.int .i64 0)] [(0, 1, (.val (.int .i64 15))), (1, 1, (.tmp 30))], none⟩ ::
    ⟨some 32, .mov (.tmp 1), none⟩ ::
    ⟨some 33, .call (.val (.fn (.func 20) [])) [(.tmp 31), (.tmp 32)], none⟩ ::
    ⟨some 29, .mov (.tmp 33), none⟩ ::
    ⟨some 34, .ext (.tmp 29) 0, none⟩ ::
    ⟨some 35, .ext (.tmp 29) 1, none⟩ ::
    ⟨some 7, .mov (.tmp 34), none⟩ ::
    ⟨some 8, .mov (.tmp 35), none⟩ :: [])) <|
  .seq (.region (⟨some 36, .mov (.tmp 4), none⟩ ::
    ⟨some 37, .bin .eql (.tmp 36) (.val (.int .i64 0)), none⟩ ::
    ⟨some 38, .mov (.tmp 37), none⟩ ::
    ⟨some 39, .mov (.tmp 3), some (38, true)⟩ ::
    ⟨some 40, .len false (.tmp 39), some (38, true)⟩ ::
    ⟨some 41, .bin .eql (.tmp 40) (.val (.int .i64 2)), some (38, true)⟩ ::
    ⟨some 42, .pick (.tmp 38) (.tmp 41) (.val (.bool false)), none⟩ ::
    ⟨some 43, .mov (.tmp 42), none⟩ ::
    ⟨some 44, .mov (.tmp 3), some (43, true)⟩ ::
    ⟨some 45, .iaddr 1 (.tmp 44) (.val (.int .i64 1)), some (43, true)⟩ ::
    ⟨some 46, .load false 1 (.tmp 45), some (43, true)⟩ ::
    ⟨some 47, .build [(.int .i64 0), (.int .i64 0)] [(0, 1, (.val (.int .i64 5))), (1, 1, (.val (.int .i64 9)))], some (43, true)⟩ ::
    ⟨some 48, .bslice 2 [(.tmp 47)], some (43, true)⟩ ::
    ⟨some 49, .call (.val (.fn (.func 14) [])) [(.tmp 46), (.tmp 48)], some (43, true)⟩ ::
    ⟨some 50, .pick (.tmp 43) (.tmp 49) (.val (.bool false)), none⟩ ::
    ⟨some 51, .mov (.tmp 50), none⟩ ::
    ⟨some 52, .mov (.tmp 5), some (51, true)⟩ ::
    ⟨some 53, .bin .eql (.tmp 52) (.val (.int .i64 1)), some (51, true)⟩ ::
    ⟨some 54, .pick (.tmp 51) (.tmp 53) (.val (.bool false)), none⟩ ::
    ⟨some 55, .mov (.tmp 54), none⟩ ::
    ⟨some 56, .mov (.tmp 6), some (55, true)⟩ ::
    ⟨some 57, .pick (.tmp 55) (.tmp 56) (.val (.bool false)), none⟩ ::
    ⟨some 58, .mov (.tmp 57), none⟩ ::
    ⟨some 59, .mov (.tmp 8), some (58, true)⟩ ::
    ⟨some 60, .bin .eql (.tmp 59) (.val (.int .i64 10)), some (58, true)⟩ ::
    ⟨some 61, .pick (.tmp 58) (.tmp 60) (.val (.bool false)), none⟩ ::
    ⟨some 0, .mov (.tmp 61), none⟩ :: [])) <|
  .ret⟩
theorem e_law18_alive : cFunc Try.prog kd_CLaw18 Try.f18 = some c_law18_alive := by kernel_rfl
/- touchstone/touchstonelaw18.mine: slots c, 0, d, 1, c, 2, d, 3 -/
def c_law18_mine : AFunc := ⟨18, [.tmp 4],
  .seq (.region (⟨some 2, .box 4 (.tmp 0), none⟩ ::
    ⟨some 4, .mov (.val (.bool false)), none⟩ :: [])) <|
  .seq (.region (⟨some 5, .faddr 0 (.tmp 2), none⟩ ::
    ⟨some 6, .load false 1 (.tmp 5), none⟩ ::
    ⟨some 7, .bin .eql (.tmp 6) (.val (.int .i64 19)), none⟩ ::
    ⟨some 8, .mov (.tmp 7), none⟩ ::
    ⟨some 9, .load true 4 (.tmp 2), some (8, true)⟩ ::
    ⟨some 10, .mov (.tmp 1), some (8, true)⟩ ::
    ⟨some 11, .call (.val (.fn (.func 15) [])) [(.tmp 9), (.tmp 10)], some (8, true)⟩ ::
    ⟨some 12, .pick (.tmp 8) (.tmp 11) (.val (.bool false)), none⟩ ::
    ⟨some 13, .mov (.tmp 12), none⟩ ::
    ⟨some 14, .load true 4 (.tmp 2), some (13, true)⟩ ::
    ⟨some 15, .mov (.tmp 1), some (13, true)⟩ ::
    ⟨some 16, .call (.val (.fn (.func 16) [])) [(.tmp 14), (.tmp 15)], some (13, true)⟩ ::
    ⟨some 17, .pick (.tmp 13) (.tmp 16) (.val (.bool false)), none⟩ ::
    ⟨some 4, .mov (.tmp 17), none⟩ :: [])) <|
  .ret⟩
theorem e_law18_mine : cFunc Try.prog kd_CLaw18 Try.f23 = some c_law18_mine := by kernel_rfl
/- touchstone/touchstonelaw18.few: slots d, 0, d, 1, _, 3, x, 4 -/
def c_law18_few : AFunc := ⟨30, [.tmp 2],
  .seq (.region (⟨some 2, .mov (.val (.bool false)), none⟩ :: [])) <|
  .seq (.seq (.region (⟨some 5, .mov (.tmp 0), none⟩ ::
    ⟨some 6, .len false (.tmp 5), none⟩ ::
    ⟨some 7, .mov (.val (.int .i64 0)), none⟩ :: [])) <|
  .block 0 (.loop (.seq (.region (⟨some 8, .bin .lss (.tmp 7) (.tmp 6), none⟩ :: [])) <|
      .seq (.cond (.tmp 8) (.skip) <|
      .exit 0) <|
      .seq (.block 1 (.seq (.region (⟨some 9, .iaddr 1 (.tmp 5) (.tmp 7), none⟩ ::
          ⟨some 10, .load false 1 (.tmp 9), none⟩ ::
          ⟨some 4, .mov (.tmp 10), none⟩ :: [])) <|
        .seq (.region (⟨some 11, .mov (.tmp 4), none⟩ ::
          ⟨some 12, .len false (.tmp 11), none⟩ ::
          ⟨some 13, .bin .gtr (.tmp 12) (.val (.int .i64 0)), none⟩ ::
          ⟨some 14, .mov (.tmp 13), none⟩ ::
          ⟨some 15, .mov (.tmp 4), some (14, true)⟩ ::
          ⟨some 16, .mov (.tmp 4), some (14, true)⟩ ::
          ⟨some 17, .len false (.tmp 16), some (14, true)⟩ ::
          ⟨some 18, .bin .sub (.tmp 17) (.val (.int .i64 1)), some (14, true)⟩ ::
          ⟨some 19, .iaddr 2 (.tmp 15) (.tmp 18), some (14, true)⟩ ::
          ⟨some 20, .faddr 1 (.tmp 19), some (14, true)⟩ ::
          ⟨some 21, .load false 1 (.tmp 20), some (14, true)⟩ ::
          ⟨some 22, .mov (.tmp 4), some (14, true)⟩ ::
          ⟨some 23, .iaddr 2 (.tmp 22) (.val (.int .i64 0)), some (14, true)⟩ ::
          ⟨some 24, .faddr 0 (.tmp 23), some (14, true)⟩ ::
          ⟨some 25, .load false 1 (.tmp 24), some (14, true)⟩ ::
          ⟨some 26, .bin .sub (.tmp 21) (.tmp 25), some (14, true)⟩ ::
          ⟨some 27, .bin .gtr (.tmp 26) (.val (.int .i64 3000)), some (14, true)⟩ ::
          ⟨some 28, .pick (.tmp 14) (.tmp 27) (.val (.bool false)), none⟩ :: [])) <|
        .cond (.tmp 28) (.seq (.region (⟨some 2, .mov (.val (.bool false)), none⟩ :: [])) <|
          .ret) <|
        .skip)) <|
      .region (⟨some 29, .bin .add (.tmp 7) (.val (.int .i64 1)), none⟩ ::
        ⟨some 7, .mov (.tmp 29), none⟩ :: [])))) <|
  .seq (.region (⟨some 2, .mov (.val (.bool true)), none⟩ :: [])) <|
  .ret⟩
theorem e_law18_few : cFunc Try.prog kd_CLaw18 Try.f19 = some c_law18_few := by kernel_rfl
/- touchstone/touchstonelaw18.TasksNarrows: slots c, 0, d, 1, c, 2, d, 3, x, 5, e, 6, y, 7, f, 8 -/
def c_law18_TasksNarrows : AFunc := ⟨40, [.tmp 4],
  .seq (.region (⟨some 2, .box 4 (.tmp 0), none⟩ ::
    ⟨some 4, .mov (.val (.bool false)), none⟩ :: [])) <|
  .seq (.seq (.region (⟨some 9, .call (.val (.fn (.func 18) [])) [], none⟩ ::
    ⟨some 10, .un .not (.tmp 9), none⟩ :: [])) <|
  .cond (.tmp 10) (.seq (.region (⟨some 4, .mov (.val (.bool false)), none⟩ :: [])) <|
    .ret) <|
  .skip) <|
  .seq (.seq (.region (⟨some 11, .load true 4 (.tmp 2), none⟩ ::
    ⟨some 12, .mov (.tmp 1), none⟩ ::
    ⟨some 13, .call (.val (.fn (.func 15) [])) [(.tmp 11), (.tmp 12)], none⟩ ::
    ⟨some 14, .un .not (.tmp 13), none⟩ ::
    ⟨some 15, .mov (.tmp 14), none⟩ ::
    ⟨some 16, .mov (.tmp 1), some (15, false)⟩ ::
    ⟨some 17, .call (.val (.fn (.func 19) [])) [(.tmp 16)], some (15, false)⟩ ::
    ⟨some 18, .un .not (.tmp 17), some (15, false)⟩ ::
    ⟨some 19, .pick (.tmp 15) (.val (.bool true)) (.tmp 18), none⟩ :: [])) <|
  .cond (.tmp 19) (.seq (.region (⟨some 4, .mov (.val (.bool true)), none⟩ :: [])) <|
    .ret) <|
  .skip) <|
  .seq (.region (⟨some 21, .load true 4 (.tmp 2), none⟩ ::
    ⟨some 22, .mov (.tmp 1), none⟩ ::
    ⟨some 23, .call (.val (.fn (.func 20) [])) [(.tmp 21), (.tmp 22)], none⟩ ::
    ⟨some 20, .mov (.tmp 23), none⟩ ::
    ⟨some 24, .ext (.tmp 20) 0, none⟩ ::
    ⟨some 25, .ext (.tmp 20) 1, none⟩ ::
    ⟨some 5, .mov (.tmp 24), none⟩ ::
    ⟨some 6, .mov (.tmp 25), none⟩ :: [])) <|
  .seq (.region (⟨some 27, .load true 4 (.tmp 2), none⟩ ::
    ⟨some 28, .mov (.tmp 1), none⟩ ::
    ⟨some 29, .call (.val (.fn (.func 21) [])) [(.tmp 27), (.tmp 28)], none⟩ ::
    ⟨some 26, .mov (.tmp 29), none⟩ ::
    ⟨some 30, .ext (.tmp 26) 0, none⟩ ::
    ⟨some 31, .ext (.tmp 26) 1, none⟩ ::
    ⟨some 7, .mov (.tmp 30), none⟩ ::
    ⟨some 8, .mov (.tmp 31), none⟩ :: [])) <|
  .seq (.region (⟨some 32, .mov (.tmp 5), none⟩ ::
    ⟨some 33, .mov (.tmp 7), none⟩ ::
    ⟨some 34, .call (.val (.fn (.func 17) [])) [(.tmp 32), (.tmp 33)], none⟩ ::
    ⟨some 35, .mov (.tmp 34), none⟩ ::
    ⟨some 36, .mov (.tmp 6), some (35, true)⟩ ::
    ⟨some 37, .mov (.tmp 8), some (35, true)⟩ ::
    ⟨some 38, .bin .eql (.tmp 36) (.tmp 37), some (35, true)⟩ ::
    ⟨some 39, .pick (.tmp 35) (.tmp 38) (.val (.bool false)), none⟩ ::
    ⟨some 4, .mov (.tmp 39), none⟩ :: [])) <|
  .ret⟩
theorem e_law18_TasksNarrows : cFunc Try.prog kd_CLaw18 Try.f5 = some c_law18_TasksNarrows := by kernel_rfl
/- touchstone/touchstonelaw18.TasksKeeps: slots c, 0, d, 1, c, 2, d, 3, out, 5, e, 6 -/
def c_law18_TasksKeeps : AFunc := ⟨35, [.tmp 4],
  .seq (.region (⟨some 2, .box 4 (.tmp 0), none⟩ ::
    ⟨some 4, .mov (.val (.bool false)), none⟩ :: [])) <|
  .seq (.seq (.region (⟨some 7, .call (.val (.fn (.func 18) [])) [], none⟩ ::
    ⟨some 8, .un .not (.tmp 7), none⟩ :: [])) <|
  .cond (.tmp 8) (.seq (.region (⟨some 4, .mov (.val (.bool false)), none⟩ :: [])) <|
    .ret) <|
  .skip) <|
  .seq (.seq (.region (⟨some 9, .load true 4 (.tmp 2), none⟩ ::
    ⟨some 10, .mov (.tmp 1), none⟩ ::
    ⟨some 11, .call (.val (.fn (.func 15) [])) [(.tmp 9), (.tmp 10)], none⟩ ::
    ⟨some 12, .un .not (.tmp 11), none⟩ ::
    ⟨some 13, .mov (.tmp 12), none⟩ ::
    ⟨some 14, .mov (.tmp 1), some (13, false)⟩ ::
    ⟨some 15, .call (.val (.fn (.func 22) [])) [(.tmp 14)], some (13, false)⟩ ::
    ⟨some 16, .un .not (.tmp 15), some (13, false)⟩ ::
    ⟨some 17, .pick (.tmp 13) (.val (.bool true)) (.tmp 16), none⟩ ::
    ⟨some 18, .mov (.tmp 17), none⟩ ::
    ⟨some 19, .load true 4 (.tmp 2), some (18, false)⟩ ::
    ⟨some 20, .mov (.tmp 1), some (18, false)⟩ ::
    ⟨some 21, .call (.val (.fn (.func 23) [])) [(.tmp 19), (.tmp 20)], some (18, false)⟩ ::
    ⟨some 22, .un .not (.tmp 21), some (18, false)⟩ ::
    ⟨some 23, .pick (.tmp 18) (.val (.bool true)) (.tmp 22), none⟩ :: [])) <|
  .cond (.tmp 23) (.seq (.region (⟨some 4, .mov (.val (.bool true)), none⟩ :: [])) <|
    .ret) <|
  .skip) <|
  .seq (.region (⟨some 25, .load true 4 (.tmp 2), none⟩ ::
    ⟨some 26, .mov (.tmp 1), none⟩ ::
    ⟨some 27, .call (.val (.fn (.func 20) [])) [(.tmp 25), (.tmp 26)], none⟩ ::
    ⟨some 24, .mov (.tmp 27), none⟩ ::
    ⟨some 28, .ext (.tmp 24) 0, none⟩ ::
    ⟨some 29, .ext (.tmp 24) 1, none⟩ ::
    ⟨some 5, .mov (.tmp 28), none⟩ ::
    ⟨some 6, .mov (.tmp 29), none⟩ :: [])) <|
  .seq (.region (⟨some 30, .load true 4 (.tmp 2), none⟩ ::
    ⟨some 31, .mov (.tmp 1), none⟩ ::
    ⟨some 32, .mov (.tmp 5), none⟩ ::
    ⟨some 33, .mov (.tmp 6), none⟩ ::
    ⟨some 34, .call (.val (.fn (.func 24) [])) [(.tmp 30), (.tmp 31), (.tmp 32), (.tmp 33)], none⟩ ::
    ⟨some 4, .mov (.tmp 34), none⟩ :: [])) <|
  .ret⟩
theorem e_law18_TasksKeeps : cFunc Try.prog kd_CLaw18 Try.f6 = some c_law18_TasksKeeps := by kernel_rfl
/- touchstone/touchstonelaw18.TasksOrder: slots c, 0, d, 1, cut, 2, c, 3, d, 4, cut, 5, small, 7, x, 8, e, 9, y, 10, f, 11 -/
def c_law18_TasksOrder : AFunc := ⟨59, [.tmp 6],
  .seq (.region (⟨some 3, .box 4 (.tmp 0), none⟩ ::
    ⟨some 6, .mov (.val (.bool false)), none⟩ :: [])) <|
  .seq (.seq (.region (⟨some 12, .call (.val (.fn (.func 18) [])) [], none⟩ ::
    ⟨some 13, .un .not (.tmp 12), none⟩ :: [])) <|
  .cond (.tmp 13) (.seq (.region (⟨some 6, .mov (.val (.bool false)), none⟩ :: [])) <|
    .ret) <|
  .skip) <|
  .seq (.seq (.region (⟨some 14, .load true 4 (.tmp 3), none⟩ ::
    ⟨some 15, .mov (.tmp 1), none⟩ ::
    ⟨some 16, .call (.val (.fn (.func 23) [])) [(.tmp 14), (.tmp 15)], none⟩ ::
    ⟨some 17, .un .not (.tmp 16), none⟩ ::
    ⟨some 18, .mov (.tmp 17), none⟩ ::
    ⟨some 19, .mov (.tmp 2), some (18, false)⟩ ::
    ⟨some 20, .len false (.tmp 19), some (18, false)⟩ ::
    ⟨some 21, .mov (.tmp 1), some (18, false)⟩ ::
    ⟨some 22, .len false (.tmp 21), some (18, false)⟩ ::
    ⟨some 23, .bin .neq (.tmp 20) (.tmp 22), some (18, false)⟩ ::
    ⟨some 24, .pick (.tmp 18) (.val (.bool true)) (.tmp 23), none⟩ :: [])) <|
  .cond (.tmp 24) (.seq (.region (⟨some 6, .mov (.val (.bool true)), none⟩ :: [])) <|
    .ret) <|
  .skip) <|
  .seq (.region (⟨some 25, .mov (.tmp 1), none⟩ ::
    ⟨some 26, .mov (.tmp 2), none⟩ ::
    ⟨some 27, .call (.val (.fn (.func 25) [])) [(.tmp 25), (.tmp 26)], none⟩ ::
    ⟨some 7, .mov (.tmp 27), none⟩ :: [])) <|
  .seq (.region (⟨some 29, .load true 4 (.tmp 3), none⟩ ::
    ⟨some 30, .mov (.tmp 1), none⟩ ::
    ⟨some 31, .call (.val (.fn (.func 20) [])) [(.tmp 29), (.tmp 30)], none⟩ ::
    ⟨some 28, .mov (.tmp 31), none⟩ ::
    ⟨some 32, .ext (.tmp 28) 0, none⟩ ::
    ⟨some 33, .ext (.tmp 28) 1, none⟩ ::
    ⟨some 8, .mov (.tmp 32), none⟩ ::
    ⟨some 9, .mov (.tmp 33), none⟩ :: [])) <|
  .seq (.region (⟨some 35, .load true 4 (.tmp 3), none⟩ ::
    ⟨some 36, .mov (.tmp 7), none⟩ ::
    ⟨some 37, .call (.val (.fn (.func 20) [])) [(.tmp 35), (.tmp 36)], none⟩ ::
    ⟨some 34, .mov (.tmp 37), none⟩ ::
    ⟨some 38, .ext (.tmp 34) 0, none⟩ ::
    ⟨some 39, .ext (.tmp 34) 1, none⟩ ::
    ⟨some 10, .mov (.tmp 38), none⟩ ::
    ⟨some 11, .mov (.tmp 39), none⟩ :: [])) <|
  .seq (.seq (.region (⟨some 40, .mov (.tmp 9), none⟩ ::
    ⟨some 41, .bin .eql (.tmp 40) (.val (.int .i64 12)), none⟩ :: [])) <|
  .cond (.tmp 41) (.seq (.region (⟨some 42, .mov (.tmp 11), none⟩ ::
      ⟨some 43, .bin .eql (.tmp 42) (.val (.int .i64 12)), none⟩ ::
      ⟨some 6, .mov (.tmp 43), none⟩ :: [])) <|
    .ret) <|
  .skip) <|
  .seq (.region (⟨some 44, .mov (.tmp 9), none⟩ ::
    ⟨some 45, .bin .eql (.tmp 44) (.val (.int .i64 0)), none⟩ ::
    ⟨some 46, .mov (.tmp 45), none⟩ ::
    ⟨some 47, .mov (.tmp 11), some (46, true)⟩ ::
    ⟨some 48, .bin .eql (.tmp 47) (.val (.int .i64 12)), some (46, true)⟩ ::
    ⟨some 49, .mov (.tmp 48), some (46, true)⟩ ::
    ⟨some 50, .mov (.tmp 11), some (49, false)⟩ ::
    ⟨some 51, .bin .eql (.tmp 50) (.val (.int .i64 0)), some (49, false)⟩ ::
    ⟨some 52, .mov (.tmp 51), some (49, false)⟩ ::
    ⟨some 53, .mov (.tmp 10), some (52, true)⟩ ::
    ⟨some 54, .mov (.tmp 8), some (52, true)⟩ ::
    ⟨some 55, .call (.val (.fn (.func 26) [])) [(.tmp 53), (.tmp 54)], some (52, true)⟩ ::
    ⟨some 56, .pick (.tmp 52) (.tmp 55) (.val (.bool false)), some (49, false)⟩ ::
    ⟨some 57, .pick (.tmp 49) (.val (.bool true)) (.tmp 56), some (46, true)⟩ ::
    ⟨some 58, .pick (.tmp 46) (.tmp 57) (.val (.bool false)), none⟩ ::
    ⟨some 6, .mov (.tmp 58), none⟩ :: [])) <|
  .ret⟩
theorem e_law18_TasksOrder : cFunc Try.prog kd_CLaw18 Try.f7 = some c_law18_TasksOrder := by kernel_rfl
/- touchstone/touchstonelaw18.TasksLoads: slots c, 0, d, 1, t, 2, c, 3, d, 4, t, 5, x, 7, p, 8, y, 9, q, 10 -/
def c_law18_TasksLoads : AFunc := ⟨39, [.tmp 6],
  .seq (.region (⟨some 3, .box 4 (.tmp 0), none⟩ ::
    ⟨some 6, .mov (.val (.bool false)), none⟩ :: [])) <|
  .seq (.seq (.region (⟨some 11, .call (.val (.fn (.func 18) [])) [], none⟩ ::
    ⟨some 12, .un .not (.tmp 11), none⟩ :: [])) <|
  .cond (.tmp 12) (.seq (.region (⟨some 6, .mov (.val (.bool false)), none⟩ :: [])) <|
    .ret) <|
  .skip) <|
  .seq (.seq (.region (⟨some 13, .load true 4 (.tmp 3), none⟩ ::
    ⟨some 14, .mov (.tmp 1), none⟩ ::
    ⟨some 15, .call (.val (.fn (.func 15) [])) [(.tmp 13), (.tmp 14)], none⟩ ::
    ⟨some 16, .un .not (.tmp 15), none⟩ :: [])) <|
  .cond (.tmp 16) (.seq (.region (⟨some 6, .mov (.val (.bool true)), none⟩ :: [])) <|
    .ret) <|
  .skip) <|
  .seq (.region (⟨some 18, .load true 4 (.tmp 3), none⟩ ::
    ⟨some 19, .mov (.tmp 1), none⟩ ::
    ⟨some 20, .mov (.tmp 2), none⟩ ::
    ⟨some 21, .call (.val (.fn (.func 27) [])) [(.tmp 18), (.tmp 19), (.tmp 20)], none⟩ ::
    ⟨some 17, .mov (.tmp 21), none⟩ ::
    ⟨some 22, .ext (.tmp 17) 0, none⟩ ::
    ⟨some 23, .ext (.tmp 17) 1, none⟩ ::
    ⟨some 7, .mov (.tmp 22), none⟩ ::
    ⟨some 8, .mov (.tmp 23), none⟩ :: [])) <|
  .seq (.region (⟨some 25, .load true 4 (.tmp 3), none⟩ ::
    ⟨some 26, .mov (.tmp 1), none⟩ ::
    ⟨some 27, .mov (.tmp 2), none⟩ ::
    ⟨some 28, .call (.val (.fn (.func 28) [])) [(.tmp 25), (.tmp 26), (.tmp 27)], none⟩ ::
    ⟨some 24, .mov (.tmp 28), none⟩ ::
    ⟨some 29, .ext (.tmp 24) 0, none⟩ ::
    ⟨some 30, .ext (.tmp 24) 1, none⟩ ::
    ⟨some 9, .mov (.tmp 29), none⟩ ::
    ⟨some 10, .mov (.tmp 30), none⟩ :: [])) <|
  .seq (.region (⟨some 31, .mov (.tmp 7), none⟩ ::
    ⟨some 32, .mov (.tmp 9), none⟩ ::
    ⟨some 33, .bin .eql (.tmp 31) (.tmp 32), none⟩ ::
    ⟨some 34, .mov (.tmp 33), none⟩ ::
    ⟨some 35, .mov (.tmp 8), some (34, true)⟩ ::
    ⟨some 36, .mov (.tmp 10), some (34, true)⟩ ::
    ⟨some 37, .eqb false (.tmp 35) (.tmp 36), some (34, true)⟩ ::
    ⟨some 38, .pick (.tmp 34) (.tmp 37) (.val (.bool false)), none⟩ ::
    ⟨some 6, .mov (.tmp 38), none⟩ :: [])) <|
  .ret⟩
theorem e_law18_TasksLoads : cFunc Try.prog kd_CLaw18 Try.f8 = some c_law18_TasksLoads := by kernel_rfl
/- touchstone/touchstonelaw18.TasksRoom: slots c, 0, d, 1, more, 2, c, 3, d, 4, more, 5, b, 7, x, 8, e, 9, y, 10, f, 11 -/
def c_law18_TasksRoom : AFunc := ⟨64, [.tmp 6],
  .seq (.region (⟨some 3, .box 4 (.tmp 0), none⟩ ::
    ⟨some 6, .mov (.val (.bool false)), none⟩ :: [])) <|
  .seq (.seq (.region (⟨some 12, .call (.val (.fn (.func 18) [])) [], none⟩ ::
    ⟨some 13, .un .not (.tmp 12), none⟩ :: [])) <|
  .cond (.tmp 13) (.seq (.region (⟨some 6, .mov (.val (.bool false)), none⟩ :: [])) <|
    .ret) <|
  .skip) <|
  .seq (.seq (.region (⟨some 14, .load true 4 (.tmp 3), none⟩ ::
    ⟨some 15, .mov (.tmp 1), none⟩ ::
    ⟨some 16, .call (.val (.fn (.func 23) [])) [(.tmp 14), (.tmp 15)], none⟩ ::
    ⟨some 17, .un .not (.tmp 16), none⟩ ::
    ⟨some 18, .mov (.tmp 17), none⟩ ::
    ⟨some 19, .faddr 3 (.tmp 3), some (18, false)⟩ ::
    ⟨some 20, .load false 1 (.tmp 19), some (18, false)⟩ ::
    ⟨some 21, .mov (.tmp 2), some (18, false)⟩ ::
    ⟨some 22, .conv .i64 (.tmp 21), some (18, false)⟩ ::
    ⟨some 23, .bin .add (.tmp 20) (.tmp 22), some (18, false)⟩ ::
    ⟨some 24, .bin .gtr (.tmp 23) (.val (.int .i64 1048576)), some (18, false)⟩ ::
    ⟨some 25, .pick (.tmp 18) (.val (.bool true)) (.tmp 24), none⟩ :: [])) <|
  .cond (.tmp 25) (.seq (.region (⟨some 6, .mov (.val (.bool true)), none⟩ :: [])) <|
    .ret) <|
  .skip) <|
  .seq (.region (⟨some 26, .load true 4 (.tmp 3), none⟩ ::
    ⟨some 7, .alloc (.agg [(.int .i64 0), .nils, .nils, (.int .i64 0)]), none⟩ ::
    ⟨none, .store 4 (.tmp 7) (.tmp 26), none⟩ :: [])) <|
  .seq (.region (⟨some 27, .faddr 3 (.tmp 7), none⟩ ::
    ⟨some 28, .load false 1 (.tmp 27), none⟩ ::
    ⟨some 29, .mov (.tmp 2), none⟩ ::
    ⟨some 30, .conv .i64 (.tmp 29), none⟩ ::
    ⟨some 31, .bin .add (.tmp 28) (.tmp 30), none⟩ ::
    ⟨some 32, .faddr 3 (.tmp 7), none⟩ ::
    ⟨none, .store 1 (.tmp 32) (.tmp 31), none⟩ :: [])) <|
  .seq (.region (⟨some 34, .load true 4 (.tmp 3), none⟩ ::
    ⟨some 35, .mov (.tmp 1), none⟩ ::
    ⟨some 36, .call (.val (.fn (.func 20) [])) [(.tmp 34), (.tmp 35)], none⟩ ::
    ⟨some 33, .mov (.tmp 36), none⟩ ::
    ⟨some 37, .ext (.tmp 33) 0, none⟩ ::
    ⟨some 38, .ext (.tmp 33) 1, none⟩ ::
    ⟨some 8, .mov (.tmp 37), none⟩ ::
    ⟨some 9, .mov (.tmp 38), none⟩ :: [])) <|
  .seq (.region (⟨some 40, .load true 4 (.tmp 7), none⟩ ::
    ⟨some 41, .mov (.tmp 1), none⟩ ::
    ⟨some 42, .call (.val (.fn (.func 20) [])) [(.tmp 40), (.tmp 41)], none⟩ ::
    ⟨some 39, .mov (.tmp 42), none⟩ ::
    ⟨some 43, .ext (.tmp 39) 0, none⟩ ::
    ⟨some 44, .ext (.tmp 39) 1, none⟩ ::
    ⟨some 10, .mov (.tmp 43), none⟩ ::
    ⟨some 11, .mov (.tmp 44), none⟩ :: [])) <|
  .seq (.seq (.region (⟨some 45, .mov (.tmp 9), none⟩ ::
    ⟨some 46, .bin .neq (.tmp 45) (.val (.int .i64 0)), none⟩ :: [])) <|
  .cond (.tmp 46) (.seq (.region (⟨some 47, .mov (.tmp 9), none⟩ ::
      ⟨some 48, .bin .eql (.tmp 47) (.val (.int .i64 12)), none⟩ ::
      ⟨some 49, .mov (.tmp 48), none⟩ ::
      ⟨some 50, .mov (.tmp 11), some (49, true)⟩ ::
      ⟨some 51, .bin .eql (.tmp 50) (.val (.int .i64 0)), some (49, true)⟩ ::
      ⟨some 52, .mov (.tmp 51), some (49, true)⟩ ::
      ⟨some 53, .mov (.tmp 11), some (52, false)⟩ ::
      ⟨some 54, .bin .eql (.tmp 53) (.val (.int .i64 12)), some (52, false)⟩ ::
      ⟨some 55, .pick (.tmp 52) (.val (.bool true)) (.tmp 54), some (49, true)⟩ ::
      ⟨some 56, .pick (.tmp 49) (.tmp 55) (.val (.bool false)), none⟩ ::
      ⟨some 6, .mov (.tmp 56), none⟩ :: [])) <|
    .ret) <|
  .skip) <|
  .seq (.region (⟨some 57, .mov (.tmp 11), none⟩ ::
    ⟨some 58, .bin .eql (.tmp 57) (.val (.int .i64 0)), none⟩ ::
    ⟨some 59, .mov (.tmp 58), none⟩ ::
    ⟨some 60, .mov (.tmp 8), some (59, true)⟩ ::
    ⟨some 61, .mov (.tmp 10), some (59, true)⟩ ::
    ⟨some 62, .call (.val (.fn (.func 26) [])) [(.tmp 60), (.tmp 61)], some (59, true)⟩ ::
    ⟨some 63, .pick (.tmp 59) (.tmp 62) (.val (.bool false)), none⟩ ::
    ⟨some 6, .mov (.tmp 63), none⟩ :: [])) <|
  .ret⟩
theorem e_law18_TasksRoom : cFunc Try.prog kd_CLaw18 Try.f11 = some c_law18_TasksRoom := by kernel_rfl
end Go.Proofs.Ytnhedjpghpdbdaa
