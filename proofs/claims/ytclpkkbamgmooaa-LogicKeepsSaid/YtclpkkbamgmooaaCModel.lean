/- The code of functions, as abstract code. Printed by program. -/
import Derived.Test.YtclpkkbamgmooaaAv2
import Derived.Test.YtclpkkbamgmooaaProg
namespace Go.Proofs.Ytclpkkbamgmooaa
open Av
set_option linter.unusedVariables false
set_option maxRecDepth 100000
def kd_CModel (f : Nat) : Nat := 0
/- touchstone/model.within: slots n, 0, n, 1 -/
def c_model_within : AFunc := ⟨9, [.tmp 2],
  .seq (.region (⟨some 2, .mov (.val (.bool false)), none⟩ :: [])) <|
  .seq (.region (⟨some 3, .mov (.tmp 0), none⟩ ::
    ⟨some 4, .bin .geq (.tmp 3) (.val (.int .i64 (-1048576))), none⟩ ::
    ⟨some 5, .mov (.tmp 4), none⟩ ::
    ⟨some 6, .mov (.tmp 0), some (5, true)⟩ ::
    ⟨some 7, .bin .leq (.tmp 6) (.val (.int .i64 1048576)), some (5, true)⟩ ::
    ⟨some 8, .pick (.tmp 5) (.tmp 7) (.val (.bool false)), none⟩ ::
    ⟨some 2, .mov (.tmp 8), none⟩ :: [])) <|
  .ret⟩
theorem e_model_within : cFunc Try.prog kd_CModel Try.f102 = some c_model_within := by kernel_rfl
/- touchstone/model.truth: slots l, 0, l, 1 -/
def c_model_truth : AFunc := ⟨23, [.tmp 2],
  .seq (.region (⟨some 2, .mov (.val (.bool false)), none⟩ :: [])) <|
  .seq (.region (⟨some 3, .mov (.tmp 0), none⟩ ::
    ⟨some 4, .len false (.tmp 3), none⟩ ::
    ⟨some 5, .bin .gtr (.tmp 4) (.val (.int .i64 0)), none⟩ ::
    ⟨some 6, .mov (.tmp 5), none⟩ ::
    ⟨some 7, .mov (.tmp 0), some (6, true)⟩ ::
    ⟨some 8, .iaddr 2 (.tmp 7) (.val (.int .i64 0)), some (6, true)⟩ ::
    ⟨some 9, .faddr 0 (.tmp 8), some (6, true)⟩ ::
    ⟨some 10, .load false 1 (.tmp 9), some (6, true)⟩ ::
    ⟨some 11, .bin .geq (.tmp 10) (.val (.int .i64 0)), some (6, true)⟩ ::
    ⟨some 12, .pick (.tmp 6) (.tmp 11) (.val (.bool false)), none⟩ ::
    ⟨some 13, .mov (.tmp 12), none⟩ ::
    ⟨some 14, .mov (.tmp 0), some (13, true)⟩ ::
    ⟨some 15, .mov (.tmp 0), some (13, true)⟩ ::
    ⟨some 16, .len false (.tmp 15), some (13, true)⟩ ::
    ⟨some 17, .bin .sub (.tmp 16) (.val (.int .i64 1)), some (13, true)⟩ ::
    ⟨some 18, .iaddr 2 (.tmp 14) (.tmp 17), some (13, true)⟩ ::
    ⟨some 19, .faddr 1 (.tmp 18), some (13, true)⟩ ::
    ⟨some 20, .load false 1 (.tmp 19), some (13, true)⟩ ::
    ⟨some 21, .bin .leq (.tmp 20) (.val (.int .i64 1)), some (13, true)⟩ ::
    ⟨some 22, .pick (.tmp 13) (.tmp 21) (.val (.bool false)), none⟩ ::
    ⟨some 2, .mov (.tmp 22), none⟩ :: [])) <|
  .ret⟩
theorem e_model_truth : cFunc Try.prog kd_CModel Try.f105 = some c_model_truth := by kernel_rfl
/- touchstone/model.shapes: slots kind, 0, kind, 1 -/
def c_model_shapes : AFunc := ⟨47, [.cell 2 true 5, .tmp 3],
  .seq (.region (⟨some 2, .alloc (.agg [(.int .i64 0), (.int .i64 0), (.int .i64 0), (.bool false), (.int .i64 0)]), none⟩ ::
    ⟨some 3, .mov (.val (.bool false)), none⟩ :: [])) <|
  .seq (.seq (.region (⟨some 4, .mov (.tmp 0), none⟩ :: [])) <|
  .block 0 (.seq (.seq (.region (⟨some 6, .bin .eql (.tmp 4) (.val (.int .i64 1)), none⟩ ::
      ⟨some 5, .mov (.tmp 6), none⟩ :: [])) <|
    .cond (.tmp 5) (.skip) <|
    .seq (.region (⟨some 7, .bin .eql (.tmp 4) (.val (.int .i64 2)), none⟩ ::
      ⟨some 5, .mov (.tmp 7), none⟩ :: [])) <|
    .cond (.tmp 5) (.skip) <|
    .region (⟨some 8, .bin .eql (.tmp 4) (.val (.int .i64 3)), none⟩ ::
      ⟨some 5, .mov (.tmp 8), none⟩ :: [])) <|
    .cond (.tmp 5) (.seq (.region (⟨some 9, .build [(.int .i64 0), (.int .i64 0), (.int .i64 0), (.bool false), (.int .i64 0)] [(0, 1, (.val (.int .i64 1))), (1, 1, (.val (.int .i64 0))), (2, 1, (.val (.int .i64 0))), (3, 1, (.val (.bool true))), (4, 1, (.val (.int .i64 0)))], none⟩ ::
        ⟨none, .store 5 (.tmp 2) (.tmp 9), none⟩ ::
        ⟨some 3, .mov (.val (.bool true)), none⟩ :: [])) <|
      .ret) <|
    .seq (.seq (.region (⟨some 11, .bin .eql (.tmp 4) (.val (.int .i64 4)), none⟩ ::
      ⟨some 10, .mov (.tmp 11), none⟩ :: [])) <|
    .cond (.tmp 10) (.skip) <|
    .seq (.region (⟨some 12, .bin .eql (.tmp 4) (.val (.int .i64 5)), none⟩ ::
      ⟨some 10, .mov (.tmp 12), none⟩ :: [])) <|
    .cond (.tmp 10) (.skip) <|
    .region (⟨some 13, .bin .eql (.tmp 4) (.val (.int .i64 6)), none⟩ ::
      ⟨some 10, .mov (.tmp 13), none⟩ :: [])) <|
    .cond (.tmp 10) (.seq (.region (⟨some 14, .build [(.int .i64 0), (.int .i64 0), (.int .i64 0), (.bool false), (.int .i64 0)] [(0, 1, (.val (.int .i64 1))), (1, 1, (.val (.int .i64 1))), (2, 1, (.val (.int .i64 0))), (3, 1, (.val (.bool true))), (4, 1, (.val (.int .i64 1)))], none⟩ ::
        ⟨none, .store 5 (.tmp 2) (.tmp 14), none⟩ ::
        ⟨some 3, .mov (.val (.bool true)), none⟩ :: [])) <|
      .ret) <|
    .seq (.seq (.region (⟨some 16, .bin .eql (.tmp 4) (.val (.int .i64 7)), none⟩ ::
      ⟨some 15, .mov (.tmp 16), none⟩ :: [])) <|
    .cond (.tmp 15) (.skip) <|
    .seq (.region (⟨some 17, .bin .eql (.tmp 4) (.val (.int .i64 8)), none⟩ ::
      ⟨some 15, .mov (.tmp 17), none⟩ :: [])) <|
    .cond (.tmp 15) (.skip) <|
    .region (⟨some 18, .bin .eql (.tmp 4) (.val (.int .i64 9)), none⟩ ::
      ⟨some 15, .mov (.tmp 18), none⟩ :: [])) <|
    .cond (.tmp 15) (.seq (.region (⟨some 19, .build [(.int .i64 0), (.int .i64 0), (.int .i64 0), (.bool false), (.int .i64 0)] [(0, 1, (.val (.int .i64 0))), (1, 1, (.val (.int .i64 3))), (2, 1, (.val (.int .i64 0))), (3, 1, (.val (.bool false))), (4, 1, (.val (.int .i64 0)))], none⟩ ::
        ⟨none, .store 5 (.tmp 2) (.tmp 19), none⟩ ::
        ⟨some 3, .mov (.val (.bool true)), none⟩ :: [])) <|
      .ret) <|
    .seq (.seq (.region (⟨some 21, .bin .eql (.tmp 4) (.val (.int .i64 10)), none⟩ ::
      ⟨some 20, .mov (.tmp 21), none⟩ :: [])) <|
    .cond (.tmp 20) (.skip) <|
    .region (⟨some 22, .bin .eql (.tmp 4) (.val (.int .i64 15)), none⟩ ::
      ⟨some 20, .mov (.tmp 22), none⟩ :: [])) <|
    .cond (.tmp 20) (.seq (.region (⟨some 23, .build [(.int .i64 0), (.int .i64 0), (.int .i64 0), (.bool false), (.int .i64 0)] [(0, 1, (.val (.int .i64 0))), (1, 1, (.val (.int .i64 2))), (2, 1, (.val (.int .i64 0))), (3, 1, (.val (.bool false))), (4, 1, (.val (.int .i64 0)))], none⟩ ::
        ⟨none, .store 5 (.tmp 2) (.tmp 23), none⟩ ::
        ⟨some 3, .mov (.val (.bool true)), none⟩ :: [])) <|
      .ret) <|
    .seq (.region (⟨some 25, .bin .eql (.tmp 4) (.val (.int .i64 11)), none⟩ ::
      ⟨some 24, .mov (.tmp 25), none⟩ :: [])) <|
    .cond (.tmp 24) (.seq (.region (⟨some 26, .build [(.int .i64 0), (.int .i64 0), (.int .i64 0), (.bool false), (.int .i64 0)] [(0, 1, (.val (.int .i64 1))), (1, 1, (.val (.int .i64 0))), (2, 1, (.val (.int .i64 0))), (3, 1, (.val (.bool false))), (4, 1, (.val (.int .i64 2)))], none⟩ ::
        ⟨none, .store 5 (.tmp 2) (.tmp 26), none⟩ ::
        ⟨some 3, .mov (.val (.bool true)), none⟩ :: [])) <|
      .ret) <|
    .seq (.seq (.region (⟨some 28, .bin .eql (.tmp 4) (.val (.int .i64 12)), none⟩ ::
      ⟨some 27, .mov (.tmp 28), none⟩ :: [])) <|
    .cond (.tmp 27) (.skip) <|
    .region (⟨some 29, .bin .eql (.tmp 4) (.val (.int .i64 13)), none⟩ ::
      ⟨some 27, .mov (.tmp 29), none⟩ :: [])) <|
    .cond (.tmp 27) (.seq (.region (⟨some 30, .build [(.int .i64 0), (.int .i64 0), (.int .i64 0), (.bool false), (.int .i64 0)] [(0, 1, (.val (.int .i64 2))), (1, 1, (.val (.int .i64 1))), (2, 1, (.val (.int .i64 0))), (3, 1, (.val (.bool false))), (4, 1, (.val (.int .i64 2)))], none⟩ ::
        ⟨none, .store 5 (.tmp 2) (.tmp 30), none⟩ ::
        ⟨some 3, .mov (.val (.bool true)), none⟩ :: [])) <|
      .ret) <|
    .seq (.region (⟨some 32, .bin .eql (.tmp 4) (.val (.int .i64 14)), none⟩ ::
      ⟨some 31, .mov (.tmp 32), none⟩ :: [])) <|
    .cond (.tmp 31) (.seq (.region (⟨some 33, .build [(.int .i64 0), (.int .i64 0), (.int .i64 0), (.bool false), (.int .i64 0)] [(0, 1, (.val (.int .i64 0))), (1, 1, (.val (.int .i64 3))), (2, 1, (.val (.int .i64 0))), (3, 1, (.val (.bool false))), (4, 1, (.val (.int .i64 2)))], none⟩ ::
        ⟨none, .store 5 (.tmp 2) (.tmp 33), none⟩ ::
        ⟨some 3, .mov (.val (.bool true)), none⟩ :: [])) <|
      .ret) <|
    .seq (.region (⟨some 35, .bin .eql (.tmp 4) (.val (.int .i64 16)), none⟩ ::
      ⟨some 34, .mov (.tmp 35), none⟩ :: [])) <|
    .cond (.tmp 34) (.seq (.region (⟨some 36, .build [(.int .i64 0), (.int .i64 0), (.int .i64 0), (.bool false), (.int .i64 0)] [(0, 1, (.val (.int .i64 3))), (1, 1, (.val (.int .i64 2))), (2, 1, (.val (.int .i64 0))), (3, 1, (.val (.bool false))), (4, 1, (.val (.int .i64 0)))], none⟩ ::
        ⟨none, .store 5 (.tmp 2) (.tmp 36), none⟩ ::
        ⟨some 3, .mov (.val (.bool true)), none⟩ :: [])) <|
      .ret) <|
    .seq (.region (⟨some 38, .bin .eql (.tmp 4) (.val (.int .i64 17)), none⟩ ::
      ⟨some 37, .mov (.tmp 38), none⟩ :: [])) <|
    .cond (.tmp 37) (.seq (.region (⟨some 39, .build [(.int .i64 0), (.int .i64 0), (.int .i64 0), (.bool false), (.int .i64 0)] [(0, 1, (.val (.int .i64 2))), (1, 1, (.val (.int .i64 3))), (2, 1, (.val (.int .i64 0))), (3, 1, (.val (.bool false))), (4, 1, (.val (.int .i64 0)))], none⟩ ::
        ⟨none, .store 5 (.tmp 2) (.tmp 39), none⟩ ::
        ⟨some 3, .mov (.val (.bool true)), none⟩ :: [])) <|
      .ret) <|
    .seq (.region (⟨some 41, .bin .eql (.tmp 4) (.val (.int .i64 18)), none⟩ ::
      ⟨some 40, .mov (.tmp 41), none⟩ :: [])) <|
    .cond (.tmp 40) (.seq (.region (⟨some 42, .build [(.int .i64 0), (.int .i64 0), (.int .i64 0), (.bool false), (.int .i64 0)] [(0, 1, (.val (.int .i64 2))), (1, 1, (.val (.int .i64 0))), (2, 1, (.val (.int .i64 0))), (3, 1, (.val (.bool false))), (4, 1, (.val (.int .i64 0)))], none⟩ ::
        ⟨none, .store 5 (.tmp 2) (.tmp 42), none⟩ ::
        ⟨some 3, .mov (.val (.bool true)), none⟩ :: [])) <|
      .ret) <|
    .seq (.region (⟨some 44, .bin .eql (.tmp 4) (.val (.int .i64 19)), none⟩ ::
      ⟨some 43, .mov (.tmp 44), none⟩ :: [])) <|
    .cond (.tmp 43) (.seq (.region (⟨some 45, .build [(.int .i64 0), (.int .i64 0), (.int .i64 0), (.bool false), (.int .i64 0)] [(0, 1, (.val (.int .i64 4))), (1, 1, (.val (.int .i64 0))), (2, 1, (.val (.int .i64 0))), (3, 1, (.val (.bool true))), (4, 1, (.val (.int .i64 0)))], none⟩ ::
        ⟨none, .store 5 (.tmp 2) (.tmp 45), none⟩ ::
        ⟨some 3, .mov (.val (.bool true)), none⟩ :: [])) <|
      .ret) <|
    .skip)) <|
  .seq (.region (⟨some 46, .build [(.int .i64 0), (.int .i64 0), (.int .i64 0), (.bool false), (.int .i64 0)] [], none⟩ ::
    ⟨none, .store 5 (.tmp 2) (.tmp 46), none⟩ ::
    ⟨some 3, .mov (.val (.bool false)), none⟩ :: [])) <|
  .ret⟩
theorem e_model_shapes : cFunc Try.prog kd_CModel Try.f103 = some c_model_shapes := by kernel_rfl
/- touchstone/model.may$1: slots a, 0, a, 1 -/
def c_model_may_1 : AFunc := ⟨6, [.tmp 2],
  .seq (.region (⟨some 2, .mov (.val (.bool false)), none⟩ :: [])) <|
  .seq (.region (⟨some 3, .mov (.tmp 0), none⟩ ::
    ⟨some 4, .call (.val (.fn (.func 102) [])) [(.tmp 3)], none⟩ ::
    ⟨some 5, .un .not (.tmp 4), none⟩ ::
    ⟨some 2, .mov (.tmp 5), none⟩ :: [])) <|
  .ret⟩
theorem e_model_may_1 : cFunc Try.prog kd_CModel Try.f107 = some c_model_may_1 := by kernel_rfl
/- touchstone/model.may: slots m, 0, c, 1, m, 2, c, 3, s, 5, _, 6, i, 7, x, 8 -/
def c_model_may : AFunc := ⟨87, [.tmp 4],
  .seq (.region (⟨some 2, .box 4 (.tmp 0), none⟩ ::
    ⟨some 3, .box 4 (.tmp 1), none⟩ ::
    ⟨some 4, .mov (.val (.bool false)), none⟩ :: [])) <|
  .seq (.region (⟨some 10, .faddr 0 (.tmp 3), none⟩ ::
    ⟨some 11, .load false 1 (.tmp 10), none⟩ ::
    ⟨some 12, .call (.val (.fn (.func 103) [])) [(.tmp 11)], none⟩ ::
    ⟨some 9, .mov (.tmp 12), none⟩ ::
    ⟨some 13, .ext (.tmp 9) 0, none⟩ ::
    ⟨some 14, .ext (.tmp 9) 1, none⟩ ::
    ⟨some 5, .alloc (.agg [(.int .i64 0), (.int .i64 0), (.int .i64 0), (.bool false), (.int .i64 0)]), none⟩ ::
    ⟨none, .store 5 (.tmp 5) (.tmp 13), none⟩ ::
    ⟨some 6, .mov (.tmp 14), none⟩ :: [])) <|
  .seq (.seq (.region (⟨some 15, .load true 4 (.tmp 3), none⟩ ::
    ⟨some 16, .call (.val (.fn (.func 104) [])) [(.tmp 15)], none⟩ ::
    ⟨some 17, .un .not (.tmp 16), none⟩ ::
    ⟨some 18, .mov (.tmp 17), none⟩ ::
    ⟨some 19, .faddr 1 (.tmp 3), some (18, false)⟩ ::
    ⟨some 20, .load false 1 (.tmp 19), some (18, false)⟩ ::
    ⟨some 21, .len false (.tmp 20), some (18, false)⟩ ::
    ⟨some 22, .bin .gtr (.tmp 21) (.val (.int .i64 32)), some (18, false)⟩ ::
    ⟨some 23, .pick (.tmp 18) (.val (.bool true)) (.tmp 22), none⟩ ::
    ⟨some 24, .mov (.tmp 23), none⟩ ::
    ⟨some 25, .faddr 3 (.tmp 3), some (24, false)⟩ ::
    ⟨some 26, .load false 1 (.tmp 25), some (24, false)⟩ ::
    ⟨some 27, .call (.val (.fn (.func 102) [])) [(.tmp 26)], some (24, false)⟩ ::
    ⟨some 28, .un .not (.tmp 27), some (24, false)⟩ ::
    ⟨some 29, .pick (.tmp 24) (.val (.bool true)) (.tmp 28), none⟩ ::
    ⟨some 30, .mov (.tmp 29), none⟩ ::
    ⟨some 31, .faddr 3 (.tmp 3), some (30, false)⟩ ::
    ⟨some 32, .load false 1 (.tmp 31), some (30, false)⟩ ::
    ⟨some 33, .bin .neq (.tmp 32) (.val (.int .i64 0)), some (30, false)⟩ ::
    ⟨some 34, .mov (.tmp 33), some (30, false)⟩ ::
    ⟨some 35, .faddr 3 (.tmp 5), some (34, true)⟩ ::
    ⟨some 36, .load false 1 (.tmp 35), some (34, true)⟩ ::
    ⟨some 37, .un .not (.tmp 36), some (34, true)⟩ ::
    ⟨some 38, .pick (.tmp 34) (.tmp 37) (.val (.bool false)), some (30, false)⟩ ::
    ⟨some 39, .pick (.tmp 30) (.val (.bool true)) (.tmp 38), none⟩ :: [])) <|
  .cond (.tmp 39) (.seq (.region (⟨some 4, .mov (.val (.bool false)), none⟩ :: [])) <|
    .ret) <|
  .skip) <|
  .seq (.seq (.region (⟨some 40, .faddr 1 (.tmp 3), none⟩ ::
    ⟨some 41, .load false 1 (.tmp 40), none⟩ ::
    ⟨some 42, .len false (.tmp 41), none⟩ ::
    ⟨some 43, .mov (.val (.int .i64 0)), none⟩ :: [])) <|
  .block 0 (.loop (.seq (.region (⟨some 44, .bin .lss (.tmp 43) (.tmp 42), none⟩ :: [])) <|
      .seq (.cond (.tmp 44) (.skip) <|
      .exit 0) <|
      .seq (.block 1 (.seq (.region (⟨some 45, .mov (.tmp 43), none⟩ ::
          ⟨some 46, .iaddr 1 (.tmp 41) (.tmp 43), none⟩ ::
          ⟨some 47, .load false 1 (.tmp 46), none⟩ ::
          ⟨some 7, .mov (.tmp 45), none⟩ ::
          ⟨some 8, .mov (.tmp 47), none⟩ :: [])) <|
        .seq (.seq (.region (⟨some 48, .mov (.tmp 8), none⟩ ::
          ⟨some 49, .bin .lss (.tmp 48) (.val (.int .i64 0)), none⟩ ::
          ⟨some 50, .mov (.tmp 49), none⟩ ::
          ⟨some 51, .mov (.tmp 8), some (50, false)⟩ ::
          ⟨some 52, .faddr 0 (.tmp 2), some (50, false)⟩ ::
          ⟨some 53, .load false 1 (.tmp 52), some (50, false)⟩ ::
          ⟨some 54, .len false (.tmp 53), some (50, false)⟩ ::
          ⟨some 55, .bin .geq (.tmp 51) (.tmp 54), some (50, false)⟩ ::
          ⟨some 56, .pick (.tmp 50) (.val (.bool true)) (.tmp 55), none⟩ :: [])) <|
        .cond (.tmp 56) (.seq (.region (⟨some 4, .mov (.val (.bool false)), none⟩ :: [])) <|
          .ret) <|
        .skip) <|
        .seq (.region (⟨some 57, .faddr 4 (.tmp 5), none⟩ ::
          ⟨some 58, .load false 1 (.tmp 57), none⟩ ::
          ⟨some 59, .bin .eql (.tmp 58) (.val (.int .i64 2)), none⟩ ::
          ⟨some 60, .mov (.tmp 59), none⟩ ::
          ⟨some 61, .faddr 4 (.tmp 5), some (60, false)⟩ ::
          ⟨some 62, .load false 1 (.tmp 61), some (60, false)⟩ ::
          ⟨some 63, .bin .eql (.tmp 62) (.val (.int .i64 1)), some (60, false)⟩ ::
          ⟨some 64, .mov (.tmp 63), some (60, false)⟩ ::
          ⟨some 65, .mov (.tmp 7), some (64, true)⟩ ::
          ⟨some 66, .faddr 1 (.tmp 3), some (64, true)⟩ ::
          ⟨some 67, .load false 1 (.tmp 66), some (64, true)⟩ ::
          ⟨some 68, .len false (.tmp 67), some (64, true)⟩ ::
          ⟨some 69, .bin .sub (.tmp 68) (.val (.int .i64 1)), some (64, true)⟩ ::
          ⟨some 70, .bin .eql (.tmp 65) (.tmp 69), some (64, true)⟩ ::
          ⟨some 71, .pick (.tmp 64) (.tmp 70) (.val (.bool false)), some (60, false)⟩ ::
          ⟨some 72, .pick (.tmp 60) (.val (.bool true)) (.tmp 71), none⟩ ::
          ⟨some 73, .mov (.tmp 72), none⟩ ::
          ⟨some 74, .faddr 0 (.tmp 2), some (73, true)⟩ ::
          ⟨some 75, .load false 1 (.tmp 74), some (73, true)⟩ ::
          ⟨some 76, .mov (.tmp 8), some (73, true)⟩ ::
          ⟨some 77, .iaddr 1 (.tmp 75) (.tmp 76), some (73, true)⟩ ::
          ⟨some 78, .load false 1 (.tmp 77), some (73, true)⟩ ::
          ⟨some 79, .call (.val (.fn (.func 105) [])) [(.tmp 78)], some (73, true)⟩ ::
          ⟨some 80, .un .not (.tmp 79), some (73, true)⟩ ::
          ⟨some 81, .pick (.tmp 73) (.tmp 80) (.val (.bool false)), none⟩ :: [])) <|
        .cond (.tmp 81) (.seq (.region (⟨some 4, .mov (.val (.bool false)), none⟩ :: [])) <|
          .ret) <|
        .skip)) <|
      .region (⟨some 82, .bin .add (.tmp 43) (.val (.int .i64 1)), none⟩ ::
        ⟨some 43, .mov (.tmp 82), none⟩ :: [])))) <|
  .seq (.region (⟨some 83, .faddr 2 (.tmp 3), none⟩ ::
    ⟨some 84, .load false 1 (.tmp 83), none⟩ ::
    ⟨some 85, .call (.val (.fn (.func 106) [])) [(.tmp 84), (.val (.fn (.func 107) []))], none⟩ ::
    ⟨some 86, .un .not (.tmp 85), none⟩ ::
    ⟨some 4, .mov (.tmp 86), none⟩ :: [])) <|
  .ret⟩
theorem e_model_may : cFunc Try.prog kd_CModel Try.f66 = some c_model_may := by kernel_rfl
/- touchstone/model.formed$2: slots a, 0, a, 1 -/
def c_model_formed_2 : AFunc := ⟨5, [.tmp 2],
  .seq (.region (⟨some 2, .mov (.val (.bool false)), none⟩ :: [])) <|
  .seq (.region (⟨some 3, .mov (.tmp 0), none⟩ ::
    ⟨some 4, .bin .lss (.tmp 3) (.val (.int .i64 0)), none⟩ ::
    ⟨some 2, .mov (.tmp 4), none⟩ :: [])) <|
  .ret⟩
theorem e_model_formed_2 : cFunc Try.prog kd_CModel Try.f123 = some c_model_formed_2 := by kernel_rfl
/- touchstone/model.formed$1: slots a, 0, a, 1 -/
def c_model_formed_1 : AFunc := ⟨9, [.tmp 2],
  .seq (.region (⟨some 2, .mov (.val (.bool false)), none⟩ :: [])) <|
  .seq (.region (⟨some 3, .mov (.tmp 0), none⟩ ::
    ⟨some 4, .bin .neq (.tmp 3) (.val (.int .i64 1)), none⟩ ::
    ⟨some 5, .mov (.tmp 4), none⟩ ::
    ⟨some 6, .mov (.tmp 0), some (5, true)⟩ ::
    ⟨some 7, .bin .neq (.tmp 6) (.val (.int .i64 (-1))), some (5, true)⟩ ::
    ⟨some 8, .pick (.tmp 5) (.tmp 7) (.val (.bool false)), none⟩ ::
    ⟨some 2, .mov (.tmp 8), none⟩ :: [])) <|
  .ret⟩
theorem e_model_formed_1 : cFunc Try.prog kd_CModel Try.f122 = some c_model_formed_1 := by kernel_rfl
/- touchstone/model.formed: slots c, 0, c, 1, s, 3, ok, 4 -/
def c_model_formed : AFunc := ⟨43, [.tmp 2],
  .seq (.region (⟨some 1, .box 4 (.tmp 0), none⟩ ::
    ⟨some 2, .mov (.val (.bool false)), none⟩ :: [])) <|
  .seq (.region (⟨some 6, .faddr 0 (.tmp 1), none⟩ ::
    ⟨some 7, .load false 1 (.tmp 6), none⟩ ::
    ⟨some 8, .call (.val (.fn (.func 103) [])) [(.tmp 7)], none⟩ ::
    ⟨some 5, .mov (.tmp 8), none⟩ ::
    ⟨some 9, .ext (.tmp 5) 0, none⟩ ::
    ⟨some 10, .ext (.tmp 5) 1, none⟩ ::
    ⟨some 3, .alloc (.agg [(.int .i64 0), (.int .i64 0), (.int .i64 0), (.bool false), (.int .i64 0)]), none⟩ ::
    ⟨none, .store 5 (.tmp 3) (.tmp 9), none⟩ ::
    ⟨some 4, .mov (.tmp 10), none⟩ :: [])) <|
  .seq (.seq (.region (⟨some 11, .mov (.tmp 4), none⟩ ::
    ⟨some 12, .un .not (.tmp 11), none⟩ ::
    ⟨some 13, .mov (.tmp 12), none⟩ ::
    ⟨some 14, .load true 5 (.tmp 3), some (13, false)⟩ ::
    ⟨some 15, .faddr 1 (.tmp 1), some (13, false)⟩ ::
    ⟨some 16, .load false 1 (.tmp 15), some (13, false)⟩ ::
    ⟨some 17, .len false (.tmp 16), some (13, false)⟩ ::
    ⟨some 18, .faddr 2 (.tmp 1), some (13, false)⟩ ::
    ⟨some 19, .load false 1 (.tmp 18), some (13, false)⟩ ::
    ⟨some 20, .len false (.tmp 19), some (13, false)⟩ ::
    ⟨some 21, .call (.val (.fn (.func 121) [])) [(.tmp 14), (.tmp 17), (.tmp 20)], some (13, false)⟩ ::
    ⟨some 22, .un .not (.tmp 21), some (13, false)⟩ ::
    ⟨some 23, .pick (.tmp 13) (.val (.bool true)) (.tmp 22), none⟩ :: [])) <|
  .cond (.tmp 23) (.seq (.region (⟨some 2, .mov (.val (.bool false)), none⟩ :: [])) <|
    .ret) <|
  .skip) <|
  .seq (.seq (.region (⟨some 24, .faddr 0 (.tmp 1), none⟩ ::
    ⟨some 25, .load false 1 (.tmp 24), none⟩ :: [])) <|
  .block 0 (.seq (.region (⟨some 27, .bin .eql (.tmp 25) (.val (.int .i64 11)), none⟩ ::
      ⟨some 26, .mov (.tmp 27), none⟩ :: [])) <|
    .cond (.tmp 26) (.seq (.region (⟨some 28, .faddr 2 (.tmp 1), none⟩ ::
        ⟨some 29, .load false 1 (.tmp 28), none⟩ ::
        ⟨some 30, .call (.val (.fn (.func 106) [])) [(.tmp 29), (.val (.fn (.func 122) []))], none⟩ ::
        ⟨some 31, .un .not (.tmp 30), none⟩ ::
        ⟨some 2, .mov (.tmp 31), none⟩ :: [])) <|
      .ret) <|
    .seq (.region (⟨some 33, .bin .eql (.tmp 25) (.val (.int .i64 19)), none⟩ ::
      ⟨some 32, .mov (.tmp 33), none⟩ :: [])) <|
    .cond (.tmp 32) (.seq (.region (⟨some 34, .faddr 3 (.tmp 1), none⟩ ::
        ⟨some 35, .load false 1 (.tmp 34), none⟩ ::
        ⟨some 36, .bin .geq (.tmp 35) (.val (.int .i64 0)), none⟩ ::
        ⟨some 37, .mov (.tmp 36), none⟩ ::
        ⟨some 38, .faddr 2 (.tmp 1), some (37, true)⟩ ::
        ⟨some 39, .load false 1 (.tmp 38), some (37, true)⟩ ::
        ⟨some 40, .call (.val (.fn (.func 106) [])) [(.tmp 39), (.val (.fn (.func 123) []))], some (37, true)⟩ ::
        ⟨some 41, .un .not (.tmp 40), some (37, true)⟩ ::
        ⟨some 42, .pick (.tmp 37) (.tmp 41) (.val (.bool false)), none⟩ ::
        ⟨some 2, .mov (.tmp 42), none⟩ :: [])) <|
      .ret) <|
    .skip)) <|
  .seq (.region (⟨some 2, .mov (.val (.bool true)), none⟩ :: [])) <|
  .ret⟩
theorem e_model_formed : cFunc Try.prog kd_CModel Try.f104 = some c_model_formed := by kernel_rfl
/- touchstone/model.domain: slots l, 0, l, 1, i, 3, r, 4 -/
def c_model_domain : AFunc := ⟨49, [.tmp 2],
  .seq (.region (⟨some 2, .mov (.val (.bool false)), none⟩ :: [])) <|
  .seq (.seq (.region (⟨some 5, .mov (.tmp 0), none⟩ ::
    ⟨some 6, .len false (.tmp 5), none⟩ ::
    ⟨some 7, .mov (.val (.int .i64 0)), none⟩ :: [])) <|
  .block 0 (.loop (.seq (.region (⟨some 8, .bin .lss (.tmp 7) (.tmp 6), none⟩ :: [])) <|
      .seq (.cond (.tmp 8) (.skip) <|
      .exit 0) <|
      .seq (.block 1 (.seq (.region (⟨some 9, .mov (.tmp 7), none⟩ ::
          ⟨some 10, .iaddr 2 (.tmp 5) (.tmp 7), none⟩ ::
          ⟨some 11, .load true 2 (.tmp 10), none⟩ ::
          ⟨some 4, .alloc (.agg [(.int .i64 0), (.int .i64 0)]), none⟩ ::
          ⟨some 3, .mov (.tmp 9), none⟩ ::
          ⟨none, .store 2 (.tmp 4) (.tmp 11), none⟩ :: [])) <|
        .seq (.region (⟨some 12, .faddr 0 (.tmp 4), none⟩ ::
          ⟨some 13, .load false 1 (.tmp 12), none⟩ ::
          ⟨some 14, .faddr 1 (.tmp 4), none⟩ ::
          ⟨some 15, .load false 1 (.tmp 14), none⟩ ::
          ⟨some 16, .bin .gtr (.tmp 13) (.tmp 15), none⟩ ::
          ⟨some 17, .mov (.tmp 16), none⟩ ::
          ⟨some 18, .faddr 0 (.tmp 4), some (17, false)⟩ ::
          ⟨some 19, .load false 1 (.tmp 18), some (17, false)⟩ ::
          ⟨some 20, .call (.val (.fn (.func 102) [])) [(.tmp 19)], some (17, false)⟩ ::
          ⟨some 21, .un .not (.tmp 20), some (17, false)⟩ ::
          ⟨some 22, .pick (.tmp 17) (.val (.bool true)) (.tmp 21), none⟩ ::
          ⟨some 23, .mov (.tmp 22), none⟩ ::
          ⟨some 24, .faddr 1 (.tmp 4), some (23, false)⟩ ::
          ⟨some 25, .load false 1 (.tmp 24), some (23, false)⟩ ::
          ⟨some 26, .call (.val (.fn (.func 102) [])) [(.tmp 25)], some (23, false)⟩ ::
          ⟨some 27, .un .not (.tmp 26), some (23, false)⟩ ::
          ⟨some 28, .pick (.tmp 23) (.val (.bool true)) (.tmp 27), none⟩ ::
          ⟨some 29, .mov (.tmp 28), none⟩ ::
          ⟨some 30, .mov (.tmp 3), some (29, false)⟩ ::
          ⟨some 31, .bin .gtr (.tmp 30) (.val (.int .i64 0)), some (29, false)⟩ ::
          ⟨some 32, .mov (.tmp 31), some (29, false)⟩ ::
          ⟨some 33, .faddr 0 (.tmp 4), some (32, true)⟩ ::
          ⟨some 34, .load false 1 (.tmp 33), some (32, true)⟩ ::
          ⟨some 35, .mov (.tmp 0), some (32, true)⟩ ::
          ⟨some 36, .mov (.tmp 3), some (32, true)⟩ ::
          ⟨some 37, .bin .sub (.tmp 36) (.val (.int .i64 1)), some (32, true)⟩ ::
          ⟨some 38, .iaddr 2 (.tmp 35) (.tmp 37), some (32, true)⟩ ::
          ⟨some 39, .faddr 1 (.tmp 38), some (32, true)⟩ ::
          ⟨some 40, .load false 1 (.tmp 39), some (32, true)⟩ ::
          ⟨some 41, .bin .sub (.tmp 34) (.tmp 40), some (32, true)⟩ ::
          ⟨some 42, .bin .lss (.tmp 41) (.val (.int .i64 2)), some (32, true)⟩ ::
          ⟨some 43, .pick (.tmp 32) (.tmp 42) (.val (.bool false)), some (29, false)⟩ ::
          ⟨some 44, .pick (.tmp 29) (.val (.bool true)) (.tmp 43), none⟩ :: [])) <|
        .cond (.tmp 44) (.seq (.region (⟨some 2, .mov (.val (.bool false)), none⟩ :: [])) <|
          .ret) <|
        .skip)) <|
      .region (⟨some 45, .bin .add (.tmp 7) (.val (.int .i64 1)), none⟩ ::
        ⟨some 7, .mov (.tmp 45), none⟩ :: [])))) <|
  .seq (.region (⟨some 46, .mov (.tmp 0), none⟩ ::
    ⟨some 47, .len false (.tmp 46), none⟩ ::
    ⟨some 48, .bin .geq (.tmp 47) (.val (.int .i64 1)), none⟩ ::
    ⟨some 2, .mov (.tmp 48), none⟩ :: [])) <|
  .ret⟩
theorem e_model_domain : cFunc Try.prog kd_CModel Try.f65 = some c_model_domain := by kernel_rfl
/- touchstone/model.Right: slots m, 0, m, 1, _, 3, d, 4, _, 5, c, 6 -/
def c_model_Right : AFunc := ⟨61, [.tmp 2],
  .seq (.region (⟨some 1, .box 4 (.tmp 0), none⟩ ::
    ⟨some 2, .mov (.val (.bool false)), none⟩ :: [])) <|
  .seq (.seq (.region (⟨some 7, .faddr 0 (.tmp 1), none⟩ ::
    ⟨some 8, .load false 1 (.tmp 7), none⟩ ::
    ⟨some 9, .len false (.tmp 8), none⟩ ::
    ⟨some 10, .bin .gtr (.tmp 9) (.val (.int .i64 64)), none⟩ ::
    ⟨some 11, .mov (.tmp 10), none⟩ ::
    ⟨some 12, .faddr 1 (.tmp 1), some (11, false)⟩ ::
    ⟨some 13, .load false 1 (.tmp 12), some (11, false)⟩ ::
    ⟨some 14, .len false (.tmp 13), some (11, false)⟩ ::
    ⟨some 15, .bin .gtr (.tmp 14) (.val (.int .i64 64)), some (11, false)⟩ ::
    ⟨some 16, .pick (.tmp 11) (.val (.bool true)) (.tmp 15), none⟩ :: [])) <|
  .cond (.tmp 16) (.seq (.region (⟨some 2, .mov (.val (.bool false)), none⟩ :: [])) <|
    .ret) <|
  .skip) <|
  .seq (.seq (.region (⟨some 17, .faddr 0 (.tmp 1), none⟩ ::
    ⟨some 18, .load false 1 (.tmp 17), none⟩ ::
    ⟨some 19, .len false (.tmp 18), none⟩ ::
    ⟨some 20, .mov (.val (.int .i64 0)), none⟩ :: [])) <|
  .block 0 (.loop (.seq (.region (⟨some 21, .bin .lss (.tmp 20) (.tmp 19), none⟩ :: [])) <|
      .seq (.cond (.tmp 21) (.skip) <|
      .exit 0) <|
      .seq (.block 1 (.seq (.region (⟨some 22, .iaddr 1 (.tmp 18) (.tmp 20), none⟩ ::
          ⟨some 23, .load false 1 (.tmp 22), none⟩ ::
          ⟨some 4, .mov (.tmp 23), none⟩ :: [])) <|
        .seq (.region (⟨some 24, .mov (.tmp 4), none⟩ ::
          ⟨some 25, .call (.val (.fn (.func 65) [])) [(.tmp 24)], none⟩ ::
          ⟨some 26, .un .not (.tmp 25), none⟩ :: [])) <|
        .cond (.tmp 26) (.seq (.region (⟨some 2, .mov (.val (.bool false)), none⟩ :: [])) <|
          .ret) <|
        .skip)) <|
      .region (⟨some 27, .bin .add (.tmp 20) (.val (.int .i64 1)), none⟩ ::
        ⟨some 20, .mov (.tmp 27), none⟩ :: [])))) <|
  .seq (.seq (.region (⟨some 28, .faddr 1 (.tmp 1), none⟩ ::
    ⟨some 29, .load false 1 (.tmp 28), none⟩ ::
    ⟨some 30, .len false (.tmp 29), none⟩ ::
    ⟨some 31, .mov (.val (.int .i64 0)), none⟩ :: [])) <|
  .block 2 (.loop (.seq (.region (⟨some 32, .bin .lss (.tmp 31) (.tmp 30), none⟩ :: [])) <|
      .seq (.cond (.tmp 32) (.skip) <|
      .exit 2) <|
      .seq (.block 3 (.seq (.region (⟨some 33, .iaddr 4 (.tmp 29) (.tmp 31), none⟩ ::
          ⟨some 34, .load true 4 (.tmp 33), none⟩ ::
          ⟨some 6, .alloc (.agg [(.int .i64 0), .nils, .nils, (.int .i64 0)]), none⟩ ::
          ⟨none, .store 4 (.tmp 6) (.tmp 34), none⟩ :: [])) <|
        .seq (.region (⟨some 35, .load true 4 (.tmp 1), none⟩ ::
          ⟨some 36, .load true 4 (.tmp 6), none⟩ ::
          ⟨some 37, .call (.val (.fn (.func 66) [])) [(.tmp 35), (.tmp 36)], none⟩ ::
          ⟨some 38, .un .not (.tmp 37), none⟩ :: [])) <|
        .cond (.tmp 38) (.seq (.region (⟨some 2, .mov (.val (.bool false)), none⟩ :: [])) <|
          .ret) <|
        .skip)) <|
      .region (⟨some 39, .bin .add (.tmp 31) (.val (.int .i64 1)), none⟩ ::
        ⟨some 31, .mov (.tmp 39), none⟩ :: [])))) <|
  .seq (.seq (.region (⟨some 40, .faddr 2 (.tmp 1), none⟩ ::
    ⟨some 41, .load false 1 (.tmp 40), none⟩ :: [])) <|
  .block 4 (.seq (.region (⟨some 43, .bin .eql (.tmp 41) (.val (.int .i64 0)), none⟩ ::
      ⟨some 42, .mov (.tmp 43), none⟩ :: [])) <|
    .cond (.tmp 42) (.seq (.region (⟨some 44, .faddr 3 (.tmp 1), none⟩ ::
        ⟨some 45, .load false 1 (.tmp 44), none⟩ ::
        ⟨some 46, .bin .eql (.tmp 45) (.val (.int .i64 0)), none⟩ ::
        ⟨some 2, .mov (.tmp 46), none⟩ :: [])) <|
      .ret) <|
    .seq (.seq (.region (⟨some 48, .bin .eql (.tmp 41) (.val (.int .i64 1)), none⟩ ::
      ⟨some 47, .mov (.tmp 48), none⟩ :: [])) <|
    .cond (.tmp 47) (.skip) <|
    .region (⟨some 49, .bin .eql (.tmp 41) (.val (.int .i64 2)), none⟩ ::
      ⟨some 47, .mov (.tmp 49), none⟩ :: [])) <|
    .cond (.tmp 47) (.seq (.region (⟨some 50, .faddr 3 (.tmp 1), none⟩ ::
        ⟨some 51, .load false 1 (.tmp 50), none⟩ ::
        ⟨some 52, .bin .geq (.tmp 51) (.val (.int .i64 0)), none⟩ ::
        ⟨some 53, .mov (.tmp 52), none⟩ ::
        ⟨some 54, .faddr 3 (.tmp 1), some (53, true)⟩ ::
        ⟨some 55, .load false 1 (.tmp 54), some (53, true)⟩ ::
        ⟨some 56, .faddr 0 (.tmp 1), some (53, true)⟩ ::
        ⟨some 57, .load false 1 (.tmp 56), some (53, true)⟩ ::
        ⟨some 58, .len false (.tmp 57), some (53, true)⟩ ::
        ⟨some 59, .bin .lss (.tmp 55) (.tmp 58), some (53, true)⟩ ::
        ⟨some 60, .pick (.tmp 53) (.tmp 59) (.val (.bool false)), none⟩ ::
        ⟨some 2, .mov (.tmp 60), none⟩ :: [])) <|
      .ret) <|
    .skip)) <|
  .seq (.region (⟨some 2, .mov (.val (.bool false)), none⟩ :: [])) <|
  .ret⟩
theorem e_model_Right : cFunc Try.prog kd_CModel Try.f34 = some c_model_Right := by kernel_rfl
/- (touchstone/model.shape).counts: slots s, 0, x, 1, a, 2, s, 3, x, 4, a, 5 -/
def c_model_shape_counts : AFunc := ⟨59, [.tmp 6],
  .seq (.region (⟨some 3, .box 5 (.tmp 0), none⟩ ::
    ⟨some 6, .mov (.val (.bool false)), none⟩ :: [])) <|
  .seq (.seq (.region (⟨some 7, .faddr 0 (.tmp 3), none⟩ ::
    ⟨some 8, .load false 1 (.tmp 7), none⟩ :: [])) <|
  .block 0 (.seq (.region (⟨some 10, .bin .eql (.tmp 8) (.val (.int .i64 0)), none⟩ ::
      ⟨some 9, .mov (.tmp 10), none⟩ :: [])) <|
    .cond (.tmp 9) (.seq (.region (⟨some 11, .mov (.tmp 1), none⟩ ::
        ⟨some 12, .faddr 1 (.tmp 3), none⟩ ::
        ⟨some 13, .load false 1 (.tmp 12), none⟩ ::
        ⟨some 14, .bin .eql (.tmp 11) (.tmp 13), none⟩ ::
        ⟨some 15, .mov (.tmp 14), none⟩ ::
        ⟨some 16, .mov (.tmp 2), some (15, true)⟩ ::
        ⟨some 17, .faddr 2 (.tmp 3), some (15, true)⟩ ::
        ⟨some 18, .load false 1 (.tmp 17), some (15, true)⟩ ::
        ⟨some 19, .bin .eql (.tmp 16) (.tmp 18), some (15, true)⟩ ::
        ⟨some 20, .pick (.tmp 15) (.tmp 19) (.val (.bool false)), none⟩ ::
        ⟨some 6, .mov (.tmp 20), none⟩ :: [])) <|
      .ret) <|
    .seq (.region (⟨some 22, .bin .eql (.tmp 8) (.val (.int .i64 1)), none⟩ ::
      ⟨some 21, .mov (.tmp 22), none⟩ :: [])) <|
    .cond (.tmp 21) (.seq (.region (⟨some 23, .mov (.tmp 1), none⟩ ::
        ⟨some 24, .mov (.tmp 2), none⟩ ::
        ⟨some 25, .faddr 1 (.tmp 3), none⟩ ::
        ⟨some 26, .load false 1 (.tmp 25), none⟩ ::
        ⟨some 27, .bin .add (.tmp 24) (.tmp 26), none⟩ ::
        ⟨some 28, .bin .eql (.tmp 23) (.tmp 27), none⟩ ::
        ⟨some 6, .mov (.tmp 28), none⟩ :: [])) <|
      .ret) <|
    .seq (.region (⟨some 30, .bin .eql (.tmp 8) (.val (.int .i64 2)), none⟩ ::
      ⟨some 29, .mov (.tmp 30), none⟩ :: [])) <|
    .cond (.tmp 29) (.seq (.region (⟨some 31, .mov (.tmp 1), none⟩ ::
        ⟨some 32, .faddr 1 (.tmp 3), none⟩ ::
        ⟨some 33, .load false 1 (.tmp 32), none⟩ ::
        ⟨some 34, .bin .geq (.tmp 31) (.tmp 33), none⟩ ::
        ⟨some 35, .mov (.tmp 34), none⟩ ::
        ⟨some 36, .mov (.tmp 2), some (35, true)⟩ ::
        ⟨some 37, .faddr 2 (.tmp 3), some (35, true)⟩ ::
        ⟨some 38, .load false 1 (.tmp 37), some (35, true)⟩ ::
        ⟨some 39, .bin .eql (.tmp 36) (.tmp 38), some (35, true)⟩ ::
        ⟨some 40, .pick (.tmp 35) (.tmp 39) (.val (.bool false)), none⟩ ::
        ⟨some 6, .mov (.tmp 40), none⟩ :: [])) <|
      .ret) <|
    .seq (.region (⟨some 42, .bin .eql (.tmp 8) (.val (.int .i64 3)), none⟩ ::
      ⟨some 41, .mov (.tmp 42), none⟩ :: [])) <|
    .cond (.tmp 41) (.seq (.region (⟨some 43, .mov (.tmp 1), none⟩ ::
        ⟨some 44, .faddr 1 (.tmp 3), none⟩ ::
        ⟨some 45, .load false 1 (.tmp 44), none⟩ ::
        ⟨some 46, .bin .eql (.tmp 43) (.tmp 45), none⟩ ::
        ⟨some 47, .mov (.tmp 46), none⟩ ::
        ⟨some 48, .mov (.tmp 2), some (47, true)⟩ ::
        ⟨some 49, .bin .geq (.tmp 48) (.val (.int .i64 1)), some (47, true)⟩ ::
        ⟨some 50, .pick (.tmp 47) (.tmp 49) (.val (.bool false)), none⟩ ::
        ⟨some 51, .mov (.tmp 50), none⟩ ::
        ⟨some 52, .mov (.tmp 2), some (51, true)⟩ ::
        ⟨some 53, .bin .leq (.tmp 52) (.val (.int .i64 64)), some (51, true)⟩ ::
        ⟨some 54, .pick (.tmp 51) (.tmp 53) (.val (.bool false)), none⟩ ::
        ⟨some 6, .mov (.tmp 54), none⟩ :: [])) <|
      .ret) <|
    .skip)) <|
  .seq (.region (⟨some 55, .mov (.tmp 2), none⟩ ::
    ⟨some 56, .mov (.tmp 1), none⟩ ::
    ⟨some 57, .bin .mul (.val (.int .i64 2)) (.tmp 56), none⟩ ::
    ⟨some 58, .bin .eql (.tmp 55) (.tmp 57), none⟩ ::
    ⟨some 6, .mov (.tmp 58), none⟩ :: [])) <|
  .ret⟩
theorem e_model_shape_counts : cFunc Try.prog kd_CModel Try.f121 = some c_model_shape_counts := by kernel_rfl
/- slices.IndexFunc[[]int64,int64]: slots s, 0, f, 1, s, 2, f, 3, i, 5 -/
def c_slices_IndexFunc_sint64_int64 : AFunc := ⟨19, [.tmp 4],
  .seq (.region (⟨some 4, .mov (.val (.int .i64 0)), none⟩ :: [])) <|
  .seq (.seq (.region (⟨some 6, .mov (.tmp 0), none⟩ ::
    ⟨some 7, .len false (.tmp 6), none⟩ ::
    ⟨some 8, .mov (.val (.int .i64 0)), none⟩ :: [])) <|
  .block 0 (.loop (.seq (.region (⟨some 9, .bin .lss (.tmp 8) (.tmp 7), none⟩ :: [])) <|
      .seq (.cond (.tmp 9) (.skip) <|
      .exit 0) <|
      .seq (.block 1 (.seq (.region (⟨some 10, .mov (.tmp 8), none⟩ ::
          ⟨some 5, .mov (.tmp 10), none⟩ :: [])) <|
        .seq (.region (⟨some 11, .mov (.tmp 1), none⟩ ::
          ⟨some 12, .mov (.tmp 0), none⟩ ::
          ⟨some 13, .mov (.tmp 5), none⟩ ::
          ⟨some 14, .iaddr 1 (.tmp 12) (.tmp 13), none⟩ ::
          ⟨some 15, .load false 1 (.tmp 14), none⟩ ::
          ⟨some 16, .call (.tmp 11) [(.tmp 15)], none⟩ :: [])) <|
        .cond (.tmp 16) (.seq (.region (⟨some 17, .mov (.tmp 5), none⟩ ::
            ⟨some 4, .mov (.tmp 17), none⟩ :: [])) <|
          .ret) <|
        .skip)) <|
      .region (⟨some 18, .bin .add (.tmp 8) (.val (.int .i64 1)), none⟩ ::
        ⟨some 8, .mov (.tmp 18), none⟩ :: [])))) <|
  .seq (.region (⟨some 4, .mov (.val (.int .i64 (-1))), none⟩ :: [])) <|
  .ret⟩
theorem e_slices_IndexFunc_sint64_int64 : cFunc Try.prog kd_CModel Try.f124 = some c_slices_IndexFunc_sint64_int64 := by kernel_rfl
/- slices.ContainsFunc[[]int64,int64]: slots s, 0, f, 1, s, 2, f, 3 -/
def c_slices_ContainsFunc_sint64_int64 : AFunc := ⟨9, [.tmp 4],
  .seq (.region (⟨some 4, .mov (.val (.bool false)), none⟩ :: [])) <|
  .seq (.region (⟨some 5, .mov (.tmp 0), none⟩ ::
    ⟨some 6, .mov (.tmp 1), none⟩ ::
    ⟨some 7, .call (.val (.fn (.func 124) [])) [(.tmp 5), (.tmp 6)], none⟩ ::
    ⟨some 8, .bin .geq (.tmp 7) (.val (.int .i64 0)), none⟩ ::
    ⟨some 4, .mov (.tmp 8), none⟩ :: [])) <|
  .ret⟩
theorem e_slices_ContainsFunc_sint64_int64 : cFunc Try.prog kd_CModel Try.f106 = some c_slices_ContainsFunc_sint64_int64 := by kernel_rfl
end Go.Proofs.Ytclpkkbamgmooaa
