/- The code of functions, as abstract code. Printed by program. What the functions of package model compute. What the functions of package model compute: whole models. What the functions of package model compute: may, Right. What the functions of package model compute: Right. -/
import Derived.Test.YtnhedjpghpdbdaaAv2
import Derived.Test.YtnhedjpghpdbdaaProg
import Derived.Test.YtnhedjpghpdbdaaPlS
namespace Go.Proofs.Ytnhedjpghpdbdaa
open Av
set_option linter.unusedVariables false
set_option maxRecDepth 100000
def kd_CModel (f : Nat) : Nat := 0
/- touchstone/model.within: slots n, 0, n, 1 -/
def c_model_within : AFunc := ⟨9, [.tmp 2],
  .seq (.region (⟨some 2, .mov (.val (.bool false)), none⟩ :: [])) <|
  .seq (.region (⟨some 3, .mov (.tmp 0), none⟩ ::
    ⟨some 4, .bin .geq (.tmp 3) (.val (.int .i64 (-1048576))), none⟩ ::
    ⟨some 5, .mov (.tmp 4), none⟩ ::
    ⟨some 6, .mov (.tmp 0), some (5, true)⟩ ::
    ⟨some 7, .bin .leq (.tmp 6) (.val (.int .i64 1048576)), some (5, true)⟩ ::
    ⟨some 8, .pick (.tmp 5) (.tmp 7) (.val (.bool false)), none⟩ ::
    ⟨some 2, .mov (.tmp 8), none⟩ :: [])) <|
  .ret⟩
theorem e_model_within : cFunc Try.prog kd_CModel Try.f108 = some c_model_within := by kernel_rfl
/- touchstone/model.truth: slots l, 0, l, 1 -/
def c_model_truth : AFunc := ⟨23, [.tmp 2],
  .seq (.region (⟨some 2, .mov (.val (.bool false)), none⟩ :: [])) <|
  .seq (.region (⟨some 3, .mov (.tmp 0), none⟩ ::
    ⟨some 4, .len false (.tmp 3), none⟩ ::
    ⟨some 5, .bin .gtr (.tmp 4) (.val (.int .i64 0)), none⟩ ::
    ⟨some 6, .mov (.tmp 5), none⟩ ::
    ⟨some 7, .mov (.tmp 0), some (6, true)⟩ ::
    ⟨some 8, .iaddr 2 (.tmp 7) (.val (.int .i64 0)), some (6, true)⟩ ::
    ⟨some 9, .faddr 0 (.tmp 8), some (6, true)⟩ ::
    ⟨some 10, .load false 1 (.tmp 9), some (6, true)⟩ ::
    ⟨some 11, .bin .geq (.tmp 10) (.val (.int .i64 0)), some (6, true)⟩ ::
    ⟨some 12, .pick (.tmp 6) (.tmp 11) (.val (.bool false)), none⟩ ::
    ⟨some 13, .mov (.tmp 12), none⟩ ::
    ⟨some 14, .mov (.tmp 0), some (13, true)⟩ ::
    ⟨some 15, .mov (.tmp 0), some (13, true)⟩ ::
    ⟨some 16, .len false (.tmp 15), some (13, true)⟩ ::
    ⟨some 17, .bin .sub (.tmp 16) (.val (.int .i64 1)), some (13, true)⟩ ::
    ⟨some 18, .iaddr 2 (.tmp 14) (.tmp 17), some (13, true)⟩ ::
    ⟨some 19, .faddr 1 (.tmp 18), some (13, true)⟩ ::
    ⟨some 20, .load false 1 (.tmp 19), some (13, true)⟩ ::
    ⟨some 21, .bin .leq (.tmp 20) (.val (.int .i64 1)), some (13, true)⟩ ::
    ⟨some 22, .pick (.tmp 13) (.tmp 21) (.val (.bool false)), none⟩ ::
    ⟨some 2, .mov (.tmp 22), none⟩ :: [])) <|
  .ret⟩
theorem e_model_truth : cFunc Try.prog kd_CModel Try.f111 = some c_model_truth := by kernel_rfl
/- touchstone/model.shapes: slots kind, 0, kind, 1 -/
def c_model_shapes : AFunc := ⟨47, [.cell 2 true 5, .tmp 3],
  .seq (.region (⟨some 2, .alloc (.agg [(.int .i64 0), (.int .i64 0), (.int .i64 0), (.bool false), (.int .i64 0)]), none⟩ ::
    ⟨some 3, .mov (.val (.bool false)), none⟩ :: [])) <|
  .seq (.seq (.region (⟨some 4, .mov (.tmp 0), none⟩ :: [])) <|
  .block 0 (.seq (.seq (.region (⟨some 6, .bin .eql (.tmp 4) (.val (.int .i64 1)), none⟩ ::
      ⟨some 5, .mov (.tmp 6), none⟩ :: [])) <|
    .cond (.tmp 5) (.skip) <|
    .seq (.region (⟨some 7, .bin .eql (.tmp 4) (.val (.int .i64 2)), none⟩ ::
      ⟨some 5, .mov (.tmp 7), none⟩ :: [])) <|
    .cond (.tmp 5) (.skip) <|
    .region (⟨some 8, .bin .eql (.tmp 4) (.val (.int .i64 3)), none⟩ ::
      ⟨some 5, .mov (.tmp 8), none⟩ :: [])) <|
    .cond (.tmp 5) (.seq (.region (⟨some 9, .build [(.int .i64 0), (.int .i64 0), (.int .i64 0), (.bool false), (.int .i64 0)] [(0, 1, (.val (.int .i64 1))), (1, 1, (.val (.int .i64 0))), (2, 1, (.val (.int .i64 0))), (3, 1, (.val (.bool true))), (4, 1, (.val (.int .i64 0)))], none⟩ ::
        ⟨none, .store 5 (.tmp 2) (.tmp 9), none⟩ ::
        ⟨some 3, .mov (.val (.bool true)), none⟩ :: [])) <|
      .ret) <|
    .seq (.seq (.region (⟨some 11, .bin .eql (.tmp 4) (.val (.int .i64 4)), none⟩ ::
      ⟨some 10, .mov (.tmp 11), none⟩ :: [])) <|
    .cond (.tmp 10) (.skip) <|
    .seq (.region (⟨some 12, .bin .eql (.tmp 4) (.val (.int .i64 5)), none⟩ ::
      ⟨some 10, .mov (.tmp 12), none⟩ :: [])) <|
    .cond (.tmp 10) (.skip) <|
    .region (⟨some 13, .bin .eql (.tmp 4) (.val (.int .i64 6)), none⟩ ::
      ⟨some 10, .mov (.tmp 13), none⟩ :: [])) <|
    .cond (.tmp 10) (.seq (.region (⟨some 14, .build [(.int .i64 0), (.int .i64 0), (.int .i64 0), (.bool false), (.int .i64 0)] [(0, 1, (.val (.int .i64 1))), (1, 1, (.val (.int .i64 1))), (2, 1, (.val (.int .i64 0))), (3, 1, (.val (.bool true))), (4, 1, (.val (.int .i64 1)))], none⟩ ::
        ⟨none, .store 5 (.tmp 2) (.tmp 14), none⟩ ::
        ⟨some 3, .mov (.val (.bool true)), none⟩ :: [])) <|
      .ret) <|
    .seq (.seq (.region (⟨some 16, .bin .eql (.tmp 4) (.val (.int .i64 7)), none⟩ ::
      ⟨some 15, .mov (.tmp 16), none⟩ :: [])) <|
    .cond (.tmp 15) (.skip) <|
    .seq (.region (⟨some 17, .bin .eql (.tmp 4) (.val (.int .i64 8)), none⟩ ::
      ⟨some 15, .mov (.tmp 17), none⟩ :: [])) <|
    .cond (.tmp 15) (.skip) <|
    .region (⟨some 18, .bin .eql (.tmp 4) (.val (.int .i64 9)), none⟩ ::
      ⟨some 15, .mov (.tmp 18), none⟩ :: [])) <|
    .cond (.tmp 15) (.seq (.region (⟨some 19, .build [(.int .i64 0), (.int .i64 0), (.int .i64 0), (.bool false), (.int .i64 0)] [(0, 1, (.val (.int .i64 0))), (1, 1, (.val (.int .i64 3))), (2, 1, (.val (.int .i64 0))), (3, 1, (.val (.bool false))), (4, 1, (.val (.int .i64 0)))], none⟩ ::
        ⟨none, .store 5 (.tmp 2) (.tmp 19), none⟩ ::
        ⟨some 3, .mov (.val (.bool true)), none⟩ :: [])) <|
      .ret) <|
    .seq (.seq (.region (⟨some 21, .bin .eql (.tmp 4) (.val (.int .i64 10)), none⟩ ::
      ⟨some 20, .mov (.tmp 21), none⟩ :: [])) <|
    .cond (.tmp 20) (.skip) <|
    .region (⟨some 22, .bin .eql (.tmp 4) (.val (.int .i64 15)), none⟩ ::
      ⟨some 20, .mov (.tmp 22), none⟩ :: [])) <|
    .cond (.tmp 20) (.seq (.region (⟨some 23, .build [(.int .i64 0), (.int .i64 0), (.int .i64 0), (.bool false), (.int .i64 0)] [(0, 1, (.val (.int .i64 0))), (1, 1, (.val (.int .i64 2))), (2, 1, (.val (.int .i64 0))), (3, 1, (.val (.bool false))), (4, 1, (.val (.int .i64 0)))], none⟩ ::
        ⟨none, .store 5 (.tmp 2) (.tmp 23), none⟩ ::
        ⟨some 3, .mov (.val (.bool true)), none⟩ :: [])) <|
      .ret) <|
    .seq (.region (⟨some 25, .bin .eql (.tmp 4) (.val (.int .i64 11)), none⟩ ::
      ⟨some 24, .mov (.tmp 25), none⟩ :: [])) <|
    .cond (.tmp 24) (.seq (.region (⟨some 26, .build [(.int .i64 0), (.int .i64 0), (.int .i64 0), (.bool false), (.int .i64 0)] [(0, 1, (.val (.int .i64 1))), (1, 1, (.val (.int .i64 0))), (2, 1, (.val (.int .i64 0))), (3, 1, (.val (.bool false))), (4, 1, (.val (.int .i64 2)))], none⟩ ::
        ⟨none, .store 5 (.tmp 2) (.tmp 26), none⟩ ::
        ⟨some 3, .mov (.val (.bool true)), none⟩ :: [])) <|
      .ret) <|
    .seq (.seq (.region (⟨some 28, .bin .eql (.tmp 4) (.val (.int .i64 12)), none⟩ ::
      ⟨some 27, .mov (.tmp 28), none⟩ :: [])) <|
    .cond (.tmp 27) (.skip) <|
    .region (⟨some 29, .bin .eql (.tmp 4) (.val (.int .i64 13)), none⟩ ::
      ⟨some 27, .mov (.tmp 29), none⟩ :: [])) <|
    .cond (.tmp 27) (.seq (.region (⟨some 30, .build [(.int .i64 0), (.int .i64 0), (.int .i64 0), (.bool false), (.int .i64 0)] [(0, 1, (.val (.int .i64 2))), (1, 1, (.val (.int .i64 1))), (2, 1, (.val (.int .i64 0))), (3, 1, (.val (.bool false))), (4, 1, (.val (.int .i64 2)))], none⟩ ::
        ⟨none, .store 5 (.tmp 2) (.tmp 30), none⟩ ::
        ⟨some 3, .mov (.val (.bool true)), none⟩ :: [])) <|
      .ret) <|
    .seq (.region (⟨some 32, .bin .eql (.tmp 4) (.val (.int .i64 14)), none⟩ ::
      ⟨some 31, .mov (.tmp 32), none⟩ :: [])) <|
    .cond (.tmp 31) (.seq (.region (⟨some 33, .build [(.int .i64 0), (.int .i64 0), (.int .i64 0), (.bool false), (.int .i64 0)] [(0, 1, (.val (.int .i64 0))), (1, 1, (.val (.int .i64 3))), (2, 1, (.val (.int .i64 0))), (3, 1, (.val (.bool false))), (4, 1, (.val (.int .i64 2)))], none⟩ ::
        ⟨none, .store 5 (.tmp 2) (.tmp 33), none⟩ ::
        ⟨some 3, .mov (.val (.bool true)), none⟩ :: [])) <|
      .ret) <|
    .seq (.region (⟨some 35, .bin .eql (.tmp 4) (.val (.int .i64 16)), none⟩ ::
      ⟨some 34, .mov (.tmp 35), none⟩ :: [])) <|
    .cond (.tmp 34) (.seq (.region (⟨some 36, .build [(.int .i64 0), (.int .i64 0), (.int .i64 0), (.bool false), (.int .i64 0)] [(0, 1, (.val (.int .i64 3))), (1, 1, (.val (.int .i64 2))), (2, 1, (.val (.int .i64 0))), (3, 1, (.val (.bool false))), (4, 1, (.val (.int .i64 0)))], none⟩ ::
        ⟨none, .store 5 (.tmp 2) (.tmp 36), none⟩ ::
        ⟨some 3, .mov (.val (.bool true)), none⟩ :: [])) <|
      .ret) <|
    .seq (.region (⟨some 38, .bin .eql (.tmp 4) (.val (.int .i64 17)), none⟩ ::
      ⟨some 37, .mov (.tmp 38), none⟩ :: [])) <|
    .cond (.tmp 37) (.seq (.region (⟨some 39, .build [(.int .i64 0), (.int .i64 0), (.int .i64 0), (.bool false), (.int .i64 0)] [(0, 1, (.val (.int .i64 2))), (1, 1, (.val (.int .i64 3))), (2, 1, (.val (.int .i64 0))), (3, 1, (.val (.bool false))), (4, 1, (.val (.int .i64 0)))], none⟩ ::
        ⟨none, .store 5 (.tmp 2) (.tmp 39), none⟩ ::
        ⟨some 3, .mov (.val (.bool true)), none⟩ :: [])) <|
      .ret) <|
    .seq (.region (⟨some 41, .bin .eql (.tmp 4) (.val (.int .i64 18)), none⟩ ::
      ⟨some 40, .mov (.tmp 41), none⟩ :: [])) <|
    .cond (.tmp 40) (.seq (.region (⟨some 42, .build [(.int .i64 0), (.int .i64 0), (.int .i64 0), (.bool false), (.int .i64 0)] [(0, 1, (.val (.int .i64 2))), (1, 1, (.val (.int .i64 0))), (2, 1, (.val (.int .i64 0))), (3, 1, (.val (.bool false))), (4, 1, (.val (.int .i64 0)))], none⟩ ::
        ⟨none, .store 5 (.tmp 2) (.tmp 42), none⟩ ::
        ⟨some 3, .mov (.val (.bool true)), none⟩ :: [])) <|
      .ret) <|
    .seq (.region (⟨some 44, .bin .eql (.tmp 4) (.val (.int .i64 19)), none⟩ ::
      ⟨some 43, .mov (.tmp 44), none⟩ :: [])) <|
    .cond (.tmp 43) (.seq (.region (⟨some 45, .build [(.int .i64 0), (.int .i64 0), (.int .i64 0), (.bool false), (.int .i64 0)] [(0, 1, (.val (.int .i64 4))), (1, 1, (.val (.int .i64 0))), (2, 1, (.val (.int .i64 0))), (3, 1, (.val (.bool true))), (4, 1, (.val (.int .i64 0)))], none⟩ ::
        ⟨none, .store 5 (.tmp 2) (.tmp 45), none⟩ ::
        ⟨some 3, .mov (.val (.bool true)), none⟩ :: [])) <|
      .ret) <|
    .skip)) <|
  .seq (.region (⟨some 46, .build [(.int .i64 0), (.int .i64 0), (.int .i64 0), (.bool false), (.int .i64 0)] [], none⟩ ::
    ⟨none, .store 5 (.tmp 2) (.tmp 46), none⟩ ::
    ⟨some 3, .mov (.val (.bool false)), none⟩ :: [])) <|
  .ret⟩
theorem e_model_shapes : cFunc Try.prog kd_CModel Try.f109 = some c_model_shapes := by kernel_rfl
/- touchstone/model.may$1: slots a, 0, a, 1 -/
def c_model_may_1 : AFunc := ⟨6, [.tmp 2],
  .seq (.region (⟨some 2, .mov (.val (.bool false)), none⟩ :: [])) <|
  .seq (.region (⟨some 3, .mov (.tmp 0), none⟩ ::
    ⟨some 4, .call (.val (.fn (.func 108) [])) [(.tmp 3)], none⟩ ::
    ⟨some 5, .un .not (.tmp 4), none⟩ ::
    ⟨some 2, .mov (.tmp 5), none⟩ :: [])) <|
  .ret⟩
theorem e_model_may_1 : cFunc Try.prog kd_CModel Try.f112 = some c_model_may_1 := by kernel_rfl
/- touchstone/model.may: slots m, 0, c, 1, m, 2, c, 3, s, 5, _, 6, i, 7, x, 8 -/
def c_model_may : AFunc := ⟨87, [.tmp 4],
  .seq (.region (⟨some 2, .box 4 (.tmp 0), none⟩ ::
    ⟨some 3, .box 4 (.tmp 1), none⟩ ::
    ⟨some 4, .mov (.val (.bool false)), none⟩ :: [])) <|
  .seq (.region (⟨some 10, .faddr 0 (.tmp 3), none⟩ ::
    ⟨some 11, .load false 1 (.tmp 10), none⟩ ::
    ⟨some 12, .call (.val (.fn (.func 109) [])) [(.tmp 11)], none⟩ ::
    ⟨some 9, .mov (.tmp 12), none⟩ ::
    ⟨some 13, .ext (.tmp 9) 0, none⟩ ::
    ⟨some 14, .ext (.tmp 9) 1, none⟩ ::
    ⟨some 5, .alloc (.agg [(.int .i64 0), (.int .i64 0), (.int .i64 0), (.bool false), (.int .i64 0)]), none⟩ ::
    ⟨none, .store 5 (.tmp 5) (.tmp 13), none⟩ ::
    ⟨some 6, .mov (.tmp 14), none⟩ :: [])) <|
  .seq (.seq (.region (⟨some 15, .load true 4 (.tmp 3), none⟩ ::
    ⟨some 16, .call (.val (.fn (.func 110) [])) [(.tmp 15)], none⟩ ::
    ⟨some 17, .un .not (.tmp 16), none⟩ ::
    ⟨some 18, .mov (.tmp 17), none⟩ ::
    ⟨some 19, .faddr 1 (.tmp 3), some (18, false)⟩ ::
    ⟨some 20, .load false 1 (.tmp 19), some (18, false)⟩ ::
    ⟨some 21, .len false (.tmp 20), some (18, false)⟩ ::
    ⟨some 22, .bin .gtr (.tmp 21) (.val (.int .i64 32)), some (18, false)⟩ ::
    ⟨some 23, .pick (.tmp 18) (.val (.bool true)) (.tmp 22), none⟩ ::
    ⟨some 24, .mov (.tmp 23), none⟩ ::
    ⟨some 25, .faddr 3 (.tmp 3), some (24, false)⟩ ::
    ⟨some 26, .load false 1 (.tmp 25), some (24, false)⟩ ::
    ⟨some 27, .call (.val (.fn (.func 108) [])) [(.tmp 26)], some (24, false)⟩ ::
    ⟨some 28, .un .not (.tmp 27), some (24, false)⟩ ::
    ⟨some 29, .pick (.tmp 24) (.val (.bool true)) (.tmp 28), none⟩ ::
    ⟨some 30, .mov (.tmp 29), none⟩ ::
    ⟨some 31, .faddr 3 (.tmp 3), some (30, false)⟩ ::
    ⟨some 32, .load false 1 (.tmp 31), some (30, false)⟩ ::
    ⟨some 33, .bin .neq (.tmp 32) (.val (.int .i64 0)), some (30, false)⟩ ::
    ⟨some 34, .mov (.tmp 33), some (30, false)⟩ ::
    ⟨some 35, .faddr 3 (.tmp 5), some (34, true)⟩ ::
    ⟨some 36, .load false 1 (.tmp 35), some (34, true)⟩ ::
    ⟨some 37, .un .not (.tmp 36), some (34, true)⟩ ::
    ⟨some 38, .pick (.tmp 34) (.tmp 37) (.val (.bool false)), some (30, false)⟩ ::
    ⟨some 39, .pick (.tmp 30) (.val (.bool true)) (.tmp 38), none⟩ :: [])) <|
  .cond (.tmp 39) (.seq (.region (⟨some 4, .mov (.val (.bool false)), none⟩ :: [])) <|
    .ret) <|
  .skip) <|
  .seq (.seq (.region (⟨some 40, .faddr 1 (.tmp 3), none⟩ ::
    ⟨some 41, .load false 1 (.tmp 40), none⟩ ::
    ⟨some 42, .len false (.tmp 41), none⟩ ::
    ⟨some 43, .mov (.val (.int .i64 0)), none⟩ :: [])) <|
  .block 0 (.loop (.seq (.region (⟨some 44, .bin .lss (.tmp 43) (.tmp 42), none⟩ :: [])) <|
      .seq (.cond (.tmp 44) (.skip) <|
      .exit 0) <|
      .seq (.block 1 (.seq (.region (⟨some 45, .mov (.tmp 43), none⟩ ::
          ⟨some 46, .iaddr 1 (.tmp 41) (.tmp 43), none⟩ ::
          ⟨some 47, .load false 1 (.tmp 46), none⟩ ::
          ⟨some 7, .mov (.tmp 45), none⟩ ::
          ⟨some 8, .mov (.tmp 47), none⟩ :: [])) <|
        .seq (.seq (.region (⟨some 48, .mov (.tmp 8), none⟩ ::
          ⟨some 49, .bin .lss (.tmp 48) (.val (.int .i64 0)), none⟩ ::
          ⟨some 50, .mov (.tmp 49), none⟩ ::
          ⟨some 51, .mov (.tmp 8), some (50, false)⟩ ::
          ⟨some 52, .faddr 0 (.tmp 2), some (50, false)⟩ ::
          ⟨some 53, .load false 1 (.tmp 52), some (50, false)⟩ ::
          ⟨some 54, .len false (.tmp 53), some (50, false)⟩ ::
          ⟨some 55, .bin .geq (.tmp 51) (.tmp 54), some (50, false)⟩ ::
          ⟨some 56, .pick (.tmp 50) (.val (.bool true)) (.tmp 55), none⟩ :: [])) <|
        .cond (.tmp 56) (.seq (.region (⟨some 4, .mov (.val (.bool false)), none⟩ :: [])) <|
          .ret) <|
        .skip) <|
        .seq (.region (⟨some 57, .faddr 4 (.tmp 5), none⟩ ::
          ⟨some 58, .load false 1 (.tmp 57), none⟩ ::
          ⟨some 59, .bin .eql (.tmp 58) (.val (.int .i64 2)), none⟩ ::
          ⟨some 60, .mov (.tmp 59), none⟩ ::
          ⟨some 61, .faddr 4 (.tmp 5), some (60, false)⟩ ::
          ⟨some 62, .load false 1 (.tmp 61), some (60, false)⟩ ::
          ⟨some 63, .bin .eql (.tmp 62) (.val (.int .i64 1)), some (60, false)⟩ ::
          ⟨some 64, .mov (.tmp 63), some (60, false)⟩ ::
          ⟨some 65, .mov (.tmp 7), some (64, true)⟩ ::
          ⟨some 66, .faddr 1 (.tmp 3), some (64, true)⟩ ::
          ⟨some 67, .load false 1 (.tmp 66), some (64, true)⟩ ::
          ⟨some 68, .len false (.tmp 67), some (64, true)⟩ ::
          ⟨some 69, .bin .sub (.tmp 68) (.val (.int .i64 1)), some (64, true)⟩ ::
          ⟨some 70, .bin .eql (.tmp 65) (.tmp 69), some (64, true)⟩ ::
          ⟨some 71, .pick (.tmp 64) (.tmp 70) (.val (.bool false)), some (60, false)⟩ ::
          ⟨some 72, .pick (.tmp 60) (.val (.bool true)) (.tmp 71), none⟩ ::
          ⟨some 73, .mov (.tmp 72), none⟩ ::
          ⟨some 74, .faddr 0 (.tmp 2), some (73, true)⟩ ::
          ⟨some 75, .load false 1 (.tmp 74), some (73, true)⟩ ::
          ⟨some 76, .mov (.tmp 8), some (73, true)⟩ ::
          ⟨some 77, .iaddr 1 (.tmp 75) (.tmp 76), some (73, true)⟩ ::
          ⟨some 78, .load false 1 (.tmp 77), some (73, true)⟩ ::
          ⟨some 79, .call (.val (.fn (.func 111) [])) [(.tmp 78)], some (73, true)⟩ ::
          ⟨some 80, .un .not (.tmp 79), some (73, true)⟩ ::
          ⟨some 81, .pick (.tmp 73) (.tmp 80) (.val (.bool false)), none⟩ :: [])) <|
        .cond (.tmp 81) (.seq (.region (⟨some 4, .mov (.val (.bool false)), none⟩ :: [])) <|
          .ret) <|
        .skip)) <|
      .region (⟨some 82, .bin .add (.tmp 43) (.val (.int .i64 1)), none⟩ ::
        ⟨some 43, .mov (.tmp 82), none⟩ :: [])))) <|
  .seq (.region (⟨some 83, .faddr 2 (.tmp 3), none⟩ ::
    ⟨some 84, .load false 1 (.tmp 83), none⟩ ::
    ⟨some 85, .call (.val (.fn (.func 71) [])) [(.tmp 84), (.val (.fn (.func 112) []))], none⟩ ::
    ⟨some 86, .un .not (.tmp 85), none⟩ ::
    ⟨some 4, .mov (.tmp 86), none⟩ :: [])) <|
  .ret⟩
theorem e_model_may : cFunc Try.prog kd_CModel Try.f78 = some c_model_may := by kernel_rfl
/- touchstone/model.formed$2: slots a, 0, a, 1 -/
def c_model_formed_2 : AFunc := ⟨5, [.tmp 2],
  .seq (.region (⟨some 2, .mov (.val (.bool false)), none⟩ :: [])) <|
  .seq (.region (⟨some 3, .mov (.tmp 0), none⟩ ::
    ⟨some 4, .bin .lss (.tmp 3) (.val (.int .i64 0)), none⟩ ::
    ⟨some 2, .mov (.tmp 4), none⟩ :: [])) <|
  .ret⟩
theorem e_model_formed_2 : cFunc Try.prog kd_CModel Try.f131 = some c_model_formed_2 := by kernel_rfl
/- touchstone/model.formed$1: slots a, 0, a, 1 -/
def c_model_formed_1 : AFunc := ⟨9, [.tmp 2],
  .seq (.region (⟨some 2, .mov (.val (.bool false)), none⟩ :: [])) <|
  .seq (.region (⟨some 3, .mov (.tmp 0), none⟩ ::
    ⟨some 4, .bin .neq (.tmp 3) (.val (.int .i64 1)), none⟩ ::
    ⟨some 5, .mov (.tmp 4), none⟩ ::
    ⟨some 6, .mov (.tmp 0), some (5, true)⟩ ::
    ⟨some 7, .bin .neq (.tmp 6) (.val (.int .i64 (-1))), some (5, true)⟩ ::
    ⟨some 8, .pick (.tmp 5) (.tmp 7) (.val (.bool false)), none⟩ ::
    ⟨some 2, .mov (.tmp 8), none⟩ :: [])) <|
  .ret⟩
theorem e_model_formed_1 : cFunc Try.prog kd_CModel Try.f130 = some c_model_formed_1 := by kernel_rfl
/- touchstone/model.formed: slots c, 0, c, 1, s, 3, ok, 4 -/
def c_model_formed : AFunc := ⟨43, [.tmp 2],
  .seq (.region (⟨some 1, .box 4 (.tmp 0), none⟩ ::
    ⟨some 2, .mov (.val (.bool false)), none⟩ :: [])) <|
  .seq (.region (⟨some 6, .faddr 0 (.tmp 1), none⟩ ::
    ⟨some 7, .load false 1 (.tmp 6), none⟩ ::
    ⟨some 8, .call (.val (.fn (.func 109) [])) [(.tmp 7)], none⟩ ::
    ⟨some 5, .mov (.tmp 8), none⟩ ::
    ⟨some 9, .ext (.tmp 5) 0, none⟩ ::
    ⟨some 10, .ext (.tmp 5) 1, none⟩ ::
    ⟨some 3, .alloc (.agg [(.int .i64 0), (.int .i64 0), (.int .i64 0), (.bool false), (.int .i64 0)]), none⟩ ::
    ⟨none, .store 5 (.tmp 3) (.tmp 9), none⟩ ::
    ⟨some 4, .mov (.tmp 10), none⟩ :: [])) <|
  .seq (.seq (.region (⟨some 11, .mov (.tmp 4), none⟩ ::
    ⟨some 12, .un .not (.tmp 11), none⟩ ::
    ⟨some 13, .mov (.tmp 12), none⟩ ::
    ⟨some 14, .load true 5 (.tmp 3), some (13, false)⟩ ::
    ⟨some 15, .faddr 1 (.tmp 1), some (13, false)⟩ ::
    ⟨some 16, .load false 1 (.tmp 15), some (13, false)⟩ ::
    ⟨some 17, .len false (.tmp 16), some (13, false)⟩ ::
    ⟨some 18, .faddr 2 (.tmp 1), some (13, false)⟩ ::
    ⟨some 19, .load false 1 (.tmp 18), some (13, false)⟩ ::
    ⟨some 20, .len false (.tmp 19), some (13, false)⟩ ::
    ⟨some 21, .call (.val (.fn (.func 129) [])) [(.tmp 14), (.tmp 17), (.tmp 20)], some (13, false)⟩ ::
    ⟨some 22, .un .not (.tmp 21), some (13, false)⟩ ::
    ⟨some 23, .pick (.tmp 13) (.val (.bool true)) (.tmp 22), none⟩ :: [])) <|
  .cond (.tmp 23) (.seq (.region (⟨some 2, .mov (.val (.bool false)), none⟩ :: [])) <|
    .ret) <|
  .skip) <|
  .seq (.seq (.region (⟨some 24, .faddr 0 (.tmp 1), none⟩ ::
    ⟨some 25, .load false 1 (.tmp 24), none⟩ :: [])) <|
  .block 0 (.seq (.region (⟨some 27, .bin .eql (.tmp 25) (.val (.int .i64 11)), none⟩ ::
      ⟨some 26, .mov (.tmp 27), none⟩ :: [])) <|
    .cond (.tmp 26) (.seq (.region (⟨some 28, .faddr 2 (.tmp 1), none⟩ ::
        ⟨some 29, .load false 1 (.tmp 28), none⟩ ::
        ⟨some 30, .call (.val (.fn (.func 71) [])) [(.tmp 29), (.val (.fn (.func 130) []))], none⟩ ::
        ⟨some 31, .un .not (.tmp 30), none⟩ ::
        ⟨some 2, .mov (.tmp 31), none⟩ :: [])) <|
      .ret) <|
    .seq (.region (⟨some 33, .bin .eql (.tmp 25) (.val (.int .i64 19)), none⟩ ::
      ⟨some 32, .mov (.tmp 33), none⟩ :: [])) <|
    .cond (.tmp 32) (.seq (.region (⟨some 34, .faddr 3 (.tmp 1), none⟩ ::
        ⟨some 35, .load false 1 (.tmp 34), none⟩ ::
        ⟨some 36, .bin .geq (.tmp 35) (.val (.int .i64 0)), none⟩ ::
        ⟨some 37, .mov (.tmp 36), none⟩ ::
        ⟨some 38, .faddr 2 (.tmp 1), some (37, true)⟩ ::
        ⟨some 39, .load false 1 (.tmp 38), some (37, true)⟩ ::
        ⟨some 40, .call (.val (.fn (.func 71) [])) [(.tmp 39), (.val (.fn (.func 131) []))], some (37, true)⟩ ::
        ⟨some 41, .un .not (.tmp 40), some (37, true)⟩ ::
        ⟨some 42, .pick (.tmp 37) (.tmp 41) (.val (.bool false)), none⟩ ::
        ⟨some 2, .mov (.tmp 42), none⟩ :: [])) <|
      .ret) <|
    .skip)) <|
  .seq (.region (⟨some 2, .mov (.val (.bool true)), none⟩ :: [])) <|
  .ret⟩
theorem e_model_formed : cFunc Try.prog kd_CModel Try.f110 = some c_model_formed := by kernel_rfl
/- touchstone/model.domain: slots l, 0, l, 1, i, 3, r, 4 -/
def c_model_domain : AFunc := ⟨49, [.tmp 2],
  .seq (.region (⟨some 2, .mov (.val (.bool false)), none⟩ :: [])) <|
  .seq (.seq (.region (⟨some 5, .mov (.tmp 0), none⟩ ::
    ⟨some 6, .len false (.tmp 5), none⟩ ::
    ⟨some 7, .mov (.val (.int .i64 0)), none⟩ :: [])) <|
  .block 0 (.loop (.seq (.region (⟨some 8, .bin .lss (.tmp 7) (.tmp 6), none⟩ :: [])) <|
      .seq (.cond (.tmp 8) (.skip) <|
      .exit 0) <|
      .seq (.block 1 (.seq (.region (⟨some 9, .mov (.tmp 7), none⟩ ::
          ⟨some 10, .iaddr 2 (.tmp 5) (.tmp 7), none⟩ ::
          ⟨some 11, .load true 2 (.tmp 10), none⟩ ::
          ⟨some 4, .alloc (.agg [(.int .i64 0), (.int .i64 0)]), none⟩ ::
          ⟨some 3, .mov (.tmp 9), none⟩ ::
          ⟨none, .store 2 (.tmp 4) (.tmp 11), none⟩ :: [])) <|
        .seq (.region (⟨some 12, .faddr 0 (.tmp 4), none⟩ ::
          ⟨some 13, .load false 1 (.tmp 12), none⟩ ::
          ⟨some 14, .faddr 1 (.tmp 4), none⟩ ::
          ⟨some 15, .load false 1 (.tmp 14), none⟩ ::
          ⟨some 16, .bin .gtr (.tmp 13) (.tmp 15), none⟩ ::
          ⟨some 17, .mov (.tmp 16), none⟩ ::
          ⟨some 18, .faddr 0 (.tmp 4), some (17, false)⟩ ::
          ⟨some 19, .load false 1 (.tmp 18), some (17, false)⟩ ::
          ⟨some 20, .call (.val (.fn (.func 108) [])) [(.tmp 19)], some (17, false)⟩ ::
          ⟨some 21, .un .not (.tmp 20), some (17, false)⟩ ::
          ⟨some 22, .pick (.tmp 17) (.val (.bool true)) (.tmp 21), none⟩ ::
          ⟨some 23, .mov (.tmp 22), none⟩ ::
          ⟨some 24, .faddr 1 (.tmp 4), some (23, false)⟩ ::
          ⟨some 25, .load false 1 (.tmp 24), some (23, false)⟩ ::
          ⟨some 26, .call (.val (.fn (.func 108) [])) [(.tmp 25)], some (23, false)⟩ ::
          ⟨some 27, .un .not (.tmp 26), some (23, false)⟩ ::
          ⟨some 28, .pick (.tmp 23) (.val (.bool true)) (.tmp 27), none⟩ ::
          ⟨some 29, .mov (.tmp 28), none⟩ ::
          ⟨some 30, .mov (.tmp 3), some (29, false)⟩ ::
          ⟨some 31, .bin .gtr (.tmp 30) (.val (.int .i64 0)), some (29, false)⟩ ::
          ⟨some 32, .mov (.tmp 31), some (29, false)⟩ ::
          ⟨some 33, .faddr 0 (.tmp 4), some (32, true)⟩ ::
          ⟨some 34, .load false 1 (.tmp 33), some (32, true)⟩ ::
          ⟨some 35, .mov (.tmp 0), some (32, true)⟩ ::
          ⟨some 36, .mov (.tmp 3), some (32, true)⟩ ::
          ⟨some 37, .bin .sub (.tmp 36) (.val (.int .i64 1)), some (32, true)⟩ ::
          ⟨some 38, .iaddr 2 (.tmp 35) (.tmp 37), some (32, true)⟩ ::
          ⟨some 39, .faddr 1 (.tmp 38), some (32, true)⟩ ::
          ⟨some 40, .load false 1 (.tmp 39), some (32, true)⟩ ::
          ⟨some 41, .bin .sub (.tmp 34) (.tmp 40), some (32, true)⟩ ::
          ⟨some 42, .bin .lss (.tmp 41) (.val (.int .i64 2)), some (32, true)⟩ ::
          ⟨some 43, .pick (.tmp 32) (.tmp 42) (.val (.bool false)), some (29, false)⟩ ::
          ⟨some 44, .pick (.tmp 29) (.val (.bool true)) (.tmp 43), none⟩ :: [])) <|
        .cond (.tmp 44) (.seq (.region (⟨some 2, .mov (.val (.bool false)), none⟩ :: [])) <|
          .ret) <|
        .skip)) <|
      .region (⟨some 45, .bin .add (.tmp 7) (.val (.int .i64 1)), none⟩ ::
        ⟨some 7, .mov (.tmp 45), none⟩ :: [])))) <|
  .seq (.region (⟨some 46, .mov (.tmp 0), none⟩ ::
    ⟨some 47, .len false (.tmp 46), none⟩ ::
    ⟨some 48, .bin .geq (.tmp 47) (.val (.int .i64 1)), none⟩ ::
    ⟨some 2, .mov (.tmp 48), none⟩ :: [])) <|
  .ret⟩
theorem e_model_domain : cFunc Try.prog kd_CModel Try.f77 = some c_model_domain := by kernel_rfl
/- touchstone/model.Right: slots m, 0, m, 1, _, 3, d, 4, _, 5, c, 6 -/
def c_model_Right : AFunc := ⟨61, [.tmp 2],
  .seq (.region (⟨some 1, .box 4 (.tmp 0), none⟩ ::
    ⟨some 2, .mov (.val (.bool false)), none⟩ :: [])) <|
  .seq (.seq (.region (⟨some 7, .faddr 0 (.tmp 1), none⟩ ::
    ⟨some 8, .load false 1 (.tmp 7), none⟩ ::
    ⟨some 9, .len false (.tmp 8), none⟩ ::
    ⟨some 10, .bin .gtr (.tmp 9) (.val (.int .i64 64)), none⟩ ::
    ⟨some 11, .mov (.tmp 10), none⟩ ::
    ⟨some 12, .faddr 1 (.tmp 1), some (11, false)⟩ ::
    ⟨some 13, .load false 1 (.tmp 12), some (11, false)⟩ ::
    ⟨some 14, .len false (.tmp 13), some (11, false)⟩ ::
    ⟨some 15, .bin .gtr (.tmp 14) (.val (.int .i64 64)), some (11, false)⟩ ::
    ⟨some 16, .pick (.tmp 11) (.val (.bool true)) (.tmp 15), none⟩ :: [])) <|
  .cond (.tmp 16) (.seq (.region (⟨some 2, .mov (.val (.bool false)), none⟩ :: [])) <|
    .ret) <|
  .skip) <|
  .seq (.seq (.region (⟨some 17, .faddr 0 (.tmp 1), none⟩ ::
    ⟨some 18, .load false 1 (.tmp 17), none⟩ ::
    ⟨some 19, .len false (.tmp 18), none⟩ ::
    ⟨some 20, .mov (.val (.int .i64 0)), none⟩ :: [])) <|
  .block 0 (.loop (.seq (.region (⟨some 21, .bin .lss (.tmp 20) (.tmp 19), none⟩ :: [])) <|
      .seq (.cond (.tmp 21) (.skip) <|
      .exit 0) <|
      .seq (.block 1 (.seq (.region (⟨some 22, .iaddr 1 (.tmp 18) (.tmp 20), none⟩ ::
          ⟨some 23, .load false 1 (.tmp 22), none⟩ ::
          ⟨some 4, .mov (.tmp 23), none⟩ :: [])) <|
        .seq (.region (⟨some 24, .mov (.tmp 4), none⟩ ::
          ⟨some 25, .call (.val (.fn (.func 77) [])) [(.tmp 24)], none⟩ ::
          ⟨some 26, .un .not (.tmp 25), none⟩ :: [])) <|
        .cond (.tmp 26) (.seq (.region (⟨some 2, .mov (.val (.bool false)), none⟩ :: [])) <|
          .ret) <|
        .skip)) <|
      .region (⟨some 27, .bin .add (.tmp 20) (.val (.int .i64 1)), none⟩ ::
        ⟨some 20, .mov (.tmp 27), none⟩ :: [])))) <|
  .seq (.seq (.region (⟨some 28, .faddr 1 (.tmp 1), none⟩ ::
    ⟨some 29, .load false 1 (.tmp 28), none⟩ ::
    ⟨some 30, .len false (.tmp 29), none⟩ ::
    ⟨some 31, .mov (.val (.int .i64 0)), none⟩ :: [])) <|
  .block 2 (.loop (.seq (.region (⟨some 32, .bin .lss (.tmp 31) (.tmp 30), none⟩ :: [])) <|
      .seq (.cond (.tmp 32) (.skip) <|
      .exit 2) <|
      .seq (.block 3 (.seq (.region (⟨some 33, .iaddr 4 (.tmp 29) (.tmp 31), none⟩ ::
          ⟨some 34, .load true 4 (.tmp 33), none⟩ ::
          ⟨some 6, .alloc (.agg [(.int .i64 0), .nils, .nils, (.int .i64 0)]), none⟩ ::
          ⟨none, .store 4 (.tmp 6) (.tmp 34), none⟩ :: [])) <|
        .seq (.region (⟨some 35, .load true 4 (.tmp 1), none⟩ ::
          ⟨some 36, .load true 4 (.tmp 6), none⟩ ::
          ⟨some 37, .call (.val (.fn (.func 78) [])) [(.tmp 35), (.tmp 36)], none⟩ ::
          ⟨some 38, .un .not (.tmp 37), none⟩ :: [])) <|
        .cond (.tmp 38) (.seq (.region (⟨some 2, .mov (.val (.bool false)), none⟩ :: [])) <|
          .ret) <|
        .skip)) <|
      .region (⟨some 39, .bin .add (.tmp 31) (.val (.int .i64 1)), none⟩ ::
        ⟨some 31, .mov (.tmp 39), none⟩ :: [])))) <|
  .seq (.seq (.region (⟨some 40, .faddr 2 (.tmp 1), none⟩ ::
    ⟨some 41, .load false 1 (.tmp 40), none⟩ :: [])) <|
  .block 4 (.seq (.region (⟨some 43, .bin .eql (.tmp 41) (.val (.int .i64 0)), none⟩ ::
      ⟨some 42, .mov (.tmp 43), none⟩ :: [])) <|
    .cond (.tmp 42) (.seq (.region (⟨some 44, .faddr 3 (.tmp 1), none⟩ ::
        ⟨some 45, .load false 1 (.tmp 44), none⟩ ::
        ⟨some 46, .bin .eql (.tmp 45) (.val (.int .i64 0)), none⟩ ::
        ⟨some 2, .mov (.tmp 46), none⟩ :: [])) <|
      .ret) <|
    .seq (.seq (.region (⟨some 48, .bin .eql (.tmp 41) (.val (.int .i64 1)), none⟩ ::
      ⟨some 47, .mov (.tmp 48), none⟩ :: [])) <|
    .cond (.tmp 47) (.skip) <|
    .region (⟨some 49, .bin .eql (.tmp 41) (.val (.int .i64 2)), none⟩ ::
      ⟨some 47, .mov (.tmp 49), none⟩ :: [])) <|
    .cond (.tmp 47) (.seq (.region (⟨some 50, .faddr 3 (.tmp 1), none⟩ ::
        ⟨some 51, .load false 1 (.tmp 50), none⟩ ::
        ⟨some 52, .bin .geq (.tmp 51) (.val (.int .i64 0)), none⟩ ::
        ⟨some 53, .mov (.tmp 52), none⟩ ::
        ⟨some 54, .faddr 3 (.tmp 1), some (53, true)⟩ ::
        ⟨some 55, .load false 1 (.tmp 54), some (53, true)⟩ ::
        ⟨some 56, .faddr 0 (.tmp 1), some (53, true)⟩ ::
        ⟨some 57, .load false 1 (.tmp 56), some (53, true)⟩ ::
        ⟨some 58, .len false (.tmp 57), some (53, true)⟩ ::
        ⟨some 59, .bin .lss (.tmp 55) (.tmp 58), some (53, true)⟩ ::
        ⟨some 60, .pick (.tmp 53) (.tmp 59) (.val (.bool false)), none⟩ ::
        ⟨some 2, .mov (.tmp 60), none⟩ :: [])) <|
      .ret) <|
    .skip)) <|
  .seq (.region (⟨some 2, .mov (.val (.bool false)), none⟩ :: [])) <|
  .ret⟩
theorem e_model_Right : cFunc Try.prog kd_CModel Try.f33 = some c_model_Right := by kernel_rfl
/- (touchstone/model.shape).counts: slots s, 0, x, 1, a, 2, s, 3, x, 4, a, 5 -/
def c_model_shape_counts : AFunc := ⟨59, [.tmp 6],
  .seq (.region (⟨some 3, .box 5 (.tmp 0), none⟩ ::
    ⟨some 6, .mov (.val (.bool false)), none⟩ :: [])) <|
  .seq (.seq (.region (⟨some 7, .faddr 0 (.tmp 3), none⟩ ::
    ⟨some 8, .load false 1 (.tmp 7), none⟩ :: [])) <|
  .block 0 (.seq (.region (⟨some 10, .bin .eql (.tmp 8) (.val (.int .i64 0)), none⟩ ::
      ⟨some 9, .mov (.tmp 10), none⟩ :: [])) <|
    .cond (.tmp 9) (.seq (.region (⟨some 11, .mov (.tmp 1), none⟩ ::
        ⟨some 12, .faddr 1 (.tmp 3), none⟩ ::
        ⟨some 13, .load false 1 (.tmp 12), none⟩ ::
        ⟨some 14, .bin .eql (.tmp 11) (.tmp 13), none⟩ ::
        ⟨some 15, .mov (.tmp 14), none⟩ ::
        ⟨some 16, .mov (.tmp 2), some (15, true)⟩ ::
        ⟨some 17, .faddr 2 (.tmp 3), some (15, true)⟩ ::
        ⟨some 18, .load false 1 (.tmp 17), some (15, true)⟩ ::
        ⟨some 19, .bin .eql (.tmp 16) (.tmp 18), some (15, true)⟩ ::
        ⟨some 20, .pick (.tmp 15) (.tmp 19) (.val (.bool false)), none⟩ ::
        ⟨some 6, .mov (.tmp 20), none⟩ :: [])) <|
      .ret) <|
    .seq (.region (⟨some 22, .bin .eql (.tmp 8) (.val (.int .i64 1)), none⟩ ::
      ⟨some 21, .mov (.tmp 22), none⟩ :: [])) <|
    .cond (.tmp 21) (.seq (.region (⟨some 23, .mov (.tmp 1), none⟩ ::
        ⟨some 24, .mov (.tmp 2), none⟩ ::
        ⟨some 25, .faddr 1 (.tmp 3), none⟩ ::
        ⟨some 26, .load false 1 (.tmp 25), none⟩ ::
        ⟨some 27, .bin .add (.tmp 24) (.tmp 26), none⟩ ::
        ⟨some 28, .bin .eql (.tmp 23) (.tmp 27), none⟩ ::
        ⟨some 6, .mov (.tmp 28), none⟩ :: [])) <|
      .ret) <|
    .seq (.region (⟨some 30, .bin .eql (.tmp 8) (.val (.int .i64 2)), none⟩ ::
      ⟨some 29, .mov (.tmp 30), none⟩ :: [])) <|
    .cond (.tmp 29) (.seq (.region (⟨some 31, .mov (.tmp 1), none⟩ ::
        ⟨some 32, .faddr 1 (.tmp 3), none⟩ ::
        ⟨some 33, .load false 1 (.tmp 32), none⟩ ::
        ⟨some 34, .bin .geq (.tmp 31) (.tmp 33), none⟩ ::
        ⟨some 35, .mov (.tmp 34), none⟩ ::
        ⟨some 36, .mov (.tmp 2), some (35, true)⟩ ::
        ⟨some 37, .faddr 2 (.tmp 3), some (35, true)⟩ ::
        ⟨some 38, .load false 1 (.tmp 37), some (35, true)⟩ ::
        ⟨some 39, .bin .eql (.tmp 36) (.tmp 38), some (35, true)⟩ ::
        ⟨some 40, .pick (.tmp 35) (.tmp 39) (.val (.bool false)), none⟩ ::
        ⟨some 6, .mov (.tmp 40), none⟩ :: [])) <|
      .ret) <|
    .seq (.region (⟨some 42, .bin .eql (.tmp 8) (.val (.int .i64 3)), none⟩ ::
      ⟨some 41, .mov (.tmp 42), none⟩ :: [])) <|
    .cond (.tmp 41) (.seq (.region (⟨some 43, .mov (.tmp 1), none⟩ ::
        ⟨some 44, .faddr 1 (.tmp 3), none⟩ ::
        ⟨some 45, .load false 1 (.tmp 44), none⟩ ::
        ⟨some 46, .bin .eql (.tmp 43) (.tmp 45), none⟩ ::
        ⟨some 47, .mov (.tmp 46), none⟩ ::
        ⟨some 48, .mov (.tmp 2), some (47, true)⟩ ::
        ⟨some 49, .bin .geq (.tmp 48) (.val (.int .i64 1)), some (47, true)⟩ ::
        ⟨some 50, .pick (.tmp 47) (.tmp 49) (.val (.bool false)), none⟩ ::
        ⟨some 51, .mov (.tmp 50), none⟩ ::
        ⟨some 52, .mov (.tmp 2), some (51, true)⟩ ::
        ⟨some 53, .bin .leq (.tmp 52) (.val (.int .i64 64)), some (51, true)⟩ ::
        ⟨some 54, .pick (.tmp 51) (.tmp 53) (.val (.bool false)), none⟩ ::
        ⟨some 6, .mov (.tmp 54), none⟩ :: [])) <|
      .ret) <|
    .skip)) <|
  .seq (.region (⟨some 55, .mov (.tmp 2), none⟩ ::
    ⟨some 56, .mov (.tmp 1), none⟩ ::
    ⟨some 57, .bin .mul (.val (.int .i64 2)) (.tmp 56), none⟩ ::
    ⟨some 58, .bin .eql (.tmp 55) (.tmp 57), none⟩ ::
    ⟨some 6, .mov (.tmp 58), none⟩ :: [])) <|
  .ret⟩
theorem e_model_shape_counts : cFunc Try.prog kd_CModel Try.f129 = some c_model_shape_counts := by kernel_rfl
/- slices.IndexFunc[[]int64,int64]: slots s, 0, f, 1, s, 2, f, 3, i, 5 -/
def c_slices_IndexFunc_sint64_int64 : AFunc := ⟨19, [.tmp 4],
  .seq (.region (⟨some 4, .mov (.val (.int .i64 0)), none⟩ :: [])) <|
  .seq (.seq (.region (⟨some 6, .mov (.tmp 0), none⟩ ::
    ⟨some 7, .len false (.tmp 6), none⟩ ::
    ⟨some 8, .mov (.val (.int .i64 0)), none⟩ :: [])) <|
  .block 0 (.loop (.seq (.region (⟨some 9, .bin .lss (.tmp 8) (.tmp 7), none⟩ :: [])) <|
      .seq (.cond (.tmp 9) (.skip) <|
      .exit 0) <|
      .seq (.block 1 (.seq (.region (⟨some 10, .mov (.tmp 8), none⟩ ::
          ⟨some 5, .mov (.tmp 10), none⟩ :: [])) <|
        .seq (.region (⟨some 11, .mov (.tmp 1), none⟩ ::
          ⟨some 12, .mov (.tmp 0), none⟩ ::
          ⟨some 13, .mov (.tmp 5), none⟩ ::
          ⟨some 14, .iaddr 1 (.tmp 12) (.tmp 13), none⟩ ::
          ⟨some 15, .load false 1 (.tmp 14), none⟩ ::
          ⟨some 16, .call (.tmp 11) [(.tmp 15)], none⟩ :: [])) <|
        .cond (.tmp 16) (.seq (.region (⟨some 17, .mov (.tmp 5), none⟩ ::
            ⟨some 4, .mov (.tmp 17), none⟩ :: [])) <|
          .ret) <|
        .skip)) <|
      .region (⟨some 18, .bin .add (.tmp 8) (.val (.int .i64 1)), none⟩ ::
        ⟨some 8, .mov (.tmp 18), none⟩ :: [])))) <|
  .seq (.region (⟨some 4, .mov (.val (.int .i64 (-1))), none⟩ :: [])) <|
  .ret⟩
theorem e_slices_IndexFunc_sint64_int64 : cFunc Try.prog kd_CModel Try.f103 = some c_slices_IndexFunc_sint64_int64 := by kernel_rfl
/- slices.ContainsFunc[[]int64,int64]: slots s, 0, f, 1, s, 2, f, 3 -/
def c_slices_ContainsFunc_sint64_int64 : AFunc := ⟨9, [.tmp 4],
  .seq (.region (⟨some 4, .mov (.val (.bool false)), none⟩ :: [])) <|
  .seq (.region (⟨some 5, .mov (.tmp 0), none⟩ ::
    ⟨some 6, .mov (.tmp 1), none⟩ ::
    ⟨some 7, .call (.val (.fn (.func 103) [])) [(.tmp 5), (.tmp 6)], none⟩ ::
    ⟨some 8, .bin .geq (.tmp 7) (.val (.int .i64 0)), none⟩ ::
    ⟨some 4, .mov (.tmp 8), none⟩ :: [])) <|
  .ret⟩
theorem e_slices_ContainsFunc_sint64_int64 : cFunc Try.prog kd_CModel Try.f71 = some c_slices_ContainsFunc_sint64_int64 := by kernel_rfl
end Go.Proofs.Ytnhedjpghpdbdaa
namespace Go.Proofs.Ytnhedjpghpdbdaa
open Av
attribute [local irreducible] awp awpOpers
set_option linter.unusedSimpArgs false
set_option linter.unusedVariables false
set_option maxRecDepth 100000
theorem model_within (n : Int) : Ctr Try.prog 108 [.int .i64 n] [] (.bool (withinB n)) [] := by
  refine call_pure Try.func108 Try.call108 e_model_within ?_
  simp +contextual -implicitDefEqProofs (maxSteps := 1000000) only [c_model_within, sm, sn, sxx, Nat.reduceAdd, Nat.reduceSub, Nat.reduceLeDiff, Nat.reduceLT, Nat.reduceEqDiff, Int.reduceLE, Int.reduceLT, Int.reduceEq, Int.reduceToNat, Int.reduceAdd, Int.reduceSub, Int.reduceMul, Int.reduceNeg, Int.reduceNe, reduceCtorEq, ↓reduceIte]
  unfold withinB
  split <;> simp_all <;> omega
def domB (l : List Rg) : Bool := rightB l && decide (1 ≤ l.length)
theorem model_domain (l : List Rg) (hl : l.length ≤ 1000000000000) : Ctr Try.prog 77 [eRgs l] [] (.bool (domB l)) [] := by
  refine call_pure Try.func77 Try.call77 e_model_domain ?_
  simp +contextual -implicitDefEqProofs (maxSteps := 1000000) only [c_model_domain, eRgs, sm, sn, sxx, Nat.reduceAdd, Nat.reduceSub, Nat.reduceLeDiff, Nat.reduceLT, Nat.reduceEqDiff, Int.reduceLE, Int.reduceLT, Int.reduceEq, Int.reduceToNat, Int.reduceAdd, Int.reduceSub, Int.reduceMul, Int.reduceNeg, Int.reduceNe, reduceCtorEq, ↓reduceIte]
  refine loop_rule (fun k : Nat => k ≤ l.length ∧ ∀ j, j < k → okAt l j = true) (fun k => tm 49 [(0, .list 2 (l.map eRg)), (5, .list 2 (l.map eRg)), (6, .int .i64 l.length), (7, .int .i64 k)]) (fun _ => []) (fun k => l.length - k) 0 ⟨by omega, by omega⟩ ⟨[], by decide, rfl, trivial, ?_⟩ ?_
  · simp +contextual -implicitDefEqProofs (maxSteps := 1000000) only [tm, sm, sn, sxx, Nat.reduceAdd, Nat.reduceSub, Nat.reduceLeDiff, Nat.reduceLT, Nat.reduceEqDiff, Int.reduceLE, Int.reduceLT, Int.reduceEq, Int.reduceToNat, Int.reduceAdd, Int.reduceSub, Int.reduceMul, Int.reduceNeg, Int.reduceNe, reduceCtorEq, ↓reduceIte]; simp
  · rintro k ⟨hk, hok⟩
    by_cases hlt : k < l.length
    · obtain ⟨⟨x, y⟩, hxy⟩ : ∃ r, l[k]? = some r := ⟨_, List.getElem?_eq_getElem hlt⟩
      have hlt' : (k : Int) < (l.length : Int) := by omega
      have no : okAt l k = false → domB l = false := fun h => by unfold domB; rw [rightB_no hlt h]; rfl
      by_cases h1 : y < x
      · simp +contextual -implicitDefEqProofs (maxSteps := 1000000) only [sm, sn, sxx, Nat.reduceAdd, Nat.reduceSub, Nat.reduceLeDiff, Nat.reduceLT, Nat.reduceEqDiff, Int.reduceLE, Int.reduceLT, Int.reduceEq, Int.reduceToNat, Int.reduceAdd, Int.reduceSub, Int.reduceMul, Int.reduceNeg, Int.reduceNe, reduceCtorEq, ↓reduceIte, hlt', hxy, h1]
        exact no (by simp [okAt, hxy, h1])
      simp +contextual -implicitDefEqProofs (maxSteps := 1000000) only [sm, sn, sxx, Nat.reduceAdd, Nat.reduceSub, Nat.reduceLeDiff, Nat.reduceLT, Nat.reduceEqDiff, Int.reduceLE, Int.reduceLT, Int.reduceEq, Int.reduceToNat, Int.reduceAdd, Int.reduceSub, Int.reduceMul, Int.reduceNeg, Int.reduceNe, reduceCtorEq, ↓reduceIte, hlt', hxy, h1]
      refine callA_rule (model_within _) (wkL_refl _) rfl ?_
      cases hw1 : withinB x
      · simp +contextual -implicitDefEqProofs (maxSteps := 1000000) only [sm, sn, sxx, Nat.reduceAdd, Nat.reduceSub, Nat.reduceLeDiff, Nat.reduceLT, Nat.reduceEqDiff, Int.reduceLE, Int.reduceLT, Int.reduceEq, Int.reduceToNat, Int.reduceAdd, Int.reduceSub, Int.reduceMul, Int.reduceNeg, Int.reduceNe, reduceCtorEq, ↓reduceIte]
        exact no (by simp [okAt, hxy, hw1])
      simp +contextual -implicitDefEqProofs (maxSteps := 1000000) only [sm, sn, sxx, Nat.reduceAdd, Nat.reduceSub, Nat.reduceLeDiff, Nat.reduceLT, Nat.reduceEqDiff, Int.reduceLE, Int.reduceLT, Int.reduceEq, Int.reduceToNat, Int.reduceAdd, Int.reduceSub, Int.reduceMul, Int.reduceNeg, Int.reduceNe, reduceCtorEq, ↓reduceIte, h1]
      refine callA_rule (model_within _) (wkL_refl _) rfl ?_
      cases hw2 : withinB y
      · simp +contextual -implicitDefEqProofs (maxSteps := 1000000) only [sm, sn, sxx, Nat.reduceAdd, Nat.reduceSub, Nat.reduceLeDiff, Nat.reduceLT, Nat.reduceEqDiff, Int.reduceLE, Int.reduceLT, Int.reduceEq, Int.reduceToNat, Int.reduceAdd, Int.reduceSub, Int.reduceMul, Int.reduceNeg, Int.reduceNe, reduceCtorEq, ↓reduceIte]
        exact no (by simp [okAt, hxy, hw2])
      obtain ⟨x1, x2⟩ := (withinB_iff _).1 hw1
      obtain ⟨y1, y2⟩ := (withinB_iff _).1 hw2
      have e2 : IntKind.i64.wrap ((k : Int) + 1) = ((k + 1 : Nat) : Int) := by rw [wrap_i64] <;> omega
      by_cases h0 : k = 0
      · have h0' : ¬ (0 : Int) < k := by omega
        simp +contextual -implicitDefEqProofs (maxSteps := 1000000) only [sm, sn, sxx, Nat.reduceAdd, Nat.reduceSub, Nat.reduceLeDiff, Nat.reduceLT, Nat.reduceEqDiff, Int.reduceLE, Int.reduceLT, Int.reduceEq, Int.reduceToNat, Int.reduceAdd, Int.reduceSub, Int.reduceMul, Int.reduceNeg, Int.reduceNe, reduceCtorEq, ↓reduceIte, h1, h0', e2]
        refine ⟨k + 1, ⟨by omega, ?_⟩, by omega, [], by decide, rfl, trivial, ?_⟩
        · intro j hj
          rcases Nat.lt_succ_iff_lt_or_eq.1 hj with h | rfl
          · exact hok j h
          · simp only [okAt, hxy, h0] at hxy ⊢
            simp [hxy, h1, hw1, hw2]
        · simp +contextual -implicitDefEqProofs (maxSteps := 1000000) only [sm, sn, sxx, Nat.reduceAdd, Nat.reduceSub, Nat.reduceLeDiff, Nat.reduceLT, Nat.reduceEqDiff, Int.reduceLE, Int.reduceLT, Int.reduceEq, Int.reduceToNat, Int.reduceAdd, Int.reduceSub, Int.reduceMul, Int.reduceNeg, Int.reduceNe, reduceCtorEq, ↓reduceIte]
      · have h0' : (0 : Int) < k := by omega
        have e1 : IntKind.i64.wrap ((k : Int) - 1) = ((k - 1 : Nat) : Int) := by rw [wrap_i64] <;> omega
        obtain ⟨⟨p, q⟩, hpq⟩ : ∃ r, l[k - 1]? = some r := ⟨_, List.getElem?_eq_getElem (by omega)⟩
        have hp := hok (k - 1) (by omega)
        simp only [okAt, hpq, Bool.and_eq_true, withinB_iff] at hp
        have e3 : IntKind.i64.wrap (x - q) = x - q := by rw [wrap_i64] <;> omega
        simp +contextual -implicitDefEqProofs (maxSteps := 1000000) only [sm, sn, sxx, Nat.reduceAdd, Nat.reduceSub, Nat.reduceLeDiff, Nat.reduceLT, Nat.reduceEqDiff, Int.reduceLE, Int.reduceLT, Int.reduceEq, Int.reduceToNat, Int.reduceAdd, Int.reduceSub, Int.reduceMul, Int.reduceNeg, Int.reduceNe, reduceCtorEq, ↓reduceIte, h1, h0', e1, hpq, e2, e3]
        split
        · exact no (by simp [okAt, hxy, hpq, h1, hw1, hw2, h0]; omega)
        · refine ⟨k + 1, ⟨by omega, ?_⟩, by omega, [], by decide, rfl, trivial, ?_⟩
          · intro j hj
            rcases Nat.lt_succ_iff_lt_or_eq.1 hj with h | rfl
            · exact hok j h
            · simp [okAt, hxy, h1, hw1, hw2, hpq]; omega
          · simp +contextual -implicitDefEqProofs (maxSteps := 1000000) only [tm, sm, sn, sxx, Nat.reduceAdd, Nat.reduceSub, Nat.reduceLeDiff, Nat.reduceLT, Nat.reduceEqDiff, Int.reduceLE, Int.reduceLT, Int.reduceEq, Int.reduceToNat, Int.reduceAdd, Int.reduceSub, Int.reduceMul, Int.reduceNeg, Int.reduceNe, reduceCtorEq, ↓reduceIte]
    · have : k = l.length := by omega
      subst this
      simp +contextual -implicitDefEqProofs (maxSteps := 1000000) only [sm, sn, sxx, Nat.reduceAdd, Nat.reduceSub, Nat.reduceLeDiff, Nat.reduceLT, Nat.reduceEqDiff, Int.reduceLE, Int.reduceLT, Int.reduceEq, Int.reduceToNat, Int.reduceAdd, Int.reduceSub, Int.reduceMul, Int.reduceNeg, Int.reduceNe, reduceCtorEq, ↓reduceIte, Int.lt_irrefl]
      unfold domB
      rw [rightB_yes hok, Bool.true_and]
      simp only [ge_iff_le, decide_eq_decide]
      omega
def truthB (l : List Rg) : Bool :=
  match l[0]?, l[l.length - 1]? with
  | some a, some b => decide (0 ≤ a.1) && decide (b.2 ≤ 1)
  | _, _ => false
theorem model_truth (l : List Rg) (hl : l.length ≤ 1000000000000) : Ctr Try.prog 111 [eRgs l] [] (.bool (truthB l)) [] := by
  refine call_pure Try.func111 Try.call111 e_model_truth ?_
  by_cases h0 : 0 < l.length
  · obtain ⟨⟨x, y⟩, hxy⟩ : ∃ r, l[0]? = some r := ⟨_, List.getElem?_eq_getElem h0⟩
    obtain ⟨⟨p, q⟩, hpq⟩ : ∃ r, l[l.length - 1]? = some r := ⟨_, List.getElem?_eq_getElem (by omega)⟩
    have e1 : IntKind.i64.wrap ((l.length : Int) - 1) = ((l.length - 1 : Nat) : Int) := by rw [wrap_i64] <;> omega
    have h0' : (0 : Int) < l.length := by omega
    simp +contextual -implicitDefEqProofs (maxSteps := 1000000) only [c_model_truth, eRgs, sm, sn, sxx, Nat.reduceAdd, Nat.reduceSub, Nat.reduceLeDiff, Nat.reduceLT, Nat.reduceEqDiff, Int.reduceLE, Int.reduceLT, Int.reduceEq, Int.reduceToNat, Int.reduceAdd, Int.reduceSub, Int.reduceMul, Int.reduceNeg, Int.reduceNe, reduceCtorEq, ↓reduceIte, h0', hxy, hpq, e1]
    simp only [truthB, hxy, hpq]
    split <;> simp_all <;> omega
  · have : l = [] := List.eq_nil_of_length_eq_zero (by omega)
    subst this
    simp +contextual -implicitDefEqProofs (maxSteps := 1000000) only [c_model_truth, eRgs, sm, sn, sxx, Nat.reduceAdd, Nat.reduceSub, Nat.reduceLeDiff, Nat.reduceLT, Nat.reduceEqDiff, Int.reduceLE, Int.reduceLT, Int.reduceEq, Int.reduceToNat, Int.reduceAdd, Int.reduceSub, Int.reduceMul, Int.reduceNeg, Int.reduceNe, reduceCtorEq, ↓reduceIte, Int.lt_irrefl, Int.natCast_zero]
    simp [truthB]
abbrev Shp := Int × Int × Int × Bool × Int
def eShp (s : Shp) : AV := .agg [.int .i64 s.1, .int .i64 s.2.1, .int .i64 s.2.2.1, .bool s.2.2.2.1, .int .i64 s.2.2.2.2]
def shp (K : Int) : Shp :=
  if K = 1 ∨ K = 2 ∨ K = 3 then (1, 0, 0, true, 0) else if K = 4 ∨ K = 5 ∨ K = 6 then (1, 1, 0, true, 1) else if K = 7 ∨ K = 8 ∨ K = 9 then (0, 3, 0, false, 0)
  else if K = 10 ∨ K = 15 then (0, 2, 0, false, 0) else if K = 11 then (1, 0, 0, false, 2) else if K = 12 ∨ K = 13 then (2, 1, 0, false, 2) else if K = 14 then (0, 3, 0, false, 2)
  else if K = 16 then (3, 2, 0, false, 0) else if K = 17 then (2, 3, 0, false, 0) else if K = 18 then (2, 0, 0, false, 0) else if K = 19 then (4, 0, 0, true, 0) else (0, 0, 0, false, 0)
def kindB (K : Int) : Bool := decide (1 ≤ K) && decide (K ≤ 19)
theorem model_shapes (K : Int) : Ctr Try.prog 109 [.int .i64 K] [] (.tuple [eShp (shp K), .bool (kindB K)]) [] := by
  refine call_pure Try.func109 Try.call109 e_model_shapes ?_
  by_cases hK : 1 ≤ K ∧ K ≤ 19
  · have : K = 1 ∨ K = 2 ∨ K = 3 ∨ K = 4 ∨ K = 5 ∨ K = 6 ∨ K = 7 ∨ K = 8 ∨ K = 9 ∨ K = 10 ∨ K = 11 ∨ K = 12 ∨ K = 13 ∨ K = 14 ∨ K = 15 ∨ K = 16 ∨ K = 17 ∨ K = 18 ∨ K = 19 := by omega
    rcases this with rfl | rfl | rfl | rfl | rfl | rfl | rfl | rfl | rfl | rfl | rfl | rfl | rfl | rfl | rfl | rfl | rfl | rfl | rfl <;>
      simp +contextual -implicitDefEqProofs (maxSteps := 1000000) only [c_model_shapes, eShp, shp, kindB, sm, sn, sxx, Nat.reduceAdd, Nat.reduceSub, Nat.reduceLeDiff, Nat.reduceLT, Nat.reduceEqDiff, Int.reduceLE, Int.reduceLT, Int.reduceEq, Int.reduceToNat, Int.reduceAdd, Int.reduceSub, Int.reduceMul, Int.reduceNeg, Int.reduceNe, reduceCtorEq, ↓reduceIte, or_true, true_or, or_false, false_or]
  · have h1 : ∀ n : Int, 1 ≤ n → n ≤ 19 → (K = n) = False := fun n a b => by simp only [eq_iff_iff, iff_false]; omega
    have h2 : kindB K = false := by simp only [kindB, Bool.and_eq_false_iff, decide_eq_false_iff_not]; omega
    simp +contextual -implicitDefEqProofs (maxSteps := 1000000) only [c_model_shapes, eShp, shp, h2, sm, sn, sxx, Nat.reduceAdd, Nat.reduceSub, Nat.reduceLeDiff, Nat.reduceLT, Nat.reduceEqDiff, Int.reduceLE, Int.reduceLT, Int.reduceEq, Int.reduceToNat, Int.reduceAdd, Int.reduceSub, Int.reduceMul, Int.reduceNeg, Int.reduceNe, reduceCtorEq, ↓reduceIte, or_true, true_or, or_false, false_or, h1 1, h1 2, h1 3, h1 4, h1 5, h1 6, h1 7, h1 8, h1 9, h1 10, h1 11, h1 12, h1 13, h1 14, h1 15, h1 16, h1 17, h1 18, h1 19]
def countsB (s : Shp) (x a : Int) : Bool :=
  if s.1 = 0 then decide (x = s.2.1) && decide (a = s.2.2.1) else if s.1 = 1 then decide (x = a + s.2.1) else if s.1 = 2 then decide (s.2.1 ≤ x) && decide (a = s.2.2.1)
  else if s.1 = 3 then decide (x = s.2.1) && decide (1 ≤ a) && decide (a ≤ 64) else decide (a = 2 * x)
theorem model_counts (s : Shp) (x a : Int) (h1 : 0 ≤ s.2.1 ∧ s.2.1 ≤ 10) (hx : 0 ≤ x ∧ x ≤ 1000000000000) (ha : 0 ≤ a ∧ a ≤ 1000000000000) :
    Ctr Try.prog 129 [eShp s, .int .i64 x, .int .i64 a] [] (.bool (countsB s x a)) [] := by
  obtain ⟨r, sx, sa, hs, bt⟩ := s
  simp only at h1
  refine call_pure Try.func129 Try.call129 e_model_shape_counts ?_
  have w1 : IntKind.i64.wrap (a + sx) = a + sx := by rw [wrap_i64] <;> omega
  have w2 : IntKind.i64.wrap (2 * x) = 2 * x := by rw [wrap_i64] <;> omega
  simp +contextual -implicitDefEqProofs (maxSteps := 1000000) only [c_model_shape_counts, eShp, sm, sn, sxx, Nat.reduceAdd, Nat.reduceSub, Nat.reduceLeDiff, Nat.reduceLT, Nat.reduceEqDiff, Int.reduceLE, Int.reduceLT, Int.reduceEq, Int.reduceToNat, Int.reduceAdd, Int.reduceSub, Int.reduceMul, Int.reduceNeg, Int.reduceNe, reduceCtorEq, ↓reduceIte, w1, w2]
  simp only [countsB]
  repeat' split
  all_goals simp_all
  all_goals omega
theorem model_formed_1 (a : Int) : Ctr Try.prog 130 [.int .i64 a] [] (.bool (decide (a ≠ 1) && decide (a ≠ -1))) [] := by
  refine call_pure Try.func130 Try.call130 e_model_formed_1 ?_
  simp +contextual -implicitDefEqProofs (maxSteps := 1000000) only [c_model_formed_1, sm, sn, sxx, Nat.reduceAdd, Nat.reduceSub, Nat.reduceLeDiff, Nat.reduceLT, Nat.reduceEqDiff, Int.reduceLE, Int.reduceLT, Int.reduceEq, Int.reduceToNat, Int.reduceAdd, Int.reduceSub, Int.reduceMul, Int.reduceNeg, Int.reduceNe, reduceCtorEq, ↓reduceIte]
  split <;> simp_all
theorem model_formed_2 (a : Int) : Ctr Try.prog 131 [.int .i64 a] [] (.bool (decide (a < 0))) [] := by
  refine call_pure Try.func131 Try.call131 e_model_formed_2 ?_
  simp +contextual -implicitDefEqProofs (maxSteps := 1000000) only [c_model_formed_2, sm, sn, sxx, Nat.reduceAdd, Nat.reduceSub, Nat.reduceLeDiff, Nat.reduceLT, Nat.reduceEqDiff, Int.reduceLE, Int.reduceLT, Int.reduceEq, Int.reduceToNat, Int.reduceAdd, Int.reduceSub, Int.reduceMul, Int.reduceNeg, Int.reduceNe, reduceCtorEq, ↓reduceIte]
theorem model_may_1 (a : Int) : Ctr Try.prog 112 [.int .i64 a] [] (.bool (!withinB a)) [] := by
  refine call_pure Try.func112 Try.call112 e_model_may_1 ?_
  simp +contextual -implicitDefEqProofs (maxSteps := 1000000) only [c_model_may_1, sm, sn, sxx, Nat.reduceAdd, Nat.reduceSub, Nat.reduceLeDiff, Nat.reduceLT, Nat.reduceEqDiff, Int.reduceLE, Int.reduceLT, Int.reduceEq, Int.reduceToNat, Int.reduceAdd, Int.reduceSub, Int.reduceMul, Int.reduceNeg, Int.reduceNe, reduceCtorEq, ↓reduceIte]
  refine callA_rule (model_within _) (wkL_refl _) rfl ?_
  simp +contextual -implicitDefEqProofs (maxSteps := 1000000) only [sm, sn, sxx, Nat.reduceAdd, Nat.reduceSub, Nat.reduceLeDiff, Nat.reduceLT, Nat.reduceEqDiff, Int.reduceLE, Int.reduceLT, Int.reduceEq, Int.reduceToNat, Int.reduceAdd, Int.reduceSub, Int.reduceMul, Int.reduceNeg, Int.reduceNe, reduceCtorEq, ↓reduceIte]
end Go.Proofs.Ytnhedjpghpdbdaa
namespace Go.Proofs.Ytnhedjpghpdbdaa
open Av
attribute [local irreducible] awp awpOpers
set_option linter.unusedSimpArgs false
set_option linter.unusedVariables false
set_option maxRecDepth 100000
def idxV {α : Type} (p : α → Bool) (l : List α) : Int := match l.findIdx? p with
  | some k => k
  | none => -1
theorem idxV_none {α : Type} {p : α → Bool} {l : List α} (h : ∀ (j : Nat) x, l[j]? = some x → p x = false) : idxV p l = -1 := by
  unfold idxV
  have : l.findIdx? p = none := by
    rw [List.findIdx?_eq_none_iff]
    intro x hx
    obtain ⟨j, hj, rfl⟩ := List.getElem_of_mem hx
    exact h j _ (List.getElem?_eq_getElem hj)
  rw [this]
theorem idxV_some {α : Type} {p : α → Bool} {l : List α} {k : Nat} {y : α} (hy : l[k]? = some y) (hp : p y = true) (h : ∀ (j : Nat) x, j < k → l[j]? = some x → p x = false) : idxV p l = k := by
  unfold idxV
  have : l.findIdx? p = some k := by
    rw [List.findIdx?_eq_some_iff_getElem]
    have hk := (List.getElem?_eq_some_iff.1 hy)
    refine ⟨hk.1, by rw [hk.2]; exact hp, fun j hj => ?_⟩
    rw [h j _ hj (List.getElem?_eq_getElem (Nat.lt_trans hj hk.1))]
    simp
  rw [this]
theorem idxV_any {α : Type} (p : α → Bool) (l : List α) : decide (0 ≤ idxV p l) = l.any p := by
  unfold idxV
  cases h : l.findIdx? p with
  | none =>
    rw [List.findIdx?_eq_none_iff] at h
    have : l.any p = false := by rw [List.any_eq_false]; intro x hx; rw [h x hx]; simp
    rw [this]; rfl
  | some k =>
    rw [List.findIdx?_eq_some_iff_getElem] at h
    obtain ⟨hk, hp, _⟩ := h
    have : l.any p = true := by rw [List.any_eq_true]; exact ⟨_, List.getElem_mem hk, hp⟩
    rw [this]; simp
theorem index_ints (l : List Int) (hl : l.length ≤ 1000000000000) (g : Nat) (p : Int → Bool) (hg : ∀ n, Ctr Try.prog g [.int .i64 n] [] (.bool (p n)) []) :
    Ctr Try.prog 103 [eIs l, .fn (.func g) []] [] (.int .i64 (idxV p l)) [] := by
  refine call_pure Try.func103 Try.call103 e_slices_IndexFunc_sint64_int64 ?_
  simp +contextual -implicitDefEqProofs (maxSteps := 1000000) only [c_slices_IndexFunc_sint64_int64, eIs, sm, sn, sxx, Nat.reduceAdd, Nat.reduceSub, Nat.reduceLeDiff, Nat.reduceLT, Nat.reduceEqDiff, Int.reduceLE, Int.reduceLT, Int.reduceEq, Int.reduceToNat, Int.reduceAdd, Int.reduceSub, Int.reduceMul, Int.reduceNeg, Int.reduceNe, reduceCtorEq, ↓reduceIte]
  refine loop_rule (fun k : Nat => k ≤ l.length ∧ ∀ (j : Nat) x, j < k → l[j]? = some x → p x = false) (fun k => tm 19 [(0, .list 1 (l.map eI)), (1, .fn (.func g) []), (7, .int .i64 l.length), (8, .int .i64 k)]) (fun _ => []) (fun k => l.length - k) 0 ⟨by omega, by omega⟩ ⟨[], by decide, rfl, trivial, ?_⟩ ?_
  · simp +contextual -implicitDefEqProofs (maxSteps := 1000000) only [tm, sm, sn, sxx, Nat.reduceAdd, Nat.reduceSub, Nat.reduceLeDiff, Nat.reduceLT, Nat.reduceEqDiff, Int.reduceLE, Int.reduceLT, Int.reduceEq, Int.reduceToNat, Int.reduceAdd, Int.reduceSub, Int.reduceMul, Int.reduceNeg, Int.reduceNe, reduceCtorEq, ↓reduceIte]; simp
  · rintro k ⟨hk, hok⟩
    by_cases hlt : k < l.length
    · obtain ⟨x, hx⟩ : ∃ r, l[k]? = some r := ⟨_, List.getElem?_eq_getElem hlt⟩
      have hlt' : (k : Int) < (l.length : Int) := by omega
      simp +contextual -implicitDefEqProofs (maxSteps := 1000000) only [sm, sn, sxx, Nat.reduceAdd, Nat.reduceSub, Nat.reduceLeDiff, Nat.reduceLT, Nat.reduceEqDiff, Int.reduceLE, Int.reduceLT, Int.reduceEq, Int.reduceToNat, Int.reduceAdd, Int.reduceSub, Int.reduceMul, Int.reduceNeg, Int.reduceNe, reduceCtorEq, ↓reduceIte, hlt', hx]
      refine callA_rule (hg _) (wkL_refl _) rfl ?_
      cases hp : p x
      · have e2 : IntKind.i64.wrap ((k : Int) + 1) = ((k + 1 : Nat) : Int) := by rw [wrap_i64] <;> omega
        simp +contextual -implicitDefEqProofs (maxSteps := 1000000) only [sm, sn, sxx, Nat.reduceAdd, Nat.reduceSub, Nat.reduceLeDiff, Nat.reduceLT, Nat.reduceEqDiff, Int.reduceLE, Int.reduceLT, Int.reduceEq, Int.reduceToNat, Int.reduceAdd, Int.reduceSub, Int.reduceMul, Int.reduceNeg, Int.reduceNe, reduceCtorEq, ↓reduceIte, e2]
        refine ⟨k + 1, ⟨by omega, ?_⟩, by omega, [], by decide, rfl, trivial, ?_⟩
        · intro j y hj hy
          rcases Nat.lt_succ_iff_lt_or_eq.1 hj with h | rfl
          · exact hok j y h hy
          · rw [hx] at hy; injection hy with hy; subst hy; exact hp
        · simp +contextual -implicitDefEqProofs (maxSteps := 1000000) only [tm, sm, sn, sxx, Nat.reduceAdd, Nat.reduceSub, Nat.reduceLeDiff, Nat.reduceLT, Nat.reduceEqDiff, Int.reduceLE, Int.reduceLT, Int.reduceEq, Int.reduceToNat, Int.reduceAdd, Int.reduceSub, Int.reduceMul, Int.reduceNeg, Int.reduceNe, reduceCtorEq, ↓reduceIte]
      · simp +contextual -implicitDefEqProofs (maxSteps := 1000000) only [sm, sn, sxx, Nat.reduceAdd, Nat.reduceSub, Nat.reduceLeDiff, Nat.reduceLT, Nat.reduceEqDiff, Int.reduceLE, Int.reduceLT, Int.reduceEq, Int.reduceToNat, Int.reduceAdd, Int.reduceSub, Int.reduceMul, Int.reduceNeg, Int.reduceNe, reduceCtorEq, ↓reduceIte]
        exact idxV_some hx hp hok
    · have : k = l.length := by omega
      subst this
      simp +contextual -implicitDefEqProofs (maxSteps := 1000000) only [sm, sn, sxx, Nat.reduceAdd, Nat.reduceSub, Nat.reduceLeDiff, Nat.reduceLT, Nat.reduceEqDiff, Int.reduceLE, Int.reduceLT, Int.reduceEq, Int.reduceToNat, Int.reduceAdd, Int.reduceSub, Int.reduceMul, Int.reduceNeg, Int.reduceNe, reduceCtorEq, ↓reduceIte, Int.lt_irrefl]
      exact idxV_none (fun j x hj => hok j x (List.getElem?_eq_some_iff.1 hj).1 hj)
theorem contains_ints (l : List Int) (hl : l.length ≤ 1000000000000) (g : Nat) (p : Int → Bool) (hg : ∀ n, Ctr Try.prog g [.int .i64 n] [] (.bool (p n)) []) :
    Ctr Try.prog 71 [eIs l, .fn (.func g) []] [] (.bool (l.any p)) [] := by
  refine call_pure Try.func71 Try.call71 e_slices_ContainsFunc_sint64_int64 ?_
  simp +contextual -implicitDefEqProofs (maxSteps := 1000000) only [c_slices_ContainsFunc_sint64_int64, eIs, sm, sn, sxx, Nat.reduceAdd, Nat.reduceSub, Nat.reduceLeDiff, Nat.reduceLT, Nat.reduceEqDiff, Int.reduceLE, Int.reduceLT, Int.reduceEq, Int.reduceToNat, Int.reduceAdd, Int.reduceSub, Int.reduceMul, Int.reduceNeg, Int.reduceNe, reduceCtorEq, ↓reduceIte]
  refine callA_rule (index_ints l hl g p hg) (wkL_refl _) rfl ?_
  simp +contextual -implicitDefEqProofs (maxSteps := 1000000) only [sm, sn, sxx, Nat.reduceAdd, Nat.reduceSub, Nat.reduceLeDiff, Nat.reduceLT, Nat.reduceEqDiff, Int.reduceLE, Int.reduceLT, Int.reduceEq, Int.reduceToNat, Int.reduceAdd, Int.reduceSub, Int.reduceMul, Int.reduceNeg, Int.reduceNe, reduceCtorEq, ↓reduceIte]
  rw [← idxV_any]
def formedB (c : Con) : Bool :=
  kindB c.1 && countsB (shp c.1) c.2.1.length c.2.2.1.length && (if c.1 = 11 then !(c.2.2.1.any fun a => decide (a ≠ 1) && decide (a ≠ -1)) else if c.1 = 19 then decide (0 ≤ c.2.2.2) && !(c.2.2.1.any fun a => decide (a < 0)) else true)
theorem shp_x (K : Int) : 0 ≤ (shp K).2.1 ∧ (shp K).2.1 ≤ 10 := by
  unfold shp
  repeat' split
  all_goals simp
theorem model_formed (c : Con) (hX : c.2.1.length ≤ 1000000000000) (hA : c.2.2.1.length ≤ 1000000000000) : Ctr Try.prog 110 [eCon c] [] (.bool (formedB c)) [] := by
  obtain ⟨K, X, A, C⟩ := c
  simp only at hX hA
  refine call_pure Try.func110 Try.call110 e_model_formed ?_
  simp +contextual -implicitDefEqProofs (maxSteps := 1000000) only [c_model_formed, eCon, eIs, sm, sn, sxx, Nat.reduceAdd, Nat.reduceSub, Nat.reduceLeDiff, Nat.reduceLT, Nat.reduceEqDiff, Int.reduceLE, Int.reduceLT, Int.reduceEq, Int.reduceToNat, Int.reduceAdd, Int.reduceSub, Int.reduceMul, Int.reduceNeg, Int.reduceNe, reduceCtorEq, ↓reduceIte]
  refine callA_rule (model_shapes K) (wkL_refl _) rfl ?_
  cases hk : kindB K
  · simp +contextual -implicitDefEqProofs (maxSteps := 1000000) only [sm, sn, sxx, Nat.reduceAdd, Nat.reduceSub, Nat.reduceLeDiff, Nat.reduceLT, Nat.reduceEqDiff, Int.reduceLE, Int.reduceLT, Int.reduceEq, Int.reduceToNat, Int.reduceAdd, Int.reduceSub, Int.reduceMul, Int.reduceNeg, Int.reduceNe, reduceCtorEq, ↓reduceIte, eShp]
    simp [formedB, hk]
  simp +contextual -implicitDefEqProofs (maxSteps := 1000000) only [sm, sn, sxx, Nat.reduceAdd, Nat.reduceSub, Nat.reduceLeDiff, Nat.reduceLT, Nat.reduceEqDiff, Int.reduceLE, Int.reduceLT, Int.reduceEq, Int.reduceToNat, Int.reduceAdd, Int.reduceSub, Int.reduceMul, Int.reduceNeg, Int.reduceNe, reduceCtorEq, ↓reduceIte, eShp]
  refine callA_rule (model_counts (shp K) X.length A.length (shp_x K) (by omega) (by omega)) (wkL_refl _) rfl ?_
  cases hc : countsB (shp K) X.length A.length
  · simp +contextual -implicitDefEqProofs (maxSteps := 1000000) only [sm, sn, sxx, Nat.reduceAdd, Nat.reduceSub, Nat.reduceLeDiff, Nat.reduceLT, Nat.reduceEqDiff, Int.reduceLE, Int.reduceLT, Int.reduceEq, Int.reduceToNat, Int.reduceAdd, Int.reduceSub, Int.reduceMul, Int.reduceNeg, Int.reduceNe, reduceCtorEq, ↓reduceIte, eShp]
    simp [formedB, hk, hc]
  by_cases h11 : K = 11
  · subst h11
    simp +contextual -implicitDefEqProofs (maxSteps := 1000000) only [sm, sn, sxx, Nat.reduceAdd, Nat.reduceSub, Nat.reduceLeDiff, Nat.reduceLT, Nat.reduceEqDiff, Int.reduceLE, Int.reduceLT, Int.reduceEq, Int.reduceToNat, Int.reduceAdd, Int.reduceSub, Int.reduceMul, Int.reduceNeg, Int.reduceNe, reduceCtorEq, ↓reduceIte]
    refine callA_rule (contains_ints A hA _ _ model_formed_1) (wkL_refl _) rfl ?_
    simp +contextual -implicitDefEqProofs (maxSteps := 1000000) only [sm, sn, sxx, Nat.reduceAdd, Nat.reduceSub, Nat.reduceLeDiff, Nat.reduceLT, Nat.reduceEqDiff, Int.reduceLE, Int.reduceLT, Int.reduceEq, Int.reduceToNat, Int.reduceAdd, Int.reduceSub, Int.reduceMul, Int.reduceNeg, Int.reduceNe, reduceCtorEq, ↓reduceIte]
    simp [formedB, hk, hc]
  by_cases h19 : K = 19
  · subst h19
    simp +contextual -implicitDefEqProofs (maxSteps := 1000000) only [sm, sn, sxx, Nat.reduceAdd, Nat.reduceSub, Nat.reduceLeDiff, Nat.reduceLT, Nat.reduceEqDiff, Int.reduceLE, Int.reduceLT, Int.reduceEq, Int.reduceToNat, Int.reduceAdd, Int.reduceSub, Int.reduceMul, Int.reduceNeg, Int.reduceNe, reduceCtorEq, ↓reduceIte]
    by_cases hC : 0 ≤ C
    · simp +contextual -implicitDefEqProofs (maxSteps := 1000000) only [sm, sn, sxx, Nat.reduceAdd, Nat.reduceSub, Nat.reduceLeDiff, Nat.reduceLT, Nat.reduceEqDiff, Int.reduceLE, Int.reduceLT, Int.reduceEq, Int.reduceToNat, Int.reduceAdd, Int.reduceSub, Int.reduceMul, Int.reduceNeg, Int.reduceNe, reduceCtorEq, ↓reduceIte, hC]
      refine callA_rule (contains_ints A hA _ _ model_formed_2) (wkL_refl _) rfl ?_
      simp +contextual -implicitDefEqProofs (maxSteps := 1000000) only [sm, sn, sxx, Nat.reduceAdd, Nat.reduceSub, Nat.reduceLeDiff, Nat.reduceLT, Nat.reduceEqDiff, Int.reduceLE, Int.reduceLT, Int.reduceEq, Int.reduceToNat, Int.reduceAdd, Int.reduceSub, Int.reduceMul, Int.reduceNeg, Int.reduceNe, reduceCtorEq, ↓reduceIte]
      simp [formedB, hk, hc, hC]
    · simp +contextual -implicitDefEqProofs (maxSteps := 1000000) only [sm, sn, sxx, Nat.reduceAdd, Nat.reduceSub, Nat.reduceLeDiff, Nat.reduceLT, Nat.reduceEqDiff, Int.reduceLE, Int.reduceLT, Int.reduceEq, Int.reduceToNat, Int.reduceAdd, Int.reduceSub, Int.reduceMul, Int.reduceNeg, Int.reduceNe, reduceCtorEq, ↓reduceIte, hC]
      simp [formedB, hk, hc, hC]
  simp +contextual -implicitDefEqProofs (maxSteps := 1000000) only [sm, sn, sxx, Nat.reduceAdd, Nat.reduceSub, Nat.reduceLeDiff, Nat.reduceLT, Nat.reduceEqDiff, Int.reduceLE, Int.reduceLT, Int.reduceEq, Int.reduceToNat, Int.reduceAdd, Int.reduceSub, Int.reduceMul, Int.reduceNeg, Int.reduceNe, reduceCtorEq, ↓reduceIte, h11, h19]
  simp [formedB, hk, hc, h11, h19]
end Go.Proofs.Ytnhedjpghpdbdaa
namespace Go.Proofs.Ytnhedjpghpdbdaa
open Av
attribute [local irreducible] awp awpOpers
set_option linter.unusedSimpArgs false
set_option linter.unusedVariables false
set_option maxRecDepth 100000
set_option maxHeartbeats 4000000
abbrev Mod := List (List Rg) × List Con × Int × Int
def eMod (m : Mod) : AV := .agg [eDoms m.1, eCons m.2.1, .int .i64 m.2.2.1, .int .i64 m.2.2.2]
def rowOf (D : List (List Rg)) (x : Int) : List Rg := (D[x.toNat]?).getD []
def xOk (D : List (List Rg)) (X : List Int) (bt : Int) (i : Nat) : Bool :=
  match X[i]? with
  | none => true
  | some x => decide (0 ≤ x) && decide (x < D.length) && (if bt = 2 ∨ bt = 1 ∧ i + 1 = X.length then truthB (rowOf D x) else true)
def xsOk (D : List (List Rg)) (X : List Int) (bt : Int) : Bool := (List.range X.length).all (xOk D X bt)
theorem all_no {n : Nat} {p : Nat → Bool} {k : Nat} (hk : k < n) (h : p k = false) : (List.range n).all p = false := by
  rw [List.all_eq_false]
  exact ⟨k, by simpa using hk, by simp [h]⟩
theorem all_yes {n : Nat} {p : Nat → Bool} (h : ∀ k, k < n → p k = true) : (List.range n).all p = true := by
  rw [List.all_eq_true]
  intro k hk
  exact h k (by simpa using hk)
def mayB (D : List (List Rg)) (c : Con) : Bool :=
  formedB c && decide (c.2.1.length ≤ 32) && withinB c.2.2.2 && (decide (c.2.2.2 = 0) || (shp c.1).2.2.2.1) && xsOk D c.2.1 (shp c.1).2.2.2.2 && c.2.2.1.all withinB
theorem any_not {l : List Int} {p : Int → Bool} : (l.any fun a => !p a) = !l.all p := by
  induction l with
  | nil => rfl
  | cons x l ih => simp only [List.any_cons, List.all_cons, ih, Bool.not_and]
theorem model_may (m : Mod) (c : Con) (hD : m.1.length ≤ 1000000000000) (hd : ∀ d ∈ m.1, d.length ≤ 1000000000000) (hX : c.2.1.length ≤ 1000000000000) (hA : c.2.2.1.length ≤ 1000000000000) :
    Ctr Try.prog 78 [eMod m, eCon c] [] (.bool (mayB m.1 c)) [] := by
  obtain ⟨D, cs, ask, goal⟩ := m
  obtain ⟨K, X, A, C⟩ := c
  simp only at hX hA hD hd
  refine call_pure Try.func78 Try.call78 e_model_may ?_
  generalize hs : shp K = s
  obtain ⟨r, sx, sa, hs1, bt⟩ := s
  simp +contextual -implicitDefEqProofs (maxSteps := 1000000) only [c_model_may, eCon, eMod, sm, sn, sxx, seval]
  refine callA_rule (model_shapes K) (wkL_refl _) rfl ?_
  rw [hs]
  simp +contextual -implicitDefEqProofs (maxSteps := 1000000) only [sm, sn, sxx, seval, eShp]
  refine callA_rule (model_formed (K, X, A, C) hX hA) (wkL_refl _) rfl ?_
  cases hf : formedB (K, X, A, C)
  · simp +contextual -implicitDefEqProofs (maxSteps := 1000000) only [sm, sn, sxx, seval, eShp]
    simp [mayB, hf]
  by_cases h32 : X.length ≤ 32
  · have h32' : ¬ (32 : Int) < X.length := by omega
    simp +contextual -implicitDefEqProofs (maxSteps := 1000000) only [sm, sn, sxx, seval, eShp, eIs, h32']
    refine callA_rule (model_within _) (wkL_refl _) rfl ?_
    cases hw : withinB C
    · simp +contextual -implicitDefEqProofs (maxSteps := 1000000) only [sm, sn, sxx, seval, eShp]
      simp [mayB, hw]
    by_cases h0 : C = 0 ∨ hs1 = true
    · have g1 : mayB D (K, X, A, C) = (xsOk D X bt && A.all withinB) := by
        simp only [mayB, hf, hw, h32, hs, decide_true, Bool.true_and]
        rcases h0 with h | h <;> simp [h]
      rw [g1]
      have h0' : C = 0 ∨ ¬ C = 0 ∧ hs1 = true := by rcases h0 with h | h <;> by_cases C = 0 <;> simp_all
      clear h0 g1
      have e1 : IntKind.i64.wrap ((X.length : Int) - 1) = (X.length : Int) - 1 := by rw [wrap_i64] <;> omega
      have h1 : C = 0 ∧ True ∨ ¬ C = 0 ∧ hs1 = true := by rcases h0' with h | h <;> simp_all
      rcases h1 with ⟨h0, h1⟩ | ⟨h0, h1⟩
      all_goals
        simp +contextual -implicitDefEqProofs (maxSteps := 1000000) only [sm, sn, sxx, seval, eShp, h0, h1]
        refine loop_rule (fun k : Nat => k ≤ X.length ∧ ∀ j, j < k → xOk D X bt j = true) (fun k => tm 87 [(2, .ptr 4 0 0 0), (3, .ptr 4 1 0 0), (5, .ptr 5 2 0 0), (41, .list 1 (X.map eI)), (42, .int .i64 X.length), (43, .int .i64 k)])
          (fun _ => [some (4, [eMod (D, cs, ask, goal)]), some (4, [eCon (K, X, A, C)]), some (5, [eShp (r, sx, sa, hs1, bt)])]) (fun k => X.length - k) 0 ⟨by omega, by omega⟩ ⟨[0, 1, 2], by decide, rfl, ?_, ?_⟩ ?_
        · simp +contextual -implicitDefEqProofs (maxSteps := 1000000) only [sm, sn, sxx, seval, eMod, eCon, eShp, h0, h1, eIs, eDoms, eCons]
        · simp +contextual -implicitDefEqProofs (maxSteps := 1000000) only [sm, sn, sxx, seval, Int.natCast_zero]
        · rintro k ⟨hk, hok⟩
          by_cases hlt : k < X.length
          · obtain ⟨x, hx⟩ : ∃ r, X[k]? = some r := ⟨_, List.getElem?_eq_getElem hlt⟩
            have hlt' : (k : Int) < (X.length : Int) := by omega
            have e2 : IntKind.i64.wrap ((k : Int) + 1) = ((k + 1 : Nat) : Int) := by rw [wrap_i64] <;> omega
            have no : xOk D X bt k = false → (xsOk D X bt && A.all withinB) = false := fun h => by unfold xsOk; rw [all_no hlt h]; rfl
            have step : xOk D X bt k = true → ∀ j, j < k + 1 → xOk D X bt j = true := fun h j hj => by
              rcases Nat.lt_succ_iff_lt_or_eq.1 hj with h' | rfl
              · exact hok j h'
              · exact h
            by_cases hx0 : x < 0
            · simp +contextual -implicitDefEqProofs (maxSteps := 1000000) only [sm, sn, sxx, seval, hlt', hx, hx0]
              exact no (by simp [xOk, hx]; omega)
            by_cases hx1 : (D.length : Int) ≤ x
            · simp +contextual -implicitDefEqProofs (maxSteps := 1000000) only [sm, sn, sxx, seval, hlt', hx, hx0, hx1, eMod, eDoms]
              exact no (by simp [xOk, hx]; omega)
            obtain ⟨row, hrow⟩ : ∃ r, D[x.toNat]? = some r := ⟨_, List.getElem?_eq_getElem (by omega)⟩
            have hx0' : 0 ≤ x := by omega
            have hr : rowOf D x = row := by unfold rowOf; rw [hrow]; rfl
            have hrl : row.length ≤ 1000000000000 := hd row (List.mem_of_getElem? hrow)
            have hxi : xOk D X bt k = if bt = 2 ∨ bt = 1 ∧ k + 1 = X.length then truthB row else true := by
              simp only [xOk, hx, hr]
              have : x < (D.length : Int) := by omega
              simp [hx0', this]
            by_cases hb2 : bt = 2
            · subst hb2
              simp +contextual -implicitDefEqProofs (maxSteps := 1000000) only [sm, sn, sxx, seval, hlt', hx, hx0, hx1, eMod, eDoms, eCon, eShp, eIs, hrow, hx0']
              refine callA_rule (model_truth row hrl) (wkL_refl _) rfl ?_
              rw [if_pos (.inl rfl)] at hxi
              cases ht : truthB row
              · simp +contextual -implicitDefEqProofs (maxSteps := 1000000) only [sm, sn, sxx, seval]
                exact no (by rw [hxi, ht])
              · simp +contextual -implicitDefEqProofs (maxSteps := 1000000) only [sm, sn, sxx, seval, e2]
                refine ⟨k + 1, ⟨by omega, step (by rw [hxi, ht])⟩, by omega, [0, 1, 2], by decide, rfl, ?_, ?_⟩ <;> simp +contextual -implicitDefEqProofs (maxSteps := 1000000) only [sm, sn, sxx, seval, eMod, eCon, eShp, eIs, eDoms, eCons, h0, h1]
            by_cases hb1 : bt = 1
            · subst hb1
              by_cases hl : k + 1 = X.length
              · have hl' : ((k : Int) = (X.length : Int) - 1) = True := by simp only [eq_iff_iff, iff_true]; omega
                simp +contextual -implicitDefEqProofs (maxSteps := 1000000) only [sm, sn, sxx, seval, hlt', hx, hx0, hx1, eMod, eDoms, eCon, eShp, eIs, hl', e1, hrow, hx0']
                refine callA_rule (model_truth row hrl) (wkL_refl _) rfl ?_
                rw [if_pos (.inr ⟨rfl, hl⟩)] at hxi
                cases ht : truthB row
                · simp +contextual -implicitDefEqProofs (maxSteps := 1000000) only [sm, sn, sxx, seval]
                  exact no (by rw [hxi, ht])
                · simp +contextual -implicitDefEqProofs (maxSteps := 1000000) only [sm, sn, sxx, seval, e2]
                  refine ⟨k + 1, ⟨by omega, step (by rw [hxi, ht])⟩, by omega, [0, 1, 2], by decide, rfl, ?_, ?_⟩ <;> simp +contextual -implicitDefEqProofs (maxSteps := 1000000) only [sm, sn, sxx, seval, eMod, eCon, eShp, eIs, eDoms, eCons, h0, h1]
              · have hl' : ((k : Int) = (X.length : Int) - 1) = False := by simp only [eq_iff_iff, iff_false]; omega
                rw [if_neg (by omega)] at hxi
                simp +contextual -implicitDefEqProofs (maxSteps := 1000000) only [sm, sn, sxx, seval, hlt', hx, hx0, hx1, eMod, eDoms, eCon, eShp, eIs, hl', e1, e2]
                refine ⟨k + 1, ⟨by omega, step hxi⟩, by omega, [0, 1, 2], by decide, rfl, ?_, ?_⟩ <;> simp +contextual -implicitDefEqProofs (maxSteps := 1000000) only [sm, sn, sxx, seval, eMod, eCon, eShp, eIs, eDoms, eCons, h0, h1]
            · rw [if_neg (by omega)] at hxi
              simp +contextual -implicitDefEqProofs (maxSteps := 1000000) only [sm, sn, sxx, seval, hlt', hx, hx0, hx1, eMod, eDoms, eCon, eShp, eIs, hb1, hb2, e2]
              refine ⟨k + 1, ⟨by omega, step hxi⟩, by omega, [0, 1, 2], by decide, rfl, ?_, ?_⟩ <;> simp +contextual -implicitDefEqProofs (maxSteps := 1000000) only [sm, sn, sxx, seval, eMod, eCon, eShp, eIs, eDoms, eCons, h0, h1]
          · have : k = X.length := by omega
            subst this
            simp +contextual -implicitDefEqProofs (maxSteps := 1000000) only [sm, sn, sxx, seval, Int.lt_irrefl, eCon, eIs]
            refine callA_rule (contains_ints A hA _ _ model_may_1) (wkL_refl _) rfl ?_
            simp +contextual -implicitDefEqProofs (maxSteps := 1000000) only [sm, sn, sxx, seval]
            have : xsOk D X bt = true := all_yes hok
            rw [this, any_not]
            simp
    · have h0' : hs1 = false ∧ ¬ C = 0 := by simpa [and_comm] using h0
      simp +contextual -implicitDefEqProofs (maxSteps := 1000000) only [sm, sn, sxx, seval, eShp, h0'.1, h0'.2]
      simp [mayB, h0'.1, h0'.2, hs]
  · have h32' : (32 : Int) < X.length := by omega
    simp +contextual -implicitDefEqProofs (maxSteps := 1000000) only [sm, sn, sxx, seval, eShp, eIs, h32']
    simp [mayB, h32]
end Go.Proofs.Ytnhedjpghpdbdaa
namespace Go.Proofs.Ytnhedjpghpdbdaa
open Av
attribute [local irreducible] awp awpOpers
set_option linter.unusedSimpArgs false
set_option linter.unusedVariables false
set_option maxRecDepth 100000
set_option maxHeartbeats 4000000
def askB (n : Nat) (ask goal : Int) : Bool := if ask = 0 then decide (goal = 0) else if ask = 1 ∨ ask = 2 then decide (0 ≤ goal) && decide (goal < n) else false
def modB (m : Mod) : Bool := decide (m.1.length ≤ 64) && decide (m.2.1.length ≤ 64) && m.1.all domB && m.2.1.all (mayB m.1) && askB m.1.length m.2.2.1 m.2.2.2
def conFits (c : Con) : Prop := c.2.1.length ≤ 1000000000000 ∧ c.2.2.1.length ≤ 1000000000000
theorem model_Right (m : Mod) (hD : m.1.length ≤ 1000000000000) (hd : ∀ d ∈ m.1, d.length ≤ 1000000000000) (hc : m.2.1.length ≤ 1000000000000) (hcs : ∀ c ∈ m.2.1, conFits c) :
    Ctr Try.prog 33 [eMod m] [] (.bool (modB m)) [] := by
  obtain ⟨D, cs, ask, goal⟩ := m
  simp only at hD hd hc hcs
  refine call_pure Try.func33 Try.call33 e_model_Right ?_
  by_cases h64 : D.length ≤ 64
  · have h64' : ¬ (64 : Int) < D.length := by omega
    by_cases g64 : cs.length ≤ 64
    · have g64' : ¬ (64 : Int) < cs.length := by omega
      simp +contextual -implicitDefEqProofs (maxSteps := 1000000) only [c_model_Right, eMod, eDoms, eCons, sm, sn, sxx, seval, h64', g64']
      refine loop_rule (fun k : Nat => k ≤ D.length ∧ ∀ (j : Nat) x, j < k → D[j]? = some x → domB x = true) (fun k => tm 61 [(1, .ptr 4 0 0 0), (18, .list 1 (D.map eRgs)), (19, .int .i64 D.length), (20, .int .i64 k)])
          (fun _ => [some (4, [eMod (D, cs, ask, goal)])]) (fun k => D.length - k) 0 ⟨by omega, by omega⟩ ⟨[0], by decide, rfl, ?_, ?_⟩ ?_
      · simp +contextual -implicitDefEqProofs (maxSteps := 1000000) only [sm, sn, sxx, seval, eMod, eDoms, eCons]
      · simp +contextual -implicitDefEqProofs (maxSteps := 1000000) only [sm, sn, sxx, seval, Int.natCast_zero]
      · rintro k ⟨hk, hok⟩
        by_cases hlt : k < D.length
        · obtain ⟨x, hx⟩ : ∃ r, D[k]? = some r := ⟨_, List.getElem?_eq_getElem hlt⟩
          have hlt' : (k : Int) < (D.length : Int) := by omega
          have e2 : IntKind.i64.wrap ((k : Int) + 1) = ((k + 1 : Nat) : Int) := by rw [wrap_i64] <;> omega
          simp +contextual -implicitDefEqProofs (maxSteps := 1000000) only [sm, sn, sxx, seval, hlt', hx]
          refine callA_rule (model_domain x (hd x (List.mem_of_getElem? hx))) (wkL_refl _) rfl ?_
          cases ht : domB x
          · simp +contextual -implicitDefEqProofs (maxSteps := 1000000) only [sm, sn, sxx, seval]
            simp [modB, listall_no hx ht]
          · simp +contextual -implicitDefEqProofs (maxSteps := 1000000) only [sm, sn, sxx, seval, e2]
            refine ⟨k + 1, ⟨by omega, ?_⟩, by omega, [0], by decide, rfl, ?_, ?_⟩
            · intro j y hj hy
              rcases Nat.lt_succ_iff_lt_or_eq.1 hj with h | rfl
              · exact hok j y h hy
              · rw [hx] at hy; injection hy with hy; subst hy; exact ht
            · simp +contextual -implicitDefEqProofs (maxSteps := 1000000) only [sm, sn, sxx, seval, eMod, eDoms, eCons]
            · simp +contextual -implicitDefEqProofs (maxSteps := 1000000) only [sm, sn, sxx, seval]
        · have : k = D.length := by omega
          subst this
          have hdom := listall_yes hok
          simp +contextual -implicitDefEqProofs (maxSteps := 1000000) only [sm, sn, sxx, seval, Int.lt_irrefl, eMod, eCons]
          refine loop_rule (fun k : Nat => k ≤ cs.length ∧ ∀ (j : Nat) x, j < k → cs[j]? = some x → mayB D x = true) (fun k => tm 61 [(1, .ptr 4 0 0 0), (29, .list 4 (cs.map eCon)), (30, .int .i64 cs.length), (31, .int .i64 k)])
            (fun _ => [some (4, [eMod (D, cs, ask, goal)])]) (fun k => cs.length - k) 0 ⟨by omega, by omega⟩ ⟨[0], by decide, rfl, ?_, ?_⟩ ?_
          · simp +contextual -implicitDefEqProofs (maxSteps := 1000000) only [sm, sn, sxx, seval, eMod, eDoms, eCons]
          · simp +contextual -implicitDefEqProofs (maxSteps := 1000000) only [sm, sn, sxx, seval, Int.natCast_zero]
          · rintro k ⟨hk, hok⟩
            by_cases hlt : k < cs.length
            · obtain ⟨⟨K, X, A, C⟩, hx⟩ : ∃ r, cs[k]? = some r := ⟨_, List.getElem?_eq_getElem hlt⟩
              have hlt' : (k : Int) < (cs.length : Int) := by omega
              have e2 : IntKind.i64.wrap ((k : Int) + 1) = ((k + 1 : Nat) : Int) := by rw [wrap_i64] <;> omega
              have hf := hcs _ (List.mem_of_getElem? hx)
              simp +contextual -implicitDefEqProofs (maxSteps := 1000000) only [sm, sn, sxx, seval, hlt', hx, eMod]
              refine callA_rule (model_may (D, cs, ask, goal) (K, X, A, C) hD hd hf.1 hf.2) (wkL_refl _) rfl ?_
              cases ht : mayB D (K, X, A, C)
              · simp +contextual -implicitDefEqProofs (maxSteps := 1000000) only [sm, sn, sxx, seval]
                simp [modB, listall_no hx ht]
              · simp +contextual -implicitDefEqProofs (maxSteps := 1000000) only [sm, sn, sxx, seval, e2]
                refine ⟨k + 1, ⟨by omega, ?_⟩, by omega, [0], by decide, rfl, ?_, ?_⟩
                · intro j y hj hy
                  rcases Nat.lt_succ_iff_lt_or_eq.1 hj with h | rfl
                  · exact hok j y h hy
                  · rw [hx] at hy; injection hy with hy; subst hy; exact ht
                · simp +contextual -implicitDefEqProofs (maxSteps := 1000000) only [sm, sn, sxx, seval, eMod, eDoms, eCons]
                · simp +contextual -implicitDefEqProofs (maxSteps := 1000000) only [sm, sn, sxx, seval]
            · have : k = cs.length := by omega
              subst this
              have hmay := listall_yes hok
              by_cases a0 : ask = 0
              · simp +contextual -implicitDefEqProofs (maxSteps := 1000000) only [sm, sn, sxx, seval, Int.lt_irrefl, eMod, a0]
                simp [modB, askB, hdom, hmay, h64, g64]
              by_cases a1 : ask = 1
              · simp +contextual -implicitDefEqProofs (maxSteps := 1000000) only [sm, sn, sxx, seval, Int.lt_irrefl, eMod, a0, a1, eDoms]
                simp [modB, askB, hdom, hmay, h64, g64]
                split <;> (intros; omega)
              by_cases a2 : ask = 2
              · simp +contextual -implicitDefEqProofs (maxSteps := 1000000) only [sm, sn, sxx, seval, Int.lt_irrefl, eMod, a0, a1, a2, eDoms]
                simp [modB, askB, hdom, hmay, h64, g64]
                split <;> (intros; omega)
              simp +contextual -implicitDefEqProofs (maxSteps := 1000000) only [sm, sn, sxx, seval, Int.lt_irrefl, eMod, a0, a1, a2]
              simp [modB, askB, a0, a1, a2]
    · have g64' : (64 : Int) < cs.length := by omega
      simp +contextual -implicitDefEqProofs (maxSteps := 1000000) only [c_model_Right, eMod, eDoms, eCons, sm, sn, sxx, seval, h64', g64']
      simp [modB, g64]
  · have h64' : (64 : Int) < D.length := by omega
    simp +contextual -implicitDefEqProofs (maxSteps := 1000000) only [c_model_Right, eMod, eDoms, eCons, sm, sn, sxx, seval, h64']
    simp [modB, h64]
end Go.Proofs.Ytnhedjpghpdbdaa
