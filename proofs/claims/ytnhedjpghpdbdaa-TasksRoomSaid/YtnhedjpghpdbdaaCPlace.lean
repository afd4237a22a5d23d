/- The code of tasks.place ahead of its range over a function, as abstract code. Printed by program. -/
import Derived.Test.YtnhedjpghpdbdaaAv2
import Derived.Test.YtnhedjpghpdbdaaProg
namespace Go.Proofs.Ytnhedjpghpdbdaa
open Av
set_option linter.unusedVariables false
set_option maxRecDepth 100000
def kd_CPlace (f : Nat) : Nat := 0
def c_place0 : ACode := .region (⟨some 4, .alloc (.agg [(.int .i64 0), (.int .i64 0)]), none⟩ :: [])
def c_place1 : ACode := .region (⟨some 12, .mov (.tmp 0), none⟩ ::
    ⟨some 13, .nilc (.tmp 12), none⟩ ::
    ⟨some 14, .faddr 0 (.tmp 13), none⟩ ::
    ⟨some 15, .load false 1 (.tmp 14), none⟩ ::
    ⟨some 16, .mov (.tmp 1), none⟩ ::
    ⟨some 17, .iaddr 5 (.tmp 15) (.tmp 16), none⟩ ::
    ⟨some 18, .load true 5 (.tmp 17), none⟩ ::
    ⟨some 5, .alloc (.agg [(.int .i64 0), (.int .i64 0), (.int .i64 0), (.int .i64 0), (.int .i64 0)]), none⟩ ::
    ⟨none, .store 5 (.tmp 5) (.tmp 18), none⟩ :: [])
def c_place2 : ACode := .seq (.region (⟨some 19, .faddr 2 (.tmp 5), none⟩ ::
    ⟨some 20, .load false 1 (.tmp 19), none⟩ ::
    ⟨some 21, .bin .eql (.tmp 20) (.val (.int .i64 0)), none⟩ :: [])) <|
  .cond (.tmp 21) (.seq (.region (⟨some 22, .faddr 0 (.tmp 5), none⟩ ::
      ⟨some 23, .load false 1 (.tmp 22), none⟩ ::
      ⟨some 24, .faddr 1 (.tmp 5), none⟩ ::
      ⟨some 25, .load false 1 (.tmp 24), none⟩ ::
      ⟨some 26, .build [(.int .i64 0), (.int .i64 0)] [(0, 1, (.tmp 23)), (1, 1, (.tmp 25))], none⟩ ::
      ⟨none, .store 2 (.tmp 4) (.tmp 26), none⟩ :: [])) <|
    .ret) <|
  .skip
def c_place3 : ACode := .region (⟨some 27, .faddr 0 (.tmp 5), none⟩ ::
    ⟨some 28, .load false 1 (.tmp 27), none⟩ ::
    ⟨some 29, .faddr 1 (.tmp 5), none⟩ ::
    ⟨some 30, .load false 1 (.tmp 29), none⟩ ::
    ⟨some 31, .build [(.int .i64 0), (.int .i64 0)] [(0, 1, (.tmp 28)), (1, 1, (.tmp 30))], none⟩ ::
    ⟨some 6, .alloc (.agg [(.int .i64 0), (.int .i64 0)]), none⟩ ::
    ⟨none, .store 2 (.tmp 6) (.tmp 31), none⟩ :: [])
def c_place4 : ACode := .seq (.region (⟨some 32, .faddr 3 (.tmp 5), none⟩ ::
    ⟨some 33, .load false 1 (.tmp 32), none⟩ ::
    ⟨some 34, .mov (.tmp 0), none⟩ ::
    ⟨some 35, .nilc (.tmp 34), none⟩ ::
    ⟨some 36, .faddr 1 (.tmp 35), none⟩ ::
    ⟨some 37, .load false 1 (.tmp 36), none⟩ ::
    ⟨some 38, .bin .gtr (.tmp 33) (.tmp 37), none⟩ :: [])) <|
  .cond (.tmp 38) (.seq (.region (⟨some 39, .build [(.int .i64 0), (.int .i64 0)] [(0, 1, (.val (.int .i64 1))), (1, 1, (.val (.int .i64 0)))], none⟩ ::
      ⟨none, .store 2 (.tmp 4) (.tmp 39), none⟩ :: [])) <|
    .ret) <|
  .skip
def c_place5 : ACode := .region (⟨some 40, .mov (.tmp 0), none⟩ ::
    ⟨some 41, .mov (.tmp 1), none⟩ ::
    ⟨some 42, .call (.val (.fn (.func 84) [])) [(.tmp 40), (.tmp 41)], none⟩ ::
    ⟨some 7, .mov (.tmp 42), none⟩ :: [])
def c_place6 : ACode := .seq (.region (⟨some 43, .mov (.tmp 7), none⟩ ::
    ⟨some 44, .len false (.tmp 43), none⟩ ::
    ⟨some 45, .mov (.val (.int .i64 0)), none⟩ :: [])) <|
  .block 0 (.loop (.seq (.region (⟨some 46, .bin .lss (.tmp 45) (.tmp 44), none⟩ :: [])) <|
      .seq (.cond (.tmp 46) (.skip) <|
      .exit 0) <|
      .seq (.block 1 (.seq (.region (⟨some 47, .iaddr 2 (.tmp 43) (.tmp 45), none⟩ ::
          ⟨some 48, .load true 2 (.tmp 47), none⟩ ::
          ⟨some 9, .alloc (.agg [(.int .i64 0), (.int .i64 0)]), none⟩ ::
          ⟨none, .store 2 (.tmp 9) (.tmp 48), none⟩ :: [])) <|
        .seq (.region (⟨some 49, .faddr 0 (.tmp 9), none⟩ ::
          ⟨some 50, .load false 1 (.tmp 49), none⟩ ::
          ⟨some 51, .faddr 0 (.tmp 6), none⟩ ::
          ⟨some 52, .load false 1 (.tmp 51), none⟩ ::
          ⟨some 53, .faddr 2 (.tmp 5), none⟩ ::
          ⟨some 54, .load false 1 (.tmp 53), none⟩ ::
          ⟨some 55, .bin .add (.tmp 52) (.tmp 54), none⟩ ::
          ⟨some 56, .bin .lss (.tmp 50) (.tmp 55), none⟩ ::
          ⟨some 57, .mov (.tmp 56), none⟩ ::
          ⟨some 58, .faddr 0 (.tmp 6), some (57, true)⟩ ::
          ⟨some 59, .load false 1 (.tmp 58), some (57, true)⟩ ::
          ⟨some 60, .faddr 1 (.tmp 9), some (57, true)⟩ ::
          ⟨some 61, .load false 1 (.tmp 60), some (57, true)⟩ ::
          ⟨some 62, .bin .lss (.tmp 59) (.tmp 61), some (57, true)⟩ ::
          ⟨some 63, .pick (.tmp 57) (.tmp 62) (.val (.bool false)), none⟩ :: [])) <|
        .cond (.tmp 63) (.region (⟨some 64, .faddr 1 (.tmp 9), none⟩ ::
            ⟨some 65, .load false 1 (.tmp 64), none⟩ ::
            ⟨some 66, .faddr 0 (.tmp 6), none⟩ ::
            ⟨none, .store 1 (.tmp 66) (.tmp 65), none⟩ :: [])) <|
        .skip)) <|
      .region (⟨some 67, .bin .add (.tmp 45) (.val (.int .i64 1)), none⟩ ::
        ⟨some 45, .mov (.tmp 67), none⟩ :: [])))
def c_place7 : ACode := .region (⟨some 68, .mov (.tmp 7), none⟩ ::
    ⟨some 69, .call (.val (.fn (.func 85) [])) [(.tmp 68)], none⟩ :: [])
end Go.Proofs.Ytnhedjpghpdbdaa
