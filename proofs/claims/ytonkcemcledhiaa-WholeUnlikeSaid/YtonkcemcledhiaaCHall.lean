/- The code of functions, as abstract code. Printed by program. -/
import Derived.Test.YtonkcemcledhiaaAv2
import Derived.Test.YtonkcemcledhiaaProg
namespace Go.Proofs.Ytonkcemcledhiaa
open Av
set_option linter.unusedVariables false
set_option maxRecDepth 100000
def kd_CHall (f : Nat) : Nat := 0
/- touchstone/hall.within: slots n, 0, n, 1 -/
def c_hall_within : AFunc := ⟨9, [.tmp 2],
  .seq (.region (⟨some 2, .mov (.val (.bool false)), none⟩ :: [])) <|
  .seq (.region (⟨some 3, .mov (.tmp 0), none⟩ ::
    ⟨some 4, .bin .geq (.tmp 3) (.val (.int .i64 (-1048576))), none⟩ ::
    ⟨some 5, .mov (.tmp 4), none⟩ ::
    ⟨some 6, .mov (.tmp 0), some (5, true)⟩ ::
    ⟨some 7, .bin .leq (.tmp 6) (.val (.int .i64 1048576)), some (5, true)⟩ ::
    ⟨some 8, .pick (.tmp 5) (.tmp 7) (.val (.bool false)), none⟩ ::
    ⟨some 2, .mov (.tmp 8), none⟩ :: [])) <|
  .ret⟩
theorem e_hall_within : cFunc Try.prog kd_CHall Try.f77 = some c_hall_within := by kernel_rfl
/- touchstone/hall.count: slots l, 0, lo, 1, hi, 2, l, 3, lo, 4, hi, 5, n, 7, _, 8, r, 9 -/
def c_hall_count : AFunc := ⟨30, [.tmp 6],
  .seq (.region (⟨some 6, .mov (.val (.int .i64 0)), none⟩ :: [])) <|
  .seq (.region (⟨some 7, .mov (.val (.int .i64 0)), none⟩ :: [])) <|
  .seq (.seq (.region (⟨some 10, .mov (.tmp 0), none⟩ ::
    ⟨some 11, .len false (.tmp 10), none⟩ ::
    ⟨some 12, .mov (.val (.int .i64 0)), none⟩ :: [])) <|
  .block 0 (.loop (.seq (.region (⟨some 13, .bin .lss (.tmp 12) (.tmp 11), none⟩ :: [])) <|
      .seq (.cond (.tmp 13) (.skip) <|
      .exit 0) <|
      .seq (.block 1 (.seq (.region (⟨some 14, .iaddr 2 (.tmp 10) (.tmp 12), none⟩ ::
          ⟨some 15, .load true 2 (.tmp 14), none⟩ ::
          ⟨some 9, .alloc (.agg [(.int .i64 0), (.int .i64 0)]), none⟩ ::
          ⟨none, .store 2 (.tmp 9) (.tmp 15), none⟩ :: [])) <|
        .seq (.region (⟨some 16, .faddr 0 (.tmp 9), none⟩ ::
          ⟨some 17, .load false 1 (.tmp 16), none⟩ ::
          ⟨some 18, .mov (.tmp 1), none⟩ ::
          ⟨some 19, .bin .geq (.tmp 17) (.tmp 18), none⟩ ::
          ⟨some 20, .mov (.tmp 19), none⟩ ::
          ⟨some 21, .faddr 1 (.tmp 9), some (20, true)⟩ ::
          ⟨some 22, .load false 1 (.tmp 21), some (20, true)⟩ ::
          ⟨some 23, .mov (.tmp 2), some (20, true)⟩ ::
          ⟨some 24, .bin .leq (.tmp 22) (.tmp 23), some (20, true)⟩ ::
          ⟨some 25, .pick (.tmp 20) (.tmp 24) (.val (.bool false)), none⟩ :: [])) <|
        .cond (.tmp 25) (.region (⟨some 26, .mov (.tmp 7), none⟩ ::
            ⟨some 27, .bin .add (.tmp 26) (.val (.int .i64 1)), none⟩ ::
            ⟨some 7, .mov (.tmp 27), none⟩ :: [])) <|
        .skip)) <|
      .region (⟨some 28, .bin .add (.tmp 12) (.val (.int .i64 1)), none⟩ ::
        ⟨some 12, .mov (.tmp 28), none⟩ :: [])))) <|
  .seq (.region (⟨some 29, .mov (.tmp 7), none⟩ ::
    ⟨some 6, .mov (.tmp 29), none⟩ :: [])) <|
  .ret⟩
theorem e_hall_count : cFunc Try.prog kd_CHall Try.f78 = some c_hall_count := by kernel_rfl
/- touchstone/hall.Room: slots l, 0, l, 1, _, 3, r, 4, _, 5, p, 6, _, 7, q, 8, n, 9 -/
def c_hall_Room : AFunc := ⟨69, [.tmp 2],
  .seq (.region (⟨some 2, .mov (.val (.bool false)), none⟩ :: [])) <|
  .seq (.seq (.region (⟨some 10, .mov (.tmp 0), none⟩ ::
    ⟨some 11, .len false (.tmp 10), none⟩ ::
    ⟨some 12, .bin .gtr (.tmp 11) (.val (.int .i64 32)), none⟩ :: [])) <|
  .cond (.tmp 12) (.seq (.region (⟨some 2, .mov (.val (.bool false)), none⟩ :: [])) <|
    .ret) <|
  .skip) <|
  .seq (.seq (.region (⟨some 13, .mov (.tmp 0), none⟩ ::
    ⟨some 14, .len false (.tmp 13), none⟩ ::
    ⟨some 15, .mov (.val (.int .i64 0)), none⟩ :: [])) <|
  .block 0 (.loop (.seq (.region (⟨some 16, .bin .lss (.tmp 15) (.tmp 14), none⟩ :: [])) <|
      .seq (.cond (.tmp 16) (.skip) <|
      .exit 0) <|
      .seq (.block 1 (.seq (.region (⟨some 17, .iaddr 2 (.tmp 13) (.tmp 15), none⟩ ::
          ⟨some 18, .load true 2 (.tmp 17), none⟩ ::
          ⟨some 4, .alloc (.agg [(.int .i64 0), (.int .i64 0)]), none⟩ ::
          ⟨none, .store 2 (.tmp 4) (.tmp 18), none⟩ :: [])) <|
        .seq (.region (⟨some 19, .faddr 0 (.tmp 4), none⟩ ::
          ⟨some 20, .load false 1 (.tmp 19), none⟩ ::
          ⟨some 21, .faddr 1 (.tmp 4), none⟩ ::
          ⟨some 22, .load false 1 (.tmp 21), none⟩ ::
          ⟨some 23, .bin .gtr (.tmp 20) (.tmp 22), none⟩ ::
          ⟨some 24, .mov (.tmp 23), none⟩ ::
          ⟨some 25, .faddr 0 (.tmp 4), some (24, false)⟩ ::
          ⟨some 26, .load false 1 (.tmp 25), some (24, false)⟩ ::
          ⟨some 27, .call (.val (.fn (.func 77) [])) [(.tmp 26)], some (24, false)⟩ ::
          ⟨some 28, .un .not (.tmp 27), some (24, false)⟩ ::
          ⟨some 29, .pick (.tmp 24) (.val (.bool true)) (.tmp 28), none⟩ ::
          ⟨some 30, .mov (.tmp 29), none⟩ ::
          ⟨some 31, .faddr 1 (.tmp 4), some (30, false)⟩ ::
          ⟨some 32, .load false 1 (.tmp 31), some (30, false)⟩ ::
          ⟨some 33, .call (.val (.fn (.func 77) [])) [(.tmp 32)], some (30, false)⟩ ::
          ⟨some 34, .un .not (.tmp 33), some (30, false)⟩ ::
          ⟨some 35, .pick (.tmp 30) (.val (.bool true)) (.tmp 34), none⟩ :: [])) <|
        .cond (.tmp 35) (.seq (.region (⟨some 2, .mov (.val (.bool false)), none⟩ :: [])) <|
          .ret) <|
        .skip)) <|
      .region (⟨some 36, .bin .add (.tmp 15) (.val (.int .i64 1)), none⟩ ::
        ⟨some 15, .mov (.tmp 36), none⟩ :: [])))) <|
  .seq (.seq (.region (⟨some 37, .mov (.tmp 0), none⟩ ::
    ⟨some 38, .len false (.tmp 37), none⟩ ::
    ⟨some 39, .mov (.val (.int .i64 0)), none⟩ :: [])) <|
  .block 2 (.loop (.seq (.region (⟨some 40, .bin .lss (.tmp 39) (.tmp 38), none⟩ :: [])) <|
      .seq (.cond (.tmp 40) (.skip) <|
      .exit 2) <|
      .seq (.block 3 (.seq (.region (⟨some 41, .iaddr 2 (.tmp 37) (.tmp 39), none⟩ ::
          ⟨some 42, .load true 2 (.tmp 41), none⟩ ::
          ⟨some 6, .alloc (.agg [(.int .i64 0), (.int .i64 0)]), none⟩ ::
          ⟨none, .store 2 (.tmp 6) (.tmp 42), none⟩ :: [])) <|
        .seq (.region (⟨some 43, .mov (.tmp 0), none⟩ ::
          ⟨some 44, .len false (.tmp 43), none⟩ ::
          ⟨some 45, .mov (.val (.int .i64 0)), none⟩ :: [])) <|
        .block 4 (.loop (.seq (.region (⟨some 46, .bin .lss (.tmp 45) (.tmp 44), none⟩ :: [])) <|
            .seq (.cond (.tmp 46) (.skip) <|
            .exit 4) <|
            .seq (.block 5 (.seq (.region (⟨some 47, .iaddr 2 (.tmp 43) (.tmp 45), none⟩ ::
                ⟨some 48, .load true 2 (.tmp 47), none⟩ ::
                ⟨some 8, .alloc (.agg [(.int .i64 0), (.int .i64 0)]), none⟩ ::
                ⟨none, .store 2 (.tmp 8) (.tmp 48), none⟩ :: [])) <|
              .seq (.region (⟨some 49, .mov (.tmp 0), none⟩ ::
                ⟨some 50, .faddr 0 (.tmp 6), none⟩ ::
                ⟨some 51, .load false 1 (.tmp 50), none⟩ ::
                ⟨some 52, .faddr 1 (.tmp 8), none⟩ ::
                ⟨some 53, .load false 1 (.tmp 52), none⟩ ::
                ⟨some 54, .call (.val (.fn (.func 78) [])) [(.tmp 49), (.tmp 51), (.tmp 53)], none⟩ ::
                ⟨some 9, .mov (.tmp 54), none⟩ :: [])) <|
              .seq (.region (⟨some 55, .mov (.tmp 9), none⟩ ::
                ⟨some 56, .bin .gtr (.tmp 55) (.val (.int .i64 0)), none⟩ ::
                ⟨some 57, .mov (.tmp 56), none⟩ ::
                ⟨some 58, .mov (.tmp 9), some (57, true)⟩ ::
                ⟨some 59, .faddr 1 (.tmp 8), some (57, true)⟩ ::
                ⟨some 60, .load false 1 (.tmp 59), some (57, true)⟩ ::
                ⟨some 61, .faddr 0 (.tmp 6), some (57, true)⟩ ::
                ⟨some 62, .load false 1 (.tmp 61), some (57, true)⟩ ::
                ⟨some 63, .bin .sub (.tmp 60) (.tmp 62), some (57, true)⟩ ::
                ⟨some 64, .bin .add (.tmp 63) (.val (.int .i64 1)), some (57, true)⟩ ::
                ⟨some 65, .bin .gtr (.tmp 58) (.tmp 64), some (57, true)⟩ ::
                ⟨some 66, .pick (.tmp 57) (.tmp 65) (.val (.bool false)), none⟩ :: [])) <|
              .cond (.tmp 66) (.seq (.region (⟨some 2, .mov (.val (.bool false)), none⟩ :: [])) <|
                .ret) <|
              .skip)) <|
            .region (⟨some 67, .bin .add (.tmp 45) (.val (.int .i64 1)), none⟩ ::
              ⟨some 45, .mov (.tmp 67), none⟩ :: []))))) <|
      .region (⟨some 68, .bin .add (.tmp 39) (.val (.int .i64 1)), none⟩ ::
        ⟨some 39, .mov (.tmp 68), none⟩ :: [])))) <|
  .seq (.region (⟨some 2, .mov (.val (.bool true)), none⟩ :: [])) <|
  .ret⟩
theorem e_hall_Room : cFunc Try.prog kd_CHall Try.f38 = some c_hall_Room := by kernel_rfl
/- touchstone/hall.ends: slots r, 0, stretches, 1, r, 2, stretches, 3, again, 5, _, 6, s, 7 -/
def c_hall_ends : AFunc := ⟨49, [.cell 4 true 2],
  .seq (.region (⟨some 2, .box 2 (.tmp 0), none⟩ ::
    ⟨some 4, .alloc (.agg [(.int .i64 0), (.int .i64 0)]), none⟩ :: [])) <|
  .seq (.seq (.region (⟨some 5, .mov (.val (.bool true)), none⟩ :: [])) <|
  .block 0 (.loop (.seq (.seq (.region (⟨some 8, .mov (.tmp 5), none⟩ :: [])) <|
      .cond (.tmp 8) (.skip) <|
      .exit 0) <|
      .block 1 (.seq (.region (⟨some 5, .mov (.val (.bool false)), none⟩ :: [])) <|
        .seq (.region (⟨some 9, .mov (.tmp 1), none⟩ ::
          ⟨some 10, .len false (.tmp 9), none⟩ ::
          ⟨some 11, .mov (.val (.int .i64 0)), none⟩ :: [])) <|
        .block 2 (.loop (.seq (.region (⟨some 12, .bin .lss (.tmp 11) (.tmp 10), none⟩ :: [])) <|
            .seq (.cond (.tmp 12) (.skip) <|
            .exit 2) <|
            .seq (.block 3 (.seq (.region (⟨some 13, .iaddr 2 (.tmp 9) (.tmp 11), none⟩ ::
                ⟨some 14, .load true 2 (.tmp 13), none⟩ ::
                ⟨some 7, .alloc (.agg [(.int .i64 0), (.int .i64 0)]), none⟩ ::
                ⟨none, .store 2 (.tmp 7) (.tmp 14), none⟩ :: [])) <|
              .seq (.seq (.region (⟨some 15, .faddr 0 (.tmp 7), none⟩ ::
                ⟨some 16, .load false 1 (.tmp 15), none⟩ ::
                ⟨some 17, .faddr 0 (.tmp 2), none⟩ ::
                ⟨some 18, .load false 1 (.tmp 17), none⟩ ::
                ⟨some 19, .bin .leq (.tmp 16) (.tmp 18), none⟩ ::
                ⟨some 20, .mov (.tmp 19), none⟩ ::
                ⟨some 21, .faddr 0 (.tmp 2), some (20, true)⟩ ::
                ⟨some 22, .load false 1 (.tmp 21), some (20, true)⟩ ::
                ⟨some 23, .faddr 1 (.tmp 7), some (20, true)⟩ ::
                ⟨some 24, .load false 1 (.tmp 23), some (20, true)⟩ ::
                ⟨some 25, .bin .leq (.tmp 22) (.tmp 24), some (20, true)⟩ ::
                ⟨some 26, .pick (.tmp 20) (.tmp 25) (.val (.bool false)), none⟩ :: [])) <|
              .cond (.tmp 26) (.region (⟨some 27, .faddr 1 (.tmp 7), none⟩ ::
                  ⟨some 28, .load false 1 (.tmp 27), none⟩ ::
                  ⟨some 29, .bin .add (.tmp 28) (.val (.int .i64 1)), none⟩ ::
                  ⟨some 30, .faddr 0 (.tmp 2), none⟩ ::
                  ⟨none, .store 1 (.tmp 30) (.tmp 29), none⟩ ::
                  ⟨some 5, .mov (.val (.bool true)), none⟩ :: [])) <|
              .skip) <|
              .seq (.region (⟨some 31, .faddr 0 (.tmp 7), none⟩ ::
                ⟨some 32, .load false 1 (.tmp 31), none⟩ ::
                ⟨some 33, .faddr 1 (.tmp 2), none⟩ ::
                ⟨some 34, .load false 1 (.tmp 33), none⟩ ::
                ⟨some 35, .bin .leq (.tmp 32) (.tmp 34), none⟩ ::
                ⟨some 36, .mov (.tmp 35), none⟩ ::
                ⟨some 37, .faddr 1 (.tmp 2), some (36, true)⟩ ::
                ⟨some 38, .load false 1 (.tmp 37), some (36, true)⟩ ::
                ⟨some 39, .faddr 1 (.tmp 7), some (36, true)⟩ ::
                ⟨some 40, .load false 1 (.tmp 39), some (36, true)⟩ ::
                ⟨some 41, .bin .leq (.tmp 38) (.tmp 40), some (36, true)⟩ ::
                ⟨some 42, .pick (.tmp 36) (.tmp 41) (.val (.bool false)), none⟩ :: [])) <|
              .cond (.tmp 42) (.region (⟨some 43, .faddr 0 (.tmp 7), none⟩ ::
                  ⟨some 44, .load false 1 (.tmp 43), none⟩ ::
                  ⟨some 45, .bin .sub (.tmp 44) (.val (.int .i64 1)), none⟩ ::
                  ⟨some 46, .faddr 1 (.tmp 2), none⟩ ::
                  ⟨none, .store 1 (.tmp 46) (.tmp 45), none⟩ ::
                  ⟨some 5, .mov (.val (.bool true)), none⟩ :: [])) <|
              .skip)) <|
            .region (⟨some 47, .bin .add (.tmp 11) (.val (.int .i64 1)), none⟩ ::
              ⟨some 11, .mov (.tmp 47), none⟩ :: []))))))) <|
  .seq (.region (⟨some 48, .load true 2 (.tmp 2), none⟩ ::
    ⟨none, .store 2 (.tmp 4) (.tmp 48), none⟩ :: [])) <|
  .ret⟩
theorem e_hall_ends : cFunc Try.prog kd_CHall Try.f62 = some c_hall_ends := by kernel_rfl
end Go.Proofs.Ytonkcemcledhiaa
