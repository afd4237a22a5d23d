/- The code of functions, as abstract code. Printed by program. -/
import Derived.Test.YtonkcemcledhiaaAv2
import Derived.Test.YtonkcemcledhiaaProg
namespace Go.Proofs.Ytonkcemcledhiaa
open Av
set_option linter.unusedVariables false
set_option maxRecDepth 100000
def kd_CRef17 (f : Nat) : Nat := 0
/- touchstone/touchstoneref17.without: slots l, 0, k, 1, l, 2, k, 3, out, 5, i, 6 -/
def c_ref17_without : AFunc := ⟨24, [.tmp 4],
  .seq (.region (⟨some 4, .mov (.val .nils), none⟩ :: [])) <|
  .seq (.region (⟨some 5, .mov (.val .nils), none⟩ :: [])) <|
  .seq (.seq (.region (⟨some 6, .mov (.val (.int .i64 0)), none⟩ :: [])) <|
  .block 0 (.loop (.seq (.seq (.region (⟨some 7, .mov (.tmp 6), none⟩ ::
        ⟨some 8, .mov (.tmp 0), none⟩ ::
        ⟨some 9, .len false (.tmp 8), none⟩ ::
        ⟨some 10, .bin .lss (.tmp 7) (.tmp 9), none⟩ :: [])) <|
      .cond (.tmp 10) (.skip) <|
      .exit 0) <|
      .seq (.block 1 (.seq (.region (⟨some 13, .mov (.tmp 6), none⟩ ::
          ⟨some 14, .mov (.tmp 1), none⟩ ::
          ⟨some 15, .bin .neq (.tmp 13) (.tmp 14), none⟩ :: [])) <|
        .cond (.tmp 15) (.region (⟨some 16, .mov (.tmp 5), none⟩ ::
            ⟨some 17, .mov (.tmp 0), none⟩ ::
            ⟨some 18, .mov (.tmp 6), none⟩ ::
            ⟨some 19, .iaddr 2 (.tmp 17) (.tmp 18), none⟩ ::
            ⟨some 20, .load true 2 (.tmp 19), none⟩ ::
            ⟨some 21, .bslice 2 [(.tmp 20)], none⟩ ::
            ⟨some 22, .app 2 16 (.tmp 16) (.tmp 21), none⟩ ::
            ⟨some 5, .mov (.tmp 22), none⟩ :: [])) <|
        .skip)) <|
      .region (⟨some 11, .mov (.tmp 6), none⟩ ::
        ⟨some 12, .bin .add (.tmp 11) (.val (.int .i64 1)), none⟩ ::
        ⟨some 6, .mov (.tmp 12), none⟩ :: [])))) <|
  .seq (.region (⟨some 23, .mov (.tmp 5), none⟩ ::
    ⟨some 4, .mov (.tmp 23), none⟩ :: [])) <|
  .ret⟩
theorem e_ref17_without : cFunc Try.prog kd_CRef17 Try.f119 = some c_ref17_without := by kernel_rfl
/- touchstone/touchstoneref17.given: slots l, 0, l, 1, v, 3, at, 4, i, 5, best, 6, i, 7 -/
def c_ref17_given : AFunc := ⟨74, [.tmp 2],
  .seq (.region (⟨some 2, .mov (.val (.bool false)), none⟩ :: [])) <|
  .seq (.region (⟨some 3, .mov (.val (.int .i64 (-2097152))), none⟩ :: [])) <|
  .seq (.block 0 (.loop (.seq (.seq (.region (⟨some 8, .mov (.tmp 0), none⟩ ::
        ⟨some 9, .len false (.tmp 8), none⟩ ::
        ⟨some 10, .bin .gtr (.tmp 9) (.val (.int .i64 0)), none⟩ :: [])) <|
      .cond (.tmp 10) (.skip) <|
      .exit 0) <|
      .block 1 (.seq (.region (⟨some 11, .mov (.tmp 0), none⟩ ::
          ⟨some 12, .iaddr 2 (.tmp 11) (.val (.int .i64 0)), none⟩ ::
          ⟨some 13, .faddr 0 (.tmp 12), none⟩ ::
          ⟨some 14, .load false 1 (.tmp 13), none⟩ ::
          ⟨some 4, .mov (.tmp 14), none⟩ :: [])) <|
        .seq (.seq (.region (⟨some 5, .mov (.val (.int .i64 0)), none⟩ :: [])) <|
        .block 2 (.loop (.seq (.seq (.region (⟨some 15, .mov (.tmp 5), none⟩ ::
              ⟨some 16, .mov (.tmp 0), none⟩ ::
              ⟨some 17, .len false (.tmp 16), none⟩ ::
              ⟨some 18, .bin .lss (.tmp 15) (.tmp 17), none⟩ :: [])) <|
            .cond (.tmp 18) (.skip) <|
            .exit 2) <|
            .seq (.block 3 (.region (⟨some 21, .mov (.tmp 4), none⟩ ::
                ⟨some 22, .mov (.tmp 0), none⟩ ::
                ⟨some 23, .mov (.tmp 5), none⟩ ::
                ⟨some 24, .iaddr 2 (.tmp 22) (.tmp 23), none⟩ ::
                ⟨some 25, .faddr 0 (.tmp 24), none⟩ ::
                ⟨some 26, .load false 1 (.tmp 25), none⟩ ::
                ⟨some 27, .mn (.tmp 21) [(.tmp 26)], none⟩ ::
                ⟨some 4, .mov (.tmp 27), none⟩ :: []))) <|
            .region (⟨some 19, .mov (.tmp 5), none⟩ ::
              ⟨some 20, .bin .add (.tmp 19) (.val (.int .i64 1)), none⟩ ::
              ⟨some 5, .mov (.tmp 20), none⟩ :: [])))) <|
        .seq (.region (⟨some 28, .mov (.tmp 3), none⟩ ::
          ⟨some 29, .mov (.tmp 4), none⟩ ::
          ⟨some 30, .mx (.tmp 28) [(.tmp 29)], none⟩ ::
          ⟨some 3, .mov (.tmp 30), none⟩ :: [])) <|
        .seq (.region (⟨some 6, .mov (.val (.int .i64 (-1))), none⟩ :: [])) <|
        .seq (.seq (.region (⟨some 7, .mov (.val (.int .i64 0)), none⟩ :: [])) <|
        .block 4 (.loop (.seq (.seq (.region (⟨some 31, .mov (.tmp 7), none⟩ ::
              ⟨some 32, .mov (.tmp 0), none⟩ ::
              ⟨some 33, .len false (.tmp 32), none⟩ ::
              ⟨some 34, .bin .lss (.tmp 31) (.tmp 33), none⟩ :: [])) <|
            .cond (.tmp 34) (.skip) <|
            .exit 4) <|
            .seq (.block 5 (.seq (.region (⟨some 37, .mov (.tmp 0), none⟩ ::
                ⟨some 38, .mov (.tmp 7), none⟩ ::
                ⟨some 39, .iaddr 2 (.tmp 37) (.tmp 38), none⟩ ::
                ⟨some 40, .faddr 0 (.tmp 39), none⟩ ::
                ⟨some 41, .load false 1 (.tmp 40), none⟩ ::
                ⟨some 42, .mov (.tmp 3), none⟩ ::
                ⟨some 43, .bin .leq (.tmp 41) (.tmp 42), none⟩ ::
                ⟨some 44, .mov (.tmp 43), none⟩ ::
                ⟨some 45, .mov (.tmp 6), some (44, true)⟩ ::
                ⟨some 46, .bin .lss (.tmp 45) (.val (.int .i64 0)), some (44, true)⟩ ::
                ⟨some 47, .mov (.tmp 46), some (44, true)⟩ ::
                ⟨some 48, .mov (.tmp 0), some (47, false)⟩ ::
                ⟨some 49, .mov (.tmp 7), some (47, false)⟩ ::
                ⟨some 50, .iaddr 2 (.tmp 48) (.tmp 49), some (47, false)⟩ ::
                ⟨some 51, .faddr 1 (.tmp 50), some (47, false)⟩ ::
                ⟨some 52, .load false 1 (.tmp 51), some (47, false)⟩ ::
                ⟨some 53, .mov (.tmp 0), some (47, false)⟩ ::
                ⟨some 54, .mov (.tmp 6), some (47, false)⟩ ::
                ⟨some 55, .iaddr 2 (.tmp 53) (.tmp 54), some (47, false)⟩ ::
                ⟨some 56, .faddr 1 (.tmp 55), some (47, false)⟩ ::
                ⟨some 57, .load false 1 (.tmp 56), some (47, false)⟩ ::
                ⟨some 58, .bin .lss (.tmp 52) (.tmp 57), some (47, false)⟩ ::
                ⟨some 59, .pick (.tmp 47) (.val (.bool true)) (.tmp 58), some (44, true)⟩ ::
                ⟨some 60, .pick (.tmp 44) (.tmp 59) (.val (.bool false)), none⟩ :: [])) <|
              .cond (.tmp 60) (.region (⟨some 61, .mov (.tmp 7), none⟩ ::
                  ⟨some 6, .mov (.tmp 61), none⟩ :: [])) <|
              .skip)) <|
            .region (⟨some 35, .mov (.tmp 7), none⟩ ::
              ⟨some 36, .bin .add (.tmp 35) (.val (.int .i64 1)), none⟩ ::
              ⟨some 7, .mov (.tmp 36), none⟩ :: [])))) <|
        .seq (.seq (.region (⟨some 62, .mov (.tmp 0), none⟩ ::
          ⟨some 63, .mov (.tmp 6), none⟩ ::
          ⟨some 64, .iaddr 2 (.tmp 62) (.tmp 63), none⟩ ::
          ⟨some 65, .faddr 1 (.tmp 64), none⟩ ::
          ⟨some 66, .load false 1 (.tmp 65), none⟩ ::
          ⟨some 67, .mov (.tmp 3), none⟩ ::
          ⟨some 68, .bin .lss (.tmp 66) (.tmp 67), none⟩ :: [])) <|
        .cond (.tmp 68) (.seq (.region (⟨some 2, .mov (.val (.bool false)), none⟩ :: [])) <|
          .ret) <|
        .skip) <|
        .seq (.region (⟨some 69, .mov (.tmp 0), none⟩ ::
          ⟨some 70, .mov (.tmp 6), none⟩ ::
          ⟨some 71, .call (.val (.fn (.func 119) [])) [(.tmp 69), (.tmp 70)], none⟩ ::
          ⟨some 0, .mov (.tmp 71), none⟩ :: [])) <|
        .region (⟨some 72, .mov (.tmp 3), none⟩ ::
          ⟨some 73, .bin .add (.tmp 72) (.val (.int .i64 1)), none⟩ ::
          ⟨some 3, .mov (.tmp 73), none⟩ :: []))))) <|
  .seq (.region (⟨some 2, .mov (.val (.bool true)), none⟩ :: [])) <|
  .ret⟩
theorem e_ref17_given : cFunc Try.prog kd_CRef17 Try.f80 = some c_ref17_given := by kernel_rfl
/- touchstone/touchstoneref17.Room: slots l, 0, l, 1, i, 3 -/
def c_ref17_Room : AFunc := ⟨31, [.tmp 2],
  .seq (.region (⟨some 2, .mov (.val (.bool false)), none⟩ :: [])) <|
  .seq (.seq (.region (⟨some 4, .mov (.tmp 0), none⟩ ::
    ⟨some 5, .len false (.tmp 4), none⟩ ::
    ⟨some 6, .bin .gtr (.tmp 5) (.val (.int .i64 32)), none⟩ :: [])) <|
  .cond (.tmp 6) (.seq (.region (⟨some 2, .mov (.val (.bool false)), none⟩ :: [])) <|
    .ret) <|
  .skip) <|
  .seq (.seq (.region (⟨some 3, .mov (.val (.int .i64 0)), none⟩ :: [])) <|
  .block 0 (.loop (.seq (.seq (.region (⟨some 7, .mov (.tmp 3), none⟩ ::
        ⟨some 8, .mov (.tmp 0), none⟩ ::
        ⟨some 9, .len false (.tmp 8), none⟩ ::
        ⟨some 10, .bin .lss (.tmp 7) (.tmp 9), none⟩ :: [])) <|
      .cond (.tmp 10) (.skip) <|
      .exit 0) <|
      .seq (.block 1 (.seq (.region (⟨some 13, .mov (.tmp 0), none⟩ ::
          ⟨some 14, .mov (.tmp 3), none⟩ ::
          ⟨some 15, .iaddr 2 (.tmp 13) (.tmp 14), none⟩ ::
          ⟨some 16, .faddr 0 (.tmp 15), none⟩ ::
          ⟨some 17, .load false 1 (.tmp 16), none⟩ ::
          ⟨some 18, .call (.val (.fn (.func 79) [])) [(.tmp 17)], none⟩ ::
          ⟨some 19, .un .not (.tmp 18), none⟩ ::
          ⟨some 20, .mov (.tmp 19), none⟩ ::
          ⟨some 21, .mov (.tmp 0), some (20, false)⟩ ::
          ⟨some 22, .mov (.tmp 3), some (20, false)⟩ ::
          ⟨some 23, .iaddr 2 (.tmp 21) (.tmp 22), some (20, false)⟩ ::
          ⟨some 24, .faddr 1 (.tmp 23), some (20, false)⟩ ::
          ⟨some 25, .load false 1 (.tmp 24), some (20, false)⟩ ::
          ⟨some 26, .call (.val (.fn (.func 79) [])) [(.tmp 25)], some (20, false)⟩ ::
          ⟨some 27, .un .not (.tmp 26), some (20, false)⟩ ::
          ⟨some 28, .pick (.tmp 20) (.val (.bool true)) (.tmp 27), none⟩ :: [])) <|
        .cond (.tmp 28) (.seq (.region (⟨some 2, .mov (.val (.bool false)), none⟩ :: [])) <|
          .ret) <|
        .skip)) <|
      .region (⟨some 11, .mov (.tmp 3), none⟩ ::
        ⟨some 12, .bin .add (.tmp 11) (.val (.int .i64 1)), none⟩ ::
        ⟨some 3, .mov (.tmp 12), none⟩ :: [])))) <|
  .seq (.region (⟨some 29, .mov (.tmp 0), none⟩ ::
    ⟨some 30, .call (.val (.fn (.func 80) [])) [(.tmp 29)], none⟩ ::
    ⟨some 2, .mov (.tmp 30), none⟩ :: [])) <|
  .ret⟩
theorem e_ref17_Room : cFunc Try.prog kd_CRef17 Try.f39 = some c_ref17_Room := by kernel_rfl
/- touchstone/touchstoneref17.with: slots l, 0, k, 1, v, 2, l, 3, k, 4, v, 5, out, 7 -/
def c_ref17_with : AFunc := ⟨18, [.tmp 6],
  .seq (.region (⟨some 6, .mov (.val .nils), none⟩ :: [])) <|
  .seq (.region (⟨some 8, .bslice 2 [], none⟩ ::
    ⟨some 9, .mov (.tmp 0), none⟩ ::
    ⟨some 10, .app 2 16 (.tmp 8) (.tmp 9), none⟩ ::
    ⟨some 7, .mov (.tmp 10), none⟩ :: [])) <|
  .seq (.region (⟨some 11, .mov (.tmp 7), none⟩ ::
    ⟨some 12, .mov (.tmp 1), none⟩ ::
    ⟨some 13, .mov (.tmp 2), none⟩ ::
    ⟨some 14, .mov (.tmp 2), none⟩ ::
    ⟨some 15, .build [(.int .i64 0), (.int .i64 0)] [(0, 1, (.tmp 13)), (1, 1, (.tmp 14))], none⟩ ::
    ⟨some 16, .iaddr 2 (.tmp 11) (.tmp 12), none⟩ ::
    ⟨none, .store 2 (.tmp 16) (.tmp 15), none⟩ :: [])) <|
  .seq (.region (⟨some 17, .mov (.tmp 7), none⟩ ::
    ⟨some 6, .mov (.tmp 17), none⟩ :: [])) <|
  .ret⟩
theorem e_ref17_with : cFunc Try.prog kd_CRef17 Try.f113 = some c_ref17_with := by kernel_rfl
/- touchstone/touchstoneref17.ends: slots l, 0, k, 1, l, 2, k, 3, r, 5 -/
def c_ref17_ends : AFunc := ⟨47, [.cell 4 true 2],
  .seq (.region (⟨some 4, .alloc (.agg [(.int .i64 0), (.int .i64 0)]), none⟩ :: [])) <|
  .seq (.region (⟨some 6, .mov (.tmp 0), none⟩ ::
    ⟨some 7, .mov (.tmp 1), none⟩ ::
    ⟨some 8, .iaddr 2 (.tmp 6) (.tmp 7), none⟩ ::
    ⟨some 9, .load true 2 (.tmp 8), none⟩ ::
    ⟨some 5, .alloc (.agg [(.int .i64 0), (.int .i64 0)]), none⟩ ::
    ⟨none, .store 2 (.tmp 5) (.tmp 9), none⟩ :: [])) <|
  .seq (.block 0 (.loop (.seq (.seq (.region (⟨some 10, .faddr 0 (.tmp 5), none⟩ ::
        ⟨some 11, .load false 1 (.tmp 10), none⟩ ::
        ⟨some 12, .faddr 1 (.tmp 5), none⟩ ::
        ⟨some 13, .load false 1 (.tmp 12), none⟩ ::
        ⟨some 14, .bin .lss (.tmp 11) (.tmp 13), none⟩ ::
        ⟨some 15, .mov (.tmp 14), none⟩ ::
        ⟨some 16, .mov (.tmp 0), some (15, true)⟩ ::
        ⟨some 17, .mov (.tmp 1), some (15, true)⟩ ::
        ⟨some 18, .faddr 0 (.tmp 5), some (15, true)⟩ ::
        ⟨some 19, .load false 1 (.tmp 18), some (15, true)⟩ ::
        ⟨some 20, .call (.val (.fn (.func 113) [])) [(.tmp 16), (.tmp 17), (.tmp 19)], some (15, true)⟩ ::
        ⟨some 21, .call (.val (.fn (.func 39) [])) [(.tmp 20)], some (15, true)⟩ ::
        ⟨some 22, .un .not (.tmp 21), some (15, true)⟩ ::
        ⟨some 23, .pick (.tmp 15) (.tmp 22) (.val (.bool false)), none⟩ :: [])) <|
      .cond (.tmp 23) (.skip) <|
      .exit 0) <|
      .block 1 (.region (⟨some 24, .faddr 0 (.tmp 5), none⟩ ::
          ⟨some 25, .load false 1 (.tmp 24), none⟩ ::
          ⟨some 26, .bin .add (.tmp 25) (.val (.int .i64 1)), none⟩ ::
          ⟨some 27, .faddr 0 (.tmp 5), none⟩ ::
          ⟨none, .store 1 (.tmp 27) (.tmp 26), none⟩ :: []))))) <|
  .seq (.block 2 (.loop (.seq (.seq (.region (⟨some 28, .faddr 1 (.tmp 5), none⟩ ::
        ⟨some 29, .load false 1 (.tmp 28), none⟩ ::
        ⟨some 30, .faddr 0 (.tmp 5), none⟩ ::
        ⟨some 31, .load false 1 (.tmp 30), none⟩ ::
        ⟨some 32, .bin .gtr (.tmp 29) (.tmp 31), none⟩ ::
        ⟨some 33, .mov (.tmp 32), none⟩ ::
        ⟨some 34, .mov (.tmp 0), some (33, true)⟩ ::
        ⟨some 35, .mov (.tmp 1), some (33, true)⟩ ::
        ⟨some 36, .faddr 1 (.tmp 5), some (33, true)⟩ ::
        ⟨some 37, .load false 1 (.tmp 36), some (33, true)⟩ ::
        ⟨some 38, .call (.val (.fn (.func 113) [])) [(.tmp 34), (.tmp 35), (.tmp 37)], some (33, true)⟩ ::
        ⟨some 39, .call (.val (.fn (.func 39) [])) [(.tmp 38)], some (33, true)⟩ ::
        ⟨some 40, .un .not (.tmp 39), some (33, true)⟩ ::
        ⟨some 41, .pick (.tmp 33) (.tmp 40) (.val (.bool false)), none⟩ :: [])) <|
      .cond (.tmp 41) (.skip) <|
      .exit 2) <|
      .block 3 (.region (⟨some 42, .faddr 1 (.tmp 5), none⟩ ::
          ⟨some 43, .load false 1 (.tmp 42), none⟩ ::
          ⟨some 44, .bin .sub (.tmp 43) (.val (.int .i64 1)), none⟩ ::
          ⟨some 45, .faddr 1 (.tmp 5), none⟩ ::
          ⟨none, .store 1 (.tmp 45) (.tmp 44), none⟩ :: []))))) <|
  .seq (.region (⟨some 46, .load true 2 (.tmp 5), none⟩ ::
    ⟨none, .store 2 (.tmp 4) (.tmp 46), none⟩ :: [])) <|
  .ret⟩
theorem e_ref17_ends : cFunc Try.prog kd_CRef17 Try.f67 = some c_ref17_ends := by kernel_rfl
end Go.Proofs.Ytonkcemcledhiaa
