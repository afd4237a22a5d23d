/- The code of functions, as abstract code. Printed by program. -/
import Derived.Test.YtonkcemcledhiaaAv2
import Derived.Test.YtonkcemcledhiaaProg
namespace Go.Proofs.Ytonkcemcledhiaa
open Av
set_option linter.unusedVariables false
set_option maxRecDepth 100000
def kd_CReify (f : Nat) : Nat := if f = 41 then 3 else if f = 133 then 2 else if f = 134 then 2 else if f = 135 then 2 else if f = 95 then 2 else if f = 93 then 2 else if f = 94 then 2 else if f = 55 then 2 else 0
/- (*touchstone/reify.flagged).plain: slots f, 0, kind, 1, f, 2, kind, 3, c, 6 -/
def c_reify_flagged_plain : AFunc := ⟨21, [.tmp 4, .tmp 5],
  .seq (.region (⟨some 4, .mov (.val .nils), none⟩ ::
    ⟨some 5, .mov (.val (.int .i64 0)), none⟩ :: [])) <|
  .seq (.region (⟨some 7, .mov (.tmp 0), none⟩ ::
    ⟨some 8, .nilc (.tmp 7), none⟩ ::
    ⟨some 9, .faddr 0 (.tmp 8), none⟩ ::
    ⟨some 10, .load true 4 (.tmp 9), none⟩ ::
    ⟨some 6, .alloc (.agg [(.int .i64 0), .nils, .nils, (.int .i64 0)]), none⟩ ::
    ⟨none, .store 4 (.tmp 6) (.tmp 10), none⟩ :: [])) <|
  .seq (.region (⟨some 11, .mov (.tmp 1), none⟩ ::
    ⟨some 12, .faddr 0 (.tmp 6), none⟩ ::
    ⟨none, .store 1 (.tmp 12) (.tmp 11), none⟩ :: [])) <|
  .seq (.region (⟨some 13, .load true 4 (.tmp 6), none⟩ ::
    ⟨some 14, .mov (.tmp 0), none⟩ ::
    ⟨some 15, .nilc (.tmp 14), none⟩ ::
    ⟨some 16, .faddr 6 (.tmp 15), none⟩ ::
    ⟨some 17, .load false 1 (.tmp 16), none⟩ ::
    ⟨some 18, .call (.val (.fn (.func 23) [])) [(.tmp 13), (.tmp 17)], none⟩ ::
    ⟨some 19, .ext (.tmp 18) 0, none⟩ ::
    ⟨some 20, .ext (.tmp 18) 1, none⟩ ::
    ⟨some 4, .mov (.tmp 19), none⟩ ::
    ⟨some 5, .mov (.tmp 20), none⟩ :: [])) <|
  .ret⟩
theorem e_reify_flagged_plain : cFunc Try.prog kd_CReify Try.f133 = some c_reify_flagged_plain := by kernel_rfl
/- (*touchstone/reify.flagged).more: slots f, 0, f, 1, c, 4, r, 5, _, 6, room, 7, out, 8, i, 9, a, 10, x, 11, e, 12, _, 13 -/
def c_reify_flagged_more : AFunc := ⟨115, [.tmp 2, .tmp 3],
  .seq (.region (⟨some 2, .mov (.val .nils), none⟩ ::
    ⟨some 3, .mov (.val (.int .i64 0)), none⟩ :: [])) <|
  .seq (.region (⟨some 14, .mov (.tmp 0), none⟩ ::
    ⟨some 15, .nilc (.tmp 14), none⟩ ::
    ⟨some 16, .faddr 0 (.tmp 15), none⟩ ::
    ⟨some 17, .load true 4 (.tmp 16), none⟩ ::
    ⟨some 4, .alloc (.agg [(.int .i64 0), .nils, .nils, (.int .i64 0)]), none⟩ ::
    ⟨none, .store 4 (.tmp 4) (.tmp 17), none⟩ :: [])) <|
  .seq (.region (⟨some 18, .faddr 0 (.tmp 4), none⟩ ::
    ⟨none, .store 1 (.tmp 18) (.val (.int .i64 2)), none⟩ :: [])) <|
  .seq (.region (⟨some 20, .load true 4 (.tmp 4), none⟩ ::
    ⟨some 21, .mov (.tmp 0), none⟩ ::
    ⟨some 22, .nilc (.tmp 21), none⟩ ::
    ⟨some 23, .faddr 6 (.tmp 22), none⟩ ::
    ⟨some 24, .load false 1 (.tmp 23), none⟩ ::
    ⟨some 25, .call (.val (.fn (.func 46) [])) [(.tmp 20), (.tmp 24)], none⟩ ::
    ⟨some 19, .mov (.tmp 25), none⟩ ::
    ⟨some 26, .ext (.tmp 19) 0, none⟩ ::
    ⟨some 27, .ext (.tmp 19) 1, none⟩ ::
    ⟨some 5, .alloc (.agg [(.int .i64 0), (.int .i64 0)]), none⟩ ::
    ⟨none, .store 2 (.tmp 5) (.tmp 26), none⟩ ::
    ⟨some 6, .mov (.tmp 27), none⟩ :: [])) <|
  .seq (.region (⟨some 28, .faddr 1 (.tmp 5), none⟩ ::
    ⟨some 29, .load false 1 (.tmp 28), none⟩ ::
    ⟨some 30, .mov (.tmp 0), none⟩ ::
    ⟨some 31, .nilc (.tmp 30), none⟩ ::
    ⟨some 32, .faddr 0 (.tmp 31), none⟩ ::
    ⟨some 33, .faddr 3 (.tmp 32), none⟩ ::
    ⟨some 34, .load false 1 (.tmp 33), none⟩ ::
    ⟨some 35, .bin .sub (.tmp 29) (.tmp 34), none⟩ ::
    ⟨some 36, .bin .sub (.tmp 35) (.val (.int .i64 1)), none⟩ ::
    ⟨some 7, .mov (.tmp 36), none⟩ :: [])) <|
  .seq (.seq (.region (⟨some 37, .mov (.tmp 7), none⟩ ::
    ⟨some 38, .bin .lss (.tmp 37) (.val (.int .i64 0)), none⟩ :: [])) <|
  .cond (.tmp 38) (.seq (.region (⟨some 2, .mov (.val .nils), none⟩ ::
      ⟨some 3, .mov (.val (.int .i64 12)), none⟩ :: [])) <|
    .ret) <|
  .skip) <|
  .seq (.region (⟨some 39, .mov (.tmp 0), none⟩ ::
    ⟨some 40, .nilc (.tmp 39), none⟩ ::
    ⟨some 41, .faddr 6 (.tmp 40), none⟩ ::
    ⟨some 42, .load false 1 (.tmp 41), none⟩ ::
    ⟨some 43, .callo (.val (.fn (.func 41) [])) [(.tmp 42)], none⟩ ::
    ⟨some 8, .mov (.tmp 43), none⟩ :: [])) <|
  .seq (.seq (.region (⟨some 44, .faddr 2 (.tmp 4), none⟩ ::
    ⟨some 45, .load false 1 (.tmp 44), none⟩ ::
    ⟨some 46, .len false (.tmp 45), none⟩ ::
    ⟨some 47, .mov (.val (.int .i64 0)), none⟩ :: [])) <|
  .block 0 (.loop (.seq (.region (⟨some 48, .bin .lss (.tmp 47) (.tmp 46), none⟩ :: [])) <|
      .seq (.cond (.tmp 48) (.skip) <|
      .exit 0) <|
      .seq (.block 1 (.seq (.region (⟨some 49, .mov (.tmp 47), none⟩ ::
          ⟨some 50, .iaddr 1 (.tmp 45) (.tmp 47), none⟩ ::
          ⟨some 51, .load false 1 (.tmp 50), none⟩ ::
          ⟨some 9, .mov (.tmp 49), none⟩ ::
          ⟨some 10, .mov (.tmp 51), none⟩ :: [])) <|
        .seq (.region (⟨some 52, .faddr 1 (.tmp 4), none⟩ ::
          ⟨some 53, .load false 1 (.tmp 52), none⟩ ::
          ⟨some 54, .mov (.tmp 9), none⟩ ::
          ⟨some 55, .iaddr 1 (.tmp 53) (.tmp 54), none⟩ ::
          ⟨some 56, .load false 1 (.tmp 55), none⟩ ::
          ⟨some 11, .mov (.tmp 56), none⟩ :: [])) <|
        .seq (.region (⟨some 58, .mov (.tmp 0), none⟩ ::
          ⟨some 59, .nilc (.tmp 58), none⟩ ::
          ⟨some 60, .faddr 6 (.tmp 59), none⟩ ::
          ⟨some 61, .load false 1 (.tmp 60), none⟩ ::
          ⟨some 62, .mov (.tmp 11), none⟩ ::
          ⟨some 63, .iaddr 1 (.tmp 61) (.tmp 62), none⟩ ::
          ⟨some 64, .load false 1 (.tmp 63), none⟩ ::
          ⟨some 65, .call (.val (.fn (.func 61) [])) [(.tmp 64)], none⟩ ::
          ⟨some 57, .mov (.tmp 65), none⟩ ::
          ⟨some 66, .ext (.tmp 57) 0, none⟩ ::
          ⟨some 67, .ext (.tmp 57) 1, none⟩ ::
          ⟨some 12, .alloc (.agg [(.int .i64 0), (.int .i64 0)]), none⟩ ::
          ⟨none, .store 2 (.tmp 12) (.tmp 66), none⟩ ::
          ⟨some 13, .mov (.tmp 67), none⟩ :: [])) <|
        .seq (.block 2 (.seq (.region (⟨some 69, .mov (.tmp 10), none⟩ ::
            ⟨some 70, .bin .gtr (.tmp 69) (.val (.int .i64 0)), none⟩ ::
            ⟨some 68, .mov (.tmp 70), none⟩ :: [])) <|
          .cond (.tmp 68) (.region (⟨some 71, .faddr 0 (.tmp 12), none⟩ ::
              ⟨some 72, .load false 1 (.tmp 71), none⟩ ::
              ⟨some 73, .faddr 1 (.tmp 12), none⟩ ::
              ⟨some 74, .load false 1 (.tmp 73), none⟩ ::
              ⟨some 75, .mov (.tmp 7), none⟩ ::
              ⟨some 76, .mov (.tmp 10), none⟩ ::
              ⟨some 77, .bin .quo (.tmp 75) (.tmp 76), none⟩ ::
              ⟨some 78, .bin .sub (.tmp 74) (.tmp 77), none⟩ ::
              ⟨some 79, .mx (.tmp 72) [(.tmp 78)], none⟩ ::
              ⟨some 80, .faddr 0 (.tmp 12), none⟩ ::
              ⟨none, .store 1 (.tmp 80) (.tmp 79), none⟩ :: [])) <|
          .seq (.region (⟨some 82, .mov (.tmp 10), none⟩ ::
            ⟨some 83, .bin .lss (.tmp 82) (.val (.int .i64 0)), none⟩ ::
            ⟨some 81, .mov (.tmp 83), none⟩ :: [])) <|
          .cond (.tmp 81) (.region (⟨some 84, .faddr 1 (.tmp 12), none⟩ ::
              ⟨some 85, .load false 1 (.tmp 84), none⟩ ::
              ⟨some 86, .faddr 0 (.tmp 12), none⟩ ::
              ⟨some 87, .load false 1 (.tmp 86), none⟩ ::
              ⟨some 88, .mov (.tmp 7), none⟩ ::
              ⟨some 89, .mov (.tmp 10), none⟩ ::
              ⟨some 90, .un .neg (.tmp 89), none⟩ ::
              ⟨some 91, .bin .quo (.tmp 88) (.tmp 90), none⟩ ::
              ⟨some 92, .bin .add (.tmp 87) (.tmp 91), none⟩ ::
              ⟨some 93, .mn (.tmp 85) [(.tmp 92)], none⟩ ::
              ⟨some 94, .faddr 1 (.tmp 12), none⟩ ::
              ⟨none, .store 1 (.tmp 94) (.tmp 93), none⟩ :: [])) <|
          .skip)) <|
        .seq (.region (⟨some 95, .mov (.tmp 8), none⟩ ::
          ⟨some 96, .mov (.tmp 11), none⟩ ::
          ⟨some 97, .mov (.tmp 8), none⟩ ::
          ⟨some 98, .mov (.tmp 11), none⟩ ::
          ⟨some 99, .iaddr 1 (.tmp 97) (.tmp 98), none⟩ ::
          ⟨some 100, .load false 1 (.tmp 99), none⟩ ::
          ⟨some 101, .faddr 0 (.tmp 12), none⟩ ::
          ⟨some 102, .load false 1 (.tmp 101), none⟩ ::
          ⟨some 103, .faddr 1 (.tmp 12), none⟩ ::
          ⟨some 104, .load false 1 (.tmp 103), none⟩ ::
          ⟨some 105, .call (.val (.fn (.func 64) [])) [(.tmp 100), (.tmp 102), (.tmp 104)], none⟩ ::
          ⟨some 106, .iaddr 1 (.tmp 95) (.tmp 96), none⟩ ::
          ⟨none, .store 1 (.tmp 106) (.tmp 105), none⟩ :: [])) <|
        .seq (.region (⟨some 107, .mov (.tmp 8), none⟩ ::
          ⟨some 108, .mov (.tmp 11), none⟩ ::
          ⟨some 109, .iaddr 1 (.tmp 107) (.tmp 108), none⟩ ::
          ⟨some 110, .load false 1 (.tmp 109), none⟩ ::
          ⟨some 111, .len false (.tmp 110), none⟩ ::
          ⟨some 112, .bin .eql (.tmp 111) (.val (.int .i64 0)), none⟩ :: [])) <|
        .cond (.tmp 112) (.seq (.region (⟨some 2, .mov (.val .nils), none⟩ ::
            ⟨some 3, .mov (.val (.int .i64 12)), none⟩ :: [])) <|
          .ret) <|
        .skip)) <|
      .region (⟨some 113, .bin .add (.tmp 47) (.val (.int .i64 1)), none⟩ ::
        ⟨some 47, .mov (.tmp 113), none⟩ :: [])))) <|
  .seq (.region (⟨some 114, .mov (.tmp 8), none⟩ ::
    ⟨some 2, .mov (.tmp 114), none⟩ ::
    ⟨some 3, .mov (.val (.int .i64 0)), none⟩ :: [])) <|
  .ret⟩
theorem e_reify_flagged_more : cFunc Try.prog kd_CReify Try.f134 = some c_reify_flagged_more := by kernel_rfl
/- (*touchstone/reify.flagged).lose: slots f, 0, v, 1, f, 2, v, 3, out, 6 -/
def c_reify_flagged_lose : AFunc := ⟨37, [.tmp 4, .tmp 5],
  .seq (.region (⟨some 4, .mov (.val .nils), none⟩ ::
    ⟨some 5, .mov (.val (.int .i64 0)), none⟩ :: [])) <|
  .seq (.region (⟨some 7, .mov (.tmp 0), none⟩ ::
    ⟨some 8, .nilc (.tmp 7), none⟩ ::
    ⟨some 9, .faddr 6 (.tmp 8), none⟩ ::
    ⟨some 10, .load false 1 (.tmp 9), none⟩ ::
    ⟨some 11, .callo (.val (.fn (.func 41) [])) [(.tmp 10)], none⟩ ::
    ⟨some 6, .mov (.tmp 11), none⟩ :: [])) <|
  .seq (.region (⟨some 12, .mov (.tmp 6), none⟩ ::
    ⟨some 13, .mov (.tmp 0), none⟩ ::
    ⟨some 14, .nilc (.tmp 13), none⟩ ::
    ⟨some 15, .faddr 5 (.tmp 14), none⟩ ::
    ⟨some 16, .load false 1 (.tmp 15), none⟩ ::
    ⟨some 17, .mov (.tmp 6), none⟩ ::
    ⟨some 18, .mov (.tmp 0), none⟩ ::
    ⟨some 19, .nilc (.tmp 18), none⟩ ::
    ⟨some 20, .faddr 5 (.tmp 19), none⟩ ::
    ⟨some 21, .load false 1 (.tmp 20), none⟩ ::
    ⟨some 22, .iaddr 1 (.tmp 17) (.tmp 21), none⟩ ::
    ⟨some 23, .load false 1 (.tmp 22), none⟩ ::
    ⟨some 24, .mov (.tmp 1), none⟩ ::
    ⟨some 25, .call (.val (.fn (.func 92) [])) [(.tmp 23), (.tmp 24)], none⟩ ::
    ⟨some 26, .iaddr 1 (.tmp 12) (.tmp 16), none⟩ ::
    ⟨none, .store 1 (.tmp 26) (.tmp 25), none⟩ :: [])) <|
  .seq (.seq (.region (⟨some 27, .mov (.tmp 6), none⟩ ::
    ⟨some 28, .mov (.tmp 0), none⟩ ::
    ⟨some 29, .nilc (.tmp 28), none⟩ ::
    ⟨some 30, .faddr 5 (.tmp 29), none⟩ ::
    ⟨some 31, .load false 1 (.tmp 30), none⟩ ::
    ⟨some 32, .iaddr 1 (.tmp 27) (.tmp 31), none⟩ ::
    ⟨some 33, .load false 1 (.tmp 32), none⟩ ::
    ⟨some 34, .len false (.tmp 33), none⟩ ::
    ⟨some 35, .bin .eql (.tmp 34) (.val (.int .i64 0)), none⟩ :: [])) <|
  .cond (.tmp 35) (.seq (.region (⟨some 4, .mov (.val .nils), none⟩ ::
      ⟨some 5, .mov (.val (.int .i64 12)), none⟩ :: [])) <|
    .ret) <|
  .skip) <|
  .seq (.region (⟨some 36, .mov (.tmp 6), none⟩ ::
    ⟨some 4, .mov (.tmp 36), none⟩ ::
    ⟨some 5, .mov (.val (.int .i64 0)), none⟩ :: [])) <|
  .ret⟩
theorem e_reify_flagged_lose : cFunc Try.prog kd_CReify Try.f135 = some c_reify_flagged_lose := by kernel_rfl
/- (*touchstone/reify.flagged).open: slots f, 0, f, 1, c, 4, r, 5, _, 6, holds, 7, never, 8 -/
def c_reify_flagged_open : AFunc := ⟨85, [.tmp 2, .tmp 3],
  .seq (.region (⟨some 2, .mov (.val .nils), none⟩ ::
    ⟨some 3, .mov (.val (.int .i64 0)), none⟩ :: [])) <|
  .seq (.region (⟨some 9, .mov (.tmp 0), none⟩ ::
    ⟨some 10, .nilc (.tmp 9), none⟩ ::
    ⟨some 11, .faddr 0 (.tmp 10), none⟩ ::
    ⟨some 12, .load true 4 (.tmp 11), none⟩ ::
    ⟨some 4, .alloc (.agg [(.int .i64 0), .nils, .nils, (.int .i64 0)]), none⟩ ::
    ⟨none, .store 4 (.tmp 4) (.tmp 12), none⟩ :: [])) <|
  .seq (.region (⟨some 13, .faddr 0 (.tmp 4), none⟩ ::
    ⟨none, .store 1 (.tmp 13) (.val (.int .i64 2)), none⟩ :: [])) <|
  .seq (.region (⟨some 15, .load true 4 (.tmp 4), none⟩ ::
    ⟨some 16, .mov (.tmp 0), none⟩ ::
    ⟨some 17, .nilc (.tmp 16), none⟩ ::
    ⟨some 18, .faddr 6 (.tmp 17), none⟩ ::
    ⟨some 19, .load false 1 (.tmp 18), none⟩ ::
    ⟨some 20, .call (.val (.fn (.func 46) [])) [(.tmp 15), (.tmp 19)], none⟩ ::
    ⟨some 14, .mov (.tmp 20), none⟩ ::
    ⟨some 21, .ext (.tmp 14) 0, none⟩ ::
    ⟨some 22, .ext (.tmp 14) 1, none⟩ ::
    ⟨some 5, .alloc (.agg [(.int .i64 0), (.int .i64 0)]), none⟩ ::
    ⟨none, .store 2 (.tmp 5) (.tmp 21), none⟩ ::
    ⟨some 6, .mov (.tmp 22), none⟩ :: [])) <|
  .seq (.region (⟨some 23, .faddr 1 (.tmp 5), none⟩ ::
    ⟨some 24, .load false 1 (.tmp 23), none⟩ ::
    ⟨some 25, .faddr 3 (.tmp 4), none⟩ ::
    ⟨some 26, .load false 1 (.tmp 25), none⟩ ::
    ⟨some 27, .bin .leq (.tmp 24) (.tmp 26), none⟩ ::
    ⟨some 28, .faddr 0 (.tmp 5), none⟩ ::
    ⟨some 29, .load false 1 (.tmp 28), none⟩ ::
    ⟨some 30, .faddr 3 (.tmp 4), none⟩ ::
    ⟨some 31, .load false 1 (.tmp 30), none⟩ ::
    ⟨some 32, .bin .gtr (.tmp 29) (.tmp 31), none⟩ ::
    ⟨some 7, .mov (.tmp 27), none⟩ ::
    ⟨some 8, .mov (.tmp 32), none⟩ :: [])) <|
  .seq (.seq (.region (⟨some 33, .mov (.tmp 0), none⟩ ::
    ⟨some 34, .nilc (.tmp 33), none⟩ ::
    ⟨some 35, .faddr 4 (.tmp 34), none⟩ ::
    ⟨some 36, .load false 1 (.tmp 35), none⟩ ::
    ⟨some 37, .bin .eql (.tmp 36) (.val (.int .i64 4)), none⟩ :: [])) <|
  .cond (.tmp 37) (.seq (.region (⟨some 38, .faddr 0 (.tmp 5), none⟩ ::
      ⟨some 39, .load false 1 (.tmp 38), none⟩ ::
      ⟨some 40, .faddr 3 (.tmp 4), none⟩ ::
      ⟨some 41, .load false 1 (.tmp 40), none⟩ ::
      ⟨some 42, .bin .eql (.tmp 39) (.tmp 41), none⟩ ::
      ⟨some 43, .mov (.tmp 42), none⟩ ::
      ⟨some 44, .faddr 1 (.tmp 5), some (43, true)⟩ ::
      ⟨some 45, .load false 1 (.tmp 44), some (43, true)⟩ ::
      ⟨some 46, .faddr 3 (.tmp 4), some (43, true)⟩ ::
      ⟨some 47, .load false 1 (.tmp 46), some (43, true)⟩ ::
      ⟨some 48, .bin .eql (.tmp 45) (.tmp 47), some (43, true)⟩ ::
      ⟨some 49, .pick (.tmp 43) (.tmp 48) (.val (.bool false)), none⟩ ::
      ⟨some 7, .mov (.tmp 49), none⟩ :: [])) <|
    .region (⟨some 50, .faddr 3 (.tmp 4), none⟩ ::
      ⟨some 51, .load false 1 (.tmp 50), none⟩ ::
      ⟨some 52, .faddr 0 (.tmp 5), none⟩ ::
      ⟨some 53, .load false 1 (.tmp 52), none⟩ ::
      ⟨some 54, .bin .lss (.tmp 51) (.tmp 53), none⟩ ::
      ⟨some 55, .mov (.tmp 54), none⟩ ::
      ⟨some 56, .faddr 3 (.tmp 4), some (55, false)⟩ ::
      ⟨some 57, .load false 1 (.tmp 56), some (55, false)⟩ ::
      ⟨some 58, .faddr 1 (.tmp 5), some (55, false)⟩ ::
      ⟨some 59, .load false 1 (.tmp 58), some (55, false)⟩ ::
      ⟨some 60, .bin .gtr (.tmp 57) (.tmp 59), some (55, false)⟩ ::
      ⟨some 61, .pick (.tmp 55) (.val (.bool true)) (.tmp 60), none⟩ ::
      ⟨some 8, .mov (.tmp 61), none⟩ :: [])) <|
  .skip) <|
  .seq (.block 0 (.seq (.region (⟨some 63, .mov (.tmp 8), none⟩ ::
      ⟨some 62, .mov (.tmp 63), none⟩ :: [])) <|
    .cond (.tmp 62) (.seq (.region (⟨some 64, .mov (.tmp 0), none⟩ ::
        ⟨some 65, .callm (.val (.fn (.func 135) [])) [(.tmp 64), (.val (.int .i64 1))], none⟩ ::
        ⟨some 66, .ext (.tmp 65) 0, none⟩ ::
        ⟨some 67, .ext (.tmp 65) 1, none⟩ ::
        ⟨some 2, .mov (.tmp 66), none⟩ ::
        ⟨some 3, .mov (.tmp 67), none⟩ :: [])) <|
      .ret) <|
    .seq (.region (⟨some 69, .mov (.tmp 7), none⟩ ::
      ⟨some 70, .mov (.tmp 69), none⟩ ::
      ⟨some 71, .mov (.tmp 0), some (70, true)⟩ ::
      ⟨some 72, .nilc (.tmp 71), some (70, true)⟩ ::
      ⟨some 73, .faddr 4 (.tmp 72), some (70, true)⟩ ::
      ⟨some 74, .load false 1 (.tmp 73), some (70, true)⟩ ::
      ⟨some 75, .bin .neq (.tmp 74) (.val (.int .i64 6)), some (70, true)⟩ ::
      ⟨some 76, .pick (.tmp 70) (.tmp 75) (.val (.bool false)), none⟩ ::
      ⟨some 68, .mov (.tmp 76), none⟩ :: [])) <|
    .cond (.tmp 68) (.seq (.region (⟨some 77, .mov (.tmp 0), none⟩ ::
        ⟨some 78, .callm (.val (.fn (.func 135) [])) [(.tmp 77), (.val (.int .i64 0))], none⟩ ::
        ⟨some 79, .ext (.tmp 78) 0, none⟩ ::
        ⟨some 80, .ext (.tmp 78) 1, none⟩ ::
        ⟨some 2, .mov (.tmp 79), none⟩ ::
        ⟨some 3, .mov (.tmp 80), none⟩ :: [])) <|
      .ret) <|
    .skip)) <|
  .seq (.region (⟨some 81, .mov (.tmp 0), none⟩ ::
    ⟨some 82, .nilc (.tmp 81), none⟩ ::
    ⟨some 83, .faddr 6 (.tmp 82), none⟩ ::
    ⟨some 84, .load false 1 (.tmp 83), none⟩ ::
    ⟨some 2, .mov (.tmp 84), none⟩ ::
    ⟨some 3, .mov (.val (.int .i64 0)), none⟩ :: [])) <|
  .ret⟩
theorem e_reify_flagged_open : cFunc Try.prog kd_CReify Try.f95 = some c_reify_flagged_open := by kernel_rfl
/- (*touchstone/reify.flagged).set1: slots f, 0, f, 1 -/
def c_reify_flagged_set1 : AFunc := ⟨17, [.tmp 2, .tmp 3],
  .seq (.region (⟨some 2, .mov (.val .nils), none⟩ ::
    ⟨some 3, .mov (.val (.int .i64 0)), none⟩ :: [])) <|
  .seq (.seq (.region (⟨some 4, .mov (.tmp 0), none⟩ ::
    ⟨some 5, .nilc (.tmp 4), none⟩ ::
    ⟨some 6, .faddr 4 (.tmp 5), none⟩ ::
    ⟨some 7, .load false 1 (.tmp 6), none⟩ ::
    ⟨some 8, .bin .eql (.tmp 7) (.val (.int .i64 4)), none⟩ :: [])) <|
  .cond (.tmp 8) (.seq (.region (⟨some 9, .mov (.tmp 0), none⟩ ::
      ⟨some 10, .callm (.val (.fn (.func 133) [])) [(.tmp 9), (.val (.int .i64 1))], none⟩ ::
      ⟨some 11, .ext (.tmp 10) 0, none⟩ ::
      ⟨some 12, .ext (.tmp 10) 1, none⟩ ::
      ⟨some 2, .mov (.tmp 11), none⟩ ::
      ⟨some 3, .mov (.tmp 12), none⟩ :: [])) <|
    .ret) <|
  .skip) <|
  .seq (.region (⟨some 13, .mov (.tmp 0), none⟩ ::
    ⟨some 14, .callm (.val (.fn (.func 133) [])) [(.tmp 13), (.val (.int .i64 2))], none⟩ ::
    ⟨some 15, .ext (.tmp 14) 0, none⟩ ::
    ⟨some 16, .ext (.tmp 14) 1, none⟩ ::
    ⟨some 2, .mov (.tmp 15), none⟩ ::
    ⟨some 3, .mov (.tmp 16), none⟩ :: [])) <|
  .ret⟩
theorem e_reify_flagged_set1 : cFunc Try.prog kd_CReify Try.f93 = some c_reify_flagged_set1 := by kernel_rfl
/- (*touchstone/reify.flagged).set0: slots f, 0, f, 1 -/
def c_reify_flagged_set0 : AFunc := ⟨24, [.tmp 2, .tmp 3],
  .seq (.region (⟨some 2, .mov (.val .nils), none⟩ ::
    ⟨some 3, .mov (.val (.int .i64 0)), none⟩ :: [])) <|
  .seq (.seq (.region (⟨some 4, .mov (.tmp 0), none⟩ ::
    ⟨some 5, .nilc (.tmp 4), none⟩ ::
    ⟨some 6, .faddr 4 (.tmp 5), none⟩ ::
    ⟨some 7, .load false 1 (.tmp 6), none⟩ :: [])) <|
  .block 0 (.seq (.region (⟨some 9, .bin .eql (.tmp 7) (.val (.int .i64 4)), none⟩ ::
      ⟨some 8, .mov (.tmp 9), none⟩ :: [])) <|
    .cond (.tmp 8) (.seq (.region (⟨some 10, .mov (.tmp 0), none⟩ ::
        ⟨some 11, .callm (.val (.fn (.func 133) [])) [(.tmp 10), (.val (.int .i64 3))], none⟩ ::
        ⟨some 12, .ext (.tmp 11) 0, none⟩ ::
        ⟨some 13, .ext (.tmp 11) 1, none⟩ ::
        ⟨some 2, .mov (.tmp 12), none⟩ ::
        ⟨some 3, .mov (.tmp 13), none⟩ :: [])) <|
      .ret) <|
    .seq (.region (⟨some 15, .bin .eql (.tmp 7) (.val (.int .i64 5)), none⟩ ::
      ⟨some 14, .mov (.tmp 15), none⟩ :: [])) <|
    .cond (.tmp 14) (.seq (.region (⟨some 16, .mov (.tmp 0), none⟩ ::
        ⟨some 17, .callm (.val (.fn (.func 134) [])) [(.tmp 16)], none⟩ ::
        ⟨some 18, .ext (.tmp 17) 0, none⟩ ::
        ⟨some 19, .ext (.tmp 17) 1, none⟩ ::
        ⟨some 2, .mov (.tmp 18), none⟩ ::
        ⟨some 3, .mov (.tmp 19), none⟩ :: [])) <|
      .ret) <|
    .skip)) <|
  .seq (.region (⟨some 20, .mov (.tmp 0), none⟩ ::
    ⟨some 21, .callm (.val (.fn (.func 95) [])) [(.tmp 20)], none⟩ ::
    ⟨some 22, .ext (.tmp 21) 0, none⟩ ::
    ⟨some 23, .ext (.tmp 21) 1, none⟩ ::
    ⟨some 2, .mov (.tmp 22), none⟩ ::
    ⟨some 3, .mov (.tmp 23), none⟩ :: [])) <|
  .ret⟩
theorem e_reify_flagged_set0 : cFunc Try.prog kd_CReify Try.f94 = some c_reify_flagged_set0 := by kernel_rfl
/- (*touchstone/reify.flagged).narrow: slots f, 0, f, 1, r, 4, _, 5 -/
def c_reify_flagged_narrow : AFunc := ⟨40, [.tmp 2, .tmp 3],
  .seq (.region (⟨some 2, .mov (.val .nils), none⟩ ::
    ⟨some 3, .mov (.val (.int .i64 0)), none⟩ :: [])) <|
  .seq (.region (⟨some 7, .mov (.tmp 0), none⟩ ::
    ⟨some 8, .nilc (.tmp 7), none⟩ ::
    ⟨some 9, .faddr 6 (.tmp 8), none⟩ ::
    ⟨some 10, .load false 1 (.tmp 9), none⟩ ::
    ⟨some 11, .mov (.tmp 0), none⟩ ::
    ⟨some 12, .nilc (.tmp 11), none⟩ ::
    ⟨some 13, .faddr 5 (.tmp 12), none⟩ ::
    ⟨some 14, .load false 1 (.tmp 13), none⟩ ::
    ⟨some 15, .iaddr 1 (.tmp 10) (.tmp 14), none⟩ ::
    ⟨some 16, .load false 1 (.tmp 15), none⟩ ::
    ⟨some 17, .call (.val (.fn (.func 61) [])) [(.tmp 16)], none⟩ ::
    ⟨some 6, .mov (.tmp 17), none⟩ ::
    ⟨some 18, .ext (.tmp 6) 0, none⟩ ::
    ⟨some 19, .ext (.tmp 6) 1, none⟩ ::
    ⟨some 4, .alloc (.agg [(.int .i64 0), (.int .i64 0)]), none⟩ ::
    ⟨none, .store 2 (.tmp 4) (.tmp 18), none⟩ ::
    ⟨some 5, .mov (.tmp 19), none⟩ :: [])) <|
  .seq (.block 0 (.seq (.region (⟨some 21, .faddr 0 (.tmp 4), none⟩ ::
      ⟨some 22, .load false 1 (.tmp 21), none⟩ ::
      ⟨some 23, .bin .eql (.tmp 22) (.val (.int .i64 1)), none⟩ ::
      ⟨some 20, .mov (.tmp 23), none⟩ :: [])) <|
    .cond (.tmp 20) (.seq (.region (⟨some 24, .mov (.tmp 0), none⟩ ::
        ⟨some 25, .callm (.val (.fn (.func 93) [])) [(.tmp 24)], none⟩ ::
        ⟨some 26, .ext (.tmp 25) 0, none⟩ ::
        ⟨some 27, .ext (.tmp 25) 1, none⟩ ::
        ⟨some 2, .mov (.tmp 26), none⟩ ::
        ⟨some 3, .mov (.tmp 27), none⟩ :: [])) <|
      .ret) <|
    .seq (.region (⟨some 29, .faddr 1 (.tmp 4), none⟩ ::
      ⟨some 30, .load false 1 (.tmp 29), none⟩ ::
      ⟨some 31, .bin .eql (.tmp 30) (.val (.int .i64 0)), none⟩ ::
      ⟨some 28, .mov (.tmp 31), none⟩ :: [])) <|
    .cond (.tmp 28) (.seq (.region (⟨some 32, .mov (.tmp 0), none⟩ ::
        ⟨some 33, .callm (.val (.fn (.func 94) [])) [(.tmp 32)], none⟩ ::
        ⟨some 34, .ext (.tmp 33) 0, none⟩ ::
        ⟨some 35, .ext (.tmp 33) 1, none⟩ ::
        ⟨some 2, .mov (.tmp 34), none⟩ ::
        ⟨some 3, .mov (.tmp 35), none⟩ :: [])) <|
      .ret) <|
    .skip)) <|
  .seq (.region (⟨some 36, .mov (.tmp 0), none⟩ ::
    ⟨some 37, .callm (.val (.fn (.func 95) [])) [(.tmp 36)], none⟩ ::
    ⟨some 38, .ext (.tmp 37) 0, none⟩ ::
    ⟨some 39, .ext (.tmp 37) 1, none⟩ ::
    ⟨some 2, .mov (.tmp 38), none⟩ ::
    ⟨some 3, .mov (.tmp 39), none⟩ :: [])) <|
  .ret⟩
theorem e_reify_flagged_narrow : cFunc Try.prog kd_CReify Try.f55 = some c_reify_flagged_narrow := by kernel_rfl
/- touchstone/reify.Narrow: slots c, 0, d, 1, c, 2, d, 3, k, 6, f, 7, out, 8, e, 9, own, 10, _, 11, x, 12 -/
def c_reify_Narrow : AFunc := ⟨73, [.tmp 4, .tmp 5],
  .seq (.region (⟨some 2, .box 4 (.tmp 0), none⟩ ::
    ⟨some 4, .mov (.val .nils), none⟩ ::
    ⟨some 5, .mov (.val (.int .i64 0)), none⟩ :: [])) <|
  .seq (.block 0 (.seq (.region (⟨some 14, .mov (.tmp 1), none⟩ ::
      ⟨some 15, .load true 4 (.tmp 2), none⟩ ::
      ⟨some 16, .bslice 4 [(.tmp 15)], none⟩ ::
      ⟨some 17, .build [.nils, .nils, (.int .i64 0), (.int .i64 0)] [(0, 1, (.tmp 14)), (1, 1, (.tmp 16))], none⟩ ::
      ⟨some 18, .call (.val (.fn (.func 40) [])) [(.tmp 17)], none⟩ ::
      ⟨some 19, .un .not (.tmp 18), none⟩ ::
      ⟨some 13, .mov (.tmp 19), none⟩ :: [])) <|
    .cond (.tmp 13) (.seq (.region (⟨some 4, .mov (.val .nils), none⟩ ::
        ⟨some 5, .mov (.val (.int .i64 2)), none⟩ :: [])) <|
      .ret) <|
    .seq (.region (⟨some 21, .faddr 0 (.tmp 2), none⟩ ::
      ⟨some 22, .load false 1 (.tmp 21), none⟩ ::
      ⟨some 23, .bin .lss (.tmp 22) (.val (.int .i64 4)), none⟩ ::
      ⟨some 24, .mov (.tmp 23), none⟩ ::
      ⟨some 25, .faddr 0 (.tmp 2), some (24, false)⟩ ::
      ⟨some 26, .load false 1 (.tmp 25), some (24, false)⟩ ::
      ⟨some 27, .bin .gtr (.tmp 26) (.val (.int .i64 6)), some (24, false)⟩ ::
      ⟨some 28, .pick (.tmp 24) (.val (.bool true)) (.tmp 27), none⟩ ::
      ⟨some 20, .mov (.tmp 28), none⟩ :: [])) <|
    .cond (.tmp 20) (.seq (.region (⟨some 4, .mov (.val .nils), none⟩ ::
        ⟨some 5, .mov (.val (.int .i64 10)), none⟩ :: [])) <|
      .ret) <|
    .skip)) <|
  .seq (.region (⟨some 29, .faddr 1 (.tmp 2), none⟩ ::
    ⟨some 30, .load false 1 (.tmp 29), none⟩ ::
    ⟨some 31, .len false (.tmp 30), none⟩ ::
    ⟨some 32, .bin .sub (.tmp 31) (.val (.int .i64 1)), none⟩ ::
    ⟨some 6, .mov (.tmp 32), none⟩ :: [])) <|
  .seq (.region (⟨some 33, .load true 4 (.tmp 2), none⟩ ::
    ⟨some 34, .faddr 0 (.tmp 2), none⟩ ::
    ⟨some 35, .load false 1 (.tmp 34), none⟩ ::
    ⟨some 36, .faddr 1 (.tmp 2), none⟩ ::
    ⟨some 37, .load false 1 (.tmp 36), none⟩ ::
    ⟨some 38, .mov (.tmp 6), none⟩ ::
    ⟨some 39, .iaddr 1 (.tmp 37) (.tmp 38), none⟩ ::
    ⟨some 40, .load false 1 (.tmp 39), none⟩ ::
    ⟨some 41, .mov (.tmp 1), none⟩ ::
    ⟨some 42, .build [(.int .i64 0), .nils, .nils, (.int .i64 0), (.int .i64 0), (.int .i64 0), .nils] [(0, 4, (.tmp 33)), (4, 1, (.tmp 35)), (5, 1, (.tmp 40)), (6, 1, (.tmp 41))], none⟩ ::
    ⟨some 43, .box 7 (.tmp 42), none⟩ ::
    ⟨some 7, .mov (.tmp 43), none⟩ :: [])) <|
  .seq (.region (⟨some 44, .mov (.tmp 7), none⟩ ::
    ⟨some 45, .faddr 1 (.tmp 2), none⟩ ::
    ⟨some 46, .load false 1 (.tmp 45), none⟩ ::
    ⟨some 47, .mov (.tmp 6), none⟩ ::
    ⟨some 48, .slc 1 (.tmp 46) none (some (.tmp 47)), none⟩ ::
    ⟨some 49, .nilc (.tmp 44), none⟩ ::
    ⟨some 50, .faddr 0 (.tmp 49), none⟩ ::
    ⟨some 51, .faddr 1 (.tmp 50), none⟩ ::
    ⟨none, .store 1 (.tmp 51) (.tmp 48), none⟩ :: [])) <|
  .seq (.region (⟨some 53, .mov (.tmp 7), none⟩ ::
    ⟨some 54, .callm (.val (.fn (.func 55) [])) [(.tmp 53)], none⟩ ::
    ⟨some 52, .mov (.tmp 54), none⟩ ::
    ⟨some 55, .ext (.tmp 52) 0, none⟩ ::
    ⟨some 56, .ext (.tmp 52) 1, none⟩ ::
    ⟨some 8, .mov (.tmp 55), none⟩ ::
    ⟨some 9, .mov (.tmp 56), none⟩ :: [])) <|
  .seq (.seq (.region (⟨some 57, .mov (.tmp 9), none⟩ ::
    ⟨some 58, .bin .neq (.tmp 57) (.val (.int .i64 0)), none⟩ :: [])) <|
  .cond (.tmp 58) (.seq (.region (⟨some 59, .mov (.tmp 9), none⟩ ::
      ⟨some 4, .mov (.val .nils), none⟩ ::
      ⟨some 5, .mov (.tmp 59), none⟩ :: [])) <|
    .ret) <|
  .skip) <|
  .seq (.region (⟨some 10, .mov (.val .nils), none⟩ :: [])) <|
  .seq (.seq (.region (⟨some 60, .mov (.tmp 8), none⟩ ::
    ⟨some 61, .len false (.tmp 60), none⟩ ::
    ⟨some 62, .mov (.val (.int .i64 0)), none⟩ :: [])) <|
  .block 1 (.loop (.seq (.region (⟨some 63, .bin .lss (.tmp 62) (.tmp 61), none⟩ :: [])) <|
      .seq (.cond (.tmp 63) (.skip) <|
      .exit 1) <|
      .seq (.block 2 (.seq (.region (⟨some 64, .iaddr 1 (.tmp 60) (.tmp 62), none⟩ ::
          ⟨some 65, .load false 1 (.tmp 64), none⟩ ::
          ⟨some 12, .mov (.tmp 65), none⟩ :: [])) <|
        .region (⟨some 66, .mov (.tmp 10), none⟩ ::
          ⟨some 67, .mov (.tmp 12), none⟩ ::
          ⟨some 68, .call (.val (.fn (.func 45) [])) [(.tmp 67)], none⟩ ::
          ⟨some 69, .bslice 1 [(.tmp 68)], none⟩ ::
          ⟨some 70, .app 1 24 (.tmp 66) (.tmp 69), none⟩ ::
          ⟨some 10, .mov (.tmp 70), none⟩ :: []))) <|
      .region (⟨some 71, .bin .add (.tmp 62) (.val (.int .i64 1)), none⟩ ::
        ⟨some 62, .mov (.tmp 71), none⟩ :: [])))) <|
  .seq (.region (⟨some 72, .mov (.tmp 10), none⟩ ::
    ⟨some 4, .mov (.tmp 72), none⟩ ::
    ⟨some 5, .mov (.val (.int .i64 0)), none⟩ :: [])) <|
  .ret⟩
theorem e_reify_Narrow : cFunc Try.prog kd_CReify Try.f26 = some c_reify_Narrow := by kernel_rfl
end Go.Proofs.Ytonkcemcledhiaa
