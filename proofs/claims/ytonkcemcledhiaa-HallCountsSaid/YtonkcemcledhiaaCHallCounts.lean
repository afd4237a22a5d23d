/- The code of functions, as abstract code. Printed by program. -/
import Derived.Test.YtonkcemcledhiaaAv2
import Derived.Test.YtonkcemcledhiaaProg
namespace Go.Proofs.Ytonkcemcledhiaa
open Av
set_option linter.unusedVariables false
set_option maxRecDepth 100000
def kd_CHallCounts (f : Nat) : Nat := 0
/- touchstone/touchstonelaw17.HallCounts: slots l, 0, l, 1, _, 3, r, 4, ok, 5, _, 6, p, 7, _, 8, q, 9, n, 10, _, 11, r, 12 -/
def c_law17_HallCounts : AFunc := ⟨94, [.tmp 2],
  .seq (.region (⟨some 2, .mov (.val (.bool false)), none⟩ :: [])) <|
  .seq (.seq (.region (⟨some 13, .call (.val (.fn (.func 30) [])) [], none⟩ ::
    ⟨some 14, .un .not (.tmp 13), none⟩ :: [])) <|
  .cond (.tmp 14) (.seq (.region (⟨some 2, .mov (.val (.bool false)), none⟩ :: [])) <|
    .ret) <|
  .skip) <|
  .seq (.seq (.region (⟨some 15, .mov (.tmp 0), none⟩ ::
    ⟨some 16, .len false (.tmp 15), none⟩ ::
    ⟨some 17, .bin .gtr (.tmp 16) (.val (.int .i64 32)), none⟩ :: [])) <|
  .cond (.tmp 17) (.seq (.region (⟨some 2, .mov (.val (.bool true)), none⟩ :: [])) <|
    .ret) <|
  .skip) <|
  .seq (.seq (.region (⟨some 18, .mov (.tmp 0), none⟩ ::
    ⟨some 19, .len false (.tmp 18), none⟩ ::
    ⟨some 20, .mov (.val (.int .i64 0)), none⟩ :: [])) <|
  .block 0 (.loop (.seq (.region (⟨some 21, .bin .lss (.tmp 20) (.tmp 19), none⟩ :: [])) <|
      .seq (.cond (.tmp 21) (.skip) <|
      .exit 0) <|
      .seq (.block 1 (.seq (.region (⟨some 22, .iaddr 2 (.tmp 18) (.tmp 20), none⟩ ::
          ⟨some 23, .load true 2 (.tmp 22), none⟩ ::
          ⟨some 4, .alloc (.agg [(.int .i64 0), (.int .i64 0)]), none⟩ ::
          ⟨none, .store 2 (.tmp 4) (.tmp 23), none⟩ :: [])) <|
        .seq (.region (⟨some 24, .faddr 0 (.tmp 4), none⟩ ::
          ⟨some 25, .load false 1 (.tmp 24), none⟩ ::
          ⟨some 26, .faddr 1 (.tmp 4), none⟩ ::
          ⟨some 27, .load false 1 (.tmp 26), none⟩ ::
          ⟨some 28, .bin .gtr (.tmp 25) (.tmp 27), none⟩ ::
          ⟨some 29, .mov (.tmp 28), none⟩ ::
          ⟨some 30, .faddr 0 (.tmp 4), some (29, false)⟩ ::
          ⟨some 31, .load false 1 (.tmp 30), some (29, false)⟩ ::
          ⟨some 32, .bin .lss (.tmp 31) (.val (.int .i64 (-1048576))), some (29, false)⟩ ::
          ⟨some 33, .pick (.tmp 29) (.val (.bool true)) (.tmp 32), none⟩ ::
          ⟨some 34, .mov (.tmp 33), none⟩ ::
          ⟨some 35, .faddr 1 (.tmp 4), some (34, false)⟩ ::
          ⟨some 36, .load false 1 (.tmp 35), some (34, false)⟩ ::
          ⟨some 37, .bin .gtr (.tmp 36) (.val (.int .i64 1048576)), some (34, false)⟩ ::
          ⟨some 38, .pick (.tmp 34) (.val (.bool true)) (.tmp 37), none⟩ :: [])) <|
        .cond (.tmp 38) (.seq (.region (⟨some 2, .mov (.val (.bool true)), none⟩ :: [])) <|
          .ret) <|
        .skip)) <|
      .region (⟨some 39, .bin .add (.tmp 20) (.val (.int .i64 1)), none⟩ ::
        ⟨some 20, .mov (.tmp 39), none⟩ :: [])))) <|
  .seq (.region (⟨some 5, .mov (.val (.bool true)), none⟩ :: [])) <|
  .seq (.seq (.region (⟨some 40, .mov (.tmp 0), none⟩ ::
    ⟨some 41, .len false (.tmp 40), none⟩ ::
    ⟨some 42, .mov (.val (.int .i64 0)), none⟩ :: [])) <|
  .block 2 (.loop (.seq (.region (⟨some 43, .bin .lss (.tmp 42) (.tmp 41), none⟩ :: [])) <|
      .seq (.cond (.tmp 43) (.skip) <|
      .exit 2) <|
      .seq (.block 3 (.seq (.region (⟨some 44, .iaddr 2 (.tmp 40) (.tmp 42), none⟩ ::
          ⟨some 45, .load true 2 (.tmp 44), none⟩ ::
          ⟨some 7, .alloc (.agg [(.int .i64 0), (.int .i64 0)]), none⟩ ::
          ⟨none, .store 2 (.tmp 7) (.tmp 45), none⟩ :: [])) <|
        .seq (.region (⟨some 46, .mov (.tmp 0), none⟩ ::
          ⟨some 47, .len false (.tmp 46), none⟩ ::
          ⟨some 48, .mov (.val (.int .i64 0)), none⟩ :: [])) <|
        .block 4 (.loop (.seq (.region (⟨some 49, .bin .lss (.tmp 48) (.tmp 47), none⟩ :: [])) <|
            .seq (.cond (.tmp 49) (.skip) <|
            .exit 4) <|
            .seq (.block 5 (.seq (.region (⟨some 50, .iaddr 2 (.tmp 46) (.tmp 48), none⟩ ::
                ⟨some 51, .load true 2 (.tmp 50), none⟩ ::
                ⟨some 9, .alloc (.agg [(.int .i64 0), (.int .i64 0)]), none⟩ ::
                ⟨none, .store 2 (.tmp 9) (.tmp 51), none⟩ :: [])) <|
              .seq (.region (⟨some 10, .mov (.val (.int .i64 0)), none⟩ :: [])) <|
              .seq (.seq (.region (⟨some 52, .mov (.tmp 0), none⟩ ::
                ⟨some 53, .len false (.tmp 52), none⟩ ::
                ⟨some 54, .mov (.val (.int .i64 0)), none⟩ :: [])) <|
              .block 6 (.loop (.seq (.region (⟨some 55, .bin .lss (.tmp 54) (.tmp 53), none⟩ :: [])) <|
                  .seq (.cond (.tmp 55) (.skip) <|
                  .exit 6) <|
                  .seq (.block 7 (.seq (.region (⟨some 56, .iaddr 2 (.tmp 52) (.tmp 54), none⟩ ::
                      ⟨some 57, .load true 2 (.tmp 56), none⟩ ::
                      ⟨some 12, .alloc (.agg [(.int .i64 0), (.int .i64 0)]), none⟩ ::
                      ⟨none, .store 2 (.tmp 12) (.tmp 57), none⟩ :: [])) <|
                    .seq (.region (⟨some 58, .faddr 0 (.tmp 12), none⟩ ::
                      ⟨some 59, .load false 1 (.tmp 58), none⟩ ::
                      ⟨some 60, .faddr 0 (.tmp 7), none⟩ ::
                      ⟨some 61, .load false 1 (.tmp 60), none⟩ ::
                      ⟨some 62, .bin .geq (.tmp 59) (.tmp 61), none⟩ ::
                      ⟨some 63, .mov (.tmp 62), none⟩ ::
                      ⟨some 64, .faddr 1 (.tmp 12), some (63, true)⟩ ::
                      ⟨some 65, .load false 1 (.tmp 64), some (63, true)⟩ ::
                      ⟨some 66, .faddr 1 (.tmp 9), some (63, true)⟩ ::
                      ⟨some 67, .load false 1 (.tmp 66), some (63, true)⟩ ::
                      ⟨some 68, .bin .leq (.tmp 65) (.tmp 67), some (63, true)⟩ ::
                      ⟨some 69, .pick (.tmp 63) (.tmp 68) (.val (.bool false)), none⟩ :: [])) <|
                    .cond (.tmp 69) (.region (⟨some 70, .mov (.tmp 10), none⟩ ::
                        ⟨some 71, .bin .add (.tmp 70) (.val (.int .i64 1)), none⟩ ::
                        ⟨some 10, .mov (.tmp 71), none⟩ :: [])) <|
                    .skip)) <|
                  .region (⟨some 72, .bin .add (.tmp 54) (.val (.int .i64 1)), none⟩ ::
                    ⟨some 54, .mov (.tmp 72), none⟩ :: [])))) <|
              .region (⟨some 73, .mov (.tmp 5), none⟩ ::
                ⟨some 74, .mov (.tmp 73), none⟩ ::
                ⟨some 75, .mov (.tmp 10), some (74, true)⟩ ::
                ⟨some 76, .bin .eql (.tmp 75) (.val (.int .i64 0)), some (74, true)⟩ ::
                ⟨some 77, .mov (.tmp 76), some (74, true)⟩ ::
                ⟨some 78, .mov (.tmp 10), some (77, false)⟩ ::
                ⟨some 79, .faddr 1 (.tmp 9), some (77, false)⟩ ::
                ⟨some 80, .load false 1 (.tmp 79), some (77, false)⟩ ::
                ⟨some 81, .faddr 0 (.tmp 7), some (77, false)⟩ ::
                ⟨some 82, .load false 1 (.tmp 81), some (77, false)⟩ ::
                ⟨some 83, .bin .sub (.tmp 80) (.tmp 82), some (77, false)⟩ ::
                ⟨some 84, .bin .add (.tmp 83) (.val (.int .i64 1)), some (77, false)⟩ ::
                ⟨some 85, .bin .leq (.tmp 78) (.tmp 84), some (77, false)⟩ ::
                ⟨some 86, .pick (.tmp 77) (.val (.bool true)) (.tmp 85), some (74, true)⟩ ::
                ⟨some 87, .pick (.tmp 74) (.tmp 86) (.val (.bool false)), none⟩ ::
                ⟨some 5, .mov (.tmp 87), none⟩ :: []))) <|
            .region (⟨some 88, .bin .add (.tmp 48) (.val (.int .i64 1)), none⟩ ::
              ⟨some 48, .mov (.tmp 88), none⟩ :: []))))) <|
      .region (⟨some 89, .bin .add (.tmp 42) (.val (.int .i64 1)), none⟩ ::
        ⟨some 42, .mov (.tmp 89), none⟩ :: [])))) <|
  .seq (.region (⟨some 90, .mov (.tmp 0), none⟩ ::
    ⟨some 91, .call (.val (.fn (.func 38) [])) [(.tmp 90)], none⟩ ::
    ⟨some 92, .mov (.tmp 5), none⟩ ::
    ⟨some 93, .eqb false (.tmp 91) (.tmp 92), none⟩ ::
    ⟨some 2, .mov (.tmp 93), none⟩ :: [])) <|
  .ret⟩
theorem e_law17_HallCounts : cFunc Try.prog kd_CHallCounts Try.f11 = some c_law17_HallCounts := by kernel_rfl
end Go.Proofs.Ytonkcemcledhiaa
