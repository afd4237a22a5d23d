/- The code of functions, as abstract code. Printed by program. -/
import Derived.Test.YtonkcemcledhiaaAv2
import Derived.Test.YtonkcemcledhiaaProg
namespace Go.Proofs.Ytonkcemcledhiaa
open Av
set_option linter.unusedVariables false
set_option maxRecDepth 100000
def kd_CHallF (f : Nat) : Nat := if f = 45 then 3 else if f = 108 then 2 else if f = 78 then 1 else if f = 109 then 2 else 0
/- touchstone/hall.full: slots l, 0, but, 1, l, 2, but, 3, others, 5, out, 6, _, 7, p, 8, _, 9, q, 10, n, 11 -/
def c_hall_full : AFunc := ⟨61, [.tmp 4],
  .seq (.region (⟨some 4, .mov (.val .nils), none⟩ :: [])) <|
  .seq (.region (⟨some 12, .mov (.tmp 0), none⟩ ::
    ⟨some 13, .callo (.val (.fn (.func 45) [])) [(.tmp 12)], none⟩ ::
    ⟨some 14, .mov (.tmp 1), none⟩ ::
    ⟨some 15, .mov (.tmp 1), none⟩ ::
    ⟨some 16, .bin .add (.tmp 15) (.val (.int .i64 1)), none⟩ ::
    ⟨some 17, .callm (.val (.fn (.func 108) [])) [(.tmp 13), (.tmp 14), (.tmp 16)], none⟩ ::
    ⟨some 5, .mov (.tmp 17), none⟩ :: [])) <|
  .seq (.region (⟨some 6, .mov (.val .nils), none⟩ :: [])) <|
  .seq (.seq (.region (⟨some 18, .mov (.tmp 5), none⟩ ::
    ⟨some 19, .len false (.tmp 18), none⟩ ::
    ⟨some 20, .mov (.val (.int .i64 0)), none⟩ :: [])) <|
  .block 0 (.loop (.seq (.region (⟨some 21, .bin .lss (.tmp 20) (.tmp 19), none⟩ :: [])) <|
      .seq (.cond (.tmp 21) (.skip) <|
      .exit 0) <|
      .seq (.block 1 (.seq (.region (⟨some 22, .iaddr 2 (.tmp 18) (.tmp 20), none⟩ ::
          ⟨some 23, .load true 2 (.tmp 22), none⟩ ::
          ⟨some 8, .alloc (.agg [(.int .i64 0), (.int .i64 0)]), none⟩ ::
          ⟨none, .store 2 (.tmp 8) (.tmp 23), none⟩ :: [])) <|
        .seq (.region (⟨some 24, .mov (.tmp 5), none⟩ ::
          ⟨some 25, .len false (.tmp 24), none⟩ ::
          ⟨some 26, .mov (.val (.int .i64 0)), none⟩ :: [])) <|
        .block 2 (.loop (.seq (.region (⟨some 27, .bin .lss (.tmp 26) (.tmp 25), none⟩ :: [])) <|
            .seq (.cond (.tmp 27) (.skip) <|
            .exit 2) <|
            .seq (.block 3 (.seq (.region (⟨some 28, .iaddr 2 (.tmp 24) (.tmp 26), none⟩ ::
                ⟨some 29, .load true 2 (.tmp 28), none⟩ ::
                ⟨some 10, .alloc (.agg [(.int .i64 0), (.int .i64 0)]), none⟩ ::
                ⟨none, .store 2 (.tmp 10) (.tmp 29), none⟩ :: [])) <|
              .seq (.region (⟨some 30, .mov (.tmp 5), none⟩ ::
                ⟨some 31, .faddr 0 (.tmp 8), none⟩ ::
                ⟨some 32, .load false 1 (.tmp 31), none⟩ ::
                ⟨some 33, .faddr 1 (.tmp 10), none⟩ ::
                ⟨some 34, .load false 1 (.tmp 33), none⟩ ::
                ⟨some 35, .callv (.val (.fn (.func 78) [])) [(.tmp 30), (.tmp 32), (.tmp 34)], none⟩ ::
                ⟨some 11, .mov (.tmp 35), none⟩ :: [])) <|
              .seq (.region (⟨some 36, .mov (.tmp 11), none⟩ ::
                ⟨some 37, .bin .gtr (.tmp 36) (.val (.int .i64 0)), none⟩ ::
                ⟨some 38, .mov (.tmp 37), none⟩ ::
                ⟨some 39, .mov (.tmp 11), some (38, true)⟩ ::
                ⟨some 40, .faddr 1 (.tmp 10), some (38, true)⟩ ::
                ⟨some 41, .load false 1 (.tmp 40), some (38, true)⟩ ::
                ⟨some 42, .faddr 0 (.tmp 8), some (38, true)⟩ ::
                ⟨some 43, .load false 1 (.tmp 42), some (38, true)⟩ ::
                ⟨some 44, .bin .sub (.tmp 41) (.tmp 43), some (38, true)⟩ ::
                ⟨some 45, .bin .add (.tmp 44) (.val (.int .i64 1)), some (38, true)⟩ ::
                ⟨some 46, .bin .eql (.tmp 39) (.tmp 45), some (38, true)⟩ ::
                ⟨some 47, .pick (.tmp 38) (.tmp 46) (.val (.bool false)), none⟩ :: [])) <|
              .cond (.tmp 47) (.region (⟨some 48, .mov (.tmp 6), none⟩ ::
                  ⟨some 49, .faddr 0 (.tmp 8), none⟩ ::
                  ⟨some 50, .load false 1 (.tmp 49), none⟩ ::
                  ⟨some 51, .faddr 1 (.tmp 10), none⟩ ::
                  ⟨some 52, .load false 1 (.tmp 51), none⟩ ::
                  ⟨some 53, .build [(.int .i64 0), (.int .i64 0)] [(0, 1, (.tmp 50)), (1, 1, (.tmp 52))], none⟩ ::
                  ⟨some 54, .bslice 2 [(.tmp 53)], none⟩ ::
                  ⟨some 55, .app 2 16 (.tmp 48) (.tmp 54), none⟩ ::
                  ⟨some 6, .mov (.tmp 55), none⟩ :: [])) <|
              .skip)) <|
            .region (⟨some 56, .bin .add (.tmp 26) (.val (.int .i64 1)), none⟩ ::
              ⟨some 26, .mov (.tmp 56), none⟩ :: []))))) <|
      .region (⟨some 57, .bin .add (.tmp 20) (.val (.int .i64 1)), none⟩ ::
        ⟨some 20, .mov (.tmp 57), none⟩ :: [])))) <|
  .seq (.region (⟨some 58, .mov (.tmp 6), none⟩ ::
    ⟨some 59, .callm (.val (.fn (.func 109) [])) [(.tmp 58), (.val (.fn (.func 110) []))], none⟩ :: [])) <|
  .seq (.region (⟨some 60, .mov (.tmp 6), none⟩ ::
    ⟨some 4, .mov (.tmp 60), none⟩ :: [])) <|
  .ret⟩
theorem e_hall_full : cFunc Try.prog kd_CHallF Try.f63 = some c_hall_full := by kernel_rfl
/- touchstone/hall.full$1: slots a, 0, b, 1, a, 2, b, 3 -/
def c_hall_full_1 : AFunc := ⟨10, [.tmp 4],
  .seq (.region (⟨some 2, .box 2 (.tmp 0), none⟩ ::
    ⟨some 3, .box 2 (.tmp 1), none⟩ ::
    ⟨some 4, .mov (.val (.int .i64 0)), none⟩ :: [])) <|
  .seq (.region (⟨some 5, .faddr 0 (.tmp 2), none⟩ ::
    ⟨some 6, .load false 1 (.tmp 5), none⟩ ::
    ⟨some 7, .faddr 0 (.tmp 3), none⟩ ::
    ⟨some 8, .load false 1 (.tmp 7), none⟩ ::
    ⟨some 9, .call (.val (.fn (.func 111) [])) [(.tmp 6), (.tmp 8)], none⟩ ::
    ⟨some 4, .mov (.tmp 9), none⟩ :: [])) <|
  .ret⟩
theorem e_hall_full_1 : cFunc Try.prog kd_CHallF Try.f110 = some c_hall_full_1 := by kernel_rfl
end Go.Proofs.Ytonkcemcledhiaa
