/- The code of functions, as abstract code. Printed by program. -/
import Derived.Test.YtonkcemcledhiaaAv2
import Derived.Test.YtonkcemcledhiaaProg
namespace Go.Proofs.Ytonkcemcledhiaa
open Av
set_option linter.unusedVariables false
set_option maxRecDepth 100000
def kd_CHallN (f : Nat) : Nat := if f = 41 then 3 else if f = 38 then 1 else 0
/- touchstone/hall.Narrow: slots c, 0, d, 1, c, 2, d, 3, l, 6, _, 7, x, 8, r, 9, _, 10, out, 11, i, 12, x, 13, r, 14, x, 15 -/
def c_hall_Narrow : AFunc := ⟨102, [.tmp 4, .tmp 5],
  .seq (.region (⟨some 2, .box 4 (.tmp 0), none⟩ ::
    ⟨some 4, .mov (.val .nils), none⟩ ::
    ⟨some 5, .mov (.val (.int .i64 0)), none⟩ :: [])) <|
  .seq (.block 0 (.seq (.region (⟨some 17, .mov (.tmp 1), none⟩ ::
      ⟨some 18, .load true 4 (.tmp 2), none⟩ ::
      ⟨some 19, .bslice 4 [(.tmp 18)], none⟩ ::
      ⟨some 20, .build [.nils, .nils, (.int .i64 0), (.int .i64 0)] [(0, 1, (.tmp 17)), (1, 1, (.tmp 19))], none⟩ ::
      ⟨some 21, .call (.val (.fn (.func 40) [])) [(.tmp 20)], none⟩ ::
      ⟨some 22, .un .not (.tmp 21), none⟩ ::
      ⟨some 16, .mov (.tmp 22), none⟩ :: [])) <|
    .cond (.tmp 16) (.seq (.region (⟨some 4, .mov (.val .nils), none⟩ ::
        ⟨some 5, .mov (.val (.int .i64 2)), none⟩ :: [])) <|
      .ret) <|
    .seq (.region (⟨some 24, .faddr 0 (.tmp 2), none⟩ ::
      ⟨some 25, .load false 1 (.tmp 24), none⟩ ::
      ⟨some 26, .bin .neq (.tmp 25) (.val (.int .i64 18)), none⟩ ::
      ⟨some 23, .mov (.tmp 26), none⟩ :: [])) <|
    .cond (.tmp 23) (.seq (.region (⟨some 4, .mov (.val .nils), none⟩ ::
        ⟨some 5, .mov (.val (.int .i64 10)), none⟩ :: [])) <|
      .ret) <|
    .skip)) <|
  .seq (.region (⟨some 6, .mov (.val .nils), none⟩ :: [])) <|
  .seq (.seq (.region (⟨some 27, .faddr 1 (.tmp 2), none⟩ ::
    ⟨some 28, .load false 1 (.tmp 27), none⟩ ::
    ⟨some 29, .len false (.tmp 28), none⟩ ::
    ⟨some 30, .mov (.val (.int .i64 0)), none⟩ :: [])) <|
  .block 1 (.loop (.seq (.region (⟨some 31, .bin .lss (.tmp 30) (.tmp 29), none⟩ :: [])) <|
      .seq (.cond (.tmp 31) (.skip) <|
      .exit 1) <|
      .seq (.block 2 (.seq (.region (⟨some 32, .iaddr 1 (.tmp 28) (.tmp 30), none⟩ ::
          ⟨some 33, .load false 1 (.tmp 32), none⟩ ::
          ⟨some 8, .mov (.tmp 33), none⟩ :: [])) <|
        .seq (.region (⟨some 35, .mov (.tmp 1), none⟩ ::
          ⟨some 36, .mov (.tmp 8), none⟩ ::
          ⟨some 37, .iaddr 1 (.tmp 35) (.tmp 36), none⟩ ::
          ⟨some 38, .load false 1 (.tmp 37), none⟩ ::
          ⟨some 39, .call (.val (.fn (.func 61) [])) [(.tmp 38)], none⟩ ::
          ⟨some 34, .mov (.tmp 39), none⟩ ::
          ⟨some 40, .ext (.tmp 34) 0, none⟩ ::
          ⟨some 41, .ext (.tmp 34) 1, none⟩ ::
          ⟨some 9, .alloc (.agg [(.int .i64 0), (.int .i64 0)]), none⟩ ::
          ⟨none, .store 2 (.tmp 9) (.tmp 40), none⟩ ::
          ⟨some 10, .mov (.tmp 41), none⟩ :: [])) <|
        .region (⟨some 42, .mov (.tmp 6), none⟩ ::
          ⟨some 43, .load true 2 (.tmp 9), none⟩ ::
          ⟨some 44, .bslice 2 [(.tmp 43)], none⟩ ::
          ⟨some 45, .app 2 16 (.tmp 42) (.tmp 44), none⟩ ::
          ⟨some 6, .mov (.tmp 45), none⟩ :: []))) <|
      .region (⟨some 46, .bin .add (.tmp 30) (.val (.int .i64 1)), none⟩ ::
        ⟨some 30, .mov (.tmp 46), none⟩ :: [])))) <|
  .seq (.seq (.region (⟨some 47, .mov (.tmp 6), none⟩ ::
    ⟨some 48, .callv (.val (.fn (.func 38) [])) [(.tmp 47)], none⟩ ::
    ⟨some 49, .un .not (.tmp 48), none⟩ :: [])) <|
  .cond (.tmp 49) (.seq (.region (⟨some 4, .mov (.val .nils), none⟩ ::
      ⟨some 5, .mov (.val (.int .i64 12)), none⟩ :: [])) <|
    .ret) <|
  .skip) <|
  .seq (.region (⟨some 50, .mov (.tmp 1), none⟩ ::
    ⟨some 51, .callo (.val (.fn (.func 41) [])) [(.tmp 50)], none⟩ ::
    ⟨some 11, .mov (.tmp 51), none⟩ :: [])) <|
  .seq (.seq (.region (⟨some 52, .faddr 1 (.tmp 2), none⟩ ::
    ⟨some 53, .load false 1 (.tmp 52), none⟩ ::
    ⟨some 54, .len false (.tmp 53), none⟩ ::
    ⟨some 55, .mov (.val (.int .i64 0)), none⟩ :: [])) <|
  .block 3 (.loop (.seq (.region (⟨some 56, .bin .lss (.tmp 55) (.tmp 54), none⟩ :: [])) <|
      .seq (.cond (.tmp 56) (.skip) <|
      .exit 3) <|
      .seq (.block 4 (.seq (.region (⟨some 57, .mov (.tmp 55), none⟩ ::
          ⟨some 58, .iaddr 1 (.tmp 53) (.tmp 55), none⟩ ::
          ⟨some 59, .load false 1 (.tmp 58), none⟩ ::
          ⟨some 12, .mov (.tmp 57), none⟩ ::
          ⟨some 13, .mov (.tmp 59), none⟩ :: [])) <|
        .seq (.region (⟨some 60, .mov (.tmp 6), none⟩ ::
          ⟨some 61, .mov (.tmp 12), none⟩ ::
          ⟨some 62, .iaddr 2 (.tmp 60) (.tmp 61), none⟩ ::
          ⟨some 63, .load true 2 (.tmp 62), none⟩ ::
          ⟨some 64, .mov (.tmp 6), none⟩ ::
          ⟨some 65, .mov (.tmp 12), none⟩ ::
          ⟨some 66, .call (.val (.fn (.func 63) [])) [(.tmp 64), (.tmp 65)], none⟩ ::
          ⟨some 67, .call (.val (.fn (.func 62) [])) [(.tmp 63), (.tmp 66)], none⟩ ::
          ⟨some 14, .alloc (.agg [(.int .i64 0), (.int .i64 0)]), none⟩ ::
          ⟨none, .store 2 (.tmp 14) (.tmp 67), none⟩ :: [])) <|
        .region (⟨some 68, .mov (.tmp 11), none⟩ ::
          ⟨some 69, .mov (.tmp 13), none⟩ ::
          ⟨some 70, .mov (.tmp 11), none⟩ ::
          ⟨some 71, .mov (.tmp 13), none⟩ ::
          ⟨some 72, .iaddr 1 (.tmp 70) (.tmp 71), none⟩ ::
          ⟨some 73, .load false 1 (.tmp 72), none⟩ ::
          ⟨some 74, .faddr 0 (.tmp 14), none⟩ ::
          ⟨some 75, .load false 1 (.tmp 74), none⟩ ::
          ⟨some 76, .faddr 1 (.tmp 14), none⟩ ::
          ⟨some 77, .load false 1 (.tmp 76), none⟩ ::
          ⟨some 78, .call (.val (.fn (.func 64) [])) [(.tmp 73), (.tmp 75), (.tmp 77)], none⟩ ::
          ⟨some 79, .iaddr 1 (.tmp 68) (.tmp 69), none⟩ ::
          ⟨none, .store 1 (.tmp 79) (.tmp 78), none⟩ :: []))) <|
      .region (⟨some 80, .bin .add (.tmp 55) (.val (.int .i64 1)), none⟩ ::
        ⟨some 55, .mov (.tmp 80), none⟩ :: [])))) <|
  .seq (.seq (.region (⟨some 81, .mov (.tmp 11), none⟩ ::
    ⟨some 82, .len false (.tmp 81), none⟩ ::
    ⟨some 83, .mov (.val (.int .i64 0)), none⟩ :: [])) <|
  .block 5 (.loop (.seq (.region (⟨some 84, .bin .lss (.tmp 83) (.tmp 82), none⟩ :: [])) <|
      .seq (.cond (.tmp 84) (.skip) <|
      .exit 5) <|
      .seq (.block 6 (.seq (.region (⟨some 85, .mov (.tmp 83), none⟩ ::
          ⟨some 15, .mov (.tmp 85), none⟩ :: [])) <|
        .seq (.seq (.region (⟨some 86, .mov (.tmp 11), none⟩ ::
          ⟨some 87, .mov (.tmp 15), none⟩ ::
          ⟨some 88, .iaddr 1 (.tmp 86) (.tmp 87), none⟩ ::
          ⟨some 89, .load false 1 (.tmp 88), none⟩ ::
          ⟨some 90, .len false (.tmp 89), none⟩ ::
          ⟨some 91, .bin .eql (.tmp 90) (.val (.int .i64 0)), none⟩ :: [])) <|
        .cond (.tmp 91) (.seq (.region (⟨some 4, .mov (.val .nils), none⟩ ::
            ⟨some 5, .mov (.val (.int .i64 12)), none⟩ :: [])) <|
          .ret) <|
        .skip) <|
        .region (⟨some 92, .mov (.tmp 11), none⟩ ::
          ⟨some 93, .mov (.tmp 15), none⟩ ::
          ⟨some 94, .mov (.tmp 11), none⟩ ::
          ⟨some 95, .mov (.tmp 15), none⟩ ::
          ⟨some 96, .iaddr 1 (.tmp 94) (.tmp 95), none⟩ ::
          ⟨some 97, .load false 1 (.tmp 96), none⟩ ::
          ⟨some 98, .call (.val (.fn (.func 45) [])) [(.tmp 97)], none⟩ ::
          ⟨some 99, .iaddr 1 (.tmp 92) (.tmp 93), none⟩ ::
          ⟨none, .store 1 (.tmp 99) (.tmp 98), none⟩ :: []))) <|
      .region (⟨some 100, .bin .add (.tmp 83) (.val (.int .i64 1)), none⟩ ::
        ⟨some 83, .mov (.tmp 100), none⟩ :: [])))) <|
  .seq (.region (⟨some 101, .mov (.tmp 11), none⟩ ::
    ⟨some 4, .mov (.tmp 101), none⟩ ::
    ⟨some 5, .mov (.val (.int .i64 0)), none⟩ :: [])) <|
  .ret⟩
theorem e_hall_Narrow : cFunc Try.prog kd_CHallN Try.f31 = some c_hall_Narrow := by kernel_rfl
end Go.Proofs.Ytonkcemcledhiaa
