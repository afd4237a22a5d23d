/- The code of functions, as abstract code. Printed by program. -/
import Derived.Test.YtonkcemcledhiaaAv2
import Derived.Test.YtonkcemcledhiaaProg
namespace Go.Proofs.Ytonkcemcledhiaa
open Av
set_option linter.unusedVariables false
set_option maxRecDepth 100000
def kd_CLinearO (f : Nat) : Nat := if f = 23 then 3 else if f = 19 then 1 else if f = 18 then 1 else if f = 2000000 + 29 then 1 else 0
/- touchstone/touchstonelaw12.LinearOther: slots c, 0, d, 1, c, 2, d, 3, was, 5, x, 6, out, 7, e, 8, x, 9, mine, 10, _, 11, y, 12, i, 13 -/
def c_law12_LinearOther : AFunc := ⟨121, [.tmp 4],
  .seq (.region (⟨some 2, .box 4 (.tmp 0), none⟩ ::
    ⟨some 4, .mov (.val (.bool false)), none⟩ :: [])) <|
  .seq (.seq (.region (⟨some 14, .call (.val (.fn (.func 20) [])) [], none⟩ ::
    ⟨some 15, .un .not (.tmp 14), none⟩ :: [])) <|
  .cond (.tmp 15) (.seq (.region (⟨some 4, .mov (.val (.bool false)), none⟩ :: [])) <|
    .ret) <|
  .skip) <|
  .seq (.seq (.region (⟨some 16, .load true 4 (.tmp 2), none⟩ ::
    ⟨some 17, .mov (.tmp 1), none⟩ ::
    ⟨some 18, .call (.val (.fn (.func 21) [])) [(.tmp 16), (.tmp 17)], none⟩ ::
    ⟨some 19, .un .not (.tmp 18), none⟩ ::
    ⟨some 20, .mov (.tmp 19), none⟩ ::
    ⟨some 21, .faddr 0 (.tmp 2), some (20, false)⟩ ::
    ⟨some 22, .load false 1 (.tmp 21), some (20, false)⟩ ::
    ⟨some 23, .bin .lss (.tmp 22) (.val (.int .i64 1)), some (20, false)⟩ ::
    ⟨some 24, .pick (.tmp 20) (.val (.bool true)) (.tmp 23), none⟩ ::
    ⟨some 25, .mov (.tmp 24), none⟩ ::
    ⟨some 26, .faddr 0 (.tmp 2), some (25, false)⟩ ::
    ⟨some 27, .load false 1 (.tmp 26), some (25, false)⟩ ::
    ⟨some 28, .bin .gtr (.tmp 27) (.val (.int .i64 3)), some (25, false)⟩ ::
    ⟨some 29, .pick (.tmp 25) (.val (.bool true)) (.tmp 28), none⟩ ::
    ⟨some 30, .mov (.tmp 29), none⟩ ::
    ⟨some 31, .load true 4 (.tmp 2), some (30, false)⟩ ::
    ⟨some 32, .mov (.tmp 1), some (30, false)⟩ ::
    ⟨some 33, .call (.val (.fn (.func 22) [])) [(.tmp 31), (.tmp 32)], some (30, false)⟩ ::
    ⟨some 34, .un .not (.tmp 33), some (30, false)⟩ ::
    ⟨some 35, .pick (.tmp 30) (.val (.bool true)) (.tmp 34), none⟩ :: [])) <|
  .cond (.tmp 35) (.seq (.region (⟨some 4, .mov (.val (.bool true)), none⟩ :: [])) <|
    .ret) <|
  .skip) <|
  .seq (.region (⟨some 36, .mov (.tmp 1), none⟩ ::
    ⟨some 37, .len false (.tmp 36), none⟩ ::
    ⟨some 38, .mks 1 24 .nils (.tmp 37) (.tmp 37), none⟩ ::
    ⟨some 5, .mov (.tmp 38), none⟩ :: [])) <|
  .seq (.seq (.region (⟨some 39, .mov (.tmp 1), none⟩ ::
    ⟨some 40, .len false (.tmp 39), none⟩ ::
    ⟨some 41, .mov (.val (.int .i64 0)), none⟩ :: [])) <|
  .block 0 (.loop (.seq (.region (⟨some 42, .bin .lss (.tmp 41) (.tmp 40), none⟩ :: [])) <|
      .seq (.cond (.tmp 42) (.skip) <|
      .exit 0) <|
      .seq (.block 1 (.seq (.region (⟨some 43, .mov (.tmp 41), none⟩ ::
          ⟨some 6, .mov (.tmp 43), none⟩ :: [])) <|
        .region (⟨some 44, .mov (.tmp 5), none⟩ ::
          ⟨some 45, .mov (.tmp 6), none⟩ ::
          ⟨some 46, .mov (.tmp 1), none⟩ ::
          ⟨some 47, .mov (.tmp 6), none⟩ ::
          ⟨some 48, .iaddr 1 (.tmp 46) (.tmp 47), none⟩ ::
          ⟨some 49, .load false 1 (.tmp 48), none⟩ ::
          ⟨some 50, .appf 2 16 (.val .nils) (.tmp 49), none⟩ ::
          ⟨some 51, .iaddr 1 (.tmp 44) (.tmp 45), none⟩ ::
          ⟨none, .store 1 (.tmp 51) (.tmp 50), none⟩ :: []))) <|
      .region (⟨some 52, .bin .add (.tmp 41) (.val (.int .i64 1)), none⟩ ::
        ⟨some 41, .mov (.tmp 52), none⟩ :: [])))) <|
  .seq (.region (⟨some 54, .load true 4 (.tmp 2), none⟩ ::
    ⟨some 55, .mov (.tmp 1), none⟩ ::
    ⟨some 56, .callo (.val (.fn (.func 23) [])) [(.tmp 54), (.tmp 55)], none⟩ ::
    ⟨some 53, .mov (.tmp 56), none⟩ ::
    ⟨some 57, .ext (.tmp 53) 0, none⟩ ::
    ⟨some 58, .ext (.tmp 53) 1, none⟩ ::
    ⟨some 7, .mov (.tmp 57), none⟩ ::
    ⟨some 8, .mov (.tmp 58), none⟩ :: [])) <|
  .seq (.seq (.region (⟨some 59, .mov (.tmp 1), none⟩ ::
    ⟨some 60, .mov (.tmp 5), none⟩ ::
    ⟨some 61, .callv (.val (.fn (.func 18) [])) [(.tmp 59), (.tmp 60)], none⟩ ::
    ⟨some 62, .un .not (.tmp 61), none⟩ :: [])) <|
  .cond (.tmp 62) (.seq (.region (⟨some 4, .mov (.val (.bool false)), none⟩ :: [])) <|
    .ret) <|
  .skip) <|
  .seq (.seq (.region (⟨some 63, .mov (.tmp 8), none⟩ ::
    ⟨some 64, .bin .neq (.tmp 63) (.val (.int .i64 0)), none⟩ :: [])) <|
  .cond (.tmp 64) (.seq (.region (⟨some 65, .mov (.tmp 7), none⟩ ::
      ⟨some 66, .len false (.tmp 65), none⟩ ::
      ⟨some 67, .bin .eql (.tmp 66) (.val (.int .i64 0)), none⟩ ::
      ⟨some 4, .mov (.tmp 67), none⟩ :: [])) <|
    .ret) <|
  .skip) <|
  .seq (.seq (.region (⟨some 68, .mov (.tmp 7), none⟩ ::
    ⟨some 69, .len false (.tmp 68), none⟩ ::
    ⟨some 70, .mov (.val (.int .i64 0)), none⟩ :: [])) <|
  .block 2 (.loop (.seq (.region (⟨some 71, .bin .lss (.tmp 70) (.tmp 69), none⟩ :: [])) <|
      .seq (.cond (.tmp 71) (.skip) <|
      .exit 2) <|
      .seq (.block 3 (.seq (.region (⟨some 72, .mov (.tmp 70), none⟩ ::
          ⟨some 9, .mov (.tmp 72), none⟩ :: [])) <|
        .seq (.region (⟨some 10, .mov (.val (.bool false)), none⟩ :: [])) <|
        .seq (.seq (.region (⟨some 73, .faddr 1 (.tmp 2), none⟩ ::
          ⟨some 74, .load false 1 (.tmp 73), none⟩ ::
          ⟨some 75, .len false (.tmp 74), none⟩ ::
          ⟨some 76, .mov (.val (.int .i64 0)), none⟩ :: [])) <|
        .block 4 (.loop (.seq (.region (⟨some 77, .bin .lss (.tmp 76) (.tmp 75), none⟩ :: [])) <|
            .seq (.cond (.tmp 77) (.skip) <|
            .exit 4) <|
            .seq (.block 5 (.seq (.region (⟨some 78, .iaddr 1 (.tmp 74) (.tmp 76), none⟩ ::
                ⟨some 79, .load false 1 (.tmp 78), none⟩ ::
                ⟨some 12, .mov (.tmp 79), none⟩ :: [])) <|
              .region (⟨some 80, .mov (.tmp 10), none⟩ ::
                ⟨some 81, .mov (.tmp 80), none⟩ ::
                ⟨some 82, .mov (.tmp 9), some (81, false)⟩ ::
                ⟨some 83, .mov (.tmp 12), some (81, false)⟩ ::
                ⟨some 84, .bin .eql (.tmp 82) (.tmp 83), some (81, false)⟩ ::
                ⟨some 85, .pick (.tmp 81) (.val (.bool true)) (.tmp 84), none⟩ ::
                ⟨some 10, .mov (.tmp 85), none⟩ :: []))) <|
            .region (⟨some 86, .bin .add (.tmp 76) (.val (.int .i64 1)), none⟩ ::
              ⟨some 76, .mov (.tmp 86), none⟩ :: [])))) <|
        .seq (.seq (.region (⟨some 87, .mov (.tmp 10), none⟩ ::
          ⟨some 88, .un .not (.tmp 87), none⟩ ::
          ⟨some 89, .mov (.tmp 88), none⟩ ::
          ⟨some 90, .mov (.tmp 7), some (89, true)⟩ ::
          ⟨some 91, .mov (.tmp 9), some (89, true)⟩ ::
          ⟨some 92, .iaddr 1 (.tmp 90) (.tmp 91), some (89, true)⟩ ::
          ⟨some 93, .load false 1 (.tmp 92), some (89, true)⟩ ::
          ⟨some 94, .mov (.tmp 1), some (89, true)⟩ ::
          ⟨some 95, .mov (.tmp 9), some (89, true)⟩ ::
          ⟨some 96, .iaddr 1 (.tmp 94) (.tmp 95), some (89, true)⟩ ::
          ⟨some 97, .load false 1 (.tmp 96), some (89, true)⟩ ::
          ⟨some 98, .callv (.val (.fn (.func 19) [])) [(.tmp 93), (.tmp 97)], some (89, true)⟩ ::
          ⟨some 99, .un .not (.tmp 98), some (89, true)⟩ ::
          ⟨some 100, .pick (.tmp 89) (.tmp 99) (.val (.bool false)), none⟩ :: [])) <|
        .cond (.tmp 100) (.seq (.region (⟨some 4, .mov (.val (.bool false)), none⟩ :: [])) <|
          .ret) <|
        .skip) <|
        .seq (.region (⟨some 101, .mov (.tmp 7), none⟩ ::
          ⟨some 102, .mov (.tmp 9), none⟩ ::
          ⟨some 103, .iaddr 1 (.tmp 101) (.tmp 102), none⟩ ::
          ⟨some 104, .load false 1 (.tmp 103), none⟩ ::
          ⟨some 105, .len false (.tmp 104), none⟩ ::
          ⟨some 106, .mov (.val (.int .i64 0)), none⟩ :: [])) <|
        .block 6 (.loop (.seq (.region (⟨some 107, .bin .lss (.tmp 106) (.tmp 105), none⟩ :: [])) <|
            .seq (.cond (.tmp 107) (.skip) <|
            .exit 6) <|
            .seq (.block 7 (.seq (.region (⟨some 108, .mov (.tmp 106), none⟩ ::
                ⟨some 13, .mov (.tmp 108), none⟩ :: [])) <|
              .region (⟨some 109, .mov (.tmp 7), none⟩ ::
                ⟨some 110, .mov (.tmp 9), none⟩ ::
                ⟨some 111, .iaddr 1 (.tmp 109) (.tmp 110), none⟩ ::
                ⟨some 112, .load false 1 (.tmp 111), none⟩ ::
                ⟨some 113, .mov (.tmp 13), none⟩ ::
                ⟨some 114, .iaddr 2 (.tmp 112) (.tmp 113), none⟩ ::
                ⟨some 115, .faddr 0 (.tmp 114), none⟩ ::
                ⟨none, .store 1 (.tmp 115) (.val (.int .i64 77)), none⟩ :: []))) <|
            .region (⟨some 116, .bin .add (.tmp 106) (.val (.int .i64 1)), none⟩ ::
              ⟨some 106, .mov (.tmp 116), none⟩ :: []))))) <|
      .region (⟨some 117, .bin .add (.tmp 70) (.val (.int .i64 1)), none⟩ ::
        ⟨some 70, .mov (.tmp 117), none⟩ :: [])))) <|
  .seq (.region (⟨some 118, .mov (.tmp 1), none⟩ ::
    ⟨some 119, .mov (.tmp 5), none⟩ ::
    ⟨some 120, .callv (.val (.fn (.func 18) [])) [(.tmp 118), (.tmp 119)], none⟩ ::
    ⟨some 4, .mov (.tmp 120), none⟩ :: [])) <|
  .ret⟩
theorem e_law12_LinearOther : cFunc Try.prog kd_CLinearO Try.f4 = some c_law12_LinearOther := by kernel_rfl
end Go.Proofs.Ytonkcemcledhiaa
