/- The code of functions, as abstract code. Printed by program. -/
import Derived.Test.YtbhigfllanblpaaAv2
import Derived.Test.YtbhigfllanblpaaProg
namespace Go.Proofs.Ytbhigfllanblpaa
open Av
set_option linter.unusedVariables false
set_option maxRecDepth 100000
def kd_CRef13 (f : Nat) : Nat := 0
/- touchstone/touchstoneref13.lose: slots d, 0, x, 1, v, 2, d, 3, x, 4, v, 5, out, 8 -/
def c_ref13_lose : AFunc := ⟨22, [.tmp 6, .tmp 7],
  .seq (.region (⟨some 6, .mov (.val .nils), none⟩ ::
    ⟨some 7, .mov (.val (.bool false)), none⟩ :: [])) <|
  .seq (.region (⟨some 9, .mov (.tmp 0), none⟩ ::
    ⟨some 10, .mov (.tmp 1), none⟩ ::
    ⟨some 11, .mov (.tmp 0), none⟩ ::
    ⟨some 12, .mov (.tmp 1), none⟩ ::
    ⟨some 13, .iaddr 1 (.tmp 11) (.tmp 12), none⟩ ::
    ⟨some 14, .load false 1 (.tmp 13), none⟩ ::
    ⟨some 15, .mov (.tmp 2), none⟩ ::
    ⟨some 16, .call (.val (.fn (.func 150) [])) [(.tmp 14), (.tmp 15)], none⟩ ::
    ⟨some 17, .call (.val (.fn (.func 148) [])) [(.tmp 9), (.tmp 10), (.tmp 16)], none⟩ ::
    ⟨some 8, .mov (.tmp 17), none⟩ :: [])) <|
  .seq (.region (⟨some 18, .mov (.tmp 8), none⟩ ::
    ⟨some 19, .mov (.tmp 8), none⟩ ::
    ⟨some 20, .call (.val (.fn (.func 149) [])) [(.tmp 19)], none⟩ ::
    ⟨some 21, .un .not (.tmp 20), none⟩ ::
    ⟨some 6, .mov (.tmp 18), none⟩ ::
    ⟨some 7, .mov (.tmp 21), none⟩ :: [])) <|
  .ret⟩
theorem e_ref13_lose : cFunc Try.prog kd_CRef13 Try.f108 = some c_ref13_lose := by kernel_rfl
/- touchstone/touchstoneref13.narrow: slots c, 0, d, 1, c, 2, d, 3, k, 6, f, 7, x, 8, m, 9, most, 10, one, 11, nought, 12 -/
def c_ref13_narrow : AFunc := ⟨170, [.tmp 4, .tmp 5],
  .seq (.region (⟨some 2, .box 4 (.tmp 0), none⟩ ::
    ⟨some 4, .mov (.val .nils), none⟩ ::
    ⟨some 5, .mov (.val (.bool false)), none⟩ :: [])) <|
  .seq (.region (⟨some 13, .faddr 1 (.tmp 2), none⟩ ::
    ⟨some 14, .load false 1 (.tmp 13), none⟩ ::
    ⟨some 15, .len false (.tmp 14), none⟩ ::
    ⟨some 16, .bin .sub (.tmp 15) (.val (.int .i64 1)), none⟩ ::
    ⟨some 6, .mov (.tmp 16), none⟩ :: [])) <|
  .seq (.region (⟨some 17, .faddr 1 (.tmp 2), none⟩ ::
    ⟨some 18, .load false 1 (.tmp 17), none⟩ ::
    ⟨some 19, .mov (.tmp 6), none⟩ ::
    ⟨some 20, .iaddr 1 (.tmp 18) (.tmp 19), none⟩ ::
    ⟨some 21, .load false 1 (.tmp 20), none⟩ ::
    ⟨some 22, .faddr 1 (.tmp 2), none⟩ ::
    ⟨some 23, .load false 1 (.tmp 22), none⟩ ::
    ⟨some 24, .mov (.tmp 6), none⟩ ::
    ⟨some 25, .slc 1 (.tmp 23) none (some (.tmp 24)), none⟩ ::
    ⟨some 7, .mov (.tmp 21), none⟩ ::
    ⟨some 8, .mov (.tmp 25), none⟩ :: [])) <|
  .seq (.region (⟨some 26, .faddr 2 (.tmp 2), none⟩ ::
    ⟨some 27, .load false 1 (.tmp 26), none⟩ ::
    ⟨some 28, .mov (.tmp 8), none⟩ ::
    ⟨some 29, .mov (.tmp 1), none⟩ ::
    ⟨some 30, .call (.val (.fn (.func 103) [])) [(.tmp 27), (.tmp 28), (.tmp 29)], none⟩ ::
    ⟨some 9, .mov (.tmp 30), none⟩ :: [])) <|
  .seq (.region (⟨some 31, .faddr 2 (.tmp 2), none⟩ ::
    ⟨some 32, .load false 1 (.tmp 31), none⟩ ::
    ⟨some 33, .call (.val (.fn (.func 104) [])) [(.tmp 32)], none⟩ ::
    ⟨some 34, .mov (.tmp 8), none⟩ ::
    ⟨some 35, .mov (.tmp 1), none⟩ ::
    ⟨some 36, .call (.val (.fn (.func 103) [])) [(.tmp 33), (.tmp 34), (.tmp 35)], none⟩ ::
    ⟨some 37, .un .neg (.tmp 36), none⟩ ::
    ⟨some 10, .mov (.tmp 37), none⟩ :: [])) <|
  .seq (.region (⟨some 38, .mov (.tmp 1), none⟩ ::
    ⟨some 39, .mov (.tmp 7), none⟩ ::
    ⟨some 40, .iaddr 1 (.tmp 38) (.tmp 39), none⟩ ::
    ⟨some 41, .load false 1 (.tmp 40), none⟩ ::
    ⟨some 42, .call (.val (.fn (.func 26) [])) [(.tmp 41)], none⟩ ::
    ⟨some 43, .bin .eql (.tmp 42) (.val (.int .i64 1)), none⟩ ::
    ⟨some 11, .mov (.tmp 43), none⟩ :: [])) <|
  .seq (.region (⟨some 44, .mov (.tmp 1), none⟩ ::
    ⟨some 45, .mov (.tmp 7), none⟩ ::
    ⟨some 46, .iaddr 1 (.tmp 44) (.tmp 45), none⟩ ::
    ⟨some 47, .load false 1 (.tmp 46), none⟩ ::
    ⟨some 48, .call (.val (.fn (.func 74) [])) [(.tmp 47)], none⟩ ::
    ⟨some 49, .bin .eql (.tmp 48) (.val (.int .i64 0)), none⟩ ::
    ⟨some 12, .mov (.tmp 49), none⟩ :: [])) <|
  .seq (.block 0 (.seq (.region (⟨some 51, .mov (.tmp 11), none⟩ ::
      ⟨some 52, .mov (.tmp 51), none⟩ ::
      ⟨some 53, .faddr 0 (.tmp 2), some (52, true)⟩ ::
      ⟨some 54, .load false 1 (.tmp 53), some (52, true)⟩ ::
      ⟨some 55, .bin .eql (.tmp 54) (.val (.int .i64 4)), some (52, true)⟩ ::
      ⟨some 56, .pick (.tmp 52) (.tmp 55) (.val (.bool false)), none⟩ ::
      ⟨some 50, .mov (.tmp 56), none⟩ :: [])) <|
    .cond (.tmp 50) (.seq (.region (⟨some 57, .faddr 2 (.tmp 2), none⟩ ::
        ⟨some 58, .load false 1 (.tmp 57), none⟩ ::
        ⟨some 59, .mov (.tmp 8), none⟩ ::
        ⟨some 60, .faddr 3 (.tmp 2), none⟩ ::
        ⟨some 61, .load false 1 (.tmp 60), none⟩ ::
        ⟨some 62, .mov (.tmp 1), none⟩ ::
        ⟨some 63, .call (.val (.fn (.func 105) [])) [(.tmp 58), (.tmp 59), (.tmp 61), (.tmp 62)], none⟩ ::
        ⟨some 64, .ext (.tmp 63) 0, none⟩ ::
        ⟨some 65, .ext (.tmp 63) 1, none⟩ ::
        ⟨some 4, .mov (.tmp 64), none⟩ ::
        ⟨some 5, .mov (.tmp 65), none⟩ :: [])) <|
      .ret) <|
    .seq (.region (⟨some 67, .mov (.tmp 11), none⟩ ::
      ⟨some 66, .mov (.tmp 67), none⟩ :: [])) <|
    .cond (.tmp 66) (.seq (.region (⟨some 68, .faddr 2 (.tmp 2), none⟩ ::
        ⟨some 69, .load false 1 (.tmp 68), none⟩ ::
        ⟨some 70, .mov (.tmp 8), none⟩ ::
        ⟨some 71, .faddr 3 (.tmp 2), none⟩ ::
        ⟨some 72, .load false 1 (.tmp 71), none⟩ ::
        ⟨some 73, .mov (.tmp 1), none⟩ ::
        ⟨some 74, .call (.val (.fn (.func 106) [])) [(.tmp 69), (.tmp 70), (.tmp 72), (.tmp 73)], none⟩ ::
        ⟨some 75, .ext (.tmp 74) 0, none⟩ ::
        ⟨some 76, .ext (.tmp 74) 1, none⟩ ::
        ⟨some 4, .mov (.tmp 75), none⟩ ::
        ⟨some 5, .mov (.tmp 76), none⟩ :: [])) <|
      .ret) <|
    .seq (.region (⟨some 78, .mov (.tmp 12), none⟩ ::
      ⟨some 79, .mov (.tmp 78), none⟩ ::
      ⟨some 80, .faddr 0 (.tmp 2), some (79, true)⟩ ::
      ⟨some 81, .load false 1 (.tmp 80), some (79, true)⟩ ::
      ⟨some 82, .bin .eql (.tmp 81) (.val (.int .i64 4)), some (79, true)⟩ ::
      ⟨some 83, .pick (.tmp 79) (.tmp 82) (.val (.bool false)), none⟩ ::
      ⟨some 77, .mov (.tmp 83), none⟩ :: [])) <|
    .cond (.tmp 77) (.seq (.region (⟨some 84, .faddr 2 (.tmp 2), none⟩ ::
        ⟨some 85, .load false 1 (.tmp 84), none⟩ ::
        ⟨some 86, .mov (.tmp 8), none⟩ ::
        ⟨some 87, .faddr 3 (.tmp 2), none⟩ ::
        ⟨some 88, .load false 1 (.tmp 87), none⟩ ::
        ⟨some 89, .mov (.tmp 1), none⟩ ::
        ⟨some 90, .call (.val (.fn (.func 107) [])) [(.tmp 85), (.tmp 86), (.tmp 88), (.tmp 89)], none⟩ ::
        ⟨some 91, .ext (.tmp 90) 0, none⟩ ::
        ⟨some 92, .ext (.tmp 90) 1, none⟩ ::
        ⟨some 4, .mov (.tmp 91), none⟩ ::
        ⟨some 5, .mov (.tmp 92), none⟩ :: [])) <|
      .ret) <|
    .seq (.region (⟨some 94, .mov (.tmp 12), none⟩ ::
      ⟨some 95, .mov (.tmp 94), none⟩ ::
      ⟨some 96, .faddr 0 (.tmp 2), some (95, true)⟩ ::
      ⟨some 97, .load false 1 (.tmp 96), some (95, true)⟩ ::
      ⟨some 98, .bin .eql (.tmp 97) (.val (.int .i64 5)), some (95, true)⟩ ::
      ⟨some 99, .pick (.tmp 95) (.tmp 98) (.val (.bool false)), none⟩ ::
      ⟨some 93, .mov (.tmp 99), none⟩ :: [])) <|
    .cond (.tmp 93) (.seq (.region (⟨some 100, .faddr 2 (.tmp 2), none⟩ ::
        ⟨some 101, .load false 1 (.tmp 100), none⟩ ::
        ⟨some 102, .call (.val (.fn (.func 104) [])) [(.tmp 101)], none⟩ ::
        ⟨some 103, .mov (.tmp 8), none⟩ ::
        ⟨some 104, .faddr 3 (.tmp 2), none⟩ ::
        ⟨some 105, .load false 1 (.tmp 104), none⟩ ::
        ⟨some 106, .un .neg (.tmp 105), none⟩ ::
        ⟨some 107, .bin .sub (.tmp 106) (.val (.int .i64 1)), none⟩ ::
        ⟨some 108, .mov (.tmp 1), none⟩ ::
        ⟨some 109, .call (.val (.fn (.func 106) [])) [(.tmp 102), (.tmp 103), (.tmp 107), (.tmp 108)], none⟩ ::
        ⟨some 110, .ext (.tmp 109) 0, none⟩ ::
        ⟨some 111, .ext (.tmp 109) 1, none⟩ ::
        ⟨some 4, .mov (.tmp 110), none⟩ ::
        ⟨some 5, .mov (.tmp 111), none⟩ :: [])) <|
      .ret) <|
    .seq (.region (⟨some 113, .faddr 0 (.tmp 2), none⟩ ::
      ⟨some 114, .load false 1 (.tmp 113), none⟩ ::
      ⟨some 115, .bin .eql (.tmp 114) (.val (.int .i64 5)), none⟩ ::
      ⟨some 116, .mov (.tmp 115), none⟩ ::
      ⟨some 117, .mov (.tmp 10), some (116, true)⟩ ::
      ⟨some 118, .faddr 3 (.tmp 2), some (116, true)⟩ ::
      ⟨some 119, .load false 1 (.tmp 118), some (116, true)⟩ ::
      ⟨some 120, .bin .leq (.tmp 117) (.tmp 119), some (116, true)⟩ ::
      ⟨some 121, .pick (.tmp 116) (.tmp 120) (.val (.bool false)), none⟩ ::
      ⟨some 112, .mov (.tmp 121), none⟩ :: [])) <|
    .cond (.tmp 112) (.seq (.region (⟨some 122, .mov (.tmp 1), none⟩ ::
        ⟨some 123, .mov (.tmp 7), none⟩ ::
        ⟨some 124, .call (.val (.fn (.func 108) [])) [(.tmp 122), (.tmp 123), (.val (.int .i64 0))], none⟩ ::
        ⟨some 125, .ext (.tmp 124) 0, none⟩ ::
        ⟨some 126, .ext (.tmp 124) 1, none⟩ ::
        ⟨some 4, .mov (.tmp 125), none⟩ ::
        ⟨some 5, .mov (.tmp 126), none⟩ :: [])) <|
      .ret) <|
    .seq (.region (⟨some 128, .faddr 0 (.tmp 2), none⟩ ::
      ⟨some 129, .load false 1 (.tmp 128), none⟩ ::
      ⟨some 130, .bin .eql (.tmp 129) (.val (.int .i64 4)), none⟩ ::
      ⟨some 131, .mov (.tmp 130), none⟩ ::
      ⟨some 132, .mov (.tmp 9), some (131, true)⟩ ::
      ⟨some 133, .faddr 3 (.tmp 2), some (131, true)⟩ ::
      ⟨some 134, .load false 1 (.tmp 133), some (131, true)⟩ ::
      ⟨some 135, .bin .eql (.tmp 132) (.tmp 134), some (131, true)⟩ ::
      ⟨some 136, .pick (.tmp 131) (.tmp 135) (.val (.bool false)), none⟩ ::
      ⟨some 137, .mov (.tmp 136), none⟩ ::
      ⟨some 138, .mov (.tmp 10), some (137, true)⟩ ::
      ⟨some 139, .faddr 3 (.tmp 2), some (137, true)⟩ ::
      ⟨some 140, .load false 1 (.tmp 139), some (137, true)⟩ ::
      ⟨some 141, .bin .eql (.tmp 138) (.tmp 140), some (137, true)⟩ ::
      ⟨some 142, .pick (.tmp 137) (.tmp 141) (.val (.bool false)), none⟩ ::
      ⟨some 127, .mov (.tmp 142), none⟩ :: [])) <|
    .cond (.tmp 127) (.seq (.region (⟨some 143, .mov (.tmp 1), none⟩ ::
        ⟨some 144, .mov (.tmp 7), none⟩ ::
        ⟨some 145, .call (.val (.fn (.func 108) [])) [(.tmp 143), (.tmp 144), (.val (.int .i64 0))], none⟩ ::
        ⟨some 146, .ext (.tmp 145) 0, none⟩ ::
        ⟨some 147, .ext (.tmp 145) 1, none⟩ ::
        ⟨some 4, .mov (.tmp 146), none⟩ ::
        ⟨some 5, .mov (.tmp 147), none⟩ :: [])) <|
      .ret) <|
    .seq (.region (⟨some 149, .mov (.tmp 9), none⟩ ::
      ⟨some 150, .faddr 3 (.tmp 2), none⟩ ::
      ⟨some 151, .load false 1 (.tmp 150), none⟩ ::
      ⟨some 152, .bin .gtr (.tmp 149) (.tmp 151), none⟩ ::
      ⟨some 153, .mov (.tmp 152), none⟩ ::
      ⟨some 154, .faddr 0 (.tmp 2), some (153, false)⟩ ::
      ⟨some 155, .load false 1 (.tmp 154), some (153, false)⟩ ::
      ⟨some 156, .bin .eql (.tmp 155) (.val (.int .i64 4)), some (153, false)⟩ ::
      ⟨some 157, .mov (.tmp 156), some (153, false)⟩ ::
      ⟨some 158, .mov (.tmp 10), some (157, true)⟩ ::
      ⟨some 159, .faddr 3 (.tmp 2), some (157, true)⟩ ::
      ⟨some 160, .load false 1 (.tmp 159), some (157, true)⟩ ::
      ⟨some 161, .bin .lss (.tmp 158) (.tmp 160), some (157, true)⟩ ::
      ⟨some 162, .pick (.tmp 157) (.tmp 161) (.val (.bool false)), some (153, false)⟩ ::
      ⟨some 163, .pick (.tmp 153) (.val (.bool true)) (.tmp 162), none⟩ ::
      ⟨some 148, .mov (.tmp 163), none⟩ :: [])) <|
    .cond (.tmp 148) (.seq (.region (⟨some 164, .mov (.tmp 1), none⟩ ::
        ⟨some 165, .mov (.tmp 7), none⟩ ::
        ⟨some 166, .call (.val (.fn (.func 108) [])) [(.tmp 164), (.tmp 165), (.val (.int .i64 1))], none⟩ ::
        ⟨some 167, .ext (.tmp 166) 0, none⟩ ::
        ⟨some 168, .ext (.tmp 166) 1, none⟩ ::
        ⟨some 4, .mov (.tmp 167), none⟩ ::
        ⟨some 5, .mov (.tmp 168), none⟩ :: [])) <|
      .ret) <|
    .skip)) <|
  .seq (.region (⟨some 169, .mov (.tmp 1), none⟩ ::
    ⟨some 4, .mov (.tmp 169), none⟩ ::
    ⟨some 5, .mov (.val (.bool true)), none⟩ :: [])) <|
  .ret⟩
theorem e_ref13_narrow : cFunc Try.prog kd_CRef13 Try.f60 = some c_ref13_narrow := by kernel_rfl
/- touchstone/touchstoneref13.Narrow: slots c, 0, d, 1, c, 2, d, 3, out, 6, ok, 7 -/
def c_ref13_Narrow : AFunc := ⟨29, [.tmp 4, .tmp 5],
  .seq (.region (⟨some 2, .box 4 (.tmp 0), none⟩ ::
    ⟨some 4, .mov (.val .nils), none⟩ ::
    ⟨some 5, .mov (.val (.int .i64 0)), none⟩ :: [])) <|
  .seq (.seq (.region (⟨some 8, .load true 4 (.tmp 2), none⟩ ::
    ⟨some 9, .mov (.tmp 1), none⟩ ::
    ⟨some 10, .call (.val (.fn (.func 23) [])) [(.tmp 8), (.tmp 9)], none⟩ ::
    ⟨some 11, .un .not (.tmp 10), none⟩ :: [])) <|
  .cond (.tmp 11) (.seq (.region (⟨some 4, .mov (.val .nils), none⟩ ::
      ⟨some 5, .mov (.val (.int .i64 2)), none⟩ :: [])) <|
    .ret) <|
  .skip) <|
  .seq (.seq (.region (⟨some 12, .faddr 0 (.tmp 2), none⟩ ::
    ⟨some 13, .load false 1 (.tmp 12), none⟩ ::
    ⟨some 14, .bin .lss (.tmp 13) (.val (.int .i64 4)), none⟩ ::
    ⟨some 15, .mov (.tmp 14), none⟩ ::
    ⟨some 16, .faddr 0 (.tmp 2), some (15, false)⟩ ::
    ⟨some 17, .load false 1 (.tmp 16), some (15, false)⟩ ::
    ⟨some 18, .bin .gtr (.tmp 17) (.val (.int .i64 6)), some (15, false)⟩ ::
    ⟨some 19, .pick (.tmp 15) (.val (.bool true)) (.tmp 18), none⟩ :: [])) <|
  .cond (.tmp 19) (.seq (.region (⟨some 4, .mov (.val .nils), none⟩ ::
      ⟨some 5, .mov (.val (.int .i64 10)), none⟩ :: [])) <|
    .ret) <|
  .skip) <|
  .seq (.region (⟨some 21, .load true 4 (.tmp 2), none⟩ ::
    ⟨some 22, .mov (.tmp 1), none⟩ ::
    ⟨some 23, .call (.val (.fn (.func 60) [])) [(.tmp 21), (.tmp 22)], none⟩ ::
    ⟨some 20, .mov (.tmp 23), none⟩ ::
    ⟨some 24, .ext (.tmp 20) 0, none⟩ ::
    ⟨some 25, .ext (.tmp 20) 1, none⟩ ::
    ⟨some 6, .mov (.tmp 24), none⟩ ::
    ⟨some 7, .mov (.tmp 25), none⟩ :: [])) <|
  .seq (.seq (.region (⟨some 26, .mov (.tmp 7), none⟩ ::
    ⟨some 27, .un .not (.tmp 26), none⟩ :: [])) <|
  .cond (.tmp 27) (.seq (.region (⟨some 4, .mov (.val .nils), none⟩ ::
      ⟨some 5, .mov (.val (.int .i64 12)), none⟩ :: [])) <|
    .ret) <|
  .skip) <|
  .seq (.region (⟨some 28, .mov (.tmp 6), none⟩ ::
    ⟨some 4, .mov (.tmp 28), none⟩ ::
    ⟨some 5, .mov (.val (.int .i64 0)), none⟩ :: [])) <|
  .ret⟩
theorem e_ref13_Narrow : cFunc Try.prog kd_CRef13 Try.f29 = some c_ref13_Narrow := by kernel_rfl
end Go.Proofs.Ytbhigfllanblpaa
