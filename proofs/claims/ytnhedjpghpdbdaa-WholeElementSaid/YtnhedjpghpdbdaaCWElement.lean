/- The code of functions, as abstract code. Printed by program. -/
import Derived.Test.YtnhedjpghpdbdaaAv2
import Derived.Test.YtnhedjpghpdbdaaProg
namespace Go.Proofs.Ytnhedjpghpdbdaa
open Av
set_option linter.unusedVariables false
set_option maxRecDepth 100000
def kd_CWElement (f : Nat) : Nat := if f = 13 then 2 else if f = 1000000 + 22 then 1 else 0
/- touchstone/touchstonetop.WholeElement: slots c, 0, d, 1, c, 2, d, 3, two, 5, y, 6, e, 7, v, 8, all, 9, _, 10, a, 11, a, 12, b, 13, f, 14 -/
def c_top_WholeElement : AFunc := ⟨165, [.tmp 4],
  .seq (.region (⟨some 2, .box 4 (.tmp 0), none⟩ ::
    ⟨some 4, .mov (.val (.bool false)), none⟩ :: [])) <|
  .seq (.region (⟨some 15, .build [(.int .i64 0), (.int .i64 0)] [(0, 1, (.val (.int .i64 1))), (1, 1, (.val (.int .i64 2)))], none⟩ ::
    ⟨some 16, .bslice 2 [(.tmp 15)], none⟩ ::
    ⟨some 17, .build [(.int .i64 0), (.int .i64 0)] [(0, 1, (.val (.int .i64 7))), (1, 1, (.val (.int .i64 7)))], none⟩ ::
    ⟨some 18, .bslice 2 [(.tmp 17)], none⟩ ::
    ⟨some 19, .bslice 1 [(.tmp 16), (.tmp 18)], none⟩ ::
    ⟨some 5, .mov (.tmp 19), none⟩ :: [])) <|
  .seq (.region (⟨some 21, .bslm 1 [(.val (.int .i64 0)), (.val (.int .i64 1))], none⟩ ::
    ⟨some 22, .bslice 1 [(.val (.int .i64 5)), (.val (.int .i64 7))], none⟩ ::
    ⟨some 23, .build [(.int .i64 0), .nils, .nils, (.int .i64 0)] [(0, 1, (.val (.int .i64 16))), (1, 1, (.tmp 21)), (2, 1, (.tmp 22))], none⟩ ::
    ⟨some 24, .mov (.tmp 5), none⟩ ::
    ⟨some 25, .callm (.val (.fn (.func 13) [])) [(.tmp 23), (.tmp 24)], none⟩ ::
    ⟨some 20, .mov (.tmp 25), none⟩ ::
    ⟨some 26, .ext (.tmp 20) 0, none⟩ ::
    ⟨some 27, .ext (.tmp 20) 1, none⟩ ::
    ⟨some 6, .mov (.tmp 26), none⟩ ::
    ⟨some 7, .mov (.tmp 27), none⟩ :: [])) <|
  .seq (.seq (.region (⟨some 28, .mov (.tmp 7), none⟩ ::
    ⟨some 29, .bin .neq (.tmp 28) (.val (.int .i64 0)), none⟩ ::
    ⟨some 30, .mov (.tmp 29), none⟩ ::
    ⟨some 31, .mov (.tmp 6), some (30, false)⟩ ::
    ⟨some 32, .len false (.tmp 31), some (30, false)⟩ ::
    ⟨some 33, .bin .neq (.tmp 32) (.val (.int .i64 2)), some (30, false)⟩ ::
    ⟨some 34, .pick (.tmp 30) (.val (.bool true)) (.tmp 33), none⟩ ::
    ⟨some 35, .mov (.tmp 34), none⟩ ::
    ⟨some 36, .mov (.tmp 6), some (35, false)⟩ ::
    ⟨some 37, .iaddr 1 (.tmp 36) (.val (.int .i64 0)), some (35, false)⟩ ::
    ⟨some 38, .load false 1 (.tmp 37), some (35, false)⟩ ::
    ⟨some 39, .build [(.int .i64 0), (.int .i64 0)] [(0, 1, (.val (.int .i64 2))), (1, 1, (.val (.int .i64 2)))], some (35, false)⟩ ::
    ⟨some 40, .bslice 2 [(.tmp 39)], some (35, false)⟩ ::
    ⟨some 41, .call (.val (.fn (.func 14) [])) [(.tmp 38), (.tmp 40)], some (35, false)⟩ ::
    ⟨some 42, .un .not (.tmp 41), some (35, false)⟩ ::
    ⟨some 43, .pick (.tmp 35) (.val (.bool true)) (.tmp 42), none⟩ :: [])) <|
  .cond (.tmp 43) (.seq (.region (⟨some 4, .mov (.val (.bool false)), none⟩ :: [])) <|
    .ret) <|
  .skip) <|
  .seq (.seq (.region (⟨some 44, .faddr 0 (.tmp 2), none⟩ ::
    ⟨some 45, .load false 1 (.tmp 44), none⟩ ::
    ⟨some 46, .bin .neq (.tmp 45) (.val (.int .i64 16)), none⟩ ::
    ⟨some 47, .mov (.tmp 46), none⟩ ::
    ⟨some 48, .faddr 1 (.tmp 2), some (47, false)⟩ ::
    ⟨some 49, .load false 1 (.tmp 48), some (47, false)⟩ ::
    ⟨some 50, .len false (.tmp 49), some (47, false)⟩ ::
    ⟨some 51, .bin .neq (.tmp 50) (.val (.int .i64 2)), some (47, false)⟩ ::
    ⟨some 52, .pick (.tmp 47) (.val (.bool true)) (.tmp 51), none⟩ ::
    ⟨some 53, .mov (.tmp 52), none⟩ ::
    ⟨some 54, .faddr 1 (.tmp 2), some (53, false)⟩ ::
    ⟨some 55, .load false 1 (.tmp 54), some (53, false)⟩ ::
    ⟨some 56, .iaddr 1 (.tmp 55) (.val (.int .i64 0)), some (53, false)⟩ ::
    ⟨some 57, .load false 1 (.tmp 56), some (53, false)⟩ ::
    ⟨some 58, .faddr 1 (.tmp 2), some (53, false)⟩ ::
    ⟨some 59, .load false 1 (.tmp 58), some (53, false)⟩ ::
    ⟨some 60, .iaddr 1 (.tmp 59) (.val (.int .i64 1)), some (53, false)⟩ ::
    ⟨some 61, .load false 1 (.tmp 60), some (53, false)⟩ ::
    ⟨some 62, .bin .eql (.tmp 57) (.tmp 61), some (53, false)⟩ ::
    ⟨some 63, .pick (.tmp 53) (.val (.bool true)) (.tmp 62), none⟩ ::
    ⟨some 64, .mov (.tmp 63), none⟩ ::
    ⟨some 65, .load true 4 (.tmp 2), some (64, false)⟩ ::
    ⟨some 66, .mov (.tmp 1), some (64, false)⟩ ::
    ⟨some 67, .call (.val (.fn (.func 15) [])) [(.tmp 65), (.tmp 66)], some (64, false)⟩ ::
    ⟨some 68, .un .not (.tmp 67), some (64, false)⟩ ::
    ⟨some 69, .pick (.tmp 64) (.val (.bool true)) (.tmp 68), none⟩ ::
    ⟨some 70, .mov (.tmp 69), none⟩ ::
    ⟨some 71, .load true 4 (.tmp 2), some (70, false)⟩ ::
    ⟨some 72, .mov (.tmp 1), some (70, false)⟩ ::
    ⟨some 73, .call (.val (.fn (.func 16) [])) [(.tmp 71), (.tmp 72)], some (70, false)⟩ ::
    ⟨some 74, .un .not (.tmp 73), some (70, false)⟩ ::
    ⟨some 75, .pick (.tmp 70) (.val (.bool true)) (.tmp 74), none⟩ ::
    ⟨some 76, .mov (.tmp 75), none⟩ ::
    ⟨some 77, .faddr 2 (.tmp 2), some (76, false)⟩ ::
    ⟨some 78, .load false 1 (.tmp 77), some (76, false)⟩ ::
    ⟨some 79, .len false (.tmp 78), some (76, false)⟩ ::
    ⟨some 80, .bin .gtr (.tmp 79) (.val (.int .i64 30)), some (76, false)⟩ ::
    ⟨some 81, .pick (.tmp 76) (.val (.bool true)) (.tmp 80), none⟩ ::
    ⟨some 82, .mov (.tmp 81), none⟩ ::
    ⟨some 83, .mov (.tmp 1), some (82, false)⟩ ::
    ⟨some 84, .len false (.tmp 83), some (82, false)⟩ ::
    ⟨some 85, .faddr 2 (.tmp 2), some (82, false)⟩ ::
    ⟨some 86, .load false 1 (.tmp 85), some (82, false)⟩ ::
    ⟨some 87, .len false (.tmp 86), some (82, false)⟩ ::
    ⟨some 88, .bin .add (.tmp 84) (.tmp 87), some (82, false)⟩ ::
    ⟨some 89, .bin .gtr (.tmp 88) (.val (.int .i64 64)), some (82, false)⟩ ::
    ⟨some 90, .pick (.tmp 82) (.val (.bool true)) (.tmp 89), none⟩ :: [])) <|
  .cond (.tmp 90) (.seq (.region (⟨some 4, .mov (.val (.bool true)), none⟩ :: [])) <|
    .ret) <|
  .skip) <|
  .seq (.region (⟨some 91, .faddr 1 (.tmp 2), none⟩ ::
    ⟨some 92, .load false 1 (.tmp 91), none⟩ ::
    ⟨some 93, .iaddr 1 (.tmp 92) (.val (.int .i64 0)), none⟩ ::
    ⟨some 94, .load false 1 (.tmp 93), none⟩ ::
    ⟨some 95, .bslm 1 [(.tmp 94)], none⟩ ::
    ⟨some 96, .build [(.int .i64 0), .nils, .nils, (.int .i64 0)] [(0, 1, (.val (.int .i64 17))), (1, 1, (.tmp 95))], none⟩ ::
    ⟨some 8, .alloc (.agg [(.int .i64 0), .nils, .nils, (.int .i64 0)]), none⟩ ::
    ⟨none, .store 4 (.tmp 8) (.tmp 96), none⟩ :: [])) <|
  .seq (.region (⟨some 97, .mov (.tmp 1), none⟩ ::
    ⟨some 98, .app 1 24 (.val .nils) (.tmp 97), none⟩ ::
    ⟨some 9, .mov (.tmp 98), none⟩ :: [])) <|
  .seq (.seq (.region (⟨some 99, .faddr 2 (.tmp 2), none⟩ ::
    ⟨some 100, .load false 1 (.tmp 99), none⟩ ::
    ⟨some 101, .len false (.tmp 100), none⟩ ::
    ⟨some 102, .mov (.val (.int .i64 0)), none⟩ :: [])) <|
  .block 0 (.loop (.seq (.region (⟨some 103, .bin .lss (.tmp 102) (.tmp 101), none⟩ :: [])) <|
      .seq (.cond (.tmp 103) (.skip) <|
      .exit 0) <|
      .seq (.block 1 (.seq (.region (⟨some 104, .iaddr 1 (.tmp 100) (.tmp 102), none⟩ ::
          ⟨some 105, .load false 1 (.tmp 104), none⟩ ::
          ⟨some 11, .mov (.tmp 105), none⟩ :: [])) <|
        .seq (.region (⟨some 106, .faddr 1 (.tmp 8), none⟩ ::
          ⟨some 107, .load false 1 (.tmp 106), none⟩ ::
          ⟨some 108, .mov (.tmp 9), none⟩ ::
          ⟨some 109, .len false (.tmp 108), none⟩ ::
          ⟨some 110, .bslm 1 [(.tmp 109)], none⟩ ::
          ⟨some 111, .app 1 8 (.tmp 107) (.tmp 110), none⟩ ::
          ⟨some 112, .faddr 1 (.tmp 8), none⟩ ::
          ⟨none, .store 1 (.tmp 112) (.tmp 111), none⟩ :: [])) <|
        .region (⟨some 113, .mov (.tmp 9), none⟩ ::
          ⟨some 114, .mov (.tmp 11), none⟩ ::
          ⟨some 115, .mov (.tmp 11), none⟩ ::
          ⟨some 116, .build [(.int .i64 0), (.int .i64 0)] [(0, 1, (.tmp 114)), (1, 1, (.tmp 115))], none⟩ ::
          ⟨some 117, .bslice 2 [(.tmp 116)], none⟩ ::
          ⟨some 118, .bslice 1 [(.tmp 117)], none⟩ ::
          ⟨some 119, .app 1 24 (.tmp 113) (.tmp 118), none⟩ ::
          ⟨some 9, .mov (.tmp 119), none⟩ :: []))) <|
      .region (⟨some 120, .bin .add (.tmp 102) (.val (.int .i64 1)), none⟩ ::
        ⟨some 102, .mov (.tmp 120), none⟩ :: [])))) <|
  .seq (.region (⟨some 121, .faddr 1 (.tmp 8), none⟩ ::
    ⟨some 122, .load false 1 (.tmp 121), none⟩ ::
    ⟨some 123, .faddr 1 (.tmp 2), none⟩ ::
    ⟨some 124, .load false 1 (.tmp 123), none⟩ ::
    ⟨some 125, .iaddr 1 (.tmp 124) (.val (.int .i64 1)), none⟩ ::
    ⟨some 126, .load false 1 (.tmp 125), none⟩ ::
    ⟨some 127, .bslm 1 [(.tmp 126)], none⟩ ::
    ⟨some 128, .app 1 8 (.tmp 122) (.tmp 127), none⟩ ::
    ⟨some 129, .faddr 1 (.tmp 8), none⟩ ::
    ⟨none, .store 1 (.tmp 129) (.tmp 128), none⟩ :: [])) <|
  .seq (.region (⟨some 131, .load true 4 (.tmp 2), none⟩ ::
    ⟨some 132, .mov (.tmp 1), none⟩ ::
    ⟨some 133, .callm (.val (.fn (.func 13) [])) [(.tmp 131), (.tmp 132)], none⟩ ::
    ⟨some 130, .mov (.tmp 133), none⟩ ::
    ⟨some 134, .ext (.tmp 130) 0, none⟩ ::
    ⟨some 135, .ext (.tmp 130) 1, none⟩ ::
    ⟨some 12, .mov (.tmp 134), none⟩ ::
    ⟨some 7, .mov (.tmp 135), none⟩ :: [])) <|
  .seq (.region (⟨some 137, .load true 4 (.tmp 8), none⟩ ::
    ⟨some 138, .mov (.tmp 9), none⟩ ::
    ⟨some 139, .callm (.val (.fn (.func 13) [])) [(.tmp 137), (.tmp 138)], none⟩ ::
    ⟨some 136, .mov (.tmp 139), none⟩ ::
    ⟨some 140, .ext (.tmp 136) 0, none⟩ ::
    ⟨some 141, .ext (.tmp 136) 1, none⟩ ::
    ⟨some 13, .mov (.tmp 140), none⟩ ::
    ⟨some 14, .mov (.tmp 141), none⟩ :: [])) <|
  .seq (.seq (.region (⟨some 142, .mov (.tmp 7), none⟩ ::
    ⟨some 143, .mov (.tmp 14), none⟩ ::
    ⟨some 144, .bin .neq (.tmp 142) (.tmp 143), none⟩ ::
    ⟨some 145, .mov (.tmp 144), none⟩ ::
    ⟨some 146, .mov (.tmp 7), some (145, false)⟩ ::
    ⟨some 147, .bin .neq (.tmp 146) (.val (.int .i64 0)), some (145, false)⟩ ::
    ⟨some 148, .pick (.tmp 145) (.val (.bool true)) (.tmp 147), none⟩ :: [])) <|
  .cond (.tmp 148) (.seq (.region (⟨some 149, .mov (.tmp 7), none⟩ ::
      ⟨some 150, .mov (.tmp 14), none⟩ ::
      ⟨some 151, .bin .eql (.tmp 149) (.tmp 150), none⟩ ::
      ⟨some 4, .mov (.tmp 151), none⟩ :: [])) <|
    .ret) <|
  .skip) <|
  .seq (.region (⟨some 152, .mov (.tmp 13), none⟩ ::
    ⟨some 153, .len false (.tmp 152), none⟩ ::
    ⟨some 154, .mov (.tmp 9), none⟩ ::
    ⟨some 155, .len false (.tmp 154), none⟩ ::
    ⟨some 156, .bin .eql (.tmp 153) (.tmp 155), none⟩ ::
    ⟨some 157, .mov (.tmp 156), none⟩ ::
    ⟨some 158, .mov (.tmp 12), some (157, true)⟩ ::
    ⟨some 159, .mov (.tmp 13), some (157, true)⟩ ::
    ⟨some 160, .mov (.tmp 1), some (157, true)⟩ ::
    ⟨some 161, .len false (.tmp 160), some (157, true)⟩ ::
    ⟨some 162, .slc 1 (.tmp 159) none (some (.tmp 161)), some (157, true)⟩ ::
    ⟨some 163, .call (.val (.fn (.func 17) [])) [(.tmp 158), (.tmp 162)], some (157, true)⟩ ::
    ⟨some 164, .pick (.tmp 157) (.tmp 163) (.val (.bool false)), none⟩ ::
    ⟨some 4, .mov (.tmp 164), none⟩ :: [])) <|
  .ret⟩
theorem e_top_WholeElement : cFunc Try.prog kd_CWElement Try.f4 = some c_top_WholeElement := by kernel_rfl
end Go.Proofs.Ytnhedjpghpdbdaa
