/- The code of functions, as abstract code. Printed by program. -/
import Derived.Test.YtbmcjhjbifojnaaAv2
import Derived.Test.YtbmcjhjbifojnaaProg
namespace Go.Proofs.Ytbmcjhjbifojnaa
open Av
set_option linter.unusedVariables false
set_option maxRecDepth 100000
def kd_CLaw10N (f : Nat) : Nat := if f = 24 then 1 else if f = 23 then 1 else if f = 26 then 3 else if f = 22 then 3 else if f = 12 then 2 else if f = 15 then 2 else if f = 17 then 2 else if f = 20 then 2 else if f = 9 then 3 else if f = 25 then 1 else if f = 1000000 + 33 then 1 else if f = 1000000 + 22 then 1 else if f = 1000000 + 63 then 1 else 0
/- touchstone/touchstonelaw10.TrailNobody: slots a, 0, a, 1, _, 3, s, 4, ok, 5, e, 6, d, 7, s, 8, x, 9, y, 10, n, 11 -/
def c_law10_TrailNobodyN : AFunc := ⟨128, [.tmp 2],
  .seq (.region (⟨some 1, .box 3 (.tmp 0), none⟩ ::
    ⟨some 2, .mov (.val (.bool false)), none⟩ :: [])) <|
  .seq (.seq (.region (⟨some 12, .call (.val (.fn (.func 7) [])) [], none⟩ ::
    ⟨some 13, .un .not (.tmp 12), none⟩ :: [])) <|
  .cond (.tmp 13) (.seq (.region (⟨some 2, .mov (.val (.bool false)), none⟩ :: [])) <|
    .ret) <|
  .skip) <|
  .seq (.seq (.region (⟨some 14, .faddr 2 (.tmp 1), none⟩ ::
    ⟨some 15, .load false 1 (.tmp 14), none⟩ ::
    ⟨some 16, .len false (.tmp 15), none⟩ ::
    ⟨some 17, .bin .gtr (.tmp 16) (.val (.int .i64 300)), none⟩ :: [])) <|
  .cond (.tmp 17) (.seq (.region (⟨some 2, .mov (.val (.bool true)), none⟩ :: [])) <|
    .ret) <|
  .skip) <|
  .seq (.seq (.region (⟨some 18, .build [(.bool false), .nils, .nils, .nils, .nilm] [], none⟩ ::
    ⟨some 19, .box 5 (.tmp 18), none⟩ ::
    ⟨some 20, .bslm 1 [(.val .nilp), (.tmp 19)], none⟩ ::
    ⟨some 21, .len false (.tmp 20), none⟩ ::
    ⟨some 22, .mov (.val (.int .i64 0)), none⟩ :: [])) <|
  .block 0 (.loop (.seq (.region (⟨some 23, .bin .lss (.tmp 22) (.tmp 21), none⟩ :: [])) <|
      .seq (.cond (.tmp 23) (.skip) <|
      .exit 0) <|
      .seq (.block 1 (.seq (.region (⟨some 24, .iaddr 1 (.tmp 20) (.tmp 22), none⟩ ::
          ⟨some 25, .load false 1 (.tmp 24), none⟩ ::
          ⟨some 4, .mov (.tmp 25), none⟩ :: [])) <|
        .seq (.region (⟨some 27, .mov (.tmp 4), none⟩ ::
          ⟨some 28, .faddr 1 (.tmp 1), none⟩ ::
          ⟨some 29, .load false 1 (.tmp 28), none⟩ ::
          ⟨some 30, .faddr 2 (.tmp 1), none⟩ ::
          ⟨some 31, .load false 1 (.tmp 30), none⟩ ::
          ⟨some 32, .callm (.val (.fn (.func 12) [])) [(.tmp 27), (.tmp 29), (.tmp 31)], none⟩ ::
          ⟨some 26, .mov (.tmp 32), none⟩ ::
          ⟨some 33, .ext (.tmp 26) 0, none⟩ ::
          ⟨some 34, .ext (.tmp 26) 1, none⟩ ::
          ⟨some 5, .mov (.tmp 33), none⟩ ::
          ⟨some 6, .mov (.tmp 34), none⟩ :: [])) <|
        .seq (.region (⟨some 35, .mov (.tmp 5), none⟩ ::
          ⟨some 36, .mov (.tmp 35), none⟩ ::
          ⟨some 37, .mov (.tmp 6), some (36, false)⟩ ::
          ⟨some 38, .bin .neq (.tmp 37) (.val (.int .i64 1)), some (36, false)⟩ ::
          ⟨some 39, .pick (.tmp 36) (.val (.bool true)) (.tmp 38), none⟩ ::
          ⟨some 40, .mov (.tmp 39), none⟩ ::
          ⟨some 41, .mov (.tmp 4), some (40, false)⟩ ::
          ⟨some 42, .callm (.val (.fn (.func 15) [])) [(.tmp 41)], some (40, false)⟩ ::
          ⟨some 43, .bin .neq (.tmp 42) (.val (.int .i64 1)), some (40, false)⟩ ::
          ⟨some 44, .pick (.tmp 40) (.val (.bool true)) (.tmp 43), none⟩ ::
          ⟨some 45, .mov (.tmp 44), none⟩ ::
          ⟨some 46, .mov (.tmp 4), some (45, false)⟩ ::
          ⟨some 47, .callm (.val (.fn (.func 17) [])) [(.tmp 46)], some (45, false)⟩ ::
          ⟨some 48, .bin .neq (.tmp 47) (.val (.int .i64 1)), some (45, false)⟩ ::
          ⟨some 49, .pick (.tmp 45) (.val (.bool true)) (.tmp 48), none⟩ ::
          ⟨some 50, .mov (.tmp 49), none⟩ ::
          ⟨some 51, .mov (.tmp 4), some (50, false)⟩ ::
          ⟨some 52, .callv (.val (.fn (.func 24) [])) [(.tmp 51)], some (50, false)⟩ ::
          ⟨some 53, .bin .neq (.tmp 52) (.val (.int .i64 0)), some (50, false)⟩ ::
          ⟨some 54, .pick (.tmp 50) (.val (.bool true)) (.tmp 53), none⟩ ::
          ⟨some 55, .mov (.tmp 54), none⟩ ::
          ⟨some 56, .mov (.tmp 4), some (55, false)⟩ ::
          ⟨some 57, .callv (.val (.fn (.func 23) [])) [(.tmp 56)], some (55, false)⟩ ::
          ⟨some 58, .bin .neq (.tmp 57) (.val (.int .i64 0)), some (55, false)⟩ ::
          ⟨some 59, .pick (.tmp 55) (.val (.bool true)) (.tmp 58), none⟩ ::
          ⟨some 60, .mov (.tmp 59), none⟩ ::
          ⟨some 61, .mov (.tmp 4), some (60, false)⟩ ::
          ⟨some 62, .faddr 1 (.tmp 1), some (60, false)⟩ ::
          ⟨some 63, .load false 1 (.tmp 62), some (60, false)⟩ ::
          ⟨some 64, .callo (.val (.fn (.func 26) [])) [(.tmp 61), (.tmp 63)], some (60, false)⟩ ::
          ⟨some 65, .len false (.tmp 64), some (60, false)⟩ ::
          ⟨some 66, .bin .neq (.tmp 65) (.val (.int .i64 0)), some (60, false)⟩ ::
          ⟨some 67, .pick (.tmp 60) (.val (.bool true)) (.tmp 66), none⟩ ::
          ⟨some 68, .mov (.tmp 67), none⟩ ::
          ⟨some 69, .mov (.tmp 4), some (68, false)⟩ ::
          ⟨some 70, .callo (.val (.fn (.func 22) [])) [(.tmp 69)], some (68, false)⟩ ::
          ⟨some 71, .len false (.tmp 70), some (68, false)⟩ ::
          ⟨some 72, .bin .neq (.tmp 71) (.val (.int .i64 0)), some (68, false)⟩ ::
          ⟨some 73, .pick (.tmp 68) (.val (.bool true)) (.tmp 72), none⟩ ::
          ⟨some 74, .mov (.tmp 73), none⟩ ::
          ⟨some 75, .mov (.tmp 4), some (74, false)⟩ ::
          ⟨some 76, .callm (.val (.fn (.func 20) [])) [(.tmp 75)], some (74, false)⟩ ::
          ⟨some 77, .len false (.tmp 76), some (74, false)⟩ ::
          ⟨some 78, .bin .neq (.tmp 77) (.val (.int .i64 0)), some (74, false)⟩ ::
          ⟨some 79, .pick (.tmp 74) (.val (.bool true)) (.tmp 78), none⟩ :: [])) <|
        .cond (.tmp 79) (.seq (.region (⟨some 2, .mov (.val (.bool false)), none⟩ :: [])) <|
          .ret) <|
        .skip)) <|
      .region (⟨some 80, .bin .add (.tmp 22) (.val (.int .i64 1)), none⟩ ::
        ⟨some 22, .mov (.tmp 80), none⟩ :: [])))) <|
  .seq (.region (⟨some 81, .build [(.int .i64 0), (.int .i64 0)] [(0, 1, (.val (.int .i64 1))), (1, 1, (.val (.int .i64 5)))], none⟩ ::
    ⟨some 82, .bslm 2 [(.tmp 81)], none⟩ ::
    ⟨some 83, .bslm 1 [(.tmp 82)], none⟩ ::
    ⟨some 7, .mov (.tmp 83), none⟩ :: [])) <|
  .seq (.region (⟨some 84, .mov (.tmp 7), none⟩ ::
    ⟨some 85, .callo (.val (.fn (.func 9) [])) [(.tmp 84)], none⟩ ::
    ⟨some 8, .mov (.tmp 85), none⟩ :: [])) <|
  .seq (.seq (.region (⟨some 86, .mov (.tmp 8), none⟩ ::
    ⟨some 87, .isnp false (.tmp 86), none⟩ :: [])) <|
  .cond (.tmp 87) (.seq (.region (⟨some 2, .mov (.val (.bool false)), none⟩ :: [])) <|
    .ret) <|
  .skip) <|
  .seq (.region (⟨some 88, .mov (.tmp 7), none⟩ ::
    ⟨some 89, .iaddr 1 (.tmp 88) (.val (.int .i64 0)), none⟩ ::
    ⟨some 90, .load false 1 (.tmp 89), none⟩ ::
    ⟨some 91, .iaddr 2 (.tmp 90) (.val (.int .i64 0)), none⟩ ::
    ⟨some 92, .faddr 1 (.tmp 91), none⟩ ::
    ⟨none, .store 1 (.tmp 92) (.val (.int .i64 9)), none⟩ :: [])) <|
  .seq (.region (⟨some 93, .mov (.tmp 8), none⟩ ::
    ⟨some 94, .callo (.val (.fn (.func 26) [])) [(.tmp 93), (.val (.int .i64 0))], none⟩ ::
    ⟨some 9, .mov (.tmp 94), none⟩ :: [])) <|
  .seq (.seq (.region (⟨some 95, .mov (.tmp 9), none⟩ ::
    ⟨some 96, .len false (.tmp 95), none⟩ ::
    ⟨some 97, .bin .neq (.tmp 96) (.val (.int .i64 1)), none⟩ ::
    ⟨some 98, .mov (.tmp 97), none⟩ ::
    ⟨some 99, .mov (.tmp 9), some (98, false)⟩ ::
    ⟨some 100, .iaddr 2 (.tmp 99) (.val (.int .i64 0)), some (98, false)⟩ ::
    ⟨some 101, .faddr 1 (.tmp 100), some (98, false)⟩ ::
    ⟨some 102, .load false 1 (.tmp 101), some (98, false)⟩ ::
    ⟨some 103, .bin .neq (.tmp 102) (.val (.int .i64 5)), some (98, false)⟩ ::
    ⟨some 104, .pick (.tmp 98) (.val (.bool true)) (.tmp 103), none⟩ :: [])) <|
  .cond (.tmp 104) (.seq (.region (⟨some 2, .mov (.val (.bool false)), none⟩ :: [])) <|
    .ret) <|
  .skip) <|
  .seq (.region (⟨some 105, .mov (.tmp 9), none⟩ ::
    ⟨some 106, .iaddr 2 (.tmp 105) (.val (.int .i64 0)), none⟩ ::
    ⟨some 107, .faddr 1 (.tmp 106), none⟩ ::
    ⟨none, .store 1 (.tmp 107) (.val (.int .i64 8)), none⟩ :: [])) <|
  .seq (.region (⟨some 108, .mov (.tmp 8), none⟩ ::
    ⟨some 109, .callo (.val (.fn (.func 22) [])) [(.tmp 108)], none⟩ ::
    ⟨some 10, .mov (.tmp 109), none⟩ :: [])) <|
  .seq (.region (⟨some 110, .mov (.tmp 10), none⟩ ::
    ⟨some 111, .iaddr 1 (.tmp 110) (.val (.int .i64 0)), none⟩ ::
    ⟨some 112, .load false 1 (.tmp 111), none⟩ ::
    ⟨some 113, .iaddr 2 (.tmp 112) (.val (.int .i64 0)), none⟩ ::
    ⟨some 114, .faddr 0 (.tmp 113), none⟩ ::
    ⟨none, .store 1 (.tmp 114) (.val (.int .i64 4)), none⟩ :: [])) <|
  .seq (.region (⟨some 115, .build [(.int .i64 0), (.int .i64 0)] [(0, 1, (.val (.int .i64 2))), (1, 1, (.val (.int .i64 4)))], none⟩ ::
    ⟨some 116, .bslm 2 [(.tmp 115)], none⟩ ::
    ⟨some 11, .mov (.tmp 116), none⟩ :: [])) <|
  .seq (.region (⟨some 117, .mov (.tmp 8), none⟩ ::
    ⟨some 118, .mov (.tmp 11), none⟩ ::
    ⟨some 119, .callm (.val (.fn (.func 12) [])) [(.tmp 117), (.val (.int .i64 0)), (.tmp 118)], none⟩ :: [])) <|
  .seq (.region (⟨some 120, .mov (.tmp 11), none⟩ ::
    ⟨some 121, .iaddr 2 (.tmp 120) (.val (.int .i64 0)), none⟩ ::
    ⟨some 122, .faddr 0 (.tmp 121), none⟩ ::
    ⟨none, .store 1 (.tmp 122) (.val (.int .i64 3)), none⟩ :: [])) <|
  .seq (.region (⟨some 123, .mov (.tmp 8), none⟩ ::
    ⟨some 124, .callo (.val (.fn (.func 26) [])) [(.tmp 123), (.val (.int .i64 0))], none⟩ ::
    ⟨some 125, .build [(.int .i64 0), (.int .i64 0)] [(0, 1, (.val (.int .i64 2))), (1, 1, (.val (.int .i64 4)))], none⟩ ::
    ⟨some 126, .bslm 2 [(.tmp 125)], none⟩ ::
    ⟨some 127, .callv (.val (.fn (.func 25) [])) [(.tmp 124), (.tmp 126)], none⟩ ::
    ⟨some 2, .mov (.tmp 127), none⟩ :: [])) <|
  .ret⟩
theorem e_law10_TrailNobodyN : cFunc Try.prog kd_CLaw10N Try.f6 = some c_law10_TrailNobodyN := by kernel_rfl
end Go.Proofs.Ytbmcjhjbifojnaa
