/- The code of functions, as abstract code. Printed by program. -/
import Derived.Test.YtbhigfllanblpaaAv2
import Derived.Test.YtbhigfllanblpaaProg
namespace Go.Proofs.Ytbhigfllanblpaa
open Av
set_option linter.unusedVariables false
set_option maxRecDepth 100000
def kd_CWClause (f : Nat) : Nat := if f = 21 then 1 else if f = 23 then 1 else if f = 17 then 2 else 0
/- touchstone/touchstonetop.WholeClause: slots x, 0, flag, 1, d, 2, x, 3, flag, 4, d, 5, one, 7, y, 8, e, 9, or, 10, clause, 11, a, 12, b, 13, f, 14 -/
def c_top_WholeClause : AFunc := ⟨102, [.tmp 6],
  .seq (.region (⟨some 6, .mov (.val (.bool false)), none⟩ :: [])) <|
  .seq (.region (⟨some 15, .build [(.int .i64 0), (.int .i64 0)] [(0, 1, (.val (.int .i64 0))), (1, 1, (.val (.int .i64 1)))], none⟩ ::
    ⟨some 16, .bslice 2 [(.tmp 15)], none⟩ ::
    ⟨some 17, .build [(.int .i64 0), (.int .i64 0)] [(0, 1, (.val (.int .i64 1))), (1, 1, (.val (.int .i64 1)))], none⟩ ::
    ⟨some 18, .bslice 2 [(.tmp 17)], none⟩ ::
    ⟨some 19, .bslice 1 [(.tmp 16), (.tmp 18)], none⟩ ::
    ⟨some 7, .mov (.tmp 19), none⟩ :: [])) <|
  .seq (.region (⟨some 21, .bslice 1 [(.val (.int .i64 0)), (.val (.int .i64 1))], none⟩ ::
    ⟨some 22, .build [(.int .i64 0), .nils, .nils, (.int .i64 0)] [(0, 1, (.val (.int .i64 13))), (1, 1, (.tmp 21))], none⟩ ::
    ⟨some 23, .mov (.tmp 7), none⟩ ::
    ⟨some 24, .callm (.val (.fn (.func 17) [])) [(.tmp 22), (.tmp 23)], none⟩ ::
    ⟨some 20, .mov (.tmp 24), none⟩ ::
    ⟨some 25, .ext (.tmp 20) 0, none⟩ ::
    ⟨some 26, .ext (.tmp 20) 1, none⟩ ::
    ⟨some 8, .mov (.tmp 25), none⟩ ::
    ⟨some 9, .mov (.tmp 26), none⟩ :: [])) <|
  .seq (.seq (.region (⟨some 27, .mov (.tmp 9), none⟩ ::
    ⟨some 28, .bin .neq (.tmp 27) (.val (.int .i64 0)), none⟩ ::
    ⟨some 29, .mov (.tmp 28), none⟩ ::
    ⟨some 30, .mov (.tmp 8), some (29, false)⟩ ::
    ⟨some 31, .len false (.tmp 30), some (29, false)⟩ ::
    ⟨some 32, .bin .neq (.tmp 31) (.val (.int .i64 2)), some (29, false)⟩ ::
    ⟨some 33, .pick (.tmp 29) (.val (.bool true)) (.tmp 32), none⟩ ::
    ⟨some 34, .mov (.tmp 33), none⟩ ::
    ⟨some 35, .mov (.tmp 8), some (34, false)⟩ ::
    ⟨some 36, .iaddr 1 (.tmp 35) (.val (.int .i64 0)), some (34, false)⟩ ::
    ⟨some 37, .load false 1 (.tmp 36), some (34, false)⟩ ::
    ⟨some 38, .build [(.int .i64 0), (.int .i64 0)] [(0, 1, (.val (.int .i64 1))), (1, 1, (.val (.int .i64 1)))], some (34, false)⟩ ::
    ⟨some 39, .bslice 2 [(.tmp 38)], some (34, false)⟩ ::
    ⟨some 40, .call (.val (.fn (.func 19) [])) [(.tmp 37), (.tmp 39)], some (34, false)⟩ ::
    ⟨some 41, .un .not (.tmp 40), some (34, false)⟩ ::
    ⟨some 42, .pick (.tmp 34) (.val (.bool true)) (.tmp 41), none⟩ :: [])) <|
  .cond (.tmp 42) (.seq (.region (⟨some 6, .mov (.val (.bool false)), none⟩ :: [])) <|
    .ret) <|
  .skip) <|
  .seq (.seq (.region (⟨some 43, .mov (.tmp 0), none⟩ ::
    ⟨some 44, .len false (.tmp 43), none⟩ ::
    ⟨some 45, .bin .gtr (.tmp 44) (.val (.int .i64 31)), none⟩ :: [])) <|
  .cond (.tmp 45) (.seq (.region (⟨some 6, .mov (.val (.bool true)), none⟩ :: [])) <|
    .ret) <|
  .skip) <|
  .seq (.region (⟨some 46, .mov (.tmp 0), none⟩ ::
    ⟨some 47, .app 1 8 (.val .nils) (.tmp 46), none⟩ ::
    ⟨some 48, .mov (.tmp 1), none⟩ ::
    ⟨some 49, .bslice 1 [(.tmp 48)], none⟩ ::
    ⟨some 50, .app 1 8 (.tmp 47) (.tmp 49), none⟩ ::
    ⟨some 51, .build [(.int .i64 0), .nils, .nils, (.int .i64 0)] [(0, 1, (.val (.int .i64 13))), (1, 1, (.tmp 50))], none⟩ ::
    ⟨some 10, .alloc (.agg [(.int .i64 0), .nils, .nils, (.int .i64 0)]), none⟩ ::
    ⟨none, .store 4 (.tmp 10) (.tmp 51), none⟩ :: [])) <|
  .seq (.region (⟨some 52, .mov (.tmp 0), none⟩ ::
    ⟨some 53, .build [(.int .i64 0), .nils, .nils, (.int .i64 0)] [(0, 1, (.val (.int .i64 11))), (1, 1, (.tmp 52))], none⟩ ::
    ⟨some 11, .alloc (.agg [(.int .i64 0), .nils, .nils, (.int .i64 0)]), none⟩ ::
    ⟨none, .store 4 (.tmp 11) (.tmp 53), none⟩ :: [])) <|
  .seq (.seq (.region (⟨some 54, .mov (.tmp 0), none⟩ ::
    ⟨some 55, .len false (.tmp 54), none⟩ ::
    ⟨some 56, .mov (.val (.int .i64 0)), none⟩ :: [])) <|
  .block 0 (.loop (.seq (.region (⟨some 57, .bin .lss (.tmp 56) (.tmp 55), none⟩ :: [])) <|
      .seq (.cond (.tmp 57) (.skip) <|
      .exit 0) <|
      .seq (.block 1 (.region (⟨some 58, .faddr 2 (.tmp 11), none⟩ ::
          ⟨some 59, .load false 1 (.tmp 58), none⟩ ::
          ⟨some 60, .bslice 1 [(.val (.int .i64 1))], none⟩ ::
          ⟨some 61, .app 1 8 (.tmp 59) (.tmp 60), none⟩ ::
          ⟨some 62, .faddr 2 (.tmp 11), none⟩ ::
          ⟨none, .store 1 (.tmp 62) (.tmp 61), none⟩ :: []))) <|
      .region (⟨some 63, .bin .add (.tmp 56) (.val (.int .i64 1)), none⟩ ::
        ⟨some 56, .mov (.tmp 63), none⟩ :: [])))) <|
  .seq (.seq (.region (⟨some 64, .load true 4 (.tmp 10), none⟩ ::
    ⟨some 65, .mov (.tmp 2), none⟩ ::
    ⟨some 66, .callv (.val (.fn (.func 21) [])) [(.tmp 64), (.tmp 65)], none⟩ ::
    ⟨some 67, .un .not (.tmp 66), none⟩ ::
    ⟨some 68, .mov (.tmp 67), none⟩ ::
    ⟨some 69, .load true 4 (.tmp 10), some (68, false)⟩ ::
    ⟨some 70, .mov (.tmp 2), some (68, false)⟩ ::
    ⟨some 71, .callv (.val (.fn (.func 23) [])) [(.tmp 69), (.tmp 70)], some (68, false)⟩ ::
    ⟨some 72, .un .not (.tmp 71), some (68, false)⟩ ::
    ⟨some 73, .pick (.tmp 68) (.val (.bool true)) (.tmp 72), none⟩ ::
    ⟨some 74, .mov (.tmp 73), none⟩ ::
    ⟨some 75, .mov (.tmp 2), some (74, false)⟩ ::
    ⟨some 76, .mov (.tmp 1), some (74, false)⟩ ::
    ⟨some 77, .iaddr 1 (.tmp 75) (.tmp 76), some (74, false)⟩ ::
    ⟨some 78, .load false 1 (.tmp 77), some (74, false)⟩ ::
    ⟨some 79, .call (.val (.fn (.func 26) [])) [(.tmp 78)], some (74, false)⟩ ::
    ⟨some 80, .bin .neq (.tmp 79) (.val (.int .i64 1)), some (74, false)⟩ ::
    ⟨some 81, .pick (.tmp 74) (.val (.bool true)) (.tmp 80), none⟩ :: [])) <|
  .cond (.tmp 81) (.seq (.region (⟨some 6, .mov (.val (.bool true)), none⟩ :: [])) <|
    .ret) <|
  .skip) <|
  .seq (.region (⟨some 83, .load true 4 (.tmp 10), none⟩ ::
    ⟨some 84, .mov (.tmp 2), none⟩ ::
    ⟨some 85, .callm (.val (.fn (.func 17) [])) [(.tmp 83), (.tmp 84)], none⟩ ::
    ⟨some 82, .mov (.tmp 85), none⟩ ::
    ⟨some 86, .ext (.tmp 82) 0, none⟩ ::
    ⟨some 87, .ext (.tmp 82) 1, none⟩ ::
    ⟨some 12, .mov (.tmp 86), none⟩ ::
    ⟨some 9, .mov (.tmp 87), none⟩ :: [])) <|
  .seq (.region (⟨some 89, .load true 4 (.tmp 11), none⟩ ::
    ⟨some 90, .mov (.tmp 2), none⟩ ::
    ⟨some 91, .callm (.val (.fn (.func 17) [])) [(.tmp 89), (.tmp 90)], none⟩ ::
    ⟨some 88, .mov (.tmp 91), none⟩ ::
    ⟨some 92, .ext (.tmp 88) 0, none⟩ ::
    ⟨some 93, .ext (.tmp 88) 1, none⟩ ::
    ⟨some 13, .mov (.tmp 92), none⟩ ::
    ⟨some 14, .mov (.tmp 93), none⟩ :: [])) <|
  .seq (.region (⟨some 94, .mov (.tmp 9), none⟩ ::
    ⟨some 95, .mov (.tmp 14), none⟩ ::
    ⟨some 96, .bin .eql (.tmp 94) (.tmp 95), none⟩ ::
    ⟨some 97, .mov (.tmp 96), none⟩ ::
    ⟨some 98, .mov (.tmp 12), some (97, true)⟩ ::
    ⟨some 99, .mov (.tmp 13), some (97, true)⟩ ::
    ⟨some 100, .call (.val (.fn (.func 18) [])) [(.tmp 98), (.tmp 99)], some (97, true)⟩ ::
    ⟨some 101, .pick (.tmp 97) (.tmp 100) (.val (.bool false)), none⟩ ::
    ⟨some 6, .mov (.tmp 101), none⟩ :: [])) <|
  .ret⟩
theorem e_top_WholeClause : cFunc Try.prog kd_CWClause Try.f5 = some c_top_WholeClause := by kernel_rfl
end Go.Proofs.Ytbhigfllanblpaa
