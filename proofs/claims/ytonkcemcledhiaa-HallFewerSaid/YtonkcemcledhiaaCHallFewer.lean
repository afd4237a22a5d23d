/- The code of functions, as abstract code. Printed by program. -/
import Derived.Test.YtonkcemcledhiaaAv2
import Derived.Test.YtonkcemcledhiaaProg
namespace Go.Proofs.Ytonkcemcledhiaa
open Av
set_option linter.unusedVariables false
set_option maxRecDepth 100000
def kd_CHallFewer (f : Nat) : Nat := if f = 38 then 1 else 0
/- touchstone/touchstonelaw17.HallFewer: slots l, 0, at, 1, l, 2, at, 3, i, 5, fewer, 6, wider, 7 -/
def c_law17_HallFewer : AFunc := ⟨59, [.tmp 4],
  .seq (.region (⟨some 4, .mov (.val (.bool false)), none⟩ :: [])) <|
  .seq (.seq (.region (⟨some 8, .call (.val (.fn (.func 30) [])) [], none⟩ ::
    ⟨some 9, .un .not (.tmp 8), none⟩ :: [])) <|
  .cond (.tmp 9) (.seq (.region (⟨some 4, .mov (.val (.bool false)), none⟩ :: [])) <|
    .ret) <|
  .skip) <|
  .seq (.seq (.region (⟨some 10, .mov (.tmp 0), none⟩ ::
    ⟨some 11, .len false (.tmp 10), none⟩ ::
    ⟨some 12, .bin .gtr (.tmp 11) (.val (.int .i64 32)), none⟩ ::
    ⟨some 13, .mov (.tmp 12), none⟩ ::
    ⟨some 14, .mov (.tmp 0), some (13, false)⟩ ::
    ⟨some 15, .len false (.tmp 14), some (13, false)⟩ ::
    ⟨some 16, .bin .eql (.tmp 15) (.val (.int .i64 0)), some (13, false)⟩ ::
    ⟨some 17, .pick (.tmp 13) (.val (.bool true)) (.tmp 16), none⟩ ::
    ⟨some 18, .mov (.tmp 17), none⟩ ::
    ⟨some 19, .mov (.tmp 0), some (18, false)⟩ ::
    ⟨some 20, .callv (.val (.fn (.func 38) [])) [(.tmp 19)], some (18, false)⟩ ::
    ⟨some 21, .un .not (.tmp 20), some (18, false)⟩ ::
    ⟨some 22, .pick (.tmp 18) (.val (.bool true)) (.tmp 21), none⟩ :: [])) <|
  .cond (.tmp 22) (.seq (.region (⟨some 4, .mov (.val (.bool true)), none⟩ :: [])) <|
    .ret) <|
  .skip) <|
  .seq (.region (⟨some 23, .mov (.tmp 1), none⟩ ::
    ⟨some 24, .conv .i64 (.tmp 23), none⟩ ::
    ⟨some 25, .mov (.tmp 0), none⟩ ::
    ⟨some 26, .len false (.tmp 25), none⟩ ::
    ⟨some 27, .bin .rem (.tmp 24) (.tmp 26), none⟩ ::
    ⟨some 5, .mov (.tmp 27), none⟩ :: [])) <|
  .seq (.region (⟨some 28, .mov (.tmp 0), none⟩ ::
    ⟨some 29, .mov (.tmp 5), none⟩ ::
    ⟨some 30, .slc 2 (.tmp 28) none (some (.tmp 29)), none⟩ ::
    ⟨some 31, .app 2 16 (.val .nils) (.tmp 30), none⟩ ::
    ⟨some 32, .mov (.tmp 0), none⟩ ::
    ⟨some 33, .mov (.tmp 5), none⟩ ::
    ⟨some 34, .bin .add (.tmp 33) (.val (.int .i64 1)), none⟩ ::
    ⟨some 35, .slc 2 (.tmp 32) (some (.tmp 34)) none, none⟩ ::
    ⟨some 36, .app 2 16 (.tmp 31) (.tmp 35), none⟩ ::
    ⟨some 6, .mov (.tmp 36), none⟩ :: [])) <|
  .seq (.region (⟨some 37, .mov (.tmp 0), none⟩ ::
    ⟨some 38, .app 2 16 (.val .nils) (.tmp 37), none⟩ ::
    ⟨some 7, .mov (.tmp 38), none⟩ :: [])) <|
  .seq (.seq (.region (⟨some 39, .mov (.tmp 7), none⟩ ::
    ⟨some 40, .mov (.tmp 5), none⟩ ::
    ⟨some 41, .iaddr 2 (.tmp 39) (.tmp 40), none⟩ ::
    ⟨some 42, .faddr 0 (.tmp 41), none⟩ ::
    ⟨some 43, .load false 1 (.tmp 42), none⟩ ::
    ⟨some 44, .bin .gtr (.tmp 43) (.val (.int .i64 (-1048576))), none⟩ :: [])) <|
  .cond (.tmp 44) (.region (⟨some 45, .mov (.tmp 7), none⟩ ::
      ⟨some 46, .mov (.tmp 5), none⟩ ::
      ⟨some 47, .iaddr 2 (.tmp 45) (.tmp 46), none⟩ ::
      ⟨some 48, .faddr 0 (.tmp 47), none⟩ ::
      ⟨some 49, .load false 1 (.tmp 48), none⟩ ::
      ⟨some 50, .bin .sub (.tmp 49) (.val (.int .i64 1)), none⟩ ::
      ⟨some 51, .iaddr 2 (.tmp 45) (.tmp 46), none⟩ ::
      ⟨some 52, .faddr 0 (.tmp 51), none⟩ ::
      ⟨none, .store 1 (.tmp 52) (.tmp 50), none⟩ :: [])) <|
  .skip) <|
  .seq (.region (⟨some 53, .mov (.tmp 6), none⟩ ::
    ⟨some 54, .callv (.val (.fn (.func 38) [])) [(.tmp 53)], none⟩ ::
    ⟨some 55, .mov (.tmp 54), none⟩ ::
    ⟨some 56, .mov (.tmp 7), some (55, true)⟩ ::
    ⟨some 57, .callv (.val (.fn (.func 38) [])) [(.tmp 56)], some (55, true)⟩ ::
    ⟨some 58, .pick (.tmp 55) (.tmp 57) (.val (.bool false)), none⟩ ::
    ⟨some 4, .mov (.tmp 58), none⟩ :: [])) <|
  .ret⟩
theorem e_law17_HallFewer : cFunc Try.prog kd_CHallFewer Try.f13 = some c_law17_HallFewer := by kernel_rfl
end Go.Proofs.Ytonkcemcledhiaa
