/- The code of functions, as abstract code. Printed by program. -/
import Derived.Test.YtonkcemcledhiaaAv2
import Derived.Test.YtonkcemcledhiaaProg
namespace Go.Proofs.Ytonkcemcledhiaa
open Av
set_option linter.unusedVariables false
set_option maxRecDepth 100000
def kd_CArith2 (f : Nat) : Nat := if f = 64 then 3 else if f = 97 then 1 else if f = 101 then 2 else if f = 102 then 2 else if f = 99 then 2 else 0
/- (*touchstone/arith.box).size: slots b, 0, b, 1, x, 2, lo, 3, y, 4, l, 5 -/
def c_arith_box_size : AFunc := ⟨58, [],
  .seq (.region (⟨some 6, .mov (.tmp 0), none⟩ ::
    ⟨some 7, .callv (.val (.fn (.func 97) [])) [(.tmp 6), (.val (.int .i64 0))], none⟩ ::
    ⟨some 2, .alloc (.agg [(.int .i64 0), (.int .i64 0)]), none⟩ ::
    ⟨none, .store 2 (.tmp 2) (.tmp 7), none⟩ :: [])) <|
  .seq (.region (⟨some 8, .faddr 0 (.tmp 2), none⟩ ::
    ⟨some 9, .load false 1 (.tmp 8), none⟩ ::
    ⟨some 10, .faddr 1 (.tmp 2), none⟩ ::
    ⟨some 11, .load false 1 (.tmp 10), none⟩ ::
    ⟨some 12, .un .neg (.tmp 11), none⟩ ::
    ⟨some 13, .mx (.tmp 9) [(.tmp 12), (.val (.int .i64 0))], none⟩ ::
    ⟨some 3, .mov (.tmp 13), none⟩ :: [])) <|
  .seq (.region (⟨some 14, .mov (.tmp 0), none⟩ ::
    ⟨some 15, .mov (.tmp 3), none⟩ ::
    ⟨some 16, .faddr 1 (.tmp 2), none⟩ ::
    ⟨some 17, .load false 1 (.tmp 16), none⟩ ::
    ⟨some 18, .faddr 0 (.tmp 2), none⟩ ::
    ⟨some 19, .load false 1 (.tmp 18), none⟩ ::
    ⟨some 20, .un .neg (.tmp 19), none⟩ ::
    ⟨some 21, .mx (.tmp 17) [(.tmp 20)], none⟩ ::
    ⟨some 22, .callm (.val (.fn (.func 99) [])) [(.tmp 14), (.val (.int .i64 1)), (.tmp 15), (.tmp 21)], none⟩ :: [])) <|
  .seq (.region (⟨some 23, .mov (.tmp 0), none⟩ ::
    ⟨some 24, .callv (.val (.fn (.func 97) [])) [(.tmp 23), (.val (.int .i64 1))], none⟩ ::
    ⟨some 4, .alloc (.agg [(.int .i64 0), (.int .i64 0)]), none⟩ ::
    ⟨none, .store 2 (.tmp 4) (.tmp 24), none⟩ :: [])) <|
  .seq (.region (⟨some 25, .mov (.tmp 0), none⟩ ::
    ⟨some 26, .faddr 1 (.tmp 4), none⟩ ::
    ⟨some 27, .load false 1 (.tmp 26), none⟩ ::
    ⟨some 28, .un .neg (.tmp 27), none⟩ ::
    ⟨some 29, .faddr 1 (.tmp 4), none⟩ ::
    ⟨some 30, .load false 1 (.tmp 29), none⟩ ::
    ⟨some 31, .callm (.val (.fn (.func 99) [])) [(.tmp 25), (.val (.int .i64 0)), (.tmp 28), (.tmp 30)], none⟩ :: [])) <|
  .seq (.seq (.region (⟨some 32, .mov (.tmp 0), none⟩ ::
    ⟨some 33, .nilc (.tmp 32), none⟩ ::
    ⟨some 34, .faddr 2 (.tmp 33), none⟩ ::
    ⟨some 35, .load false 1 (.tmp 34), none⟩ ::
    ⟨some 36, .mov (.tmp 35), none⟩ ::
    ⟨some 37, .mov (.tmp 0), some (36, false)⟩ ::
    ⟨some 38, .callv (.val (.fn (.func 97) [])) [(.tmp 37), (.val (.int .i64 1))], some (36, false)⟩ ::
    ⟨some 39, .fld false 1 0 (.tmp 38), some (36, false)⟩ ::
    ⟨some 40, .bin .leq (.tmp 39) (.val (.int .i64 0)), some (36, false)⟩ ::
    ⟨some 41, .pick (.tmp 36) (.val (.bool true)) (.tmp 40), none⟩ :: [])) <|
  .cond (.tmp 41) (.ret) <|
  .skip) <|
  .seq (.region (⟨some 42, .mov (.tmp 0), none⟩ ::
    ⟨some 43, .callv (.val (.fn (.func 97) [])) [(.tmp 42), (.val (.int .i64 1))], none⟩ ::
    ⟨none, .store 2 (.tmp 4) (.tmp 43), none⟩ :: [])) <|
  .seq (.region (⟨some 44, .mov (.tmp 0), none⟩ ::
    ⟨some 45, .callm (.val (.fn (.func 101) [])) [(.tmp 44), (.val (.int .i64 0))], none⟩ ::
    ⟨some 5, .mov (.tmp 45), none⟩ :: [])) <|
  .region (⟨some 46, .mov (.tmp 0), none⟩ ::
    ⟨some 47, .mov (.tmp 5), none⟩ ::
    ⟨some 48, .faddr 0 (.tmp 4), none⟩ ::
    ⟨some 49, .load false 1 (.tmp 48), none⟩ ::
    ⟨some 50, .un .neg (.tmp 49), none⟩ ::
    ⟨some 51, .callo (.val (.fn (.func 64) [])) [(.tmp 47), (.val (.int .i64 (-1048576))), (.tmp 50)], none⟩ ::
    ⟨some 52, .mov (.tmp 5), none⟩ ::
    ⟨some 53, .faddr 0 (.tmp 4), none⟩ ::
    ⟨some 54, .load false 1 (.tmp 53), none⟩ ::
    ⟨some 55, .callo (.val (.fn (.func 64) [])) [(.tmp 52), (.tmp 54), (.val (.int .i64 1048576))], none⟩ ::
    ⟨some 56, .app 2 16 (.tmp 51) (.tmp 55), none⟩ ::
    ⟨some 57, .callm (.val (.fn (.func 102) [])) [(.tmp 46), (.val (.int .i64 0)), (.tmp 56)], none⟩ :: [])⟩
theorem e_arith_box_size : cFunc Try.prog kd_CArith2 Try.f59 = some c_arith_box_size := by kernel_rfl
end Go.Proofs.Ytonkcemcledhiaa
