/- The code of functions, as abstract code. Printed by program. -/
import Derived.Test.YtonkcemcledhiaaAv2
import Derived.Test.YtonkcemcledhiaaProg
namespace Go.Proofs.Ytonkcemcledhiaa
open Av
set_option linter.unusedVariables false
set_option maxRecDepth 100000
def kd_CArith1 (f : Nat) : Nat := 0
/- touchstone/arith.up: slots a, 0, b, 1, a, 2, b, 3, n, 5, _, 6 -/
def c_arith_up : AFunc := ⟨14, [.tmp 4],
  .seq (.region (⟨some 4, .mov (.val (.int .i64 0)), none⟩ :: [])) <|
  .seq (.region (⟨some 8, .mov (.tmp 0), none⟩ ::
    ⟨some 9, .mov (.tmp 1), none⟩ ::
    ⟨some 10, .call (.val (.fn (.func 166) [])) [(.tmp 8), (.tmp 9)], none⟩ ::
    ⟨some 7, .mov (.tmp 10), none⟩ ::
    ⟨some 11, .ext (.tmp 7) 0, none⟩ ::
    ⟨some 12, .ext (.tmp 7) 1, none⟩ ::
    ⟨some 5, .mov (.tmp 11), none⟩ ::
    ⟨some 6, .mov (.tmp 12), none⟩ :: [])) <|
  .seq (.region (⟨some 13, .mov (.tmp 5), none⟩ ::
    ⟨some 4, .mov (.tmp 13), none⟩ :: [])) <|
  .ret⟩
theorem e_arith_up : cFunc Try.prog kd_CArith1 Try.f140 = some c_arith_up := by kernel_rfl
/- touchstone/arith.down: slots a, 0, b, 1, a, 2, b, 3, n, 5, _, 6 -/
def c_arith_down : AFunc := ⟨14, [.tmp 4],
  .seq (.region (⟨some 4, .mov (.val (.int .i64 0)), none⟩ :: [])) <|
  .seq (.region (⟨some 8, .mov (.tmp 0), none⟩ ::
    ⟨some 9, .mov (.tmp 1), none⟩ ::
    ⟨some 10, .call (.val (.fn (.func 167) [])) [(.tmp 8), (.tmp 9)], none⟩ ::
    ⟨some 7, .mov (.tmp 10), none⟩ ::
    ⟨some 11, .ext (.tmp 7) 0, none⟩ ::
    ⟨some 12, .ext (.tmp 7) 1, none⟩ ::
    ⟨some 5, .mov (.tmp 11), none⟩ ::
    ⟨some 6, .mov (.tmp 12), none⟩ :: [])) <|
  .seq (.region (⟨some 13, .mov (.tmp 5), none⟩ ::
    ⟨some 4, .mov (.tmp 13), none⟩ :: [])) <|
  .ret⟩
theorem e_arith_down : cFunc Try.prog kd_CArith1 Try.f141 = some c_arith_down := by kernel_rfl
/- touchstone/arith.mul: slots a, 0, b, 1, a, 2, b, 3, n, 5, _, 6 -/
def c_arith_mul : AFunc := ⟨14, [.tmp 4],
  .seq (.region (⟨some 4, .mov (.val (.int .i64 0)), none⟩ :: [])) <|
  .seq (.region (⟨some 8, .mov (.tmp 0), none⟩ ::
    ⟨some 9, .mov (.tmp 1), none⟩ ::
    ⟨some 10, .call (.val (.fn (.func 138) [])) [(.tmp 8), (.tmp 9)], none⟩ ::
    ⟨some 7, .mov (.tmp 10), none⟩ ::
    ⟨some 11, .ext (.tmp 7) 0, none⟩ ::
    ⟨some 12, .ext (.tmp 7) 1, none⟩ ::
    ⟨some 5, .mov (.tmp 11), none⟩ ::
    ⟨some 6, .mov (.tmp 12), none⟩ :: [])) <|
  .seq (.region (⟨some 13, .mov (.tmp 5), none⟩ ::
    ⟨some 4, .mov (.tmp 13), none⟩ :: [])) <|
  .ret⟩
theorem e_arith_mul : cFunc Try.prog kd_CArith1 Try.f98 = some c_arith_mul := by kernel_rfl
/- touchstone/arith.corners: slots p, 0, q, 1, f, 2, p, 3, q, 4, f, 5, l, 7 -/
def c_arith_corners : AFunc := ⟨38, [.cell 6 true 2],
  .seq (.region (⟨some 3, .box 2 (.tmp 0), none⟩ ::
    ⟨some 4, .box 2 (.tmp 1), none⟩ ::
    ⟨some 6, .alloc (.agg [(.int .i64 0), (.int .i64 0)]), none⟩ :: [])) <|
  .seq (.region (⟨some 8, .mov (.tmp 2), none⟩ ::
    ⟨some 9, .faddr 0 (.tmp 3), none⟩ ::
    ⟨some 10, .load false 1 (.tmp 9), none⟩ ::
    ⟨some 11, .faddr 0 (.tmp 4), none⟩ ::
    ⟨some 12, .load false 1 (.tmp 11), none⟩ ::
    ⟨some 13, .call (.tmp 8) [(.tmp 10), (.tmp 12)], none⟩ ::
    ⟨some 14, .mov (.tmp 2), none⟩ ::
    ⟨some 15, .faddr 0 (.tmp 3), none⟩ ::
    ⟨some 16, .load false 1 (.tmp 15), none⟩ ::
    ⟨some 17, .faddr 1 (.tmp 4), none⟩ ::
    ⟨some 18, .load false 1 (.tmp 17), none⟩ ::
    ⟨some 19, .call (.tmp 14) [(.tmp 16), (.tmp 18)], none⟩ ::
    ⟨some 20, .mov (.tmp 2), none⟩ ::
    ⟨some 21, .faddr 1 (.tmp 3), none⟩ ::
    ⟨some 22, .load false 1 (.tmp 21), none⟩ ::
    ⟨some 23, .faddr 0 (.tmp 4), none⟩ ::
    ⟨some 24, .load false 1 (.tmp 23), none⟩ ::
    ⟨some 25, .call (.tmp 20) [(.tmp 22), (.tmp 24)], none⟩ ::
    ⟨some 26, .mov (.tmp 2), none⟩ ::
    ⟨some 27, .faddr 1 (.tmp 3), none⟩ ::
    ⟨some 28, .load false 1 (.tmp 27), none⟩ ::
    ⟨some 29, .faddr 1 (.tmp 4), none⟩ ::
    ⟨some 30, .load false 1 (.tmp 29), none⟩ ::
    ⟨some 31, .call (.tmp 26) [(.tmp 28), (.tmp 30)], none⟩ ::
    ⟨some 32, .build [(.int .i64 0), (.int .i64 0), (.int .i64 0), (.int .i64 0)] [(0, 1, (.tmp 13)), (1, 1, (.tmp 19)), (2, 1, (.tmp 25)), (3, 1, (.tmp 31))], none⟩ ::
    ⟨some 7, .alloc (.agg [(.int .i64 0), (.int .i64 0), (.int .i64 0), (.int .i64 0)]), none⟩ ::
    ⟨none, .store 4 (.tmp 7) (.tmp 32), none⟩ :: [])) <|
  .seq (.seq (.frz 7) <|
  .region (⟨some 33, .slcf 4 (.tmp 7), none⟩ ::
    ⟨some 34, .call (.val (.fn (.func 136) [])) [(.tmp 33)], none⟩ ::
    ⟨some 35, .slcf 4 (.tmp 7), none⟩ ::
    ⟨some 36, .call (.val (.fn (.func 137) [])) [(.tmp 35)], none⟩ ::
    ⟨some 37, .build [(.int .i64 0), (.int .i64 0)] [(0, 1, (.tmp 34)), (1, 1, (.tmp 36))], none⟩ ::
    ⟨none, .store 2 (.tmp 6) (.tmp 37), none⟩ :: [])) <|
  .ret⟩
theorem e_arith_corners : cFunc Try.prog kd_CArith1 Try.f96 = some c_arith_corners := by kernel_rfl
/- (*touchstone/arith.box).get: slots b, 0, i, 1, b, 2, i, 3 -/
def c_arith_box_get : AFunc := ⟨18, [.tmp 4],
  .seq (.region (⟨some 4, .mov (.val .nils), none⟩ :: [])) <|
  .seq (.region (⟨some 5, .mov (.tmp 0), none⟩ ::
    ⟨some 6, .nilc (.tmp 5), none⟩ ::
    ⟨some 7, .faddr 0 (.tmp 6), none⟩ ::
    ⟨some 8, .load false 1 (.tmp 7), none⟩ ::
    ⟨some 9, .mov (.tmp 0), none⟩ ::
    ⟨some 10, .nilc (.tmp 9), none⟩ ::
    ⟨some 11, .faddr 1 (.tmp 10), none⟩ ::
    ⟨some 12, .load false 1 (.tmp 11), none⟩ ::
    ⟨some 13, .mov (.tmp 1), none⟩ ::
    ⟨some 14, .iaddr 1 (.tmp 12) (.tmp 13), none⟩ ::
    ⟨some 15, .load false 1 (.tmp 14), none⟩ ::
    ⟨some 16, .iaddr 1 (.tmp 8) (.tmp 15), none⟩ ::
    ⟨some 17, .load false 1 (.tmp 16), none⟩ ::
    ⟨some 4, .mov (.tmp 17), none⟩ :: [])) <|
  .ret⟩
theorem e_arith_box_get : cFunc Try.prog kd_CArith1 Try.f101 = some c_arith_box_get := by kernel_rfl
/- (*touchstone/arith.box).ends: slots b, 0, i, 1, b, 2, i, 3, r, 5, _, 6 -/
def c_arith_box_ends : AFunc := ⟨15, [.cell 4 true 2],
  .seq (.region (⟨some 4, .alloc (.agg [(.int .i64 0), (.int .i64 0)]), none⟩ :: [])) <|
  .seq (.region (⟨some 8, .mov (.tmp 0), none⟩ ::
    ⟨some 9, .mov (.tmp 1), none⟩ ::
    ⟨some 10, .call (.val (.fn (.func 101) [])) [(.tmp 8), (.tmp 9)], none⟩ ::
    ⟨some 11, .call (.val (.fn (.func 61) [])) [(.tmp 10)], none⟩ ::
    ⟨some 7, .mov (.tmp 11), none⟩ ::
    ⟨some 12, .ext (.tmp 7) 0, none⟩ ::
    ⟨some 13, .ext (.tmp 7) 1, none⟩ ::
    ⟨some 5, .alloc (.agg [(.int .i64 0), (.int .i64 0)]), none⟩ ::
    ⟨none, .store 2 (.tmp 5) (.tmp 12), none⟩ ::
    ⟨some 6, .mov (.tmp 13), none⟩ :: [])) <|
  .seq (.region (⟨some 14, .load true 2 (.tmp 5), none⟩ ::
    ⟨none, .store 2 (.tmp 4) (.tmp 14), none⟩ :: [])) <|
  .ret⟩
theorem e_arith_box_ends : cFunc Try.prog kd_CArith1 Try.f97 = some c_arith_box_ends := by kernel_rfl
end Go.Proofs.Ytonkcemcledhiaa
