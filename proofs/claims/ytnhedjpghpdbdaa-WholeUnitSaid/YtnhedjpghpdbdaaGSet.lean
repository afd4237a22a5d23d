/- The code of functions, as abstract code. Printed by program. Within, Ranges. The code of functions, as abstract code. Printed by program. What the functions of package set compute. The code of functions, as abstract code. Printed by program. What Meet and Same of package set compute. The code of functions, as abstract code. Printed by program. What slices.Clone makes of domains. -/
import Derived.Test.YtnhedjpghpdbdaaAv2
import Derived.Test.YtnhedjpghpdbdaaProg
import Derived.Test.YtnhedjpghpdbdaaPlS
namespace Go.Proofs.Ytnhedjpghpdbdaa
open Av
set_option linter.unusedVariables false
set_option maxRecDepth 100000
def kd_CBase (f : Nat) : Nat := 0
/- touchstone/touchstoneref08.Within: slots n, 0, n, 1 -/
def c_ref08_Within : AFunc := ⟨9, [.tmp 2],
  .seq (.region (⟨some 2, .mov (.val (.bool false)), none⟩ :: [])) <|
  .seq (.region (⟨some 3, .mov (.tmp 0), none⟩ ::
    ⟨some 4, .bin .geq (.tmp 3) (.val (.int .i64 (-1048576))), none⟩ ::
    ⟨some 5, .mov (.tmp 4), none⟩ ::
    ⟨some 6, .mov (.tmp 0), some (5, true)⟩ ::
    ⟨some 7, .bin .leq (.tmp 6) (.val (.int .i64 1048576)), some (5, true)⟩ ::
    ⟨some 8, .pick (.tmp 5) (.tmp 7) (.val (.bool false)), none⟩ ::
    ⟨some 2, .mov (.tmp 8), none⟩ :: [])) <|
  .ret⟩
theorem e_ref08_Within : cFunc Try.prog kd_CBase Try.f58 = some c_ref08_Within := by kernel_rfl
/- touchstone/touchstonelaw08.Ranges: slots a, 0, b, 1, a, 2, b, 3, i, 5 -/
def c_law08_Ranges : AFunc := ⟨26, [.tmp 4],
  .seq (.region (⟨some 4, .mov (.val (.bool false)), none⟩ :: [])) <|
  .seq (.seq (.region (⟨some 6, .mov (.tmp 0), none⟩ ::
    ⟨some 7, .len false (.tmp 6), none⟩ ::
    ⟨some 8, .mov (.tmp 1), none⟩ ::
    ⟨some 9, .len false (.tmp 8), none⟩ ::
    ⟨some 10, .bin .neq (.tmp 7) (.tmp 9), none⟩ :: [])) <|
  .cond (.tmp 10) (.seq (.region (⟨some 4, .mov (.val (.bool false)), none⟩ :: [])) <|
    .ret) <|
  .skip) <|
  .seq (.seq (.region (⟨some 11, .mov (.tmp 0), none⟩ ::
    ⟨some 12, .len false (.tmp 11), none⟩ ::
    ⟨some 13, .mov (.val (.int .i64 0)), none⟩ :: [])) <|
  .block 0 (.loop (.seq (.region (⟨some 14, .bin .lss (.tmp 13) (.tmp 12), none⟩ :: [])) <|
      .seq (.cond (.tmp 14) (.skip) <|
      .exit 0) <|
      .seq (.block 1 (.seq (.region (⟨some 15, .mov (.tmp 13), none⟩ ::
          ⟨some 5, .mov (.tmp 15), none⟩ :: [])) <|
        .seq (.region (⟨some 16, .mov (.tmp 0), none⟩ ::
          ⟨some 17, .mov (.tmp 5), none⟩ ::
          ⟨some 18, .iaddr 2 (.tmp 16) (.tmp 17), none⟩ ::
          ⟨some 19, .load true 2 (.tmp 18), none⟩ ::
          ⟨some 20, .mov (.tmp 1), none⟩ ::
          ⟨some 21, .mov (.tmp 5), none⟩ ::
          ⟨some 22, .iaddr 2 (.tmp 20) (.tmp 21), none⟩ ::
          ⟨some 23, .load true 2 (.tmp 22), none⟩ ::
          ⟨some 24, .eqs true 2 (.tmp 19) (.tmp 23), none⟩ :: [])) <|
        .cond (.tmp 24) (.seq (.region (⟨some 4, .mov (.val (.bool false)), none⟩ :: [])) <|
          .ret) <|
        .skip)) <|
      .region (⟨some 25, .bin .add (.tmp 13) (.val (.int .i64 1)), none⟩ ::
        ⟨some 13, .mov (.tmp 25), none⟩ :: [])))) <|
  .seq (.region (⟨some 4, .mov (.val (.bool true)), none⟩ :: [])) <|
  .ret⟩
theorem e_law08_Ranges : cFunc Try.prog kd_CBase Try.f14 = some c_law08_Ranges := by kernel_rfl
end Go.Proofs.Ytnhedjpghpdbdaa
namespace Go.Proofs.Ytnhedjpghpdbdaa
open Av
attribute [local irreducible] awp awpOpers
set_option linter.unusedSimpArgs false
set_option linter.unusedVariables false
set_option maxRecDepth 100000
set_option maxHeartbeats 4000000
theorem ref08_Within (n : Int) : Ctr Try.prog 58 [.int .i64 n] [] (.bool (withinB n)) [] := by
  refine call_pure Try.func58 Try.call58 e_ref08_Within ?_
  simp +contextual -implicitDefEqProofs (maxSteps := 1000000) only [c_ref08_Within, sm, sn, sxx, seval]
  unfold withinB
  split <;> simp_all <;> omega
theorem law08_Ranges (a b : List Rg) (ha : a.length ≤ 9223372036854775807) : Ctr Try.prog 14 [eRgs a, eRgs b] [] (.bool (decide (a = b))) [] := by
  refine call_pure Try.func14 Try.call14 e_law08_Ranges ?_
  by_cases hn : a.length = b.length
  · have hn' : (b.length : Int) = (a.length : Int) := by omega
    simp +contextual -implicitDefEqProofs (maxSteps := 1000000) only [c_law08_Ranges, eRgs, sm, sn, sxx, seval, hn']
    refine loop_rule (fun k : Nat => k ≤ a.length ∧ ∀ j, j < k → eqAt a b j = true) (fun k => tm 26 [(0, .list 2 (a.map eRg)), (1, .list 2 (b.map eRg)), (12, .int .i64 a.length), (13, .int .i64 k)]) (fun _ => []) (fun k => a.length - k) 0 ⟨by omega, by omega⟩ ⟨[], by decide, rfl, ?_, ?_⟩ ?_
    · simp +contextual -implicitDefEqProofs (maxSteps := 1000000) only [sm, sn, sxx, seval]
    · simp +contextual -implicitDefEqProofs (maxSteps := 1000000) only [sm, sn, sxx, seval, Int.natCast_zero]
    · rintro k ⟨hk, hok⟩
      by_cases hlt : k < a.length
      · have hlt' : (k : Int) < ((a.length : Nat) : Int) := by omega
        have e2 : IntKind.i64.wrap ((k : Int) + 1) = ((k + 1 : Nat) : Int) := by rw [wrap_i64] <;> omega
        obtain ⟨⟨x, y⟩, hx⟩ : ∃ r, a[k]? = some r := ⟨_, List.getElem?_eq_getElem hlt⟩
        obtain ⟨⟨p, q⟩, hp⟩ : ∃ r, b[k]? = some r := ⟨_, List.getElem?_eq_getElem (by omega)⟩
        have hq : eqAt a b k = (decide (x = p) && decide (y = q)) := by simp [eqAt, hx, hp]
        by_cases h1 : x = p ∧ y = q
        · obtain ⟨rfl, rfl⟩ := h1
          simp +contextual -implicitDefEqProofs (maxSteps := 1000000) only [sm, sn, sxx, seval, hlt', hn', hx, hp, e2]
          refine ⟨k + 1, ⟨by omega, ?_⟩, by omega, [], by decide, rfl, ?_, ?_⟩
          · intro j hj
            rcases Nat.lt_succ_iff_lt_or_eq.1 hj with h | rfl
            · first | exact hok j h | simpa using hok j h
            · simp [hq]
          · simp +contextual -implicitDefEqProofs (maxSteps := 1000000) only [sm, sn, sxx, seval]
          · simp +contextual -implicitDefEqProofs (maxSteps := 1000000) only [sm, sn, sxx, seval]
        · have h1' : (decide (x = p) && decide (y = q)) = false := by simp; omega
          simp +contextual -implicitDefEqProofs (maxSteps := 1000000) only [sm, sn, sxx, seval, hlt', hn', hx, hp, h1']
          rw [h1'] at hq
          exact of_decide_eq_false (eq_no hq)
      · have hkn : k = a.length := by omega
        subst hkn
        have hall := hok
        simp +contextual -implicitDefEqProofs (maxSteps := 1000000) only [sm, sn, sxx, seval, Int.lt_irrefl]
        exact of_decide_eq_true (eq_yes hn hall)
  · have hn' : ((a.length : Int) = (b.length : Int)) = False := by simp only [eq_iff_iff, iff_false]; omega
    simp +contextual -implicitDefEqProofs (maxSteps := 1000000) only [c_law08_Ranges, eRgs, sm, sn, sxx, seval, hn']
    rintro rfl
    exact hn rfl
end Go.Proofs.Ytnhedjpghpdbdaa
namespace Go.Proofs.Ytnhedjpghpdbdaa
open Av
set_option linter.unusedVariables false
set_option maxRecDepth 100000
def kd_CSet (f : Nat) : Nat := if f = 44 then 3 else 0
/- touchstone/set.within: slots n, 0, n, 1 -/
def c_set_within : AFunc := ⟨9, [.tmp 2],
  .seq (.region (⟨some 2, .mov (.val (.bool false)), none⟩ :: [])) <|
  .seq (.region (⟨some 3, .mov (.tmp 0), none⟩ ::
    ⟨some 4, .bin .geq (.tmp 3) (.val (.int .i64 (-1048576))), none⟩ ::
    ⟨some 5, .mov (.tmp 4), none⟩ ::
    ⟨some 6, .mov (.tmp 0), some (5, true)⟩ ::
    ⟨some 7, .bin .leq (.tmp 6) (.val (.int .i64 1048576)), some (5, true)⟩ ::
    ⟨some 8, .pick (.tmp 5) (.tmp 7) (.val (.bool false)), none⟩ ::
    ⟨some 2, .mov (.tmp 8), none⟩ :: [])) <|
  .ret⟩
theorem e_set_within : cFunc Try.prog kd_CSet Try.f116 = some c_set_within := by kernel_rfl
/- touchstone/set.Right: slots d, 0, d, 1, i, 3, r, 4 -/
def c_set_Right : AFunc := ⟨46, [.tmp 2],
  .seq (.region (⟨some 2, .mov (.val (.bool false)), none⟩ :: [])) <|
  .seq (.seq (.region (⟨some 5, .mov (.tmp 0), none⟩ ::
    ⟨some 6, .len false (.tmp 5), none⟩ ::
    ⟨some 7, .mov (.val (.int .i64 0)), none⟩ :: [])) <|
  .block 0 (.loop (.seq (.region (⟨some 8, .bin .lss (.tmp 7) (.tmp 6), none⟩ :: [])) <|
      .seq (.cond (.tmp 8) (.skip) <|
      .exit 0) <|
      .seq (.block 1 (.seq (.region (⟨some 9, .mov (.tmp 7), none⟩ ::
          ⟨some 10, .iaddr 2 (.tmp 5) (.tmp 7), none⟩ ::
          ⟨some 11, .load true 2 (.tmp 10), none⟩ ::
          ⟨some 4, .alloc (.agg [(.int .i64 0), (.int .i64 0)]), none⟩ ::
          ⟨some 3, .mov (.tmp 9), none⟩ ::
          ⟨none, .store 2 (.tmp 4) (.tmp 11), none⟩ :: [])) <|
        .seq (.region (⟨some 12, .faddr 0 (.tmp 4), none⟩ ::
          ⟨some 13, .load false 1 (.tmp 12), none⟩ ::
          ⟨some 14, .faddr 1 (.tmp 4), none⟩ ::
          ⟨some 15, .load false 1 (.tmp 14), none⟩ ::
          ⟨some 16, .bin .gtr (.tmp 13) (.tmp 15), none⟩ ::
          ⟨some 17, .mov (.tmp 16), none⟩ ::
          ⟨some 18, .faddr 0 (.tmp 4), some (17, false)⟩ ::
          ⟨some 19, .load false 1 (.tmp 18), some (17, false)⟩ ::
          ⟨some 20, .call (.val (.fn (.func 116) [])) [(.tmp 19)], some (17, false)⟩ ::
          ⟨some 21, .un .not (.tmp 20), some (17, false)⟩ ::
          ⟨some 22, .pick (.tmp 17) (.val (.bool true)) (.tmp 21), none⟩ ::
          ⟨some 23, .mov (.tmp 22), none⟩ ::
          ⟨some 24, .faddr 1 (.tmp 4), some (23, false)⟩ ::
          ⟨some 25, .load false 1 (.tmp 24), some (23, false)⟩ ::
          ⟨some 26, .call (.val (.fn (.func 116) [])) [(.tmp 25)], some (23, false)⟩ ::
          ⟨some 27, .un .not (.tmp 26), some (23, false)⟩ ::
          ⟨some 28, .pick (.tmp 23) (.val (.bool true)) (.tmp 27), none⟩ ::
          ⟨some 29, .mov (.tmp 28), none⟩ ::
          ⟨some 30, .mov (.tmp 3), some (29, false)⟩ ::
          ⟨some 31, .bin .gtr (.tmp 30) (.val (.int .i64 0)), some (29, false)⟩ ::
          ⟨some 32, .mov (.tmp 31), some (29, false)⟩ ::
          ⟨some 33, .faddr 0 (.tmp 4), some (32, true)⟩ ::
          ⟨some 34, .load false 1 (.tmp 33), some (32, true)⟩ ::
          ⟨some 35, .mov (.tmp 0), some (32, true)⟩ ::
          ⟨some 36, .mov (.tmp 3), some (32, true)⟩ ::
          ⟨some 37, .bin .sub (.tmp 36) (.val (.int .i64 1)), some (32, true)⟩ ::
          ⟨some 38, .iaddr 2 (.tmp 35) (.tmp 37), some (32, true)⟩ ::
          ⟨some 39, .faddr 1 (.tmp 38), some (32, true)⟩ ::
          ⟨some 40, .load false 1 (.tmp 39), some (32, true)⟩ ::
          ⟨some 41, .bin .sub (.tmp 34) (.tmp 40), some (32, true)⟩ ::
          ⟨some 42, .bin .lss (.tmp 41) (.val (.int .i64 2)), some (32, true)⟩ ::
          ⟨some 43, .pick (.tmp 32) (.tmp 42) (.val (.bool false)), some (29, false)⟩ ::
          ⟨some 44, .pick (.tmp 29) (.val (.bool true)) (.tmp 43), none⟩ :: [])) <|
        .cond (.tmp 44) (.seq (.region (⟨some 2, .mov (.val (.bool false)), none⟩ :: [])) <|
          .ret) <|
        .skip)) <|
      .region (⟨some 45, .bin .add (.tmp 7) (.val (.int .i64 1)), none⟩ ::
        ⟨some 7, .mov (.tmp 45), none⟩ :: [])))) <|
  .seq (.region (⟨some 2, .mov (.val (.bool true)), none⟩ :: [])) <|
  .ret⟩
theorem e_set_Right : cFunc Try.prog kd_CSet Try.f86 = some c_set_Right := by kernel_rfl
/- touchstone/set.Ends: slots d, 0, d, 1 -/
def c_set_Ends : AFunc := ⟨25, [.cell 2 true 2, .tmp 3],
  .seq (.region (⟨some 2, .alloc (.agg [(.int .i64 0), (.int .i64 0)]), none⟩ ::
    ⟨some 3, .mov (.val (.bool false)), none⟩ :: [])) <|
  .seq (.seq (.region (⟨some 4, .mov (.tmp 0), none⟩ ::
    ⟨some 5, .call (.val (.fn (.func 86) [])) [(.tmp 4)], none⟩ ::
    ⟨some 6, .un .not (.tmp 5), none⟩ ::
    ⟨some 7, .mov (.tmp 6), none⟩ ::
    ⟨some 8, .mov (.tmp 0), some (7, false)⟩ ::
    ⟨some 9, .len false (.tmp 8), some (7, false)⟩ ::
    ⟨some 10, .bin .eql (.tmp 9) (.val (.int .i64 0)), some (7, false)⟩ ::
    ⟨some 11, .pick (.tmp 7) (.val (.bool true)) (.tmp 10), none⟩ :: [])) <|
  .cond (.tmp 11) (.seq (.region (⟨some 12, .build [(.int .i64 0), (.int .i64 0)] [], none⟩ ::
      ⟨none, .store 2 (.tmp 2) (.tmp 12), none⟩ ::
      ⟨some 3, .mov (.val (.bool false)), none⟩ :: [])) <|
    .ret) <|
  .skip) <|
  .seq (.region (⟨some 13, .mov (.tmp 0), none⟩ ::
    ⟨some 14, .iaddr 2 (.tmp 13) (.val (.int .i64 0)), none⟩ ::
    ⟨some 15, .faddr 0 (.tmp 14), none⟩ ::
    ⟨some 16, .load false 1 (.tmp 15), none⟩ ::
    ⟨some 17, .mov (.tmp 0), none⟩ ::
    ⟨some 18, .mov (.tmp 0), none⟩ ::
    ⟨some 19, .len false (.tmp 18), none⟩ ::
    ⟨some 20, .bin .sub (.tmp 19) (.val (.int .i64 1)), none⟩ ::
    ⟨some 21, .iaddr 2 (.tmp 17) (.tmp 20), none⟩ ::
    ⟨some 22, .faddr 1 (.tmp 21), none⟩ ::
    ⟨some 23, .load false 1 (.tmp 22), none⟩ ::
    ⟨some 24, .build [(.int .i64 0), (.int .i64 0)] [(0, 1, (.tmp 16)), (1, 1, (.tmp 23))], none⟩ ::
    ⟨none, .store 2 (.tmp 2) (.tmp 24), none⟩ ::
    ⟨some 3, .mov (.val (.bool true)), none⟩ :: [])) <|
  .ret⟩
theorem e_set_Ends : cFunc Try.prog kd_CSet Try.f82 = some c_set_Ends := by kernel_rfl
/- touchstone/set.from$1: slots r, 0, v, 1, r, 2, v, 3 -/
def c_set_from_1 : AFunc := ⟨9, [.tmp 4],
  .seq (.region (⟨some 2, .box 2 (.tmp 0), none⟩ ::
    ⟨some 4, .mov (.val (.int .i64 0)), none⟩ :: [])) <|
  .seq (.region (⟨some 5, .faddr 1 (.tmp 2), none⟩ ::
    ⟨some 6, .load false 1 (.tmp 5), none⟩ ::
    ⟨some 7, .mov (.tmp 1), none⟩ ::
    ⟨some 8, .call (.val (.fn (.func 119) [])) [(.tmp 6), (.tmp 7)], none⟩ ::
    ⟨some 4, .mov (.tmp 8), none⟩ :: [])) <|
  .ret⟩
theorem e_set_from_1 : cFunc Try.prog kd_CSet Try.f123 = some c_set_from_1 := by kernel_rfl
/- cmp.Compare[int64]: slots x, 0, y, 1, x, 2, y, 3, xNaN, 5, yNaN, 6 -/
def c_cmp_Compare_int64 : AFunc := ⟨20, [.tmp 4],
  .seq (.region (⟨some 4, .mov (.val (.int .i64 0)), none⟩ :: [])) <|
  .seq (.region (⟨some 7, .mov (.tmp 0), none⟩ ::
    ⟨some 8, .call (.val (.fn (.func 135) [])) [(.tmp 7)], none⟩ ::
    ⟨some 5, .mov (.tmp 8), none⟩ :: [])) <|
  .seq (.region (⟨some 9, .mov (.tmp 1), none⟩ ::
    ⟨some 10, .call (.val (.fn (.func 135) [])) [(.tmp 9)], none⟩ ::
    ⟨some 6, .mov (.tmp 10), none⟩ :: [])) <|
  .seq (.seq (.region (⟨some 11, .mov (.tmp 5), none⟩ :: [])) <|
  .cond (.tmp 11) (.seq (.seq (.region (⟨some 12, .mov (.tmp 6), none⟩ :: [])) <|
    .cond (.tmp 12) (.seq (.region (⟨some 4, .mov (.val (.int .i64 0)), none⟩ :: [])) <|
      .ret) <|
    .skip) <|
    .seq (.region (⟨some 4, .mov (.val (.int .i64 (-1))), none⟩ :: [])) <|
    .ret) <|
  .skip) <|
  .seq (.seq (.region (⟨some 13, .mov (.tmp 6), none⟩ :: [])) <|
  .cond (.tmp 13) (.seq (.region (⟨some 4, .mov (.val (.int .i64 1)), none⟩ :: [])) <|
    .ret) <|
  .skip) <|
  .seq (.seq (.region (⟨some 14, .mov (.tmp 0), none⟩ ::
    ⟨some 15, .mov (.tmp 1), none⟩ ::
    ⟨some 16, .bin .lss (.tmp 14) (.tmp 15), none⟩ :: [])) <|
  .cond (.tmp 16) (.seq (.region (⟨some 4, .mov (.val (.int .i64 (-1))), none⟩ :: [])) <|
    .ret) <|
  .skip) <|
  .seq (.seq (.region (⟨some 17, .mov (.tmp 0), none⟩ ::
    ⟨some 18, .mov (.tmp 1), none⟩ ::
    ⟨some 19, .bin .gtr (.tmp 17) (.tmp 18), none⟩ :: [])) <|
  .cond (.tmp 19) (.seq (.region (⟨some 4, .mov (.val (.int .i64 1)), none⟩ :: [])) <|
    .ret) <|
  .skip) <|
  .seq (.region (⟨some 4, .mov (.val (.int .i64 0)), none⟩ :: [])) <|
  .ret⟩
theorem e_cmp_Compare_int64 : cFunc Try.prog kd_CSet Try.f119 = some c_cmp_Compare_int64 := by kernel_rfl
/- cmp.isNaN[int64]: slots x, 0, x, 1 -/
def c_cmp_isNaN_int64 : AFunc := ⟨6, [.tmp 2],
  .seq (.region (⟨some 2, .mov (.val (.bool false)), none⟩ :: [])) <|
  .seq (.region (⟨some 3, .mov (.tmp 0), none⟩ ::
    ⟨some 4, .mov (.tmp 0), none⟩ ::
    ⟨some 5, .bin .neq (.tmp 3) (.tmp 4), none⟩ ::
    ⟨some 2, .mov (.tmp 5), none⟩ :: [])) <|
  .ret⟩
theorem e_cmp_isNaN_int64 : cFunc Try.prog kd_CSet Try.f135 = some c_cmp_isNaN_int64 := by kernel_rfl
/- slices.BinarySearchFunc[[]touchstone/api.Range,touchstone/api.Range,int64]: slots x, 0, target, 1, cmp, 2, x, 3, target, 4, cmp, 5, n, 8, i, 9, j, 10, h, 11 -/
def c_slices_BinarySearchFunc_sRange_Range_int64 : AFunc := ⟨49, [.tmp 6, .tmp 7],
  .seq (.region (⟨some 6, .mov (.val (.int .i64 0)), none⟩ ::
    ⟨some 7, .mov (.val (.bool false)), none⟩ :: [])) <|
  .seq (.region (⟨some 12, .mov (.tmp 0), none⟩ ::
    ⟨some 13, .len false (.tmp 12), none⟩ ::
    ⟨some 8, .mov (.tmp 13), none⟩ :: [])) <|
  .seq (.region (⟨some 14, .mov (.tmp 8), none⟩ ::
    ⟨some 9, .mov (.val (.int .i64 0)), none⟩ ::
    ⟨some 10, .mov (.tmp 14), none⟩ :: [])) <|
  .seq (.block 0 (.loop (.seq (.seq (.region (⟨some 15, .mov (.tmp 9), none⟩ ::
        ⟨some 16, .mov (.tmp 10), none⟩ ::
        ⟨some 17, .bin .lss (.tmp 15) (.tmp 16), none⟩ :: [])) <|
      .cond (.tmp 17) (.skip) <|
      .exit 0) <|
      .block 1 (.seq (.region (⟨some 18, .mov (.tmp 9), none⟩ ::
          ⟨some 19, .mov (.tmp 10), none⟩ ::
          ⟨some 20, .bin .add (.tmp 18) (.tmp 19), none⟩ ::
          ⟨some 21, .conv .u64 (.tmp 20), none⟩ ::
          ⟨some 22, .bin .shr (.tmp 21) (.val (.int .u64 1)), none⟩ ::
          ⟨some 23, .conv .i64 (.tmp 22), none⟩ ::
          ⟨some 11, .mov (.tmp 23), none⟩ :: [])) <|
        .seq (.region (⟨some 24, .mov (.tmp 2), none⟩ ::
          ⟨some 25, .mov (.tmp 0), none⟩ ::
          ⟨some 26, .mov (.tmp 11), none⟩ ::
          ⟨some 27, .iaddr 2 (.tmp 25) (.tmp 26), none⟩ ::
          ⟨some 28, .load true 2 (.tmp 27), none⟩ ::
          ⟨some 29, .mov (.tmp 1), none⟩ ::
          ⟨some 30, .call (.tmp 24) [(.tmp 28), (.tmp 29)], none⟩ ::
          ⟨some 31, .bin .lss (.tmp 30) (.val (.int .i64 0)), none⟩ :: [])) <|
        .cond (.tmp 31) (.region (⟨some 32, .mov (.tmp 11), none⟩ ::
            ⟨some 33, .bin .add (.tmp 32) (.val (.int .i64 1)), none⟩ ::
            ⟨some 9, .mov (.tmp 33), none⟩ :: [])) <|
        .region (⟨some 34, .mov (.tmp 11), none⟩ ::
          ⟨some 10, .mov (.tmp 34), none⟩ :: []))))) <|
  .seq (.region (⟨some 35, .mov (.tmp 9), none⟩ ::
    ⟨some 36, .mov (.tmp 9), none⟩ ::
    ⟨some 37, .mov (.tmp 8), none⟩ ::
    ⟨some 38, .bin .lss (.tmp 36) (.tmp 37), none⟩ ::
    ⟨some 39, .mov (.tmp 38), none⟩ ::
    ⟨some 40, .mov (.tmp 2), some (39, true)⟩ ::
    ⟨some 41, .mov (.tmp 0), some (39, true)⟩ ::
    ⟨some 42, .mov (.tmp 9), some (39, true)⟩ ::
    ⟨some 43, .iaddr 2 (.tmp 41) (.tmp 42), some (39, true)⟩ ::
    ⟨some 44, .load true 2 (.tmp 43), some (39, true)⟩ ::
    ⟨some 45, .mov (.tmp 1), some (39, true)⟩ ::
    ⟨some 46, .call (.tmp 40) [(.tmp 44), (.tmp 45)], some (39, true)⟩ ::
    ⟨some 47, .bin .eql (.tmp 46) (.val (.int .i64 0)), some (39, true)⟩ ::
    ⟨some 48, .pick (.tmp 39) (.tmp 47) (.val (.bool false)), none⟩ ::
    ⟨some 6, .mov (.tmp 35), none⟩ ::
    ⟨some 7, .mov (.tmp 48), none⟩ :: [])) <|
  .ret⟩
theorem e_slices_BinarySearchFunc_sRange_Range_int64 : cFunc Try.prog kd_CSet Try.f122 = some c_slices_BinarySearchFunc_sRange_Range_int64 := by kernel_rfl
/- touchstone/set.from: slots d, 0, v, 1, d, 2, v, 3, i, 5, _, 6 -/
def c_set_from : AFunc := ⟨14, [.tmp 4],
  .seq (.region (⟨some 4, .mov (.val (.int .i64 0)), none⟩ :: [])) <|
  .seq (.region (⟨some 8, .mov (.tmp 0), none⟩ ::
    ⟨some 9, .mov (.tmp 1), none⟩ ::
    ⟨some 10, .call (.val (.fn (.func 122) [])) [(.tmp 8), (.tmp 9), (.val (.fn (.func 123) []))], none⟩ ::
    ⟨some 7, .mov (.tmp 10), none⟩ ::
    ⟨some 11, .ext (.tmp 7) 0, none⟩ ::
    ⟨some 12, .ext (.tmp 7) 1, none⟩ ::
    ⟨some 5, .mov (.tmp 11), none⟩ ::
    ⟨some 6, .mov (.tmp 12), none⟩ :: [])) <|
  .seq (.region (⟨some 13, .mov (.tmp 5), none⟩ ::
    ⟨some 4, .mov (.tmp 13), none⟩ :: [])) <|
  .ret⟩
theorem e_set_from : cFunc Try.prog kd_CSet Try.f87 = some c_set_from := by kernel_rfl
/- touchstone/set.Next: slots d, 0, v, 1, d, 2, v, 3, i, 6 -/
def c_set_Next : AFunc := ⟨24, [.tmp 4, .tmp 5],
  .seq (.region (⟨some 4, .mov (.val (.int .i64 0)), none⟩ ::
    ⟨some 5, .mov (.val (.bool false)), none⟩ :: [])) <|
  .seq (.seq (.region (⟨some 7, .mov (.tmp 0), none⟩ ::
    ⟨some 8, .call (.val (.fn (.func 86) [])) [(.tmp 7)], none⟩ ::
    ⟨some 9, .un .not (.tmp 8), none⟩ :: [])) <|
  .cond (.tmp 9) (.seq (.region (⟨some 4, .mov (.val (.int .i64 0)), none⟩ ::
      ⟨some 5, .mov (.val (.bool false)), none⟩ :: [])) <|
    .ret) <|
  .skip) <|
  .seq (.region (⟨some 10, .mov (.tmp 0), none⟩ ::
    ⟨some 11, .mov (.tmp 1), none⟩ ::
    ⟨some 12, .call (.val (.fn (.func 87) [])) [(.tmp 10), (.tmp 11)], none⟩ ::
    ⟨some 6, .mov (.tmp 12), none⟩ :: [])) <|
  .seq (.seq (.region (⟨some 13, .mov (.tmp 6), none⟩ ::
    ⟨some 14, .mov (.tmp 0), none⟩ ::
    ⟨some 15, .len false (.tmp 14), none⟩ ::
    ⟨some 16, .bin .eql (.tmp 13) (.tmp 15), none⟩ :: [])) <|
  .cond (.tmp 16) (.seq (.region (⟨some 4, .mov (.val (.int .i64 0)), none⟩ ::
      ⟨some 5, .mov (.val (.bool false)), none⟩ :: [])) <|
    .ret) <|
  .skip) <|
  .seq (.region (⟨some 17, .mov (.tmp 1), none⟩ ::
    ⟨some 18, .mov (.tmp 0), none⟩ ::
    ⟨some 19, .mov (.tmp 6), none⟩ ::
    ⟨some 20, .iaddr 2 (.tmp 18) (.tmp 19), none⟩ ::
    ⟨some 21, .faddr 0 (.tmp 20), none⟩ ::
    ⟨some 22, .load false 1 (.tmp 21), none⟩ ::
    ⟨some 23, .mx (.tmp 17) [(.tmp 22)], none⟩ ::
    ⟨some 4, .mov (.tmp 23), none⟩ ::
    ⟨some 5, .mov (.val (.bool true)), none⟩ :: [])) <|
  .ret⟩
theorem e_set_Next : cFunc Try.prog kd_CSet Try.f133 = some c_set_Next := by kernel_rfl
/- touchstone/set.Has: slots d, 0, v, 1, d, 2, v, 3, n, 5, ok, 6 -/
def c_set_Has : AFunc := ⟨19, [.tmp 4],
  .seq (.region (⟨some 4, .mov (.val (.bool false)), none⟩ :: [])) <|
  .seq (.region (⟨some 8, .mov (.tmp 0), none⟩ ::
    ⟨some 9, .mov (.tmp 1), none⟩ ::
    ⟨some 10, .call (.val (.fn (.func 133) [])) [(.tmp 8), (.tmp 9)], none⟩ ::
    ⟨some 7, .mov (.tmp 10), none⟩ ::
    ⟨some 11, .ext (.tmp 7) 0, none⟩ ::
    ⟨some 12, .ext (.tmp 7) 1, none⟩ ::
    ⟨some 5, .mov (.tmp 11), none⟩ ::
    ⟨some 6, .mov (.tmp 12), none⟩ :: [])) <|
  .seq (.region (⟨some 13, .mov (.tmp 6), none⟩ ::
    ⟨some 14, .mov (.tmp 13), none⟩ ::
    ⟨some 15, .mov (.tmp 5), some (14, true)⟩ ::
    ⟨some 16, .mov (.tmp 1), some (14, true)⟩ ::
    ⟨some 17, .bin .eql (.tmp 15) (.tmp 16), some (14, true)⟩ ::
    ⟨some 18, .pick (.tmp 14) (.tmp 17) (.val (.bool false)), none⟩ ::
    ⟨some 4, .mov (.tmp 18), none⟩ :: [])) <|
  .ret⟩
theorem e_set_Has : cFunc Try.prog kd_CSet Try.f115 = some c_set_Has := by kernel_rfl
/- touchstone/set.Cut: slots d, 0, lo, 1, hi, 2, d, 3, lo, 4, hi, 5, out, 7, _, 8, r, 9 -/
def c_set_Cut : AFunc := ⟨47, [.tmp 6],
  .seq (.region (⟨some 6, .mov (.val .nils), none⟩ :: [])) <|
  .seq (.seq (.region (⟨some 10, .mov (.tmp 0), none⟩ ::
    ⟨some 11, .call (.val (.fn (.func 86) [])) [(.tmp 10)], none⟩ ::
    ⟨some 12, .un .not (.tmp 11), none⟩ :: [])) <|
  .cond (.tmp 12) (.seq (.region (⟨some 6, .mov (.val .nils), none⟩ :: [])) <|
    .ret) <|
  .skip) <|
  .seq (.region (⟨some 7, .mov (.val .nils), none⟩ :: [])) <|
  .seq (.seq (.region (⟨some 13, .mov (.tmp 0), none⟩ ::
    ⟨some 14, .mov (.tmp 0), none⟩ ::
    ⟨some 15, .mov (.tmp 1), none⟩ ::
    ⟨some 16, .call (.val (.fn (.func 87) [])) [(.tmp 14), (.tmp 15)], none⟩ ::
    ⟨some 17, .slc 2 (.tmp 13) (some (.tmp 16)) none, none⟩ ::
    ⟨some 18, .len false (.tmp 17), none⟩ ::
    ⟨some 19, .mov (.val (.int .i64 0)), none⟩ :: [])) <|
  .block 0 (.loop (.seq (.region (⟨some 20, .bin .lss (.tmp 19) (.tmp 18), none⟩ :: [])) <|
      .seq (.cond (.tmp 20) (.skip) <|
      .exit 0) <|
      .seq (.block 1 (.seq (.region (⟨some 21, .iaddr 2 (.tmp 17) (.tmp 19), none⟩ ::
          ⟨some 22, .load true 2 (.tmp 21), none⟩ ::
          ⟨some 9, .alloc (.agg [(.int .i64 0), (.int .i64 0)]), none⟩ ::
          ⟨none, .store 2 (.tmp 9) (.tmp 22), none⟩ :: [])) <|
        .seq (.seq (.region (⟨some 23, .faddr 0 (.tmp 9), none⟩ ::
          ⟨some 24, .load false 1 (.tmp 23), none⟩ ::
          ⟨some 25, .mov (.tmp 2), none⟩ ::
          ⟨some 26, .bin .gtr (.tmp 24) (.tmp 25), none⟩ :: [])) <|
        .cond (.tmp 26) (.exit 0) <|
        .skip) <|
        .seq (.region (⟨some 27, .faddr 0 (.tmp 9), none⟩ ::
          ⟨some 28, .load false 1 (.tmp 27), none⟩ ::
          ⟨some 29, .mov (.tmp 1), none⟩ ::
          ⟨some 30, .mx (.tmp 28) [(.tmp 29)], none⟩ ::
          ⟨some 31, .faddr 1 (.tmp 9), none⟩ ::
          ⟨some 32, .load false 1 (.tmp 31), none⟩ ::
          ⟨some 33, .mov (.tmp 2), none⟩ ::
          ⟨some 34, .mn (.tmp 32) [(.tmp 33)], none⟩ ::
          ⟨some 35, .build [(.int .i64 0), (.int .i64 0)] [(0, 1, (.tmp 30)), (1, 1, (.tmp 34))], none⟩ ::
          ⟨none, .store 2 (.tmp 9) (.tmp 35), none⟩ :: [])) <|
        .seq (.region (⟨some 36, .faddr 0 (.tmp 9), none⟩ ::
          ⟨some 37, .load false 1 (.tmp 36), none⟩ ::
          ⟨some 38, .faddr 1 (.tmp 9), none⟩ ::
          ⟨some 39, .load false 1 (.tmp 38), none⟩ ::
          ⟨some 40, .bin .leq (.tmp 37) (.tmp 39), none⟩ :: [])) <|
        .cond (.tmp 40) (.region (⟨some 41, .mov (.tmp 7), none⟩ ::
            ⟨some 42, .load true 2 (.tmp 9), none⟩ ::
            ⟨some 43, .bslice 2 [(.tmp 42)], none⟩ ::
            ⟨some 44, .app 2 16 (.tmp 41) (.tmp 43), none⟩ ::
            ⟨some 7, .mov (.tmp 44), none⟩ :: [])) <|
        .skip)) <|
      .region (⟨some 45, .bin .add (.tmp 19) (.val (.int .i64 1)), none⟩ ::
        ⟨some 19, .mov (.tmp 45), none⟩ :: [])))) <|
  .seq (.region (⟨some 46, .mov (.tmp 7), none⟩ ::
    ⟨some 6, .mov (.tmp 46), none⟩ :: [])) <|
  .ret⟩
theorem e_set_Cut : cFunc Try.prog kd_CSet Try.f44 = some c_set_Cut := by kernel_rfl
/- touchstone/set.Without: slots d, 0, v, 1, d, 2, v, 3 -/
/- slices.Clone[[]touchstone/api.Range,touchstone/api.Range]: slots s, 0, s, 1 -/
def c_slices_Clone_sRange_Range : AFunc := ⟨8, [.tmp 2],
  .seq (.region (⟨some 2, .mov (.val .nils), none⟩ :: [])) <|
  .seq (.seq (.region (⟨some 3, .mov (.tmp 0), none⟩ ::
    ⟨some 4, .isnil false (.tmp 3), none⟩ :: [])) <|
  .cond (.tmp 4) (.seq (.region (⟨some 2, .mov (.val .nils), none⟩ :: [])) <|
    .ret) <|
  .skip) <|
  .seq (.region (⟨some 5, .bslice 2 [], none⟩ ::
    ⟨some 6, .mov (.tmp 0), none⟩ ::
    ⟨some 7, .app 2 16 (.tmp 5) (.tmp 6), none⟩ ::
    ⟨some 2, .mov (.tmp 7), none⟩ :: [])) <|
  .ret⟩
theorem e_slices_Clone_sRange_Range : cFunc Try.prog kd_CSet Try.f37 = some c_slices_Clone_sRange_Range := by kernel_rfl
end Go.Proofs.Ytnhedjpghpdbdaa
namespace Go.Proofs.Ytnhedjpghpdbdaa
open Av
attribute [local irreducible] awp awpOpers
set_option linter.unusedSimpArgs false
set_option linter.unusedVariables false
set_option maxRecDepth 100000
set_option maxHeartbeats 4000000
theorem set_within (n : Int) : Ctr Try.prog 116 [.int .i64 n] [] (.bool (withinB n)) [] := by
  refine call_pure Try.func116 Try.call116 e_set_within ?_
  simp +contextual -implicitDefEqProofs (maxSteps := 1000000) only [c_set_within, sm, sn, sxx, Nat.reduceAdd, Nat.reduceSub, Nat.reduceLeDiff, Nat.reduceLT, Nat.reduceEqDiff, Int.reduceLE, Int.reduceLT, Int.reduceEq, Int.reduceToNat, Int.reduceAdd, Int.reduceSub, Int.reduceMul, Int.reduceNeg, Int.reduceNe, reduceCtorEq, ↓reduceIte]
  unfold withinB
  split <;> simp_all <;> omega
theorem set_Right (l : List Rg) (hl : l.length ≤ 1000000000000) : Ctr Try.prog 86 [eRgs l] [] (.bool (rightB l)) [] := by
  refine call_pure Try.func86 Try.call86 e_set_Right ?_
  simp +contextual -implicitDefEqProofs (maxSteps := 1000000) only [c_set_Right, eRgs, sm, sn, sxx, Nat.reduceAdd, Nat.reduceSub, Nat.reduceLeDiff, Nat.reduceLT, Nat.reduceEqDiff, Int.reduceLE, Int.reduceLT, Int.reduceEq, Int.reduceToNat, Int.reduceAdd, Int.reduceSub, Int.reduceMul, Int.reduceNeg, Int.reduceNe, reduceCtorEq, ↓reduceIte]
  refine loop_rule (fun k : Nat => k ≤ l.length ∧ ∀ j, j < k → okAt l j = true) (fun k => tm 46 [(0, .list 2 (l.map eRg)), (5, .list 2 (l.map eRg)), (6, .int .i64 l.length), (7, .int .i64 k)]) (fun _ => []) (fun k => l.length - k) 0 ⟨by omega, by omega⟩ ⟨[], by decide, rfl, ?_, ?_⟩ ?_
  · simp +contextual -implicitDefEqProofs (maxSteps := 1000000) only [sm, sn, sxx, Nat.reduceAdd, Nat.reduceSub, Nat.reduceLeDiff, Nat.reduceLT, Nat.reduceEqDiff, Int.reduceLE, Int.reduceLT, Int.reduceEq, Int.reduceToNat, Int.reduceAdd, Int.reduceSub, Int.reduceMul, Int.reduceNeg, Int.reduceNe, reduceCtorEq, ↓reduceIte]
  · simp +contextual -implicitDefEqProofs (maxSteps := 1000000) only [sm, sn, sxx, Nat.reduceAdd, Nat.reduceSub, Nat.reduceLeDiff, Nat.reduceLT, Nat.reduceEqDiff, Int.reduceLE, Int.reduceLT, Int.reduceEq, Int.reduceToNat, Int.reduceAdd, Int.reduceSub, Int.reduceMul, Int.reduceNeg, Int.reduceNe, reduceCtorEq, ↓reduceIte, Int.natCast_zero]
  · rintro k ⟨hk, hok⟩
    by_cases hlt : k < l.length
    · have hlt' : (k : Int) < ((l.length : Nat) : Int) := by omega
      have e2 : IntKind.i64.wrap ((k : Int) + 1) = ((k + 1 : Nat) : Int) := by rw [wrap_i64] <;> omega
      obtain ⟨⟨x, y⟩, hx⟩ : ∃ r, l[k]? = some r := ⟨_, List.getElem?_eq_getElem hlt⟩
      by_cases h1 : y < x
      · simp +contextual -implicitDefEqProofs (maxSteps := 1000000) only [sm, sn, sxx, Nat.reduceAdd, Nat.reduceSub, Nat.reduceLeDiff, Nat.reduceLT, Nat.reduceEqDiff, Int.reduceLE, Int.reduceLT, Int.reduceEq, Int.reduceToNat, Int.reduceAdd, Int.reduceSub, Int.reduceMul, Int.reduceNeg, Int.reduceNe, reduceCtorEq, ↓reduceIte, hlt', hx, h1]
        exact rightB_no hlt (by simp [okAt, hx, h1])
      simp +contextual -implicitDefEqProofs (maxSteps := 1000000) only [sm, sn, sxx, Nat.reduceAdd, Nat.reduceSub, Nat.reduceLeDiff, Nat.reduceLT, Nat.reduceEqDiff, Int.reduceLE, Int.reduceLT, Int.reduceEq, Int.reduceToNat, Int.reduceAdd, Int.reduceSub, Int.reduceMul, Int.reduceNeg, Int.reduceNe, reduceCtorEq, ↓reduceIte, hlt', hx, h1]
      refine callA_rule (set_within _) (wkL_refl _) rfl ?_
      cases hw1 : withinB x
      · simp +contextual -implicitDefEqProofs (maxSteps := 1000000) only [sm, sn, sxx, Nat.reduceAdd, Nat.reduceSub, Nat.reduceLeDiff, Nat.reduceLT, Nat.reduceEqDiff, Int.reduceLE, Int.reduceLT, Int.reduceEq, Int.reduceToNat, Int.reduceAdd, Int.reduceSub, Int.reduceMul, Int.reduceNeg, Int.reduceNe, reduceCtorEq, ↓reduceIte]
        exact rightB_no hlt (by simp [okAt, hx, hw1])
      simp +contextual -implicitDefEqProofs (maxSteps := 1000000) only [sm, sn, sxx, Nat.reduceAdd, Nat.reduceSub, Nat.reduceLeDiff, Nat.reduceLT, Nat.reduceEqDiff, Int.reduceLE, Int.reduceLT, Int.reduceEq, Int.reduceToNat, Int.reduceAdd, Int.reduceSub, Int.reduceMul, Int.reduceNeg, Int.reduceNe, reduceCtorEq, ↓reduceIte, hx, h1]
      refine callA_rule (set_within _) (wkL_refl _) rfl ?_
      cases hw2 : withinB y
      · simp +contextual -implicitDefEqProofs (maxSteps := 1000000) only [sm, sn, sxx, Nat.reduceAdd, Nat.reduceSub, Nat.reduceLeDiff, Nat.reduceLT, Nat.reduceEqDiff, Int.reduceLE, Int.reduceLT, Int.reduceEq, Int.reduceToNat, Int.reduceAdd, Int.reduceSub, Int.reduceMul, Int.reduceNeg, Int.reduceNe, reduceCtorEq, ↓reduceIte]
        exact rightB_no hlt (by simp [okAt, hx, hw2])
      obtain ⟨x1, x2⟩ := (withinB_iff _).1 hw1
      obtain ⟨y1, y2⟩ := (withinB_iff _).1 hw2
      by_cases h0 : k = 0
      · have h0' : ¬ (0 : Int) < k := by omega
        simp +contextual -implicitDefEqProofs (maxSteps := 1000000) only [sm, sn, sxx, Nat.reduceAdd, Nat.reduceSub, Nat.reduceLeDiff, Nat.reduceLT, Nat.reduceEqDiff, Int.reduceLE, Int.reduceLT, Int.reduceEq, Int.reduceToNat, Int.reduceAdd, Int.reduceSub, Int.reduceMul, Int.reduceNeg, Int.reduceNe, reduceCtorEq, ↓reduceIte, h1, h0', e2]
        refine ⟨k + 1, ⟨by omega, ?_⟩, by omega, [], by decide, rfl, ?_, ?_⟩
        · intro j hj
          rcases Nat.lt_succ_iff_lt_or_eq.1 hj with h | rfl
          · first | exact hok j h | simpa using hok j h
          · simp only [okAt, hx]; simp [h0, h1, hw1, hw2]
        · simp +contextual -implicitDefEqProofs (maxSteps := 1000000) only [sm, sn, sxx, Nat.reduceAdd, Nat.reduceSub, Nat.reduceLeDiff, Nat.reduceLT, Nat.reduceEqDiff, Int.reduceLE, Int.reduceLT, Int.reduceEq, Int.reduceToNat, Int.reduceAdd, Int.reduceSub, Int.reduceMul, Int.reduceNeg, Int.reduceNe, reduceCtorEq, ↓reduceIte]
        · simp +contextual -implicitDefEqProofs (maxSteps := 1000000) only [sm, sn, sxx, Nat.reduceAdd, Nat.reduceSub, Nat.reduceLeDiff, Nat.reduceLT, Nat.reduceEqDiff, Int.reduceLE, Int.reduceLT, Int.reduceEq, Int.reduceToNat, Int.reduceAdd, Int.reduceSub, Int.reduceMul, Int.reduceNeg, Int.reduceNe, reduceCtorEq, ↓reduceIte]
      · have h0' : (0 : Int) < k := by omega
        have e1 : IntKind.i64.wrap ((k : Int) - 1) = ((k - 1 : Nat) : Int) := by rw [wrap_i64] <;> omega
        obtain ⟨⟨p, q⟩, hpq⟩ : ∃ r, l[k - 1]? = some r := ⟨_, List.getElem?_eq_getElem (by omega)⟩
        have hp := hok (k - 1) (by omega)
        simp only [okAt, hpq, Bool.and_eq_true, withinB_iff] at hp
        have e3 : IntKind.i64.wrap (x - q) = x - q := by rw [wrap_i64] <;> omega
        by_cases hg : x - q < 2
        · simp +contextual -implicitDefEqProofs (maxSteps := 1000000) only [sm, sn, sxx, Nat.reduceAdd, Nat.reduceSub, Nat.reduceLeDiff, Nat.reduceLT, Nat.reduceEqDiff, Int.reduceLE, Int.reduceLT, Int.reduceEq, Int.reduceToNat, Int.reduceAdd, Int.reduceSub, Int.reduceMul, Int.reduceNeg, Int.reduceNe, reduceCtorEq, ↓reduceIte, hx, h1, h0', e1, hpq, e3, hg]
          exact rightB_no hlt (by simp [okAt, hx, hpq, h1, hw1, hw2, h0]; omega)
        · simp +contextual -implicitDefEqProofs (maxSteps := 1000000) only [sm, sn, sxx, Nat.reduceAdd, Nat.reduceSub, Nat.reduceLeDiff, Nat.reduceLT, Nat.reduceEqDiff, Int.reduceLE, Int.reduceLT, Int.reduceEq, Int.reduceToNat, Int.reduceAdd, Int.reduceSub, Int.reduceMul, Int.reduceNeg, Int.reduceNe, reduceCtorEq, ↓reduceIte, hx, h1, h0', e1, hpq, e3, hg, e2]
          refine ⟨k + 1, ⟨by omega, ?_⟩, by omega, [], by decide, rfl, ?_, ?_⟩
          · intro j hj
            rcases Nat.lt_succ_iff_lt_or_eq.1 hj with h | rfl
            · first | exact hok j h | simpa using hok j h
            · simp [okAt, hx, h1, hw1, hw2, hpq]; omega
          · simp +contextual -implicitDefEqProofs (maxSteps := 1000000) only [sm, sn, sxx, Nat.reduceAdd, Nat.reduceSub, Nat.reduceLeDiff, Nat.reduceLT, Nat.reduceEqDiff, Int.reduceLE, Int.reduceLT, Int.reduceEq, Int.reduceToNat, Int.reduceAdd, Int.reduceSub, Int.reduceMul, Int.reduceNeg, Int.reduceNe, reduceCtorEq, ↓reduceIte]
          · simp +contextual -implicitDefEqProofs (maxSteps := 1000000) only [sm, sn, sxx, Nat.reduceAdd, Nat.reduceSub, Nat.reduceLeDiff, Nat.reduceLT, Nat.reduceEqDiff, Int.reduceLE, Int.reduceLT, Int.reduceEq, Int.reduceToNat, Int.reduceAdd, Int.reduceSub, Int.reduceMul, Int.reduceNeg, Int.reduceNe, reduceCtorEq, ↓reduceIte]
    · have hkn : k = l.length := by omega
      subst hkn
      have hall := hok
      simp +contextual -implicitDefEqProofs (maxSteps := 1000000) only [sm, sn, sxx, Nat.reduceAdd, Nat.reduceSub, Nat.reduceLeDiff, Nat.reduceLT, Nat.reduceEqDiff, Int.reduceLE, Int.reduceLT, Int.reduceEq, Int.reduceToNat, Int.reduceAdd, Int.reduceSub, Int.reduceMul, Int.reduceNeg, Int.reduceNe, reduceCtorEq, ↓reduceIte, Int.lt_irrefl]
      exact rightB_yes hall
theorem set_Ends (l : List Rg) (hl : l.length ≤ 1000000000000) : Ctr Try.prog 82 [eRgs l] [] (.tuple [eRg (endsV l), .bool (endsB l)]) [] := by
  refine call_pure Try.func82 Try.call82 e_set_Ends ?_
  simp +contextual -implicitDefEqProofs (maxSteps := 1000000) only [c_set_Ends, eRgs, sm, sn, sxx, Nat.reduceAdd, Nat.reduceSub, Nat.reduceLeDiff, Nat.reduceLT, Nat.reduceEqDiff, Int.reduceLE, Int.reduceLT, Int.reduceEq, Int.reduceToNat, Int.reduceAdd, Int.reduceSub, Int.reduceMul, Int.reduceNeg, Int.reduceNe, reduceCtorEq, ↓reduceIte]
  refine callA_rule (set_Right l hl) (wkL_refl _) rfl ?_
  cases hr : rightB l
  · have q1 : endsV l = (0, 0) := by simp [endsV, hr]
    have q2 : endsB l = false := by simp [endsB, hr]
    rw [q1, q2]
    simp +contextual -implicitDefEqProofs (maxSteps := 1000000) only [sm, sn, sxx, Nat.reduceAdd, Nat.reduceSub, Nat.reduceLeDiff, Nat.reduceLT, Nat.reduceEqDiff, Int.reduceLE, Int.reduceLT, Int.reduceEq, Int.reduceToNat, Int.reduceAdd, Int.reduceSub, Int.reduceMul, Int.reduceNeg, Int.reduceNe, reduceCtorEq, ↓reduceIte, eRg]
  · by_cases h0 : 0 < l.length
    · obtain ⟨⟨x, y⟩, hxy⟩ : ∃ r, l[0]? = some r := ⟨_, List.getElem?_eq_getElem h0⟩
      obtain ⟨⟨p, q⟩, hpq⟩ : ∃ r, l[l.length - 1]? = some r := ⟨_, List.getElem?_eq_getElem (by omega)⟩
      have e1 : IntKind.i64.wrap ((l.length : Int) - 1) = ((l.length - 1 : Nat) : Int) := by rw [wrap_i64] <;> omega
      have h0' : ((l.length : Int) = 0) = False := by simp only [eq_iff_iff, iff_false]; omega
      have q1 : endsV l = (x, q) := by
        have a1 : l.head? = some (x, y) := by rw [List.head?_eq_getElem?]; exact hxy
        have a2 : l.getLast? = some (p, q) := by rw [List.getLast?_eq_getElem?]; exact hpq
        simp [endsV, hr, a1, a2]
      have q2 : endsB l = true := by
        cases l with
        | nil => simp at h0
        | cons a b => simp [endsB, hr]
      rw [q1, q2]
      simp +contextual -implicitDefEqProofs (maxSteps := 1000000) only [sm, sn, sxx, Nat.reduceAdd, Nat.reduceSub, Nat.reduceLeDiff, Nat.reduceLT, Nat.reduceEqDiff, Int.reduceLE, Int.reduceLT, Int.reduceEq, Int.reduceToNat, Int.reduceAdd, Int.reduceSub, Int.reduceMul, Int.reduceNeg, Int.reduceNe, reduceCtorEq, ↓reduceIte, h0', hxy, hpq, e1, eRg]
    · have : l = [] := List.eq_nil_of_length_eq_zero (by omega)
      subst this
      have q1 : endsV [] = (0, 0) := by decide
      have q2 : endsB [] = false := by decide
      rw [q1, q2]
      simp +contextual -implicitDefEqProofs (maxSteps := 1000000) only [sm, sn, sxx, Nat.reduceAdd, Nat.reduceSub, Nat.reduceLeDiff, Nat.reduceLT, Nat.reduceEqDiff, Int.reduceLE, Int.reduceLT, Int.reduceEq, Int.reduceToNat, Int.reduceAdd, Int.reduceSub, Int.reduceMul, Int.reduceNeg, Int.reduceNe, reduceCtorEq, ↓reduceIte, Int.natCast_zero, eRg]
theorem cmp_isNaN (n : Int) : Ctr Try.prog 135 [.int .i64 n] [] (.bool false) [] := by
  refine call_pure Try.func135 Try.call135 e_cmp_isNaN_int64 ?_
  simp +contextual -implicitDefEqProofs (maxSteps := 1000000) only [c_cmp_isNaN_int64, sm, sn, sxx, Nat.reduceAdd, Nat.reduceSub, Nat.reduceLeDiff, Nat.reduceLT, Nat.reduceEqDiff, Int.reduceLE, Int.reduceLT, Int.reduceEq, Int.reduceToNat, Int.reduceAdd, Int.reduceSub, Int.reduceMul, Int.reduceNeg, Int.reduceNe, reduceCtorEq, ↓reduceIte]
def cmpI (a b : Int) : Int := if a < b then -1 else if b < a then 1 else 0
theorem cmp_Compare (a b : Int) : Ctr Try.prog 119 [.int .i64 a, .int .i64 b] [] (.int .i64 (cmpI a b)) [] := by
  refine call_pure Try.func119 Try.call119 e_cmp_Compare_int64 ?_
  simp +contextual -implicitDefEqProofs (maxSteps := 1000000) only [c_cmp_Compare_int64, sm, sn, sxx, Nat.reduceAdd, Nat.reduceSub, Nat.reduceLeDiff, Nat.reduceLT, Nat.reduceEqDiff, Int.reduceLE, Int.reduceLT, Int.reduceEq, Int.reduceToNat, Int.reduceAdd, Int.reduceSub, Int.reduceMul, Int.reduceNeg, Int.reduceNe, reduceCtorEq, ↓reduceIte]
  refine callA_rule (cmp_isNaN _) (wkL_refl _) rfl ?_
  simp +contextual -implicitDefEqProofs (maxSteps := 1000000) only [sm, sn, sxx, Nat.reduceAdd, Nat.reduceSub, Nat.reduceLeDiff, Nat.reduceLT, Nat.reduceEqDiff, Int.reduceLE, Int.reduceLT, Int.reduceEq, Int.reduceToNat, Int.reduceAdd, Int.reduceSub, Int.reduceMul, Int.reduceNeg, Int.reduceNe, reduceCtorEq, ↓reduceIte]
  refine callA_rule (cmp_isNaN _) (wkL_refl _) rfl ?_
  unfold cmpI
  by_cases h1 : a < b
  · simp +contextual -implicitDefEqProofs (maxSteps := 1000000) only [sm, sn, sxx, Nat.reduceAdd, Nat.reduceSub, Nat.reduceLeDiff, Nat.reduceLT, Nat.reduceEqDiff, Int.reduceLE, Int.reduceLT, Int.reduceEq, Int.reduceToNat, Int.reduceAdd, Int.reduceSub, Int.reduceMul, Int.reduceNeg, Int.reduceNe, reduceCtorEq, ↓reduceIte, h1]
  · by_cases h2 : b < a
    · simp +contextual -implicitDefEqProofs (maxSteps := 1000000) only [sm, sn, sxx, Nat.reduceAdd, Nat.reduceSub, Nat.reduceLeDiff, Nat.reduceLT, Nat.reduceEqDiff, Int.reduceLE, Int.reduceLT, Int.reduceEq, Int.reduceToNat, Int.reduceAdd, Int.reduceSub, Int.reduceMul, Int.reduceNeg, Int.reduceNe, reduceCtorEq, ↓reduceIte, h1, h2]
    · simp +contextual -implicitDefEqProofs (maxSteps := 1000000) only [sm, sn, sxx, Nat.reduceAdd, Nat.reduceSub, Nat.reduceLeDiff, Nat.reduceLT, Nat.reduceEqDiff, Int.reduceLE, Int.reduceLT, Int.reduceEq, Int.reduceToNat, Int.reduceAdd, Int.reduceSub, Int.reduceMul, Int.reduceNeg, Int.reduceNe, reduceCtorEq, ↓reduceIte, h1, h2]
theorem set_from_1 (a b v : Int) : Ctr Try.prog 123 [.agg [.int .i64 a, .int .i64 b], .int .i64 v] [] (.int .i64 (cmpI b v)) [] := by
  refine call_pure Try.func123 Try.call123 e_set_from_1 ?_
  simp +contextual -implicitDefEqProofs (maxSteps := 1000000) only [c_set_from_1, sm, sn, sxx, Nat.reduceAdd, Nat.reduceSub, Nat.reduceLeDiff, Nat.reduceLT, Nat.reduceEqDiff, Int.reduceLE, Int.reduceLT, Int.reduceEq, Int.reduceToNat, Int.reduceAdd, Int.reduceSub, Int.reduceMul, Int.reduceNeg, Int.reduceNe, reduceCtorEq, ↓reduceIte]
  refine callA_rule (cmp_Compare _ _) (wkL_refl _) rfl ?_
  simp +contextual -implicitDefEqProofs (maxSteps := 1000000) only [sm, sn, sxx, Nat.reduceAdd, Nat.reduceSub, Nat.reduceLeDiff, Nat.reduceLT, Nat.reduceEqDiff, Int.reduceLE, Int.reduceLT, Int.reduceEq, Int.reduceToNat, Int.reduceAdd, Int.reduceSub, Int.reduceMul, Int.reduceNeg, Int.reduceNe, reduceCtorEq, ↓reduceIte]
theorem cmpI_lt {a b : Int} (h : a < b) : (cmpI a b < 0) = True := by simp [cmpI, h]
theorem cmpI_ge {a b : Int} (h : ¬ a < b) : (cmpI a b < 0) = False := by
  simp only [cmpI, h, if_false, eq_iff_iff, iff_false]
  split <;> omega
theorem bsearch (l : List Rg) (v : Int) (hl : l.length ≤ 1000000000000) (hr : Rises l) : ∃ t : Bool,
    Ctr Try.prog 122 [eRgs l, .int .i64 v, .fn (.func 123) []] [] (.tuple [.int .i64 (fromN v l), .bool t]) [] := by
  refine ⟨decide (fromN v l < l.length) && (match l[fromN v l]? with | some r => decide (cmpI r.2 v = 0) | none => false), ?_⟩
  refine call_pure Try.func122 Try.call122 e_slices_BinarySearchFunc_sRange_Range_int64 ?_
  simp +contextual -implicitDefEqProofs (maxSteps := 1000000) only [c_slices_BinarySearchFunc_sRange_Range_int64, eRgs, sm, sn, sxx, Nat.reduceAdd, Nat.reduceSub, Nat.reduceLeDiff, Nat.reduceLT, Nat.reduceEqDiff, Int.reduceLE, Int.reduceLT, Int.reduceEq, Int.reduceToNat, Int.reduceAdd, Int.reduceSub, Int.reduceMul, Int.reduceNeg, Int.reduceNe, reduceCtorEq, ↓reduceIte]
  refine loop_rule (fun b : Nat × Nat => b.1 ≤ b.2 ∧ b.2 ≤ l.length ∧ (∀ j x y, j < b.1 → l[j]? = some (x, y) → y < v) ∧ ∀ j x y, b.2 ≤ j → l[j]? = some (x, y) → v ≤ y)
    (fun b => tm 49 [(0, .list 2 (l.map eRg)), (1, .int .i64 v), (2, .fn (.func 123) []), (8, .int .i64 l.length), (9, .int .i64 b.1), (10, .int .i64 b.2)]) (fun _ => []) (fun b => b.2 - b.1) (0, l.length)
    ⟨by simp, by simp, by simp, ?_⟩ ⟨[], by decide, rfl, ?_, ?_⟩ ?_
  · intro j x y hj hx
    have := (List.getElem?_eq_some_iff.1 hx).1
    simp only at hj
    omega
  · simp +contextual -implicitDefEqProofs (maxSteps := 1000000) only [sm, sn, sxx, Nat.reduceAdd, Nat.reduceSub, Nat.reduceLeDiff, Nat.reduceLT, Nat.reduceEqDiff, Int.reduceLE, Int.reduceLT, Int.reduceEq, Int.reduceToNat, Int.reduceAdd, Int.reduceSub, Int.reduceMul, Int.reduceNeg, Int.reduceNe, reduceCtorEq, ↓reduceIte]
  · simp +contextual -implicitDefEqProofs (maxSteps := 1000000) only [sm, sn, sxx, Nat.reduceAdd, Nat.reduceSub, Nat.reduceLeDiff, Nat.reduceLT, Nat.reduceEqDiff, Int.reduceLE, Int.reduceLT, Int.reduceEq, Int.reduceToNat, Int.reduceAdd, Int.reduceSub, Int.reduceMul, Int.reduceNeg, Int.reduceNe, reduceCtorEq, ↓reduceIte, Int.natCast_zero]
  · rintro ⟨i, j⟩ ⟨hij, hjl, hlo, hhi⟩
    simp only at hij hjl hlo hhi
    by_cases hlt : i < j
    · have hlt' : (i : Int) < (j : Int) := by omega
      have a1 : IntKind.i64.wrap ((i : Int) + j) = (i : Int) + j := by rw [wrap_i64] <;> omega
      have a2 : IntKind.u64.wrap ((i : Int) + j) = (i : Int) + j := IntWalk.u64_in _ (by omega)
      have a3 : IntKind.i64.wrap (((i : Int) + j).fdiv 2) = (((i + j) / 2 : Nat) : Int) := by
        rw [Int.fdiv_eq_ediv_of_nonneg _ (by omega), wrap_i64] <;> omega
      obtain ⟨⟨x, y⟩, hx⟩ : ∃ r, l[(i + j) / 2]? = some r := ⟨_, List.getElem?_eq_getElem (by omega)⟩
      simp +contextual -implicitDefEqProofs (maxSteps := 1000000) only [sm, sn, sxx, Nat.reduceAdd, Nat.reduceSub, Nat.reduceLeDiff, Nat.reduceLT, Nat.reduceEqDiff, Int.reduceLE, Int.reduceLT, Int.reduceEq, Int.reduceToNat, Int.reduceAdd, Int.reduceSub, Int.reduceMul, Int.reduceNeg, Int.reduceNe, reduceCtorEq, ↓reduceIte, hlt', a1, a2, a3, hx]
      refine callA_rule (set_from_1 _ _ _) (wkL_refl _) rfl ?_
      have a4 : IntKind.i64.wrap ((((i + j) / 2 : Nat) : Int) + 1) = (((i + j) / 2 + 1 : Nat) : Int) := by rw [wrap_i64] <;> omega
      by_cases hy : y < v
      · have hy' := cmpI_lt hy
        simp +contextual -implicitDefEqProofs (maxSteps := 1000000) only [sm, sn, sxx, Nat.reduceAdd, Nat.reduceSub, Nat.reduceLeDiff, Nat.reduceLT, Nat.reduceEqDiff, Int.reduceLE, Int.reduceLT, Int.reduceEq, Int.reduceToNat, Int.reduceAdd, Int.reduceSub, Int.reduceMul, Int.reduceNeg, Int.reduceNe, reduceCtorEq, ↓reduceIte, hy', a4]
        refine ⟨((i + j) / 2 + 1, j), ⟨by (try dsimp only); omega, hjl, ?_, hhi⟩, by (try dsimp only); omega, [], by decide, rfl, ?_, ?_⟩
        · intro p a b hp hpx
          simp only at hp
          have := hr p ((i + j) / 2) a b x y (by omega) hpx hx
          omega
        · simp +contextual -implicitDefEqProofs (maxSteps := 1000000) only [sm, sn, sxx, Nat.reduceAdd, Nat.reduceSub, Nat.reduceLeDiff, Nat.reduceLT, Nat.reduceEqDiff, Int.reduceLE, Int.reduceLT, Int.reduceEq, Int.reduceToNat, Int.reduceAdd, Int.reduceSub, Int.reduceMul, Int.reduceNeg, Int.reduceNe, reduceCtorEq, ↓reduceIte]
        · simp +contextual -implicitDefEqProofs (maxSteps := 1000000) only [sm, sn, sxx, Nat.reduceAdd, Nat.reduceSub, Nat.reduceLeDiff, Nat.reduceLT, Nat.reduceEqDiff, Int.reduceLE, Int.reduceLT, Int.reduceEq, Int.reduceToNat, Int.reduceAdd, Int.reduceSub, Int.reduceMul, Int.reduceNeg, Int.reduceNe, reduceCtorEq, ↓reduceIte]
      · have hy' := cmpI_ge hy
        simp +contextual -implicitDefEqProofs (maxSteps := 1000000) only [sm, sn, sxx, Nat.reduceAdd, Nat.reduceSub, Nat.reduceLeDiff, Nat.reduceLT, Nat.reduceEqDiff, Int.reduceLE, Int.reduceLT, Int.reduceEq, Int.reduceToNat, Int.reduceAdd, Int.reduceSub, Int.reduceMul, Int.reduceNeg, Int.reduceNe, reduceCtorEq, ↓reduceIte, hy']
        refine ⟨(i, (i + j) / 2), ⟨by (try dsimp only); omega, by (try dsimp only); omega, hlo, ?_⟩, by (try dsimp only); omega, [], by decide, rfl, ?_, ?_⟩
        · intro p a b hp hpx
          simp only at hp
          have := hr ((i + j) / 2) p x y a b (by omega) hx hpx
          omega
        · simp +contextual -implicitDefEqProofs (maxSteps := 1000000) only [sm, sn, sxx, Nat.reduceAdd, Nat.reduceSub, Nat.reduceLeDiff, Nat.reduceLT, Nat.reduceEqDiff, Int.reduceLE, Int.reduceLT, Int.reduceEq, Int.reduceToNat, Int.reduceAdd, Int.reduceSub, Int.reduceMul, Int.reduceNeg, Int.reduceNe, reduceCtorEq, ↓reduceIte]
        · simp +contextual -implicitDefEqProofs (maxSteps := 1000000) only [sm, sn, sxx, Nat.reduceAdd, Nat.reduceSub, Nat.reduceLeDiff, Nat.reduceLT, Nat.reduceEqDiff, Int.reduceLE, Int.reduceLT, Int.reduceEq, Int.reduceToNat, Int.reduceAdd, Int.reduceSub, Int.reduceMul, Int.reduceNeg, Int.reduceNe, reduceCtorEq, ↓reduceIte]
    · have : i = j := by omega
      subst this
      have hf : fromN v l = i := fromN_eq hjl hlo (fun x y h => hhi _ x y (Nat.le_refl _) h)
      rw [hf]
      by_cases hi : i < l.length
      · obtain ⟨⟨x, y⟩, hx⟩ : ∃ r, l[i]? = some r := ⟨_, List.getElem?_eq_getElem hi⟩
        have hi' : (i : Int) < (l.length : Int) := by omega
        simp +contextual -implicitDefEqProofs (maxSteps := 1000000) only [sm, sn, sxx, Nat.reduceAdd, Nat.reduceSub, Nat.reduceLeDiff, Nat.reduceLT, Nat.reduceEqDiff, Int.reduceLE, Int.reduceLT, Int.reduceEq, Int.reduceToNat, Int.reduceAdd, Int.reduceSub, Int.reduceMul, Int.reduceNeg, Int.reduceNe, reduceCtorEq, ↓reduceIte, Int.lt_irrefl, hi', hx]
        refine callA_rule (set_from_1 _ _ _) (wkL_refl _) rfl ?_
        simp +contextual -implicitDefEqProofs (maxSteps := 1000000) only [sm, sn, sxx, Nat.reduceAdd, Nat.reduceSub, Nat.reduceLeDiff, Nat.reduceLT, Nat.reduceEqDiff, Int.reduceLE, Int.reduceLT, Int.reduceEq, Int.reduceToNat, Int.reduceAdd, Int.reduceSub, Int.reduceMul, Int.reduceNeg, Int.reduceNe, reduceCtorEq, ↓reduceIte, hi, hx]
      · have hi' : ¬ (i : Int) < (l.length : Int) := by omega
        have hx : l[i]? = none := List.getElem?_eq_none (by omega)
        simp +contextual -implicitDefEqProofs (maxSteps := 1000000) only [sm, sn, sxx, Nat.reduceAdd, Nat.reduceSub, Nat.reduceLeDiff, Nat.reduceLT, Nat.reduceEqDiff, Int.reduceLE, Int.reduceLT, Int.reduceEq, Int.reduceToNat, Int.reduceAdd, Int.reduceSub, Int.reduceMul, Int.reduceNeg, Int.reduceNe, reduceCtorEq, ↓reduceIte, Int.lt_irrefl, hi', hi, hx]
theorem set_from (l : List Rg) (v : Int) (hl : l.length ≤ 1000000000000) (hr : Rises l) : Ctr Try.prog 87 [eRgs l, .int .i64 v] [] (.int .i64 (fromN v l)) [] := by
  refine call_pure Try.func87 Try.call87 e_set_from ?_
  obtain ⟨t, ht⟩ := bsearch l v hl hr
  simp +contextual -implicitDefEqProofs (maxSteps := 1000000) only [c_set_from, eRgs, sm, sn, sxx, Nat.reduceAdd, Nat.reduceSub, Nat.reduceLeDiff, Nat.reduceLT, Nat.reduceEqDiff, Int.reduceLE, Int.reduceLT, Int.reduceEq, Int.reduceToNat, Int.reduceAdd, Int.reduceSub, Int.reduceMul, Int.reduceNeg, Int.reduceNe, reduceCtorEq, ↓reduceIte]
  refine callA_rule ht (wkL_refl _) rfl ?_
  simp +contextual -implicitDefEqProofs (maxSteps := 1000000) only [sm, sn, sxx, Nat.reduceAdd, Nat.reduceSub, Nat.reduceLeDiff, Nat.reduceLT, Nat.reduceEqDiff, Int.reduceLE, Int.reduceLT, Int.reduceEq, Int.reduceToNat, Int.reduceAdd, Int.reduceSub, Int.reduceMul, Int.reduceNeg, Int.reduceNe, reduceCtorEq, ↓reduceIte]
theorem set_Next (l : List Rg) (v : Int) (hl : l.length ≤ 1000000000000) : Ctr Try.prog 133 [eRgs l, .int .i64 v] [] (.tuple [.int .i64 (nextV l v), .bool (nextB l v)]) [] := by
  refine call_pure Try.func133 Try.call133 e_set_Next ?_
  simp +contextual -implicitDefEqProofs (maxSteps := 1000000) only [c_set_Next, eRgs, sm, sn, sxx, Nat.reduceAdd, Nat.reduceSub, Nat.reduceLeDiff, Nat.reduceLT, Nat.reduceEqDiff, Int.reduceLE, Int.reduceLT, Int.reduceEq, Int.reduceToNat, Int.reduceAdd, Int.reduceSub, Int.reduceMul, Int.reduceNeg, Int.reduceNe, reduceCtorEq, ↓reduceIte]
  refine callA_rule (set_Right l hl) (wkL_refl _) rfl ?_
  cases hr : rightB l
  · simp +contextual -implicitDefEqProofs (maxSteps := 1000000) only [sm, sn, sxx, Nat.reduceAdd, Nat.reduceSub, Nat.reduceLeDiff, Nat.reduceLT, Nat.reduceEqDiff, Int.reduceLE, Int.reduceLT, Int.reduceEq, Int.reduceToNat, Int.reduceAdd, Int.reduceSub, Int.reduceMul, Int.reduceNeg, Int.reduceNe, reduceCtorEq, ↓reduceIte]
    simp [nextV, nextB, hr]
  · simp +contextual -implicitDefEqProofs (maxSteps := 1000000) only [sm, sn, sxx, Nat.reduceAdd, Nat.reduceSub, Nat.reduceLeDiff, Nat.reduceLT, Nat.reduceEqDiff, Int.reduceLE, Int.reduceLT, Int.reduceEq, Int.reduceToNat, Int.reduceAdd, Int.reduceSub, Int.reduceMul, Int.reduceNeg, Int.reduceNe, reduceCtorEq, ↓reduceIte]
    refine callA_rule (set_from l v hl (right_rises hr)) (wkL_refl _) rfl ?_
    have hle := fromN_le v l
    by_cases hlt : fromN v l < l.length
    · obtain ⟨⟨x, y⟩, hx⟩ : ∃ r, l[fromN v l]? = some r := ⟨_, List.getElem?_eq_getElem hlt⟩
      have h1 : ((fromN v l : Int) = (l.length : Int)) = False := by simp only [eq_iff_iff, iff_false]; omega
      have q1 : nextV l v = max v x := by simp [nextV, hr, hx]
      have q2 : nextB l v = true := by simp [nextB, hr, hlt]
      simp +contextual -implicitDefEqProofs (maxSteps := 1000000) only [sm, sn, sxx, Nat.reduceAdd, Nat.reduceSub, Nat.reduceLeDiff, Nat.reduceLT, Nat.reduceEqDiff, Int.reduceLE, Int.reduceLT, Int.reduceEq, Int.reduceToNat, Int.reduceAdd, Int.reduceSub, Int.reduceMul, Int.reduceNeg, Int.reduceNe, reduceCtorEq, ↓reduceIte, h1, hx, q1, q2]
    · have h1 : ((fromN v l : Int) = (l.length : Int)) = True := by simp only [eq_iff_iff, iff_true]; omega
      have hx : l[fromN v l]? = none := List.getElem?_eq_none (by omega)
      have q1 : nextV l v = 0 := by simp [nextV, hr, hx]
      have q2 : nextB l v = false := by simp [nextB, hr, hlt]
      simp +contextual -implicitDefEqProofs (maxSteps := 1000000) only [sm, sn, sxx, Nat.reduceAdd, Nat.reduceSub, Nat.reduceLeDiff, Nat.reduceLT, Nat.reduceEqDiff, Int.reduceLE, Int.reduceLT, Int.reduceEq, Int.reduceToNat, Int.reduceAdd, Int.reduceSub, Int.reduceMul, Int.reduceNeg, Int.reduceNe, reduceCtorEq, ↓reduceIte, h1, q1, q2]
theorem set_Has (l : List Rg) (v : Int) (hl : l.length ≤ 1000000000000) : Ctr Try.prog 115 [eRgs l, .int .i64 v] [] (.bool (hasB l v)) [] := by
  refine call_pure Try.func115 Try.call115 e_set_Has ?_
  simp +contextual -implicitDefEqProofs (maxSteps := 1000000) only [c_set_Has, eRgs, sm, sn, sxx, Nat.reduceAdd, Nat.reduceSub, Nat.reduceLeDiff, Nat.reduceLT, Nat.reduceEqDiff, Int.reduceLE, Int.reduceLT, Int.reduceEq, Int.reduceToNat, Int.reduceAdd, Int.reduceSub, Int.reduceMul, Int.reduceNeg, Int.reduceNe, reduceCtorEq, ↓reduceIte]
  refine callA_rule (set_Next l v hl) (wkL_refl _) rfl ?_
  cases hb : nextB l v
  · simp +contextual -implicitDefEqProofs (maxSteps := 1000000) only [sm, sn, sxx, Nat.reduceAdd, Nat.reduceSub, Nat.reduceLeDiff, Nat.reduceLT, Nat.reduceEqDiff, Int.reduceLE, Int.reduceLT, Int.reduceEq, Int.reduceToNat, Int.reduceAdd, Int.reduceSub, Int.reduceMul, Int.reduceNeg, Int.reduceNe, reduceCtorEq, ↓reduceIte]
    simp [hasB, hb]
  · simp +contextual -implicitDefEqProofs (maxSteps := 1000000) only [sm, sn, sxx, Nat.reduceAdd, Nat.reduceSub, Nat.reduceLeDiff, Nat.reduceLT, Nat.reduceEqDiff, Int.reduceLE, Int.reduceLT, Int.reduceEq, Int.reduceToNat, Int.reduceAdd, Int.reduceSub, Int.reduceMul, Int.reduceNeg, Int.reduceNe, reduceCtorEq, ↓reduceIte]
    simp [hasB, hb]
    rfl
theorem set_Cut (l : List Rg) (lo hi : Int) (hl : l.length ≤ 1000000000000) : Ctr Try.prog 44 [eRgs l, .int .i64 lo, .int .i64 hi] [] (eRgs (cutS lo hi l)) [] := by
  refine call_pure Try.func44 Try.call44 e_set_Cut ?_
  simp +contextual -implicitDefEqProofs (maxSteps := 1000000) only [c_set_Cut, eRgs, sm, sn, sxx, Nat.reduceAdd, Nat.reduceSub, Nat.reduceLeDiff, Nat.reduceLT, Nat.reduceEqDiff, Int.reduceLE, Int.reduceLT, Int.reduceEq, Int.reduceToNat, Int.reduceAdd, Int.reduceSub, Int.reduceMul, Int.reduceNeg, Int.reduceNe, reduceCtorEq, ↓reduceIte]
  refine callA_rule (set_Right l hl) (wkL_refl _) rfl ?_
  cases hr : rightB l
  · simp +contextual -implicitDefEqProofs (maxSteps := 1000000) only [sm, sn, sxx, Nat.reduceAdd, Nat.reduceSub, Nat.reduceLeDiff, Nat.reduceLT, Nat.reduceEqDiff, Int.reduceLE, Int.reduceLT, Int.reduceEq, Int.reduceToNat, Int.reduceAdd, Int.reduceSub, Int.reduceMul, Int.reduceNeg, Int.reduceNe, reduceCtorEq, ↓reduceIte]
    simp [cutS, hr]
  · simp +contextual -implicitDefEqProofs (maxSteps := 1000000) only [sm, sn, sxx, Nat.reduceAdd, Nat.reduceSub, Nat.reduceLeDiff, Nat.reduceLT, Nat.reduceEqDiff, Int.reduceLE, Int.reduceLT, Int.reduceEq, Int.reduceToNat, Int.reduceAdd, Int.reduceSub, Int.reduceMul, Int.reduceNeg, Int.reduceNe, reduceCtorEq, ↓reduceIte]
    refine callA_rule (set_from l lo hl (right_rises hr)) (wkL_refl _) rfl ?_
    have hle := fromN_le lo l
    have hcut : cutS lo hi l = cutGo lo hi (l.drop (fromN lo l)) := by simp [cutS, hr]
    have e2z : List.take l.length (List.map eRg l) = List.map eRg l := take_map _ _
    have e0 : (List.drop (fromN lo l) (List.map eRg l)).length = (l.drop (fromN lo l)).length := by simp
    have e1 : List.drop (fromN lo l) (List.map eRg l) = (l.drop (fromN lo l)).map eRg := by rw [List.map_drop]
    simp +contextual -implicitDefEqProofs (maxSteps := 1000000) only [sm, sn, sxx, Nat.reduceAdd, Nat.reduceSub, Nat.reduceLeDiff, Nat.reduceLT, Nat.reduceEqDiff, Int.reduceLE, Int.reduceLT, Int.reduceEq, Int.reduceToNat, Int.reduceAdd, Int.reduceSub, Int.reduceMul, Int.reduceNeg, Int.reduceNe, reduceCtorEq, ↓reduceIte, List.take_length, hle, e2z, Nat.le_refl]
    try rw [e1]
    generalize hm : l.drop (fromN lo l) = m at hcut e0 e1 ⊢
    have hml : m.length ≤ 1000000000000 := by rw [← hm, List.length_drop]; omega
    rw [hcut]
    refine loop_ruleV [(7, 2)] (fun b : Nat × List Rg => b.1 ≤ m.length ∧ b.2.length ≤ 1 * b.1 ∧ b.2 ++ cutGo lo hi (m.drop b.1) = cutGo lo hi m) (fun b : Nat × List Rg => tm 47 [(1, .int .i64 lo), (2, .int .i64 hi), (7, .sl 2 0 0 b.2.length), (17, .list 2 (m.map eRg)), (18, .int .i64 m.length), (19, .int .i64 b.1)]) (fun b => [some (2, b.2.map eRg)]) (fun b => m.length - b.1) (0, []) (by simp +contextual -implicitDefEqProofs (maxSteps := 1000000) only [sm, sn, sxx, Nat.reduceAdd, Nat.reduceSub, Nat.reduceLeDiff, Nat.reduceLT, Nat.reduceEqDiff, Int.reduceLE, Int.reduceLT, Int.reduceEq, Int.reduceToNat, Int.reduceAdd, Int.reduceSub, Int.reduceMul, Int.reduceNeg, Int.reduceNe, reduceCtorEq, ↓reduceIte]) ⟨by simp, by simp, by simp⟩ ⟨[0], by decide, rfl, ?_, ?_⟩ ?_
    · simp +contextual -implicitDefEqProofs (maxSteps := 1000000) only [sm, sn, sxx, Nat.reduceAdd, Nat.reduceSub, Nat.reduceLeDiff, Nat.reduceLT, Nat.reduceEqDiff, Int.reduceLE, Int.reduceLT, Int.reduceEq, Int.reduceToNat, Int.reduceAdd, Int.reduceSub, Int.reduceMul, Int.reduceNeg, Int.reduceNe, reduceCtorEq, ↓reduceIte]
    · simp +contextual -implicitDefEqProofs (maxSteps := 1000000) only [sm, sn, sxx, Nat.reduceAdd, Nat.reduceSub, Nat.reduceLeDiff, Nat.reduceLT, Nat.reduceEqDiff, Int.reduceLE, Int.reduceLT, Int.reduceEq, Int.reduceToNat, Int.reduceAdd, Int.reduceSub, Int.reduceMul, Int.reduceNeg, Int.reduceNe, reduceCtorEq, ↓reduceIte, Int.natCast_zero]
    · rintro ⟨k, acc⟩ ⟨hk, hacc, hgo⟩
      simp only at hk hacc hgo
      by_cases hlt : k < m.length
      · obtain ⟨⟨x, y⟩, hx⟩ : ∃ r, m[k]? = some r := ⟨_, List.getElem?_eq_getElem hlt⟩
        have hd := drop_at hx
        have hlt' : (k : Int) < (m.length : Int) := by omega
        have e2 : IntKind.i64.wrap ((k : Int) + 1) = ((k + 1 : Nat) : Int) := by rw [wrap_i64] <;> omega
        by_cases h0 : hi < x
        · have hgo : acc = cutGo lo hi m := by rw [← hgo, hd]; simp [cutGo, h0]
          simp +contextual -implicitDefEqProofs (maxSteps := 1000000) only [sm, sn, sxx, Nat.reduceAdd, Nat.reduceSub, Nat.reduceLeDiff, Nat.reduceLT, Nat.reduceEqDiff, Int.reduceLE, Int.reduceLT, Int.reduceEq, Int.reduceToNat, Int.reduceAdd, Int.reduceSub, Int.reduceMul, Int.reduceNeg, Int.reduceNe, reduceCtorEq, ↓reduceIte, hlt', hx, h0, Nat.le_refl]
          simp [hgo]
        by_cases h1 : max x lo ≤ min y hi
        · have c1 : (acc.length + 1) * 16 ≤ 140737488355328 := by omega
          have c2 : acc.length + 1 ≤ maxLen := by unfold maxLen; omega
          simp +contextual -implicitDefEqProofs (maxSteps := 1000000) only [sm, sn, sxx, Nat.reduceAdd, Nat.reduceSub, Nat.reduceLeDiff, Nat.reduceLT, Nat.reduceEqDiff, Int.reduceLE, Int.reduceLT, Int.reduceEq, Int.reduceToNat, Int.reduceAdd, Int.reduceSub, Int.reduceMul, Int.reduceNeg, Int.reduceNe, reduceCtorEq, ↓reduceIte, hlt', hx, h0, h1, e2, c1, c2, Nat.le_refl]
          refine ⟨(k + 1, acc ++ [(max x lo, min y hi)]), ⟨by (try dsimp only); omega, by (try dsimp only); simp only [List.length_append, List.length_cons, List.length_nil]; omega, by
            rw [← hgo, hd]; simp [cutGo, h0, h1]⟩, by (try dsimp only); omega, [2], by decide, rfl, ?_, ?_⟩
          · simp +contextual -implicitDefEqProofs (maxSteps := 1000000) only [sm, sn, sxx, Nat.reduceAdd, Nat.reduceSub, Nat.reduceLeDiff, Nat.reduceLT, Nat.reduceEqDiff, Int.reduceLE, Int.reduceLT, Int.reduceEq, Int.reduceToNat, Int.reduceAdd, Int.reduceSub, Int.reduceMul, Int.reduceNeg, Int.reduceNe, reduceCtorEq, ↓reduceIte]
          · simp +contextual -implicitDefEqProofs (maxSteps := 1000000) only [sm, sn, sxx, Nat.reduceAdd, Nat.reduceSub, Nat.reduceLeDiff, Nat.reduceLT, Nat.reduceEqDiff, Int.reduceLE, Int.reduceLT, Int.reduceEq, Int.reduceToNat, Int.reduceAdd, Int.reduceSub, Int.reduceMul, Int.reduceNeg, Int.reduceNe, reduceCtorEq, ↓reduceIte]
        · simp +contextual -implicitDefEqProofs (maxSteps := 1000000) only [sm, sn, sxx, Nat.reduceAdd, Nat.reduceSub, Nat.reduceLeDiff, Nat.reduceLT, Nat.reduceEqDiff, Int.reduceLE, Int.reduceLT, Int.reduceEq, Int.reduceToNat, Int.reduceAdd, Int.reduceSub, Int.reduceMul, Int.reduceNeg, Int.reduceNe, reduceCtorEq, ↓reduceIte, hlt', hx, h0, h1, e2]
          refine ⟨(k + 1, acc), ⟨by (try dsimp only); omega, by (try dsimp only); omega, by
            rw [← hgo, hd]; simp [cutGo, h0, h1]⟩, by (try dsimp only); omega, [0], by decide, rfl, ?_, ?_⟩
          · simp +contextual -implicitDefEqProofs (maxSteps := 1000000) only [sm, sn, sxx, Nat.reduceAdd, Nat.reduceSub, Nat.reduceLeDiff, Nat.reduceLT, Nat.reduceEqDiff, Int.reduceLE, Int.reduceLT, Int.reduceEq, Int.reduceToNat, Int.reduceAdd, Int.reduceSub, Int.reduceMul, Int.reduceNeg, Int.reduceNe, reduceCtorEq, ↓reduceIte]
          · simp +contextual -implicitDefEqProofs (maxSteps := 1000000) only [sm, sn, sxx, Nat.reduceAdd, Nat.reduceSub, Nat.reduceLeDiff, Nat.reduceLT, Nat.reduceEqDiff, Int.reduceLE, Int.reduceLT, Int.reduceEq, Int.reduceToNat, Int.reduceAdd, Int.reduceSub, Int.reduceMul, Int.reduceNeg, Int.reduceNe, reduceCtorEq, ↓reduceIte]
      · have : k = m.length := by omega
        subst this
        have hgo : acc = cutGo lo hi m := by rw [← hgo, List.drop_length]; simp [cutGo]
        simp +contextual -implicitDefEqProofs (maxSteps := 1000000) only [sm, sn, sxx, Nat.reduceAdd, Nat.reduceSub, Nat.reduceLeDiff, Nat.reduceLT, Nat.reduceEqDiff, Int.reduceLE, Int.reduceLT, Int.reduceEq, Int.reduceToNat, Int.reduceAdd, Int.reduceSub, Int.reduceMul, Int.reduceNeg, Int.reduceNe, reduceCtorEq, ↓reduceIte, Int.lt_irrefl, Nat.le_refl]
        simp [hgo]
theorem set_CutO (l : List Rg) (lo hi : Int) (hl : l.length ≤ 1000000000000) (hright : rightB l = true) : Ctr Try.prog 44 [eRgs l, .int .i64 lo, .int .i64 hi] [] (.sl 2 0 0 (cutS lo hi l).length) [some (2, (cutS lo hi l).map eRg)] := by
  refine call_box Try.func44 Try.call44 e_set_Cut ?_
  simp +contextual -implicitDefEqProofs (maxSteps := 1000000) only [c_set_Cut, eRgs, sm, sn, sxx, Nat.reduceAdd, Nat.reduceSub, Nat.reduceLeDiff, Nat.reduceLT, Nat.reduceEqDiff, Int.reduceLE, Int.reduceLT, Int.reduceEq, Int.reduceToNat, Int.reduceAdd, Int.reduceSub, Int.reduceMul, Int.reduceNeg, Int.reduceNe, reduceCtorEq, ↓reduceIte]
  refine callA_rule (set_Right l hl) (wkL_refl _) rfl ?_
  have hr := hright
  skip
  · simp +contextual -implicitDefEqProofs (maxSteps := 1000000) only [sm, sn, sxx, Nat.reduceAdd, Nat.reduceSub, Nat.reduceLeDiff, Nat.reduceLT, Nat.reduceEqDiff, Int.reduceLE, Int.reduceLT, Int.reduceEq, Int.reduceToNat, Int.reduceAdd, Int.reduceSub, Int.reduceMul, Int.reduceNeg, Int.reduceNe, reduceCtorEq, ↓reduceIte, hr]
    refine callA_rule (set_from l lo hl (right_rises hr)) (wkL_refl _) rfl ?_
    have hle := fromN_le lo l
    have hcut : cutS lo hi l = cutGo lo hi (l.drop (fromN lo l)) := by simp [cutS, hr]
    have e2z : List.take l.length (List.map eRg l) = List.map eRg l := take_map _ _
    have e0 : (List.drop (fromN lo l) (List.map eRg l)).length = (l.drop (fromN lo l)).length := by simp
    have e1 : List.drop (fromN lo l) (List.map eRg l) = (l.drop (fromN lo l)).map eRg := by rw [List.map_drop]
    simp +contextual -implicitDefEqProofs (maxSteps := 1000000) only [sm, sn, sxx, Nat.reduceAdd, Nat.reduceSub, Nat.reduceLeDiff, Nat.reduceLT, Nat.reduceEqDiff, Int.reduceLE, Int.reduceLT, Int.reduceEq, Int.reduceToNat, Int.reduceAdd, Int.reduceSub, Int.reduceMul, Int.reduceNeg, Int.reduceNe, reduceCtorEq, ↓reduceIte, List.take_length, hle, e2z, Nat.le_refl]
    try rw [e1]
    generalize hm : l.drop (fromN lo l) = m at hcut e0 e1 ⊢
    have hml : m.length ≤ 1000000000000 := by rw [← hm, List.length_drop]; omega
    rw [hcut]
    refine loop_ruleV [(7, 2)] (fun b : Nat × List Rg => b.1 ≤ m.length ∧ b.2.length ≤ 1 * b.1 ∧ b.2 ++ cutGo lo hi (m.drop b.1) = cutGo lo hi m) (fun b : Nat × List Rg => tm 47 [(1, .int .i64 lo), (2, .int .i64 hi), (7, .sl 2 0 0 b.2.length), (17, .list 2 (m.map eRg)), (18, .int .i64 m.length), (19, .int .i64 b.1)]) (fun b => [some (2, b.2.map eRg)]) (fun b => m.length - b.1) (0, []) (by simp +contextual -implicitDefEqProofs (maxSteps := 1000000) only [sm, sn, sxx, Nat.reduceAdd, Nat.reduceSub, Nat.reduceLeDiff, Nat.reduceLT, Nat.reduceEqDiff, Int.reduceLE, Int.reduceLT, Int.reduceEq, Int.reduceToNat, Int.reduceAdd, Int.reduceSub, Int.reduceMul, Int.reduceNeg, Int.reduceNe, reduceCtorEq, ↓reduceIte]) ⟨by simp, by simp, by simp⟩ ⟨[0], by decide, rfl, ?_, ?_⟩ ?_
    · simp +contextual -implicitDefEqProofs (maxSteps := 1000000) only [sm, sn, sxx, Nat.reduceAdd, Nat.reduceSub, Nat.reduceLeDiff, Nat.reduceLT, Nat.reduceEqDiff, Int.reduceLE, Int.reduceLT, Int.reduceEq, Int.reduceToNat, Int.reduceAdd, Int.reduceSub, Int.reduceMul, Int.reduceNeg, Int.reduceNe, reduceCtorEq, ↓reduceIte]
    · simp +contextual -implicitDefEqProofs (maxSteps := 1000000) only [sm, sn, sxx, Nat.reduceAdd, Nat.reduceSub, Nat.reduceLeDiff, Nat.reduceLT, Nat.reduceEqDiff, Int.reduceLE, Int.reduceLT, Int.reduceEq, Int.reduceToNat, Int.reduceAdd, Int.reduceSub, Int.reduceMul, Int.reduceNeg, Int.reduceNe, reduceCtorEq, ↓reduceIte, Int.natCast_zero]
    · rintro ⟨k, acc⟩ ⟨hk, hacc, hgo⟩
      simp only at hk hacc hgo
      by_cases hlt : k < m.length
      · obtain ⟨⟨x, y⟩, hx⟩ : ∃ r, m[k]? = some r := ⟨_, List.getElem?_eq_getElem hlt⟩
        have hd := drop_at hx
        have hlt' : (k : Int) < (m.length : Int) := by omega
        have e2 : IntKind.i64.wrap ((k : Int) + 1) = ((k + 1 : Nat) : Int) := by rw [wrap_i64] <;> omega
        by_cases h0 : hi < x
        · have hgo : acc = cutGo lo hi m := by rw [← hgo, hd]; simp [cutGo, h0]
          simp +contextual -implicitDefEqProofs (maxSteps := 1000000) only [sm, sn, sxx, Nat.reduceAdd, Nat.reduceSub, Nat.reduceLeDiff, Nat.reduceLT, Nat.reduceEqDiff, Int.reduceLE, Int.reduceLT, Int.reduceEq, Int.reduceToNat, Int.reduceAdd, Int.reduceSub, Int.reduceMul, Int.reduceNeg, Int.reduceNe, reduceCtorEq, ↓reduceIte, hlt', hx, h0, Nat.le_refl]
          refine ⟨[], [0], by decide, ?_⟩; simp +contextual -implicitDefEqProofs (maxSteps := 1000000) only [sm, sn, sxx, Nat.reduceAdd, Nat.reduceSub, Nat.reduceLeDiff, Nat.reduceLT, Nat.reduceEqDiff, Int.reduceLE, Int.reduceLT, Int.reduceEq, Int.reduceToNat, Int.reduceAdd, Int.reduceSub, Int.reduceMul, Int.reduceNeg, Int.reduceNe, reduceCtorEq, ↓reduceIte, ← hgo]
        by_cases h1 : max x lo ≤ min y hi
        · have c1 : (acc.length + 1) * 16 ≤ 140737488355328 := by omega
          have c2 : acc.length + 1 ≤ maxLen := by unfold maxLen; omega
          simp +contextual -implicitDefEqProofs (maxSteps := 1000000) only [sm, sn, sxx, Nat.reduceAdd, Nat.reduceSub, Nat.reduceLeDiff, Nat.reduceLT, Nat.reduceEqDiff, Int.reduceLE, Int.reduceLT, Int.reduceEq, Int.reduceToNat, Int.reduceAdd, Int.reduceSub, Int.reduceMul, Int.reduceNeg, Int.reduceNe, reduceCtorEq, ↓reduceIte, hlt', hx, h0, h1, e2, c1, c2, Nat.le_refl]
          refine ⟨(k + 1, acc ++ [(max x lo, min y hi)]), ⟨by (try dsimp only); omega, by (try dsimp only); simp only [List.length_append, List.length_cons, List.length_nil]; omega, by
            rw [← hgo, hd]; simp [cutGo, h0, h1]⟩, by (try dsimp only); omega, [2], by decide, rfl, ?_, ?_⟩
          · simp +contextual -implicitDefEqProofs (maxSteps := 1000000) only [sm, sn, sxx, Nat.reduceAdd, Nat.reduceSub, Nat.reduceLeDiff, Nat.reduceLT, Nat.reduceEqDiff, Int.reduceLE, Int.reduceLT, Int.reduceEq, Int.reduceToNat, Int.reduceAdd, Int.reduceSub, Int.reduceMul, Int.reduceNeg, Int.reduceNe, reduceCtorEq, ↓reduceIte]
          · simp +contextual -implicitDefEqProofs (maxSteps := 1000000) only [sm, sn, sxx, Nat.reduceAdd, Nat.reduceSub, Nat.reduceLeDiff, Nat.reduceLT, Nat.reduceEqDiff, Int.reduceLE, Int.reduceLT, Int.reduceEq, Int.reduceToNat, Int.reduceAdd, Int.reduceSub, Int.reduceMul, Int.reduceNeg, Int.reduceNe, reduceCtorEq, ↓reduceIte]
        · simp +contextual -implicitDefEqProofs (maxSteps := 1000000) only [sm, sn, sxx, Nat.reduceAdd, Nat.reduceSub, Nat.reduceLeDiff, Nat.reduceLT, Nat.reduceEqDiff, Int.reduceLE, Int.reduceLT, Int.reduceEq, Int.reduceToNat, Int.reduceAdd, Int.reduceSub, Int.reduceMul, Int.reduceNeg, Int.reduceNe, reduceCtorEq, ↓reduceIte, hlt', hx, h0, h1, e2]
          refine ⟨(k + 1, acc), ⟨by (try dsimp only); omega, by (try dsimp only); omega, by
            rw [← hgo, hd]; simp [cutGo, h0, h1]⟩, by (try dsimp only); omega, [0], by decide, rfl, ?_, ?_⟩
          · simp +contextual -implicitDefEqProofs (maxSteps := 1000000) only [sm, sn, sxx, Nat.reduceAdd, Nat.reduceSub, Nat.reduceLeDiff, Nat.reduceLT, Nat.reduceEqDiff, Int.reduceLE, Int.reduceLT, Int.reduceEq, Int.reduceToNat, Int.reduceAdd, Int.reduceSub, Int.reduceMul, Int.reduceNeg, Int.reduceNe, reduceCtorEq, ↓reduceIte]
          · simp +contextual -implicitDefEqProofs (maxSteps := 1000000) only [sm, sn, sxx, Nat.reduceAdd, Nat.reduceSub, Nat.reduceLeDiff, Nat.reduceLT, Nat.reduceEqDiff, Int.reduceLE, Int.reduceLT, Int.reduceEq, Int.reduceToNat, Int.reduceAdd, Int.reduceSub, Int.reduceMul, Int.reduceNeg, Int.reduceNe, reduceCtorEq, ↓reduceIte]
      · have : k = m.length := by omega
        subst this
        have hgo : acc = cutGo lo hi m := by rw [← hgo, List.drop_length]; simp [cutGo]
        simp +contextual -implicitDefEqProofs (maxSteps := 1000000) only [sm, sn, sxx, Nat.reduceAdd, Nat.reduceSub, Nat.reduceLeDiff, Nat.reduceLT, Nat.reduceEqDiff, Int.reduceLE, Int.reduceLT, Int.reduceEq, Int.reduceToNat, Int.reduceAdd, Int.reduceSub, Int.reduceMul, Int.reduceNeg, Int.reduceNe, reduceCtorEq, ↓reduceIte, Int.lt_irrefl, Nat.le_refl]
        refine ⟨[], [0], by decide, ?_⟩; simp +contextual -implicitDefEqProofs (maxSteps := 1000000) only [sm, sn, sxx, Nat.reduceAdd, Nat.reduceSub, Nat.reduceLeDiff, Nat.reduceLT, Nat.reduceEqDiff, Int.reduceLE, Int.reduceLT, Int.reduceEq, Int.reduceToNat, Int.reduceAdd, Int.reduceSub, Int.reduceMul, Int.reduceNeg, Int.reduceNe, reduceCtorEq, ↓reduceIte, ← hgo]
theorem clone_rgs (l : List Rg) (hl : l.length ≤ 1000000000000) : Ctr Try.prog 37 [eRgs l] [] (eRgs l) [] := by
  refine call_pure Try.func37 Try.call37 e_slices_Clone_sRange_Range ?_
  by_cases h0 : l = []
  · subst h0
    simp +contextual -implicitDefEqProofs (maxSteps := 1000000) only [c_slices_Clone_sRange_Range, eRgs, sm, sn, sxx, Nat.reduceAdd, Nat.reduceSub, Nat.reduceLeDiff, Nat.reduceLT, Nat.reduceEqDiff, Int.reduceLE, Int.reduceLT, Int.reduceEq, Int.reduceToNat, Int.reduceAdd, Int.reduceSub, Int.reduceMul, Int.reduceNeg, Int.reduceNe, reduceCtorEq, ↓reduceIte, Nat.zero_le]
    simp [maxLen]
  · have hnn : (AV.list 2 (l.map eRg)).nonNil = true := by
      cases l with
      | nil => exact absurd rfl h0
      | cons a b => rfl
    have c1 : l.length * 16 ≤ 140737488355328 := by omega
    have c2 : l.length ≤ maxLen := by unfold maxLen; omega
    simp +contextual -implicitDefEqProofs (maxSteps := 1000000) only [c_slices_Clone_sRange_Range, eRgs, sm, sn, sxx, Nat.reduceAdd, Nat.reduceSub, Nat.reduceLeDiff, Nat.reduceLT, Nat.reduceEqDiff, Int.reduceLE, Int.reduceLT, Int.reduceEq, Int.reduceToNat, Int.reduceAdd, Int.reduceSub, Int.reduceMul, Int.reduceNeg, Int.reduceNe, reduceCtorEq, ↓reduceIte, hnn, c1, c2, Nat.le_refl]
end Go.Proofs.Ytnhedjpghpdbdaa
namespace Go.Proofs.Ytnhedjpghpdbdaa
open Av
set_option linter.unusedVariables false
set_option maxRecDepth 100000
def kd_CSet2 (f : Nat) : Nat := 0
/- touchstone/set.Meet: slots a, 0, b, 1, a, 2, b, 3, out, 5, r, 6 -/
def c_set_Meet : AFunc := ⟨65, [.tmp 4],
  .seq (.region (⟨some 4, .mov (.val .nils), none⟩ :: [])) <|
  .seq (.seq (.region (⟨some 7, .mov (.tmp 0), none⟩ ::
    ⟨some 8, .call (.val (.fn (.func 86) [])) [(.tmp 7)], none⟩ ::
    ⟨some 9, .un .not (.tmp 8), none⟩ ::
    ⟨some 10, .mov (.tmp 9), none⟩ ::
    ⟨some 11, .mov (.tmp 1), some (10, false)⟩ ::
    ⟨some 12, .call (.val (.fn (.func 86) [])) [(.tmp 11)], some (10, false)⟩ ::
    ⟨some 13, .un .not (.tmp 12), some (10, false)⟩ ::
    ⟨some 14, .pick (.tmp 10) (.val (.bool true)) (.tmp 13), none⟩ :: [])) <|
  .cond (.tmp 14) (.seq (.region (⟨some 4, .mov (.val .nils), none⟩ :: [])) <|
    .ret) <|
  .skip) <|
  .seq (.region (⟨some 5, .mov (.val .nils), none⟩ :: [])) <|
  .seq (.block 0 (.loop (.seq (.seq (.region (⟨some 15, .mov (.tmp 0), none⟩ ::
        ⟨some 16, .len false (.tmp 15), none⟩ ::
        ⟨some 17, .bin .gtr (.tmp 16) (.val (.int .i64 0)), none⟩ ::
        ⟨some 18, .mov (.tmp 17), none⟩ ::
        ⟨some 19, .mov (.tmp 1), some (18, true)⟩ ::
        ⟨some 20, .len false (.tmp 19), some (18, true)⟩ ::
        ⟨some 21, .bin .gtr (.tmp 20) (.val (.int .i64 0)), some (18, true)⟩ ::
        ⟨some 22, .pick (.tmp 18) (.tmp 21) (.val (.bool false)), none⟩ :: [])) <|
      .cond (.tmp 22) (.skip) <|
      .exit 0) <|
      .block 1 (.seq (.region (⟨some 23, .mov (.tmp 0), none⟩ ::
          ⟨some 24, .iaddr 2 (.tmp 23) (.val (.int .i64 0)), none⟩ ::
          ⟨some 25, .faddr 0 (.tmp 24), none⟩ ::
          ⟨some 26, .load false 1 (.tmp 25), none⟩ ::
          ⟨some 27, .mov (.tmp 1), none⟩ ::
          ⟨some 28, .iaddr 2 (.tmp 27) (.val (.int .i64 0)), none⟩ ::
          ⟨some 29, .faddr 0 (.tmp 28), none⟩ ::
          ⟨some 30, .load false 1 (.tmp 29), none⟩ ::
          ⟨some 31, .mx (.tmp 26) [(.tmp 30)], none⟩ ::
          ⟨some 32, .mov (.tmp 0), none⟩ ::
          ⟨some 33, .iaddr 2 (.tmp 32) (.val (.int .i64 0)), none⟩ ::
          ⟨some 34, .faddr 1 (.tmp 33), none⟩ ::
          ⟨some 35, .load false 1 (.tmp 34), none⟩ ::
          ⟨some 36, .mov (.tmp 1), none⟩ ::
          ⟨some 37, .iaddr 2 (.tmp 36) (.val (.int .i64 0)), none⟩ ::
          ⟨some 38, .faddr 1 (.tmp 37), none⟩ ::
          ⟨some 39, .load false 1 (.tmp 38), none⟩ ::
          ⟨some 40, .mn (.tmp 35) [(.tmp 39)], none⟩ ::
          ⟨some 41, .build [(.int .i64 0), (.int .i64 0)] [(0, 1, (.tmp 31)), (1, 1, (.tmp 40))], none⟩ ::
          ⟨some 6, .alloc (.agg [(.int .i64 0), (.int .i64 0)]), none⟩ ::
          ⟨none, .store 2 (.tmp 6) (.tmp 41), none⟩ :: [])) <|
        .seq (.seq (.region (⟨some 42, .faddr 0 (.tmp 6), none⟩ ::
          ⟨some 43, .load false 1 (.tmp 42), none⟩ ::
          ⟨some 44, .faddr 1 (.tmp 6), none⟩ ::
          ⟨some 45, .load false 1 (.tmp 44), none⟩ ::
          ⟨some 46, .bin .leq (.tmp 43) (.tmp 45), none⟩ :: [])) <|
        .cond (.tmp 46) (.region (⟨some 47, .mov (.tmp 5), none⟩ ::
            ⟨some 48, .load true 2 (.tmp 6), none⟩ ::
            ⟨some 49, .bslice 2 [(.tmp 48)], none⟩ ::
            ⟨some 50, .app 2 16 (.tmp 47) (.tmp 49), none⟩ ::
            ⟨some 5, .mov (.tmp 50), none⟩ :: [])) <|
        .skip) <|
        .seq (.region (⟨some 51, .mov (.tmp 0), none⟩ ::
          ⟨some 52, .iaddr 2 (.tmp 51) (.val (.int .i64 0)), none⟩ ::
          ⟨some 53, .faddr 1 (.tmp 52), none⟩ ::
          ⟨some 54, .load false 1 (.tmp 53), none⟩ ::
          ⟨some 55, .mov (.tmp 1), none⟩ ::
          ⟨some 56, .iaddr 2 (.tmp 55) (.val (.int .i64 0)), none⟩ ::
          ⟨some 57, .faddr 1 (.tmp 56), none⟩ ::
          ⟨some 58, .load false 1 (.tmp 57), none⟩ ::
          ⟨some 59, .bin .lss (.tmp 54) (.tmp 58), none⟩ :: [])) <|
        .cond (.tmp 59) (.region (⟨some 60, .mov (.tmp 0), none⟩ ::
            ⟨some 61, .slc 2 (.tmp 60) (some (.val (.int .i64 1))) none, none⟩ ::
            ⟨some 0, .mov (.tmp 61), none⟩ :: [])) <|
        .region (⟨some 62, .mov (.tmp 1), none⟩ ::
          ⟨some 63, .slc 2 (.tmp 62) (some (.val (.int .i64 1))) none, none⟩ ::
          ⟨some 1, .mov (.tmp 63), none⟩ :: []))))) <|
  .seq (.region (⟨some 64, .mov (.tmp 5), none⟩ ::
    ⟨some 4, .mov (.tmp 64), none⟩ :: [])) <|
  .ret⟩
theorem e_set_Meet : cFunc Try.prog kd_CSet2 Try.f81 = some c_set_Meet := by kernel_rfl
/- touchstone/set.Same: slots a, 0, b, 1, a, 2, b, 3 -/
/- slices.Equal[[]touchstone/api.Range,touchstone/api.Range]: slots s1, 0, s2, 1, s1, 2, s2, 3, i, 5 -/
/- touchstone/touchstonelaw09.SetCuts: slots a, 0, b, 1, at, 2, a, 3, b, 4, at, 5 -/
/- touchstone/touchstonelaw09.SetValues: slots a, 0, b, 1, at, 2, a, 3, b, 4, at, 5, lo, 7, hi, 8, v, 9, c, 10, w, 11, m, 12 -/
end Go.Proofs.Ytnhedjpghpdbdaa
namespace Go.Proofs.Ytnhedjpghpdbdaa
open Av
attribute [local irreducible] awp awpOpers
set_option linter.unusedSimpArgs false
set_option linter.unusedVariables false
set_option maxRecDepth 100000
set_option maxHeartbeats 4000000
theorem set_Meet (a b : List Rg) (ha : a.length ≤ 1000000000000) (hb : b.length ≤ 1000000000000) : Ctr Try.prog 81 [eRgs a, eRgs b] [] (eRgs (meetS a b)) [] := by
  refine call_pure Try.func81 Try.call81 e_set_Meet ?_
  simp +contextual -implicitDefEqProofs (maxSteps := 1000000) only [c_set_Meet, eRgs, sm, sn, sxx, seval]
  refine callA_rule (set_Right a ha) (wkL_refl _) rfl ?_
  cases hr : rightB a
  · simp +contextual -implicitDefEqProofs (maxSteps := 1000000) only [sm, sn, sxx, seval]
    simp [meetS, hr]
  simp +contextual -implicitDefEqProofs (maxSteps := 1000000) only [sm, sn, sxx, seval]
  refine callA_rule (set_Right b hb) (wkL_refl _) rfl ?_
  cases hr2 : rightB b
  · simp +contextual -implicitDefEqProofs (maxSteps := 1000000) only [sm, sn, sxx, seval]
    simp [meetS, hr, hr2]
  have hms : meetS a b = meetGo (a.length + b.length) a b := by simp [meetS, hr, hr2]
  rw [hms]
  clear hms hr hr2
  generalize hT : meetGo (a.length + b.length) a b = T
  have dm : ∀ (n : Nat) (l : List Rg), List.drop n (l.map eRg) = (l.drop n).map eRg := fun n l => by rw [List.map_drop]
  simp +contextual -implicitDefEqProofs (maxSteps := 1000000) only [sm, sn, sxx, seval]
  refine loop_ruleV [(5, 2)] (fun s : List Rg × List Rg × List Rg => s.1.length + s.2.1.length + s.2.2.length ≤ a.length + b.length ∧ s.2.2 ++ meetGo (s.1.length + s.2.1.length) s.1 s.2.1 = T) (fun s => tm 65 [(0, .list 2 (s.1.map eRg)), (1, .list 2 (s.2.1.map eRg)), (5, .sl 2 0 0 s.2.2.length)]) (fun s => [some (2, s.2.2.map eRg)]) (fun s => s.1.length + s.2.1.length) (a, b, []) (by simp +contextual -implicitDefEqProofs (maxSteps := 1000000) only [sm, sn, sxx, seval]) ⟨by simp, by simpa using hT⟩ ⟨[0], by decide, rfl, ?_, ?_⟩ ?_
  · simp +contextual -implicitDefEqProofs (maxSteps := 1000000) only [sm, sn, sxx, seval]
  · simp +contextual -implicitDefEqProofs (maxSteps := 1000000) only [sm, sn, sxx, seval, Int.natCast_zero]
  · rintro ⟨u, v, acc⟩ ⟨hlen, hgo⟩
    simp only at hlen hgo
    have fin : u = [] ∨ v = [] → acc = T := by
      rintro (rfl | rfl)
      · rwa [meetGo_nil1, List.append_nil] at hgo
      · rwa [meetGo_nil2, List.append_nil] at hgo
    by_cases h0 : u = []
    · have := fin (.inl h0)
      subst h0
      subst this
      simp +contextual -implicitDefEqProofs (maxSteps := 1000000) only [sm, sn, sxx, seval, Int.lt_irrefl, Int.natCast_zero]
      try simp
    by_cases h1 : v = []
    · have := fin (.inr h1)
      have g0 : (0 : Int) < (u.length : Int) := by
        cases u with
        | nil => exact absurd rfl h0
        | cons a b => simp <;> omega
      subst h1
      subst this
      simp +contextual -implicitDefEqProofs (maxSteps := 1000000) only [sm, sn, sxx, seval, Int.lt_irrefl, Int.natCast_zero, g0]
      try simp
    obtain ⟨⟨x, y⟩, u', rfl⟩ : ∃ r u', u = r :: u' := List.exists_cons_of_ne_nil h0
    obtain ⟨⟨x', y'⟩, v', rfl⟩ : ∃ r v', v = r :: v' := List.exists_cons_of_ne_nil h1
    rw [meet_step (p := max x x') (q := min y y') rfl rfl] at hgo
    have hu : ((x, y) :: u')[0]? = some (x, y) := rfl
    have hv : ((x', y') :: v')[0]? = some (x', y') := rfl
    have du : List.drop 1 ((x, y) :: u') = u' := rfl
    have dv : List.drop 1 ((x', y') :: v') = v' := rfl
    have gu : (0 : Int) < (((x, y) :: u').length : Int) := by simp <;> omega
    have gv : (0 : Int) < (((x', y') :: v').length : Int) := by simp <;> omega
    have lu : 1 ≤ ((x, y) :: u').length := by simp
    have lw : 1 ≤ ((x', y') :: v').length := by simp
    have eu : ((x, y) :: u').length = u'.length + 1 := rfl
    have ev : ((x', y') :: v').length = v'.length + 1 := rfl
    generalize (x, y) :: u' = u at *
    generalize (x', y') :: v' = v at *
    have c1 : (acc.length + 1) * 16 ≤ 140737488355328 := by omega
    have c2 : acc.length + 1 ≤ maxLen := by unfold maxLen; omega
    by_cases h2 : max x x' ≤ min y y'
    · rw [if_pos h2] at hgo
      by_cases h3 : y < y'
      · rw [if_pos h3, ← List.append_assoc] at hgo
        simp +contextual -implicitDefEqProofs (maxSteps := 1000000) only [sm, sn, sxx, seval, gu, gv, hu, hv, h2, h3, c1, c2, dm, lu, lw, du, dv]
        refine ⟨(u', v, acc ++ [(max x x', min y y')]), ⟨by simp <;> omega, hgo⟩, by simp <;> omega, [2], by decide, rfl, ?_, ?_⟩
        · simp +contextual -implicitDefEqProofs (maxSteps := 1000000) only [sm, sn, sxx, seval]
        · simp +contextual -implicitDefEqProofs (maxSteps := 1000000) only [sm, sn, sxx, seval]
      · rw [if_neg h3, ← List.append_assoc] at hgo
        simp +contextual -implicitDefEqProofs (maxSteps := 1000000) only [sm, sn, sxx, seval, gu, gv, hu, hv, h2, h3, c1, c2, dm, lu, lw, du, dv]
        refine ⟨(u, v', acc ++ [(max x x', min y y')]), ⟨by simp <;> omega, hgo⟩, by simp <;> omega, [2], by decide, rfl, ?_, ?_⟩
        · simp +contextual -implicitDefEqProofs (maxSteps := 1000000) only [sm, sn, sxx, seval]
        · simp +contextual -implicitDefEqProofs (maxSteps := 1000000) only [sm, sn, sxx, seval]
    · rw [if_neg h2, List.nil_append] at hgo
      by_cases h3 : y < y'
      · rw [if_pos h3] at hgo
        simp +contextual -implicitDefEqProofs (maxSteps := 1000000) only [sm, sn, sxx, seval, gu, gv, hu, hv, h2, h3, dm, lu, lw, du, dv]
        refine ⟨(u', v, acc), ⟨by simp <;> omega, hgo⟩, by simp <;> omega, [0], by decide, rfl, ?_, ?_⟩
        · simp +contextual -implicitDefEqProofs (maxSteps := 1000000) only [sm, sn, sxx, seval]
        · simp +contextual -implicitDefEqProofs (maxSteps := 1000000) only [sm, sn, sxx, seval]
      · rw [if_neg h3] at hgo
        simp +contextual -implicitDefEqProofs (maxSteps := 1000000) only [sm, sn, sxx, seval, gu, gv, hu, hv, h2, h3, dm, lu, lw, du, dv]
        refine ⟨(u, v', acc), ⟨by simp <;> omega, hgo⟩, by simp <;> omega, [0], by decide, rfl, ?_, ?_⟩
        · simp +contextual -implicitDefEqProofs (maxSteps := 1000000) only [sm, sn, sxx, seval]
        · simp +contextual -implicitDefEqProofs (maxSteps := 1000000) only [sm, sn, sxx, seval]
end Go.Proofs.Ytnhedjpghpdbdaa
namespace Go.Proofs.Ytnhedjpghpdbdaa
open Av
set_option linter.unusedVariables false
set_option maxRecDepth 100000
def kd_CClone (f : Nat) : Nat := 0
/- slices.Clone[[][]touchstone/api.Range,[]touchstone/api.Range]: slots s, 0, s, 1 -/
def c_slices_Clone_ssRange_sRange : AFunc := ⟨8, [.tmp 2],
  .seq (.region (⟨some 2, .mov (.val .nils), none⟩ :: [])) <|
  .seq (.seq (.region (⟨some 3, .mov (.tmp 0), none⟩ ::
    ⟨some 4, .isnil false (.tmp 3), none⟩ :: [])) <|
  .cond (.tmp 4) (.seq (.region (⟨some 2, .mov (.val .nils), none⟩ :: [])) <|
    .ret) <|
  .skip) <|
  .seq (.region (⟨some 5, .bslice 1 [], none⟩ ::
    ⟨some 6, .mov (.tmp 0), none⟩ ::
    ⟨some 7, .app 1 24 (.tmp 5) (.tmp 6), none⟩ ::
    ⟨some 2, .mov (.tmp 7), none⟩ :: [])) <|
  .ret⟩
theorem e_slices_Clone_ssRange_sRange : cFunc Try.prog kd_CClone Try.f42 = some c_slices_Clone_ssRange_sRange := by kernel_rfl
end Go.Proofs.Ytnhedjpghpdbdaa
namespace Go.Proofs.Ytnhedjpghpdbdaa
open Av
attribute [local irreducible] awp awpOpers
set_option linter.unusedSimpArgs false
set_option linter.unusedVariables false
set_option maxRecDepth 100000
set_option maxHeartbeats 4000000
theorem clone_doms (D : List (List Rg)) (hl : D.length ≤ 1000000000000) : Ctr Try.prog 42 [eDoms D] [] (.sl 1 0 0 D.length) [some (1, D.map eRgs)] := by
  refine call_box Try.func42 Try.call42 e_slices_Clone_ssRange_sRange ?_
  by_cases h0 : D = []
  · subst h0
    simp +contextual -implicitDefEqProofs (maxSteps := 1000000) only [c_slices_Clone_ssRange_sRange, eDoms, sm, sn, sxx, Nat.reduceAdd, Nat.reduceSub, Nat.reduceLeDiff, Nat.reduceLT, Nat.reduceEqDiff, Int.reduceLE, Int.reduceLT, Int.reduceEq, Int.reduceToNat, Int.reduceAdd, Int.reduceSub, Int.reduceMul, Int.reduceNeg, Int.reduceNe, reduceCtorEq, ↓reduceIte, Nat.zero_le]
    refine ⟨⟨by omega, [], [0], by decide, ?_⟩, [1], [0], by decide, ?_⟩
    · simp +contextual -implicitDefEqProofs (maxSteps := 1000000) only [sm, sn, sxx, Nat.reduceAdd, Nat.reduceSub, Nat.reduceLeDiff, Nat.reduceLT, Nat.reduceEqDiff, Int.reduceLE, Int.reduceLT, Int.reduceEq, Int.reduceToNat, Int.reduceAdd, Int.reduceSub, Int.reduceMul, Int.reduceNeg, Int.reduceNe, reduceCtorEq, ↓reduceIte]
    · simp +contextual -implicitDefEqProofs (maxSteps := 1000000) only [sm, sn, sxx, Nat.reduceAdd, Nat.reduceSub, Nat.reduceLeDiff, Nat.reduceLT, Nat.reduceEqDiff, Int.reduceLE, Int.reduceLT, Int.reduceEq, Int.reduceToNat, Int.reduceAdd, Int.reduceSub, Int.reduceMul, Int.reduceNeg, Int.reduceNe, reduceCtorEq, ↓reduceIte]
  · have hnn : (AV.list 1 (D.map eRgs)).nonNil = true := by
      cases D with
      | nil => exact absurd rfl h0
      | cons a b => rfl
    have c1 : D.length * 24 ≤ 140737488355328 := by omega
    have c2 : D.length ≤ maxLen := by unfold maxLen; omega
    simp +contextual -implicitDefEqProofs (maxSteps := 1000000) only [c_slices_Clone_ssRange_sRange, eDoms, sm, sn, sxx, Nat.reduceAdd, Nat.reduceSub, Nat.reduceLeDiff, Nat.reduceLT, Nat.reduceEqDiff, Int.reduceLE, Int.reduceLT, Int.reduceEq, Int.reduceToNat, Int.reduceAdd, Int.reduceSub, Int.reduceMul, Int.reduceNeg, Int.reduceNe, reduceCtorEq, ↓reduceIte, hnn, c1, c2, Nat.le_refl]
    refine ⟨[], [0], by decide, ?_⟩
    simp +contextual -implicitDefEqProofs (maxSteps := 1000000) only [sm, sn, sxx, Nat.reduceAdd, Nat.reduceSub, Nat.reduceLeDiff, Nat.reduceLT, Nat.reduceEqDiff, Int.reduceLE, Int.reduceLT, Int.reduceEq, Int.reduceToNat, Int.reduceAdd, Int.reduceSub, Int.reduceMul, Int.reduceNeg, Int.reduceNe, reduceCtorEq, ↓reduceIte]
theorem clone_sl (D : List (List Rg)) (hl : D.length ≤ 1000000000000) : Ctr Try.prog 42 [.sl 1 0 0 D.length] [some (1, D.map eRgs)] (.sl 1 1 0 D.length) [some (1, D.map eRgs), some (1, D.map eRgs)] := by
  refine call_box Try.func42 Try.call42 e_slices_Clone_ssRange_sRange ?_
  by_cases h0 : D = []
  · subst h0
    simp +contextual -implicitDefEqProofs (maxSteps := 1000000) only [c_slices_Clone_ssRange_sRange, sm, sn, sxx, Nat.reduceAdd, Nat.reduceSub, Nat.reduceLeDiff, Nat.reduceLT, Nat.reduceEqDiff, Int.reduceLE, Int.reduceLT, Int.reduceEq, Int.reduceToNat, Int.reduceAdd, Int.reduceSub, Int.reduceMul, Int.reduceNeg, Int.reduceNe, reduceCtorEq, ↓reduceIte, Nat.zero_le]
    refine ⟨⟨by omega, [], [0, 1], by decide, rfl, ?_⟩, [1], [0, 1], by decide, rfl, ?_⟩
    · simp +contextual -implicitDefEqProofs (maxSteps := 1000000) only [sm, sn, sxx, Nat.reduceAdd, Nat.reduceSub, Nat.reduceLeDiff, Nat.reduceLT, Nat.reduceEqDiff, Int.reduceLE, Int.reduceLT, Int.reduceEq, Int.reduceToNat, Int.reduceAdd, Int.reduceSub, Int.reduceMul, Int.reduceNeg, Int.reduceNe, reduceCtorEq, ↓reduceIte]
    · simp +contextual -implicitDefEqProofs (maxSteps := 1000000) only [sm, sn, sxx, Nat.reduceAdd, Nat.reduceSub, Nat.reduceLeDiff, Nat.reduceLT, Nat.reduceEqDiff, Int.reduceLE, Int.reduceLT, Int.reduceEq, Int.reduceToNat, Int.reduceAdd, Int.reduceSub, Int.reduceMul, Int.reduceNeg, Int.reduceNe, reduceCtorEq, ↓reduceIte]
  · have hnn : (AV.sl 1 0 0 D.length).nonNil = true := by
      cases D with
      | nil => exact absurd rfl h0
      | cons a b => rfl
    have c1 : D.length * 24 ≤ 140737488355328 := by omega
    have c2 : D.length ≤ maxLen := by unfold maxLen; omega
    simp +contextual -implicitDefEqProofs (maxSteps := 1000000) only [c_slices_Clone_ssRange_sRange, sm, sn, sxx, Nat.reduceAdd, Nat.reduceSub, Nat.reduceLeDiff, Nat.reduceLT, Nat.reduceEqDiff, Int.reduceLE, Int.reduceLT, Int.reduceEq, Int.reduceToNat, Int.reduceAdd, Int.reduceSub, Int.reduceMul, Int.reduceNeg, Int.reduceNe, reduceCtorEq, ↓reduceIte, hnn, c1, c2, Nat.le_refl]
    refine ⟨[], [0, 1], by decide, ?_⟩
    simp +contextual -implicitDefEqProofs (maxSteps := 1000000) only [sm, sn, sxx, Nat.reduceAdd, Nat.reduceSub, Nat.reduceLeDiff, Nat.reduceLT, Nat.reduceEqDiff, Int.reduceLE, Int.reduceLT, Int.reduceEq, Int.reduceToNat, Int.reduceAdd, Int.reduceSub, Int.reduceMul, Int.reduceNeg, Int.reduceNe, reduceCtorEq, ↓reduceIte]
    try rfl
end Go.Proofs.Ytnhedjpghpdbdaa
