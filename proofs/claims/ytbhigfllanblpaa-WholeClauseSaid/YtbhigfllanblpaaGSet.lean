/- The code of functions, as abstract code. Printed by program. Within, Ranges. The code of functions, as abstract code. Printed by program. What the functions of package set compute. The code of functions, as abstract code. Printed by program. What slices.Clone makes of domains. -/
import Derived.Test.YtbhigfllanblpaaAv2
import Derived.Test.YtbhigfllanblpaaProg
import Derived.Test.YtbhigfllanblpaaPlS
namespace Go.Proofs.Ytbhigfllanblpaa
open Av
set_option linter.unusedVariables false
set_option maxRecDepth 100000
def kd_CBase (f : Nat) : Nat := 0
/- touchstone/touchstoneref08.Within: slots n, 0, n, 1 -/
def c_ref08_Within : AFunc := ⟨9, [.tmp 2],
  .seq (.region (⟨some 2, .mov (.val (.bool false)), none⟩ :: [])) <|
  .seq (.region (⟨some 3, .mov (.tmp 0), none⟩ ::
    ⟨some 4, .bin .geq (.tmp 3) (.val (.int .i64 (-1048576))), none⟩ ::
    ⟨some 5, .mov (.tmp 4), none⟩ ::
    ⟨some 6, .mov (.tmp 0), some (5, true)⟩ ::
    ⟨some 7, .bin .leq (.tmp 6) (.val (.int .i64 1048576)), some (5, true)⟩ ::
    ⟨some 8, .pick (.tmp 5) (.tmp 7) (.val (.bool false)), none⟩ ::
    ⟨some 2, .mov (.tmp 8), none⟩ :: [])) <|
  .ret⟩
theorem e_ref08_Within : cFunc Try.prog kd_CBase Try.f82 = some c_ref08_Within := by kernel_rfl
/- touchstone/touchstonelaw08.Ranges: slots a, 0, b, 1, a, 2, b, 3, i, 5 -/
def c_law08_Ranges : AFunc := ⟨26, [.tmp 4],
  .seq (.region (⟨some 4, .mov (.val (.bool false)), none⟩ :: [])) <|
  .seq (.seq (.region (⟨some 6, .mov (.tmp 0), none⟩ ::
    ⟨some 7, .len false (.tmp 6), none⟩ ::
    ⟨some 8, .mov (.tmp 1), none⟩ ::
    ⟨some 9, .len false (.tmp 8), none⟩ ::
    ⟨some 10, .bin .neq (.tmp 7) (.tmp 9), none⟩ :: [])) <|
  .cond (.tmp 10) (.seq (.region (⟨some 4, .mov (.val (.bool false)), none⟩ :: [])) <|
    .ret) <|
  .skip) <|
  .seq (.seq (.region (⟨some 11, .mov (.tmp 0), none⟩ ::
    ⟨some 12, .len false (.tmp 11), none⟩ ::
    ⟨some 13, .mov (.val (.int .i64 0)), none⟩ :: [])) <|
  .block 0 (.loop (.seq (.region (⟨some 14, .bin .lss (.tmp 13) (.tmp 12), none⟩ :: [])) <|
      .seq (.cond (.tmp 14) (.skip) <|
      .exit 0) <|
      .seq (.block 1 (.seq (.region (⟨some 15, .mov (.tmp 13), none⟩ ::
          ⟨some 5, .mov (.tmp 15), none⟩ :: [])) <|
        .seq (.region (⟨some 16, .mov (.tmp 0), none⟩ ::
          ⟨some 17, .mov (.tmp 5), none⟩ ::
          ⟨some 18, .iaddr 2 (.tmp 16) (.tmp 17), none⟩ ::
          ⟨some 19, .load true 2 (.tmp 18), none⟩ ::
          ⟨some 20, .mov (.tmp 1), none⟩ ::
          ⟨some 21, .mov (.tmp 5), none⟩ ::
          ⟨some 22, .iaddr 2 (.tmp 20) (.tmp 21), none⟩ ::
          ⟨some 23, .load true 2 (.tmp 22), none⟩ ::
          ⟨some 24, .eqs true 2 (.tmp 19) (.tmp 23), none⟩ :: [])) <|
        .cond (.tmp 24) (.seq (.region (⟨some 4, .mov (.val (.bool false)), none⟩ :: [])) <|
          .ret) <|
        .skip)) <|
      .region (⟨some 25, .bin .add (.tmp 13) (.val (.int .i64 1)), none⟩ ::
        ⟨some 13, .mov (.tmp 25), none⟩ :: [])))) <|
  .seq (.region (⟨some 4, .mov (.val (.bool true)), none⟩ :: [])) <|
  .ret⟩
theorem e_law08_Ranges : cFunc Try.prog kd_CBase Try.f19 = some c_law08_Ranges := by kernel_rfl
end Go.Proofs.Ytbhigfllanblpaa
namespace Go.Proofs.Ytbhigfllanblpaa
open Av
attribute [local irreducible] awp awpOpers
set_option linter.unusedSimpArgs false
set_option linter.unusedVariables false
set_option maxRecDepth 100000
set_option maxHeartbeats 4000000
theorem ref08_Within (n : Int) : Ctr Try.prog 82 [.int .i64 n] [] (.bool (withinB n)) [] := by
  refine call_pure Try.func82 Try.call82 e_ref08_Within ?_
  simp +contextual -implicitDefEqProofs (maxSteps := 1000000) only [c_ref08_Within, sm, sn, seval]
  unfold withinB
  split <;> simp_all <;> omega
theorem law08_Ranges (a b : List Rg) (ha : a.length ≤ 9223372036854775807) : Ctr Try.prog 19 [eRgs a, eRgs b] [] (.bool (decide (a = b))) [] := by
  refine call_pure Try.func19 Try.call19 e_law08_Ranges ?_
  by_cases hn : a.length = b.length
  · have hn' : (b.length : Int) = (a.length : Int) := by omega
    simp +contextual -implicitDefEqProofs (maxSteps := 1000000) only [c_law08_Ranges, eRgs, sm, sn, seval, hn']
    refine loop_rule (fun k : Nat => k ≤ a.length ∧ ∀ j, j < k → eqAt a b j = true) (fun k => tm 26 [(0, .list 2 (a.map eRg)), (1, .list 2 (b.map eRg)), (12, .int .i64 a.length), (13, .int .i64 k)]) (fun _ => []) (fun k => a.length - k) 0 ⟨by omega, by omega⟩ ⟨[], by decide, rfl, ?_, ?_⟩ ?_
    · simp +contextual -implicitDefEqProofs (maxSteps := 1000000) only [sm, sn, seval]
    · simp +contextual -implicitDefEqProofs (maxSteps := 1000000) only [sm, sn, seval, Int.natCast_zero]
    · rintro k ⟨hk, hok⟩
      by_cases hlt : k < a.length
      · have hlt' : (k : Int) < ((a.length : Nat) : Int) := by omega
        have e2 : IntKind.i64.wrap ((k : Int) + 1) = ((k + 1 : Nat) : Int) := by rw [wrap_i64] <;> omega
        obtain ⟨⟨x, y⟩, hx⟩ : ∃ r, a[k]? = some r := ⟨_, List.getElem?_eq_getElem hlt⟩
        obtain ⟨⟨p, q⟩, hp⟩ : ∃ r, b[k]? = some r := ⟨_, List.getElem?_eq_getElem (by omega)⟩
        have hq : eqAt a b k = (decide (x = p) && decide (y = q)) := by simp [eqAt, hx, hp]
        by_cases h1 : x = p ∧ y = q
        · obtain ⟨rfl, rfl⟩ := h1
          simp +contextual -implicitDefEqProofs (maxSteps := 1000000) only [sm, sn, seval, hlt', hn', hx, hp, e2]
          refine ⟨k + 1, ⟨by omega, ?_⟩, by omega, [], by decide, rfl, ?_, ?_⟩
          · intro j hj
            rcases Nat.lt_succ_iff_lt_or_eq.1 hj with h | rfl
            · first | exact hok j h | simpa using hok j h
            · simp [hq]
          · simp +contextual -implicitDefEqProofs (maxSteps := 1000000) only [sm, sn, seval]
          · simp +contextual -implicitDefEqProofs (maxSteps := 1000000) only [sm, sn, seval]
        · have h1' : (decide (x = p) && decide (y = q)) = false := by simp; omega
          simp +contextual -implicitDefEqProofs (maxSteps := 1000000) only [sm, sn, seval, hlt', hn', hx, hp, h1']
          rw [h1'] at hq
          exact of_decide_eq_false (eq_no hq)
      · have hkn : k = a.length := by omega
        subst hkn
        have hall := hok
        simp +contextual -implicitDefEqProofs (maxSteps := 1000000) only [sm, sn, seval, Int.lt_irrefl]
        exact of_decide_eq_true (eq_yes hn hall)
  · have hn' : ((a.length : Int) = (b.length : Int)) = False := by simp only [eq_iff_iff, iff_false]; omega
    simp +contextual -implicitDefEqProofs (maxSteps := 1000000) only [c_law08_Ranges, eRgs, sm, sn, seval, hn']
    rintro rfl
    exact hn rfl
end Go.Proofs.Ytbhigfllanblpaa
namespace Go.Proofs.Ytbhigfllanblpaa
open Av
set_option linter.unusedVariables false
set_option maxRecDepth 100000
def kd_CSet (f : Nat) : Nat := if f = 88 then 3 else 0
/- touchstone/set.within: slots n, 0, n, 1 -/
def c_set_within : AFunc := ⟨9, [.tmp 2],
  .seq (.region (⟨some 2, .mov (.val (.bool false)), none⟩ :: [])) <|
  .seq (.region (⟨some 3, .mov (.tmp 0), none⟩ ::
    ⟨some 4, .bin .geq (.tmp 3) (.val (.int .i64 (-1048576))), none⟩ ::
    ⟨some 5, .mov (.tmp 4), none⟩ ::
    ⟨some 6, .mov (.tmp 0), some (5, true)⟩ ::
    ⟨some 7, .bin .leq (.tmp 6) (.val (.int .i64 1048576)), some (5, true)⟩ ::
    ⟨some 8, .pick (.tmp 5) (.tmp 7) (.val (.bool false)), none⟩ ::
    ⟨some 2, .mov (.tmp 8), none⟩ :: [])) <|
  .ret⟩
theorem e_set_within : cFunc Try.prog kd_CSet Try.f164 = some c_set_within := by kernel_rfl
/- touchstone/set.Right: slots d, 0, d, 1, i, 3, r, 4 -/
def c_set_Right : AFunc := ⟨46, [.tmp 2],
  .seq (.region (⟨some 2, .mov (.val (.bool false)), none⟩ :: [])) <|
  .seq (.seq (.region (⟨some 5, .mov (.tmp 0), none⟩ ::
    ⟨some 6, .len false (.tmp 5), none⟩ ::
    ⟨some 7, .mov (.val (.int .i64 0)), none⟩ :: [])) <|
  .block 0 (.loop (.seq (.region (⟨some 8, .bin .lss (.tmp 7) (.tmp 6), none⟩ :: [])) <|
      .seq (.cond (.tmp 8) (.skip) <|
      .exit 0) <|
      .seq (.block 1 (.seq (.region (⟨some 9, .mov (.tmp 7), none⟩ ::
          ⟨some 10, .iaddr 2 (.tmp 5) (.tmp 7), none⟩ ::
          ⟨some 11, .load true 2 (.tmp 10), none⟩ ::
          ⟨some 4, .alloc (.agg [(.int .i64 0), (.int .i64 0)]), none⟩ ::
          ⟨some 3, .mov (.tmp 9), none⟩ ::
          ⟨none, .store 2 (.tmp 4) (.tmp 11), none⟩ :: [])) <|
        .seq (.region (⟨some 12, .faddr 0 (.tmp 4), none⟩ ::
          ⟨some 13, .load false 1 (.tmp 12), none⟩ ::
          ⟨some 14, .faddr 1 (.tmp 4), none⟩ ::
          ⟨some 15, .load false 1 (.tmp 14), none⟩ ::
          ⟨some 16, .bin .gtr (.tmp 13) (.tmp 15), none⟩ ::
          ⟨some 17, .mov (.tmp 16), none⟩ ::
          ⟨some 18, .faddr 0 (.tmp 4), some (17, false)⟩ ::
          ⟨some 19, .load false 1 (.tmp 18), some (17, false)⟩ ::
          ⟨some 20, .call (.val (.fn (.func 164) [])) [(.tmp 19)], some (17, false)⟩ ::
          ⟨some 21, .un .not (.tmp 20), some (17, false)⟩ ::
          ⟨some 22, .pick (.tmp 17) (.val (.bool true)) (.tmp 21), none⟩ ::
          ⟨some 23, .mov (.tmp 22), none⟩ ::
          ⟨some 24, .faddr 1 (.tmp 4), some (23, false)⟩ ::
          ⟨some 25, .load false 1 (.tmp 24), some (23, false)⟩ ::
          ⟨some 26, .call (.val (.fn (.func 164) [])) [(.tmp 25)], some (23, false)⟩ ::
          ⟨some 27, .un .not (.tmp 26), some (23, false)⟩ ::
          ⟨some 28, .pick (.tmp 23) (.val (.bool true)) (.tmp 27), none⟩ ::
          ⟨some 29, .mov (.tmp 28), none⟩ ::
          ⟨some 30, .mov (.tmp 3), some (29, false)⟩ ::
          ⟨some 31, .bin .gtr (.tmp 30) (.val (.int .i64 0)), some (29, false)⟩ ::
          ⟨some 32, .mov (.tmp 31), some (29, false)⟩ ::
          ⟨some 33, .faddr 0 (.tmp 4), some (32, true)⟩ ::
          ⟨some 34, .load false 1 (.tmp 33), some (32, true)⟩ ::
          ⟨some 35, .mov (.tmp 0), some (32, true)⟩ ::
          ⟨some 36, .mov (.tmp 3), some (32, true)⟩ ::
          ⟨some 37, .bin .sub (.tmp 36) (.val (.int .i64 1)), some (32, true)⟩ ::
          ⟨some 38, .iaddr 2 (.tmp 35) (.tmp 37), some (32, true)⟩ ::
          ⟨some 39, .faddr 1 (.tmp 38), some (32, true)⟩ ::
          ⟨some 40, .load false 1 (.tmp 39), some (32, true)⟩ ::
          ⟨some 41, .bin .sub (.tmp 34) (.tmp 40), some (32, true)⟩ ::
          ⟨some 42, .bin .lss (.tmp 41) (.val (.int .i64 2)), some (32, true)⟩ ::
          ⟨some 43, .pick (.tmp 32) (.tmp 42) (.val (.bool false)), some (29, false)⟩ ::
          ⟨some 44, .pick (.tmp 29) (.val (.bool true)) (.tmp 43), none⟩ :: [])) <|
        .cond (.tmp 44) (.seq (.region (⟨some 2, .mov (.val (.bool false)), none⟩ :: [])) <|
          .ret) <|
        .skip)) <|
      .region (⟨some 45, .bin .add (.tmp 7) (.val (.int .i64 1)), none⟩ ::
        ⟨some 7, .mov (.tmp 45), none⟩ :: [])))) <|
  .seq (.region (⟨some 2, .mov (.val (.bool true)), none⟩ :: [])) <|
  .ret⟩
theorem e_set_Right : cFunc Try.prog kd_CSet Try.f138 = some c_set_Right := by kernel_rfl
/- touchstone/set.Ends: slots d, 0, d, 1 -/
def c_set_Ends : AFunc := ⟨25, [.cell 2 true 2, .tmp 3],
  .seq (.region (⟨some 2, .alloc (.agg [(.int .i64 0), (.int .i64 0)]), none⟩ ::
    ⟨some 3, .mov (.val (.bool false)), none⟩ :: [])) <|
  .seq (.seq (.region (⟨some 4, .mov (.tmp 0), none⟩ ::
    ⟨some 5, .call (.val (.fn (.func 138) [])) [(.tmp 4)], none⟩ ::
    ⟨some 6, .un .not (.tmp 5), none⟩ ::
    ⟨some 7, .mov (.tmp 6), none⟩ ::
    ⟨some 8, .mov (.tmp 0), some (7, false)⟩ ::
    ⟨some 9, .len false (.tmp 8), some (7, false)⟩ ::
    ⟨some 10, .bin .eql (.tmp 9) (.val (.int .i64 0)), some (7, false)⟩ ::
    ⟨some 11, .pick (.tmp 7) (.val (.bool true)) (.tmp 10), none⟩ :: [])) <|
  .cond (.tmp 11) (.seq (.region (⟨some 12, .build [(.int .i64 0), (.int .i64 0)] [], none⟩ ::
      ⟨none, .store 2 (.tmp 2) (.tmp 12), none⟩ ::
      ⟨some 3, .mov (.val (.bool false)), none⟩ :: [])) <|
    .ret) <|
  .skip) <|
  .seq (.region (⟨some 13, .mov (.tmp 0), none⟩ ::
    ⟨some 14, .iaddr 2 (.tmp 13) (.val (.int .i64 0)), none⟩ ::
    ⟨some 15, .faddr 0 (.tmp 14), none⟩ ::
    ⟨some 16, .load false 1 (.tmp 15), none⟩ ::
    ⟨some 17, .mov (.tmp 0), none⟩ ::
    ⟨some 18, .mov (.tmp 0), none⟩ ::
    ⟨some 19, .len false (.tmp 18), none⟩ ::
    ⟨some 20, .bin .sub (.tmp 19) (.val (.int .i64 1)), none⟩ ::
    ⟨some 21, .iaddr 2 (.tmp 17) (.tmp 20), none⟩ ::
    ⟨some 22, .faddr 1 (.tmp 21), none⟩ ::
    ⟨some 23, .load false 1 (.tmp 22), none⟩ ::
    ⟨some 24, .build [(.int .i64 0), (.int .i64 0)] [(0, 1, (.tmp 16)), (1, 1, (.tmp 23))], none⟩ ::
    ⟨none, .store 2 (.tmp 2) (.tmp 24), none⟩ ::
    ⟨some 3, .mov (.val (.bool true)), none⟩ :: [])) <|
  .ret⟩
theorem e_set_Ends : cFunc Try.prog kd_CSet Try.f87 = some c_set_Ends := by kernel_rfl
/- touchstone/set.from$1: slots r, 0, v, 1, r, 2, v, 3 -/
/- cmp.Compare[int64]: slots x, 0, y, 1, x, 2, y, 3, xNaN, 5, yNaN, 6 -/
/- cmp.isNaN[int64]: slots x, 0, x, 1 -/
/- slices.BinarySearchFunc[[]touchstone/api.Range,touchstone/api.Range,int64]: slots x, 0, target, 1, cmp, 2, x, 3, target, 4, cmp, 5, n, 8, i, 9, j, 10, h, 11 -/
/- touchstone/set.from: slots d, 0, v, 1, d, 2, v, 3, i, 5, _, 6 -/
/- touchstone/set.Next: slots d, 0, v, 1, d, 2, v, 3, i, 6 -/
/- touchstone/set.Has: slots d, 0, v, 1, d, 2, v, 3, n, 5, ok, 6 -/
/- touchstone/set.Cut: slots d, 0, lo, 1, hi, 2, d, 3, lo, 4, hi, 5, out, 7, _, 8, r, 9 -/
/- touchstone/set.Without: slots d, 0, v, 1, d, 2, v, 3 -/
/- slices.Clone[[]touchstone/api.Range,touchstone/api.Range]: slots s, 0, s, 1 -/
def c_slices_Clone_sRange_Range : AFunc := ⟨8, [.tmp 2],
  .seq (.region (⟨some 2, .mov (.val .nils), none⟩ :: [])) <|
  .seq (.seq (.region (⟨some 3, .mov (.tmp 0), none⟩ ::
    ⟨some 4, .isnil false (.tmp 3), none⟩ :: [])) <|
  .cond (.tmp 4) (.seq (.region (⟨some 2, .mov (.val .nils), none⟩ :: [])) <|
    .ret) <|
  .skip) <|
  .seq (.region (⟨some 5, .bslice 2 [], none⟩ ::
    ⟨some 6, .mov (.tmp 0), none⟩ ::
    ⟨some 7, .app 2 16 (.tmp 5) (.tmp 6), none⟩ ::
    ⟨some 2, .mov (.tmp 7), none⟩ :: [])) <|
  .ret⟩
theorem e_slices_Clone_sRange_Range : cFunc Try.prog kd_CSet Try.f44 = some c_slices_Clone_sRange_Range := by kernel_rfl
end Go.Proofs.Ytbhigfllanblpaa
namespace Go.Proofs.Ytbhigfllanblpaa
open Av
attribute [local irreducible] awp awpOpers
set_option linter.unusedSimpArgs false
set_option linter.unusedVariables false
set_option maxRecDepth 100000
set_option maxHeartbeats 4000000
theorem set_within (n : Int) : Ctr Try.prog 164 [.int .i64 n] [] (.bool (withinB n)) [] := by
  refine call_pure Try.func164 Try.call164 e_set_within ?_
  simp +contextual -implicitDefEqProofs (maxSteps := 1000000) only [c_set_within, sm, sn, Nat.reduceAdd, Nat.reduceSub, Nat.reduceLeDiff, Nat.reduceLT, Nat.reduceEqDiff, Int.reduceLE, Int.reduceLT, Int.reduceEq, Int.reduceToNat, Int.reduceAdd, Int.reduceSub, Int.reduceMul, Int.reduceNeg, Int.reduceNe, reduceCtorEq, ↓reduceIte]
  unfold withinB
  split <;> simp_all <;> omega
theorem set_Right (l : List Rg) (hl : l.length ≤ 1000000000000) : Ctr Try.prog 138 [eRgs l] [] (.bool (rightB l)) [] := by
  refine call_pure Try.func138 Try.call138 e_set_Right ?_
  simp +contextual -implicitDefEqProofs (maxSteps := 1000000) only [c_set_Right, eRgs, sm, sn, Nat.reduceAdd, Nat.reduceSub, Nat.reduceLeDiff, Nat.reduceLT, Nat.reduceEqDiff, Int.reduceLE, Int.reduceLT, Int.reduceEq, Int.reduceToNat, Int.reduceAdd, Int.reduceSub, Int.reduceMul, Int.reduceNeg, Int.reduceNe, reduceCtorEq, ↓reduceIte]
  refine loop_rule (fun k : Nat => k ≤ l.length ∧ ∀ j, j < k → okAt l j = true) (fun k => tm 46 [(0, .list 2 (l.map eRg)), (5, .list 2 (l.map eRg)), (6, .int .i64 l.length), (7, .int .i64 k)]) (fun _ => []) (fun k => l.length - k) 0 ⟨by omega, by omega⟩ ⟨[], by decide, rfl, ?_, ?_⟩ ?_
  · simp +contextual -implicitDefEqProofs (maxSteps := 1000000) only [sm, sn, Nat.reduceAdd, Nat.reduceSub, Nat.reduceLeDiff, Nat.reduceLT, Nat.reduceEqDiff, Int.reduceLE, Int.reduceLT, Int.reduceEq, Int.reduceToNat, Int.reduceAdd, Int.reduceSub, Int.reduceMul, Int.reduceNeg, Int.reduceNe, reduceCtorEq, ↓reduceIte]
  · simp +contextual -implicitDefEqProofs (maxSteps := 1000000) only [sm, sn, Nat.reduceAdd, Nat.reduceSub, Nat.reduceLeDiff, Nat.reduceLT, Nat.reduceEqDiff, Int.reduceLE, Int.reduceLT, Int.reduceEq, Int.reduceToNat, Int.reduceAdd, Int.reduceSub, Int.reduceMul, Int.reduceNeg, Int.reduceNe, reduceCtorEq, ↓reduceIte, Int.natCast_zero]
  · rintro k ⟨hk, hok⟩
    by_cases hlt : k < l.length
    · have hlt' : (k : Int) < ((l.length : Nat) : Int) := by omega
      have e2 : IntKind.i64.wrap ((k : Int) + 1) = ((k + 1 : Nat) : Int) := by rw [wrap_i64] <;> omega
      obtain ⟨⟨x, y⟩, hx⟩ : ∃ r, l[k]? = some r := ⟨_, List.getElem?_eq_getElem hlt⟩
      by_cases h1 : y < x
      · simp +contextual -implicitDefEqProofs (maxSteps := 1000000) only [sm, sn, Nat.reduceAdd, Nat.reduceSub, Nat.reduceLeDiff, Nat.reduceLT, Nat.reduceEqDiff, Int.reduceLE, Int.reduceLT, Int.reduceEq, Int.reduceToNat, Int.reduceAdd, Int.reduceSub, Int.reduceMul, Int.reduceNeg, Int.reduceNe, reduceCtorEq, ↓reduceIte, hlt', hx, h1]
        exact rightB_no hlt (by simp [okAt, hx, h1])
      simp +contextual -implicitDefEqProofs (maxSteps := 1000000) only [sm, sn, Nat.reduceAdd, Nat.reduceSub, Nat.reduceLeDiff, Nat.reduceLT, Nat.reduceEqDiff, Int.reduceLE, Int.reduceLT, Int.reduceEq, Int.reduceToNat, Int.reduceAdd, Int.reduceSub, Int.reduceMul, Int.reduceNeg, Int.reduceNe, reduceCtorEq, ↓reduceIte, hlt', hx, h1]
      refine callA_rule (set_within _) (wkL_refl _) rfl ?_
      cases hw1 : withinB x
      · simp +contextual -implicitDefEqProofs (maxSteps := 1000000) only [sm, sn, Nat.reduceAdd, Nat.reduceSub, Nat.reduceLeDiff, Nat.reduceLT, Nat.reduceEqDiff, Int.reduceLE, Int.reduceLT, Int.reduceEq, Int.reduceToNat, Int.reduceAdd, Int.reduceSub, Int.reduceMul, Int.reduceNeg, Int.reduceNe, reduceCtorEq, ↓reduceIte]
        exact rightB_no hlt (by simp [okAt, hx, hw1])
      simp +contextual -implicitDefEqProofs (maxSteps := 1000000) only [sm, sn, Nat.reduceAdd, Nat.reduceSub, Nat.reduceLeDiff, Nat.reduceLT, Nat.reduceEqDiff, Int.reduceLE, Int.reduceLT, Int.reduceEq, Int.reduceToNat, Int.reduceAdd, Int.reduceSub, Int.reduceMul, Int.reduceNeg, Int.reduceNe, reduceCtorEq, ↓reduceIte, hx, h1]
      refine callA_rule (set_within _) (wkL_refl _) rfl ?_
      cases hw2 : withinB y
      · simp +contextual -implicitDefEqProofs (maxSteps := 1000000) only [sm, sn, Nat.reduceAdd, Nat.reduceSub, Nat.reduceLeDiff, Nat.reduceLT, Nat.reduceEqDiff, Int.reduceLE, Int.reduceLT, Int.reduceEq, Int.reduceToNat, Int.reduceAdd, Int.reduceSub, Int.reduceMul, Int.reduceNeg, Int.reduceNe, reduceCtorEq, ↓reduceIte]
        exact rightB_no hlt (by simp [okAt, hx, hw2])
      obtain ⟨x1, x2⟩ := (withinB_iff _).1 hw1
      obtain ⟨y1, y2⟩ := (withinB_iff _).1 hw2
      by_cases h0 : k = 0
      · have h0' : ¬ (0 : Int) < k := by omega
        simp +contextual -implicitDefEqProofs (maxSteps := 1000000) only [sm, sn, Nat.reduceAdd, Nat.reduceSub, Nat.reduceLeDiff, Nat.reduceLT, Nat.reduceEqDiff, Int.reduceLE, Int.reduceLT, Int.reduceEq, Int.reduceToNat, Int.reduceAdd, Int.reduceSub, Int.reduceMul, Int.reduceNeg, Int.reduceNe, reduceCtorEq, ↓reduceIte, h1, h0', e2]
        refine ⟨k + 1, ⟨by omega, ?_⟩, by omega, [], by decide, rfl, ?_, ?_⟩
        · intro j hj
          rcases Nat.lt_succ_iff_lt_or_eq.1 hj with h | rfl
          · first | exact hok j h | simpa using hok j h
          · simp only [okAt, hx]; simp [h0, h1, hw1, hw2]
        · simp +contextual -implicitDefEqProofs (maxSteps := 1000000) only [sm, sn, Nat.reduceAdd, Nat.reduceSub, Nat.reduceLeDiff, Nat.reduceLT, Nat.reduceEqDiff, Int.reduceLE, Int.reduceLT, Int.reduceEq, Int.reduceToNat, Int.reduceAdd, Int.reduceSub, Int.reduceMul, Int.reduceNeg, Int.reduceNe, reduceCtorEq, ↓reduceIte]
        · simp +contextual -implicitDefEqProofs (maxSteps := 1000000) only [sm, sn, Nat.reduceAdd, Nat.reduceSub, Nat.reduceLeDiff, Nat.reduceLT, Nat.reduceEqDiff, Int.reduceLE, Int.reduceLT, Int.reduceEq, Int.reduceToNat, Int.reduceAdd, Int.reduceSub, Int.reduceMul, Int.reduceNeg, Int.reduceNe, reduceCtorEq, ↓reduceIte]
      · have h0' : (0 : Int) < k := by omega
        have e1 : IntKind.i64.wrap ((k : Int) - 1) = ((k - 1 : Nat) : Int) := by rw [wrap_i64] <;> omega
        obtain ⟨⟨p, q⟩, hpq⟩ : ∃ r, l[k - 1]? = some r := ⟨_, List.getElem?_eq_getElem (by omega)⟩
        have hp := hok (k - 1) (by omega)
        simp only [okAt, hpq, Bool.and_eq_true, withinB_iff] at hp
        have e3 : IntKind.i64.wrap (x - q) = x - q := by rw [wrap_i64] <;> omega
        by_cases hg : x - q < 2
        · simp +contextual -implicitDefEqProofs (maxSteps := 1000000) only [sm, sn, Nat.reduceAdd, Nat.reduceSub, Nat.reduceLeDiff, Nat.reduceLT, Nat.reduceEqDiff, Int.reduceLE, Int.reduceLT, Int.reduceEq, Int.reduceToNat, Int.reduceAdd, Int.reduceSub, Int.reduceMul, Int.reduceNeg, Int.reduceNe, reduceCtorEq, ↓reduceIte, hx, h1, h0', e1, hpq, e3, hg]
          exact rightB_no hlt (by simp [okAt, hx, hpq, h1, hw1, hw2, h0]; omega)
        · simp +contextual -implicitDefEqProofs (maxSteps := 1000000) only [sm, sn, Nat.reduceAdd, Nat.reduceSub, Nat.reduceLeDiff, Nat.reduceLT, Nat.reduceEqDiff, Int.reduceLE, Int.reduceLT, Int.reduceEq, Int.reduceToNat, Int.reduceAdd, Int.reduceSub, Int.reduceMul, Int.reduceNeg, Int.reduceNe, reduceCtorEq, ↓reduceIte, hx, h1, h0', e1, hpq, e3, hg, e2]
          refine ⟨k + 1, ⟨by omega, ?_⟩, by omega, [], by decide, rfl, ?_, ?_⟩
          · intro j hj
            rcases Nat.lt_succ_iff_lt_or_eq.1 hj with h | rfl
            · first | exact hok j h | simpa using hok j h
            · simp [okAt, hx, h1, hw1, hw2, hpq]; omega
          · simp +contextual -implicitDefEqProofs (maxSteps := 1000000) only [sm, sn, Nat.reduceAdd, Nat.reduceSub, Nat.reduceLeDiff, Nat.reduceLT, Nat.reduceEqDiff, Int.reduceLE, Int.reduceLT, Int.reduceEq, Int.reduceToNat, Int.reduceAdd, Int.reduceSub, Int.reduceMul, Int.reduceNeg, Int.reduceNe, reduceCtorEq, ↓reduceIte]
          · simp +contextual -implicitDefEqProofs (maxSteps := 1000000) only [sm, sn, Nat.reduceAdd, Nat.reduceSub, Nat.reduceLeDiff, Nat.reduceLT, Nat.reduceEqDiff, Int.reduceLE, Int.reduceLT, Int.reduceEq, Int.reduceToNat, Int.reduceAdd, Int.reduceSub, Int.reduceMul, Int.reduceNeg, Int.reduceNe, reduceCtorEq, ↓reduceIte]
    · have hkn : k = l.length := by omega
      subst hkn
      have hall := hok
      simp +contextual -implicitDefEqProofs (maxSteps := 1000000) only [sm, sn, Nat.reduceAdd, Nat.reduceSub, Nat.reduceLeDiff, Nat.reduceLT, Nat.reduceEqDiff, Int.reduceLE, Int.reduceLT, Int.reduceEq, Int.reduceToNat, Int.reduceAdd, Int.reduceSub, Int.reduceMul, Int.reduceNeg, Int.reduceNe, reduceCtorEq, ↓reduceIte, Int.lt_irrefl]
      exact rightB_yes hall
theorem set_Ends (l : List Rg) (hl : l.length ≤ 1000000000000) : Ctr Try.prog 87 [eRgs l] [] (.tuple [eRg (endsV l), .bool (endsB l)]) [] := by
  refine call_pure Try.func87 Try.call87 e_set_Ends ?_
  simp +contextual -implicitDefEqProofs (maxSteps := 1000000) only [c_set_Ends, eRgs, sm, sn, Nat.reduceAdd, Nat.reduceSub, Nat.reduceLeDiff, Nat.reduceLT, Nat.reduceEqDiff, Int.reduceLE, Int.reduceLT, Int.reduceEq, Int.reduceToNat, Int.reduceAdd, Int.reduceSub, Int.reduceMul, Int.reduceNeg, Int.reduceNe, reduceCtorEq, ↓reduceIte]
  refine callA_rule (set_Right l hl) (wkL_refl _) rfl ?_
  cases hr : rightB l
  · have q1 : endsV l = (0, 0) := by simp [endsV, hr]
    have q2 : endsB l = false := by simp [endsB, hr]
    rw [q1, q2]
    simp +contextual -implicitDefEqProofs (maxSteps := 1000000) only [sm, sn, Nat.reduceAdd, Nat.reduceSub, Nat.reduceLeDiff, Nat.reduceLT, Nat.reduceEqDiff, Int.reduceLE, Int.reduceLT, Int.reduceEq, Int.reduceToNat, Int.reduceAdd, Int.reduceSub, Int.reduceMul, Int.reduceNeg, Int.reduceNe, reduceCtorEq, ↓reduceIte, eRg]
  · by_cases h0 : 0 < l.length
    · obtain ⟨⟨x, y⟩, hxy⟩ : ∃ r, l[0]? = some r := ⟨_, List.getElem?_eq_getElem h0⟩
      obtain ⟨⟨p, q⟩, hpq⟩ : ∃ r, l[l.length - 1]? = some r := ⟨_, List.getElem?_eq_getElem (by omega)⟩
      have e1 : IntKind.i64.wrap ((l.length : Int) - 1) = ((l.length - 1 : Nat) : Int) := by rw [wrap_i64] <;> omega
      have h0' : ((l.length : Int) = 0) = False := by simp only [eq_iff_iff, iff_false]; omega
      have q1 : endsV l = (x, q) := by
        have a1 : l.head? = some (x, y) := by rw [List.head?_eq_getElem?]; exact hxy
        have a2 : l.getLast? = some (p, q) := by rw [List.getLast?_eq_getElem?]; exact hpq
        simp [endsV, hr, a1, a2]
      have q2 : endsB l = true := by
        cases l with
        | nil => simp at h0
        | cons a b => simp [endsB, hr]
      rw [q1, q2]
      simp +contextual -implicitDefEqProofs (maxSteps := 1000000) only [sm, sn, Nat.reduceAdd, Nat.reduceSub, Nat.reduceLeDiff, Nat.reduceLT, Nat.reduceEqDiff, Int.reduceLE, Int.reduceLT, Int.reduceEq, Int.reduceToNat, Int.reduceAdd, Int.reduceSub, Int.reduceMul, Int.reduceNeg, Int.reduceNe, reduceCtorEq, ↓reduceIte, h0', hxy, hpq, e1, eRg]
    · have : l = [] := List.eq_nil_of_length_eq_zero (by omega)
      subst this
      have q1 : endsV [] = (0, 0) := by decide
      have q2 : endsB [] = false := by decide
      rw [q1, q2]
      simp +contextual -implicitDefEqProofs (maxSteps := 1000000) only [sm, sn, Nat.reduceAdd, Nat.reduceSub, Nat.reduceLeDiff, Nat.reduceLT, Nat.reduceEqDiff, Int.reduceLE, Int.reduceLT, Int.reduceEq, Int.reduceToNat, Int.reduceAdd, Int.reduceSub, Int.reduceMul, Int.reduceNeg, Int.reduceNe, reduceCtorEq, ↓reduceIte, Int.natCast_zero, eRg]
theorem clone_rgs (l : List Rg) (hl : l.length ≤ 1000000000000) : Ctr Try.prog 44 [eRgs l] [] (eRgs l) [] := by
  refine call_pure Try.func44 Try.call44 e_slices_Clone_sRange_Range ?_
  by_cases h0 : l = []
  · subst h0
    simp +contextual -implicitDefEqProofs (maxSteps := 1000000) only [c_slices_Clone_sRange_Range, eRgs, sm, sn, Nat.reduceAdd, Nat.reduceSub, Nat.reduceLeDiff, Nat.reduceLT, Nat.reduceEqDiff, Int.reduceLE, Int.reduceLT, Int.reduceEq, Int.reduceToNat, Int.reduceAdd, Int.reduceSub, Int.reduceMul, Int.reduceNeg, Int.reduceNe, reduceCtorEq, ↓reduceIte, Nat.zero_le]
    simp [maxLen]
  · have hnn : (AV.list 2 (l.map eRg)).nonNil = true := by
      cases l with
      | nil => exact absurd rfl h0
      | cons a b => rfl
    have c1 : l.length * 16 ≤ 140737488355328 := by omega
    have c2 : l.length ≤ maxLen := by unfold maxLen; omega
    simp +contextual -implicitDefEqProofs (maxSteps := 1000000) only [c_slices_Clone_sRange_Range, eRgs, sm, sn, Nat.reduceAdd, Nat.reduceSub, Nat.reduceLeDiff, Nat.reduceLT, Nat.reduceEqDiff, Int.reduceLE, Int.reduceLT, Int.reduceEq, Int.reduceToNat, Int.reduceAdd, Int.reduceSub, Int.reduceMul, Int.reduceNeg, Int.reduceNe, reduceCtorEq, ↓reduceIte, hnn, c1, c2, Nat.le_refl]
end Go.Proofs.Ytbhigfllanblpaa
namespace Go.Proofs.Ytbhigfllanblpaa
open Av
set_option linter.unusedVariables false
set_option maxRecDepth 100000
def kd_CClone (f : Nat) : Nat := 0
/- slices.Clone[[][]touchstone/api.Range,[]touchstone/api.Range]: slots s, 0, s, 1 -/
def c_slices_Clone_ssRange_sRange : AFunc := ⟨8, [.tmp 2],
  .seq (.region (⟨some 2, .mov (.val .nils), none⟩ :: [])) <|
  .seq (.seq (.region (⟨some 3, .mov (.tmp 0), none⟩ ::
    ⟨some 4, .isnil false (.tmp 3), none⟩ :: [])) <|
  .cond (.tmp 4) (.seq (.region (⟨some 2, .mov (.val .nils), none⟩ :: [])) <|
    .ret) <|
  .skip) <|
  .seq (.region (⟨some 5, .bslice 1 [], none⟩ ::
    ⟨some 6, .mov (.tmp 0), none⟩ ::
    ⟨some 7, .app 1 24 (.tmp 5) (.tmp 6), none⟩ ::
    ⟨some 2, .mov (.tmp 7), none⟩ :: [])) <|
  .ret⟩
theorem e_slices_Clone_ssRange_sRange : cFunc Try.prog kd_CClone Try.f40 = some c_slices_Clone_ssRange_sRange := by kernel_rfl
end Go.Proofs.Ytbhigfllanblpaa
namespace Go.Proofs.Ytbhigfllanblpaa
open Av
attribute [local irreducible] awp awpOpers
set_option linter.unusedSimpArgs false
set_option linter.unusedVariables false
set_option maxRecDepth 100000
set_option maxHeartbeats 4000000
theorem clone_doms (D : List (List Rg)) (hl : D.length ≤ 1000000000000) : Ctr Try.prog 40 [eDoms D] [] (.sl 1 0 0 D.length) [some (1, D.map eRgs)] := by
  refine call_box Try.func40 Try.call40 e_slices_Clone_ssRange_sRange ?_
  by_cases h0 : D = []
  · subst h0
    simp +contextual -implicitDefEqProofs (maxSteps := 1000000) only [c_slices_Clone_ssRange_sRange, eDoms, sm, sn, Nat.reduceAdd, Nat.reduceSub, Nat.reduceLeDiff, Nat.reduceLT, Nat.reduceEqDiff, Int.reduceLE, Int.reduceLT, Int.reduceEq, Int.reduceToNat, Int.reduceAdd, Int.reduceSub, Int.reduceMul, Int.reduceNeg, Int.reduceNe, reduceCtorEq, ↓reduceIte, Nat.zero_le]
    refine ⟨⟨by omega, [], [0], by decide, ?_⟩, [1], [0], by decide, ?_⟩
    · simp +contextual -implicitDefEqProofs (maxSteps := 1000000) only [sm, sn, Nat.reduceAdd, Nat.reduceSub, Nat.reduceLeDiff, Nat.reduceLT, Nat.reduceEqDiff, Int.reduceLE, Int.reduceLT, Int.reduceEq, Int.reduceToNat, Int.reduceAdd, Int.reduceSub, Int.reduceMul, Int.reduceNeg, Int.reduceNe, reduceCtorEq, ↓reduceIte]
    · simp +contextual -implicitDefEqProofs (maxSteps := 1000000) only [sm, sn, Nat.reduceAdd, Nat.reduceSub, Nat.reduceLeDiff, Nat.reduceLT, Nat.reduceEqDiff, Int.reduceLE, Int.reduceLT, Int.reduceEq, Int.reduceToNat, Int.reduceAdd, Int.reduceSub, Int.reduceMul, Int.reduceNeg, Int.reduceNe, reduceCtorEq, ↓reduceIte]
  · have hnn : (AV.list 1 (D.map eRgs)).nonNil = true := by
      cases D with
      | nil => exact absurd rfl h0
      | cons a b => rfl
    have c1 : D.length * 24 ≤ 140737488355328 := by omega
    have c2 : D.length ≤ maxLen := by unfold maxLen; omega
    simp +contextual -implicitDefEqProofs (maxSteps := 1000000) only [c_slices_Clone_ssRange_sRange, eDoms, sm, sn, Nat.reduceAdd, Nat.reduceSub, Nat.reduceLeDiff, Nat.reduceLT, Nat.reduceEqDiff, Int.reduceLE, Int.reduceLT, Int.reduceEq, Int.reduceToNat, Int.reduceAdd, Int.reduceSub, Int.reduceMul, Int.reduceNeg, Int.reduceNe, reduceCtorEq, ↓reduceIte, hnn, c1, c2, Nat.le_refl]
    refine ⟨[], [0], by decide, ?_⟩
    simp +contextual -implicitDefEqProofs (maxSteps := 1000000) only [sm, sn, Nat.reduceAdd, Nat.reduceSub, Nat.reduceLeDiff, Nat.reduceLT, Nat.reduceEqDiff, Int.reduceLE, Int.reduceLT, Int.reduceEq, Int.reduceToNat, Int.reduceAdd, Int.reduceSub, Int.reduceMul, Int.reduceNeg, Int.reduceNe, reduceCtorEq, ↓reduceIte]
end Go.Proofs.Ytbhigfllanblpaa
