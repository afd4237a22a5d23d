/- The code of functions, as abstract code. Printed by program. Within, Ranges. The code of functions, as abstract code. Printed by program. What the functions of package set compute. The code of functions, as abstract code. Printed by program. What Meet and Same of package set compute. The code of functions, as abstract code. Printed by program. What slices.Clone makes of domains. -/
import Derived.Test.YtbmcjhjbifojnaaAv2
import Derived.Test.YtbmcjhjbifojnaaProg
import Derived.Test.YtbmcjhjbifojnaaPlS
namespace Go.Proofs.Ytbmcjhjbifojnaa
open Av
set_option linter.unusedVariables false
set_option maxRecDepth 100000
def kd_CBase (f : Nat) : Nat := 0
/- touchstone/touchstoneref08.Within: slots n, 0, n, 1 -/
def c_ref08_Within : AFunc := ⟨9, [.tmp 2],
  .seq (.region (⟨some 2, .mov (.val (.bool false)), none⟩ :: [])) <|
  .seq (.region (⟨some 3, .mov (.tmp 0), none⟩ ::
    ⟨some 4, .bin .geq (.tmp 3) (.val (.int .i64 (-1048576))), none⟩ ::
    ⟨some 5, .mov (.tmp 4), none⟩ ::
    ⟨some 6, .mov (.tmp 0), some (5, true)⟩ ::
    ⟨some 7, .bin .leq (.tmp 6) (.val (.int .i64 1048576)), some (5, true)⟩ ::
    ⟨some 8, .pick (.tmp 5) (.tmp 7) (.val (.bool false)), none⟩ ::
    ⟨some 2, .mov (.tmp 8), none⟩ :: [])) <|
  .ret⟩
theorem e_ref08_Within : cFunc Try.prog kd_CBase Try.f39 = some c_ref08_Within := by kernel_rfl
/- touchstone/touchstonelaw08.Ranges: slots a, 0, b, 1, a, 2, b, 3, i, 5 -/
def c_law08_Ranges : AFunc := ⟨26, [.tmp 4],
  .seq (.region (⟨some 4, .mov (.val (.bool false)), none⟩ :: [])) <|
  .seq (.seq (.region (⟨some 6, .mov (.tmp 0), none⟩ ::
    ⟨some 7, .len false (.tmp 6), none⟩ ::
    ⟨some 8, .mov (.tmp 1), none⟩ ::
    ⟨some 9, .len false (.tmp 8), none⟩ ::
    ⟨some 10, .bin .neq (.tmp 7) (.tmp 9), none⟩ :: [])) <|
  .cond (.tmp 10) (.seq (.region (⟨some 4, .mov (.val (.bool false)), none⟩ :: [])) <|
    .ret) <|
  .skip) <|
  .seq (.seq (.region (⟨some 11, .mov (.tmp 0), none⟩ ::
    ⟨some 12, .len false (.tmp 11), none⟩ ::
    ⟨some 13, .mov (.val (.int .i64 0)), none⟩ :: [])) <|
  .block 0 (.loop (.seq (.region (⟨some 14, .bin .lss (.tmp 13) (.tmp 12), none⟩ :: [])) <|
      .seq (.cond (.tmp 14) (.skip) <|
      .exit 0) <|
      .seq (.block 1 (.seq (.region (⟨some 15, .mov (.tmp 13), none⟩ ::
          ⟨some 5, .mov (.tmp 15), none⟩ :: [])) <|
        .seq (.region (⟨some 16, .mov (.tmp 0), none⟩ ::
          ⟨some 17, .mov (.tmp 5), none⟩ ::
          ⟨some 18, .iaddr 2 (.tmp 16) (.tmp 17), none⟩ ::
          ⟨some 19, .load true 2 (.tmp 18), none⟩ ::
          ⟨some 20, .mov (.tmp 1), none⟩ ::
          ⟨some 21, .mov (.tmp 5), none⟩ ::
          ⟨some 22, .iaddr 2 (.tmp 20) (.tmp 21), none⟩ ::
          ⟨some 23, .load true 2 (.tmp 22), none⟩ ::
          ⟨some 24, .eqs true 2 (.tmp 19) (.tmp 23), none⟩ :: [])) <|
        .cond (.tmp 24) (.seq (.region (⟨some 4, .mov (.val (.bool false)), none⟩ :: [])) <|
          .ret) <|
        .skip)) <|
      .region (⟨some 25, .bin .add (.tmp 13) (.val (.int .i64 1)), none⟩ ::
        ⟨some 13, .mov (.tmp 25), none⟩ :: [])))) <|
  .seq (.region (⟨some 4, .mov (.val (.bool true)), none⟩ :: [])) <|
  .ret⟩
theorem e_law08_Ranges : cFunc Try.prog kd_CBase Try.f25 = some c_law08_Ranges := by kernel_rfl
end Go.Proofs.Ytbmcjhjbifojnaa
namespace Go.Proofs.Ytbmcjhjbifojnaa
open Av
attribute [local irreducible] awp awpOpers
set_option linter.unusedSimpArgs false
set_option linter.unusedVariables false
set_option maxRecDepth 100000
set_option maxHeartbeats 4000000
theorem ref08_Within (n : Int) : Ctr Try.prog 39 [.int .i64 n] [] (.bool (withinB n)) [] := by
  refine call_pure Try.func39 Try.call39 e_ref08_Within ?_
  simp +contextual -implicitDefEqProofs (maxSteps := 1000000) only [c_ref08_Within, sm, sn, sxx, smp, seval]
  unfold withinB
  split <;> simp_all <;> omega
theorem law08_Ranges (a b : List Rg) (ha : a.length ≤ 9223372036854775807) : Ctr Try.prog 25 [eRgs a, eRgs b] [] (.bool (decide (a = b))) [] := by
  refine call_pure Try.func25 Try.call25 e_law08_Ranges ?_
  by_cases hn : a.length = b.length
  · have hn' : (b.length : Int) = (a.length : Int) := by omega
    simp +contextual -implicitDefEqProofs (maxSteps := 1000000) only [c_law08_Ranges, eRgs, sm, sn, sxx, smp, seval, hn']
    refine loop_rule (fun k : Nat => k ≤ a.length ∧ ∀ j, j < k → eqAt a b j = true) (fun k => tm 26 [(0, .list 2 (a.map eRg)), (1, .list 2 (b.map eRg)), (12, .int .i64 a.length), (13, .int .i64 k)]) (fun _ => []) (fun k => a.length - k) 0 ⟨by omega, by omega⟩ ⟨[], by decide, rfl, ?_, ?_⟩ ?_
    · simp +contextual -implicitDefEqProofs (maxSteps := 1000000) only [sm, sn, sxx, smp, seval]
    · simp +contextual -implicitDefEqProofs (maxSteps := 1000000) only [sm, sn, sxx, smp, seval, Int.natCast_zero]
    · rintro k ⟨hk, hok⟩
      by_cases hlt : k < a.length
      · have hlt' : (k : Int) < ((a.length : Nat) : Int) := by omega
        have e2 : IntKind.i64.wrap ((k : Int) + 1) = ((k + 1 : Nat) : Int) := by rw [wrap_i64] <;> omega
        obtain ⟨⟨x, y⟩, hx⟩ : ∃ r, a[k]? = some r := ⟨_, List.getElem?_eq_getElem hlt⟩
        obtain ⟨⟨p, q⟩, hp⟩ : ∃ r, b[k]? = some r := ⟨_, List.getElem?_eq_getElem (by omega)⟩
        have hq : eqAt a b k = (decide (x = p) && decide (y = q)) := by simp [eqAt, hx, hp]
        by_cases h1 : x = p ∧ y = q
        · obtain ⟨rfl, rfl⟩ := h1
          simp +contextual -implicitDefEqProofs (maxSteps := 1000000) only [sm, sn, sxx, smp, seval, hlt', hn', hx, hp, e2]
          refine ⟨k + 1, ⟨by omega, ?_⟩, by omega, [], by decide, rfl, ?_, ?_⟩
          · intro j hj
            rcases Nat.lt_succ_iff_lt_or_eq.1 hj with h | rfl
            · first | exact hok j h | simpa using hok j h
            · simp [hq]
          · simp +contextual -implicitDefEqProofs (maxSteps := 1000000) only [sm, sn, sxx, smp, seval]
          · simp +contextual -implicitDefEqProofs (maxSteps := 1000000) only [sm, sn, sxx, smp, seval]
        · have h1' : (decide (x = p) && decide (y = q)) = false := by simp; omega
          simp +contextual -implicitDefEqProofs (maxSteps := 1000000) only [sm, sn, sxx, smp, seval, hlt', hn', hx, hp, h1']
          rw [h1'] at hq
          exact of_decide_eq_false (eq_no hq)
      · have hkn : k = a.length := by omega
        subst hkn
        have hall := hok
        simp +contextual -implicitDefEqProofs (maxSteps := 1000000) only [sm, sn, sxx, smp, seval, Int.lt_irrefl]
        exact of_decide_eq_true (eq_yes hn hall)
  · have hn' : ((a.length : Int) = (b.length : Int)) = False := by simp only [eq_iff_iff, iff_false]; omega
    simp +contextual -implicitDefEqProofs (maxSteps := 1000000) only [c_law08_Ranges, eRgs, sm, sn, sxx, smp, seval, hn']
    rintro rfl
    exact hn rfl
end Go.Proofs.Ytbmcjhjbifojnaa
namespace Go.Proofs.Ytbmcjhjbifojnaa
open Av
set_option linter.unusedVariables false
set_option maxRecDepth 100000
def kd_CSet (f : Nat) : Nat := 0
/- touchstone/set.within: slots n, 0, n, 1 -/
def c_set_within : AFunc := ⟨9, [.tmp 2],
  .seq (.region (⟨some 2, .mov (.val (.bool false)), none⟩ :: [])) <|
  .seq (.region (⟨some 3, .mov (.tmp 0), none⟩ ::
    ⟨some 4, .bin .geq (.tmp 3) (.val (.int .i64 (-1048576))), none⟩ ::
    ⟨some 5, .mov (.tmp 4), none⟩ ::
    ⟨some 6, .mov (.tmp 0), some (5, true)⟩ ::
    ⟨some 7, .bin .leq (.tmp 6) (.val (.int .i64 1048576)), some (5, true)⟩ ::
    ⟨some 8, .pick (.tmp 5) (.tmp 7) (.val (.bool false)), none⟩ ::
    ⟨some 2, .mov (.tmp 8), none⟩ :: [])) <|
  .ret⟩
theorem e_set_within : cFunc Try.prog kd_CSet Try.f38 = some c_set_within := by kernel_rfl
/- touchstone/set.Right: slots d, 0, d, 1, i, 3, r, 4 -/
def c_set_Right : AFunc := ⟨46, [.tmp 2],
  .seq (.region (⟨some 2, .mov (.val (.bool false)), none⟩ :: [])) <|
  .seq (.seq (.region (⟨some 5, .mov (.tmp 0), none⟩ ::
    ⟨some 6, .len false (.tmp 5), none⟩ ::
    ⟨some 7, .mov (.val (.int .i64 0)), none⟩ :: [])) <|
  .block 0 (.loop (.seq (.region (⟨some 8, .bin .lss (.tmp 7) (.tmp 6), none⟩ :: [])) <|
      .seq (.cond (.tmp 8) (.skip) <|
      .exit 0) <|
      .seq (.block 1 (.seq (.region (⟨some 9, .mov (.tmp 7), none⟩ ::
          ⟨some 10, .iaddr 2 (.tmp 5) (.tmp 7), none⟩ ::
          ⟨some 11, .load true 2 (.tmp 10), none⟩ ::
          ⟨some 4, .alloc (.agg [(.int .i64 0), (.int .i64 0)]), none⟩ ::
          ⟨some 3, .mov (.tmp 9), none⟩ ::
          ⟨none, .store 2 (.tmp 4) (.tmp 11), none⟩ :: [])) <|
        .seq (.region (⟨some 12, .faddr 0 (.tmp 4), none⟩ ::
          ⟨some 13, .load false 1 (.tmp 12), none⟩ ::
          ⟨some 14, .faddr 1 (.tmp 4), none⟩ ::
          ⟨some 15, .load false 1 (.tmp 14), none⟩ ::
          ⟨some 16, .bin .gtr (.tmp 13) (.tmp 15), none⟩ ::
          ⟨some 17, .mov (.tmp 16), none⟩ ::
          ⟨some 18, .faddr 0 (.tmp 4), some (17, false)⟩ ::
          ⟨some 19, .load false 1 (.tmp 18), some (17, false)⟩ ::
          ⟨some 20, .call (.val (.fn (.func 38) [])) [(.tmp 19)], some (17, false)⟩ ::
          ⟨some 21, .un .not (.tmp 20), some (17, false)⟩ ::
          ⟨some 22, .pick (.tmp 17) (.val (.bool true)) (.tmp 21), none⟩ ::
          ⟨some 23, .mov (.tmp 22), none⟩ ::
          ⟨some 24, .faddr 1 (.tmp 4), some (23, false)⟩ ::
          ⟨some 25, .load false 1 (.tmp 24), some (23, false)⟩ ::
          ⟨some 26, .call (.val (.fn (.func 38) [])) [(.tmp 25)], some (23, false)⟩ ::
          ⟨some 27, .un .not (.tmp 26), some (23, false)⟩ ::
          ⟨some 28, .pick (.tmp 23) (.val (.bool true)) (.tmp 27), none⟩ ::
          ⟨some 29, .mov (.tmp 28), none⟩ ::
          ⟨some 30, .mov (.tmp 3), some (29, false)⟩ ::
          ⟨some 31, .bin .gtr (.tmp 30) (.val (.int .i64 0)), some (29, false)⟩ ::
          ⟨some 32, .mov (.tmp 31), some (29, false)⟩ ::
          ⟨some 33, .faddr 0 (.tmp 4), some (32, true)⟩ ::
          ⟨some 34, .load false 1 (.tmp 33), some (32, true)⟩ ::
          ⟨some 35, .mov (.tmp 0), some (32, true)⟩ ::
          ⟨some 36, .mov (.tmp 3), some (32, true)⟩ ::
          ⟨some 37, .bin .sub (.tmp 36) (.val (.int .i64 1)), some (32, true)⟩ ::
          ⟨some 38, .iaddr 2 (.tmp 35) (.tmp 37), some (32, true)⟩ ::
          ⟨some 39, .faddr 1 (.tmp 38), some (32, true)⟩ ::
          ⟨some 40, .load false 1 (.tmp 39), some (32, true)⟩ ::
          ⟨some 41, .bin .sub (.tmp 34) (.tmp 40), some (32, true)⟩ ::
          ⟨some 42, .bin .lss (.tmp 41) (.val (.int .i64 2)), some (32, true)⟩ ::
          ⟨some 43, .pick (.tmp 32) (.tmp 42) (.val (.bool false)), some (29, false)⟩ ::
          ⟨some 44, .pick (.tmp 29) (.val (.bool true)) (.tmp 43), none⟩ :: [])) <|
        .cond (.tmp 44) (.seq (.region (⟨some 2, .mov (.val (.bool false)), none⟩ :: [])) <|
          .ret) <|
        .skip)) <|
      .region (⟨some 45, .bin .add (.tmp 7) (.val (.int .i64 1)), none⟩ ::
        ⟨some 7, .mov (.tmp 45), none⟩ :: [])))) <|
  .seq (.region (⟨some 2, .mov (.val (.bool true)), none⟩ :: [])) <|
  .ret⟩
theorem e_set_Right : cFunc Try.prog kd_CSet Try.f28 = some c_set_Right := by kernel_rfl
/- touchstone/set.Ends: slots d, 0, d, 1 -/
/- touchstone/set.from$1: slots r, 0, v, 1, r, 2, v, 3 -/
/- cmp.Compare[int64]: slots x, 0, y, 1, x, 2, y, 3, xNaN, 5, yNaN, 6 -/
/- cmp.isNaN[int64]: slots x, 0, x, 1 -/
/- slices.BinarySearchFunc[[]touchstone/api.Range,touchstone/api.Range,int64]: slots x, 0, target, 1, cmp, 2, x, 3, target, 4, cmp, 5, n, 8, i, 9, j, 10, h, 11 -/
/- touchstone/set.from: slots d, 0, v, 1, d, 2, v, 3, i, 5, _, 6 -/
/- touchstone/set.Next: slots d, 0, v, 1, d, 2, v, 3, i, 6 -/
/- touchstone/set.Has: slots d, 0, v, 1, d, 2, v, 3, n, 5, ok, 6 -/
/- touchstone/set.Cut: slots d, 0, lo, 1, hi, 2, d, 3, lo, 4, hi, 5, out, 7, _, 8, r, 9 -/
/- touchstone/set.Without: slots d, 0, v, 1, d, 2, v, 3 -/
/- slices.Clone[[]touchstone/api.Range,touchstone/api.Range]: slots s, 0, s, 1 -/
def c_slices_Clone_sRange_Range : AFunc := ⟨8, [.tmp 2],
  .seq (.region (⟨some 2, .mov (.val .nils), none⟩ :: [])) <|
  .seq (.seq (.region (⟨some 3, .mov (.tmp 0), none⟩ ::
    ⟨some 4, .isnil false (.tmp 3), none⟩ :: [])) <|
  .cond (.tmp 4) (.seq (.region (⟨some 2, .mov (.val .nils), none⟩ :: [])) <|
    .ret) <|
  .skip) <|
  .seq (.region (⟨some 5, .bslice 2 [], none⟩ ::
    ⟨some 6, .mov (.tmp 0), none⟩ ::
    ⟨some 7, .app 2 16 (.tmp 5) (.tmp 6), none⟩ ::
    ⟨some 2, .mov (.tmp 7), none⟩ :: [])) <|
  .ret⟩
theorem e_slices_Clone_sRange_Range : cFunc Try.prog kd_CSet Try.f31 = some c_slices_Clone_sRange_Range := by kernel_rfl
end Go.Proofs.Ytbmcjhjbifojnaa
namespace Go.Proofs.Ytbmcjhjbifojnaa
open Av
attribute [local irreducible] awp awpOpers
set_option linter.unusedSimpArgs false
set_option linter.unusedVariables false
set_option maxRecDepth 100000
set_option maxHeartbeats 4000000
theorem set_within (n : Int) : Ctr Try.prog 38 [.int .i64 n] [] (.bool (withinB n)) [] := by
  refine call_pure Try.func38 Try.call38 e_set_within ?_
  simp +contextual -implicitDefEqProofs (maxSteps := 1000000) only [c_set_within, sm, sn, sxx, smp, Nat.reduceAdd, Nat.reduceSub, Nat.reduceLeDiff, Nat.reduceLT, Nat.reduceEqDiff, Int.reduceLE, Int.reduceLT, Int.reduceEq, Int.reduceToNat, Int.reduceAdd, Int.reduceSub, Int.reduceMul, Int.reduceNeg, Int.reduceNe, reduceCtorEq, ↓reduceIte]
  unfold withinB
  split <;> simp_all <;> omega
theorem set_Right (l : List Rg) (hl : l.length ≤ 1000000000000) : Ctr Try.prog 28 [eRgs l] [] (.bool (rightB l)) [] := by
  refine call_pure Try.func28 Try.call28 e_set_Right ?_
  simp +contextual -implicitDefEqProofs (maxSteps := 1000000) only [c_set_Right, eRgs, sm, sn, sxx, smp, Nat.reduceAdd, Nat.reduceSub, Nat.reduceLeDiff, Nat.reduceLT, Nat.reduceEqDiff, Int.reduceLE, Int.reduceLT, Int.reduceEq, Int.reduceToNat, Int.reduceAdd, Int.reduceSub, Int.reduceMul, Int.reduceNeg, Int.reduceNe, reduceCtorEq, ↓reduceIte]
  refine loop_rule (fun k : Nat => k ≤ l.length ∧ ∀ j, j < k → okAt l j = true) (fun k => tm 46 [(0, .list 2 (l.map eRg)), (5, .list 2 (l.map eRg)), (6, .int .i64 l.length), (7, .int .i64 k)]) (fun _ => []) (fun k => l.length - k) 0 ⟨by omega, by omega⟩ ⟨[], by decide, rfl, ?_, ?_⟩ ?_
  · simp +contextual -implicitDefEqProofs (maxSteps := 1000000) only [sm, sn, sxx, smp, Nat.reduceAdd, Nat.reduceSub, Nat.reduceLeDiff, Nat.reduceLT, Nat.reduceEqDiff, Int.reduceLE, Int.reduceLT, Int.reduceEq, Int.reduceToNat, Int.reduceAdd, Int.reduceSub, Int.reduceMul, Int.reduceNeg, Int.reduceNe, reduceCtorEq, ↓reduceIte]
  · simp +contextual -implicitDefEqProofs (maxSteps := 1000000) only [sm, sn, sxx, smp, Nat.reduceAdd, Nat.reduceSub, Nat.reduceLeDiff, Nat.reduceLT, Nat.reduceEqDiff, Int.reduceLE, Int.reduceLT, Int.reduceEq, Int.reduceToNat, Int.reduceAdd, Int.reduceSub, Int.reduceMul, Int.reduceNeg, Int.reduceNe, reduceCtorEq, ↓reduceIte, Int.natCast_zero]
  · rintro k ⟨hk, hok⟩
    by_cases hlt : k < l.length
    · have hlt' : (k : Int) < ((l.length : Nat) : Int) := by omega
      have e2 : IntKind.i64.wrap ((k : Int) + 1) = ((k + 1 : Nat) : Int) := by rw [wrap_i64] <;> omega
      obtain ⟨⟨x, y⟩, hx⟩ : ∃ r, l[k]? = some r := ⟨_, List.getElem?_eq_getElem hlt⟩
      by_cases h1 : y < x
      · simp +contextual -implicitDefEqProofs (maxSteps := 1000000) only [sm, sn, sxx, smp, Nat.reduceAdd, Nat.reduceSub, Nat.reduceLeDiff, Nat.reduceLT, Nat.reduceEqDiff, Int.reduceLE, Int.reduceLT, Int.reduceEq, Int.reduceToNat, Int.reduceAdd, Int.reduceSub, Int.reduceMul, Int.reduceNeg, Int.reduceNe, reduceCtorEq, ↓reduceIte, hlt', hx, h1]
        exact rightB_no hlt (by simp [okAt, hx, h1])
      simp +contextual -implicitDefEqProofs (maxSteps := 1000000) only [sm, sn, sxx, smp, Nat.reduceAdd, Nat.reduceSub, Nat.reduceLeDiff, Nat.reduceLT, Nat.reduceEqDiff, Int.reduceLE, Int.reduceLT, Int.reduceEq, Int.reduceToNat, Int.reduceAdd, Int.reduceSub, Int.reduceMul, Int.reduceNeg, Int.reduceNe, reduceCtorEq, ↓reduceIte, hlt', hx, h1]
      refine callA_rule (set_within _) (wkL_refl _) rfl ?_
      cases hw1 : withinB x
      · simp +contextual -implicitDefEqProofs (maxSteps := 1000000) only [sm, sn, sxx, smp, Nat.reduceAdd, Nat.reduceSub, Nat.reduceLeDiff, Nat.reduceLT, Nat.reduceEqDiff, Int.reduceLE, Int.reduceLT, Int.reduceEq, Int.reduceToNat, Int.reduceAdd, Int.reduceSub, Int.reduceMul, Int.reduceNeg, Int.reduceNe, reduceCtorEq, ↓reduceIte]
        exact rightB_no hlt (by simp [okAt, hx, hw1])
      simp +contextual -implicitDefEqProofs (maxSteps := 1000000) only [sm, sn, sxx, smp, Nat.reduceAdd, Nat.reduceSub, Nat.reduceLeDiff, Nat.reduceLT, Nat.reduceEqDiff, Int.reduceLE, Int.reduceLT, Int.reduceEq, Int.reduceToNat, Int.reduceAdd, Int.reduceSub, Int.reduceMul, Int.reduceNeg, Int.reduceNe, reduceCtorEq, ↓reduceIte, hx, h1]
      refine callA_rule (set_within _) (wkL_refl _) rfl ?_
      cases hw2 : withinB y
      · simp +contextual -implicitDefEqProofs (maxSteps := 1000000) only [sm, sn, sxx, smp, Nat.reduceAdd, Nat.reduceSub, Nat.reduceLeDiff, Nat.reduceLT, Nat.reduceEqDiff, Int.reduceLE, Int.reduceLT, Int.reduceEq, Int.reduceToNat, Int.reduceAdd, Int.reduceSub, Int.reduceMul, Int.reduceNeg, Int.reduceNe, reduceCtorEq, ↓reduceIte]
        exact rightB_no hlt (by simp [okAt, hx, hw2])
      obtain ⟨x1, x2⟩ := (withinB_iff _).1 hw1
      obtain ⟨y1, y2⟩ := (withinB_iff _).1 hw2
      by_cases h0 : k = 0
      · have h0' : ¬ (0 : Int) < k := by omega
        simp +contextual -implicitDefEqProofs (maxSteps := 1000000) only [sm, sn, sxx, smp, Nat.reduceAdd, Nat.reduceSub, Nat.reduceLeDiff, Nat.reduceLT, Nat.reduceEqDiff, Int.reduceLE, Int.reduceLT, Int.reduceEq, Int.reduceToNat, Int.reduceAdd, Int.reduceSub, Int.reduceMul, Int.reduceNeg, Int.reduceNe, reduceCtorEq, ↓reduceIte, h1, h0', e2]
        refine ⟨k + 1, ⟨by omega, ?_⟩, by omega, [], by decide, rfl, ?_, ?_⟩
        · intro j hj
          rcases Nat.lt_succ_iff_lt_or_eq.1 hj with h | rfl
          · first | exact hok j h | simpa using hok j h
          · simp only [okAt, hx]; simp [h0, h1, hw1, hw2]
        · simp +contextual -implicitDefEqProofs (maxSteps := 1000000) only [sm, sn, sxx, smp, Nat.reduceAdd, Nat.reduceSub, Nat.reduceLeDiff, Nat.reduceLT, Nat.reduceEqDiff, Int.reduceLE, Int.reduceLT, Int.reduceEq, Int.reduceToNat, Int.reduceAdd, Int.reduceSub, Int.reduceMul, Int.reduceNeg, Int.reduceNe, reduceCtorEq, ↓reduceIte]
        · simp +contextual -implicitDefEqProofs (maxSteps := 1000000) only [sm, sn, sxx, smp, Nat.reduceAdd, Nat.reduceSub, Nat.reduceLeDiff, Nat.reduceLT, Nat.reduceEqDiff, Int.reduceLE, Int.reduceLT, Int.reduceEq, Int.reduceToNat, Int.reduceAdd, Int.reduceSub, Int.reduceMul, Int.reduceNeg, Int.reduceNe, reduceCtorEq, ↓reduceIte]
      · have h0' : (0 : Int) < k := by omega
        have e1 : IntKind.i64.wrap ((k : Int) - 1) = ((k - 1 : Nat) : Int) := by rw [wrap_i64] <;> omega
        obtain ⟨⟨p, q⟩, hpq⟩ : ∃ r, l[k - 1]? = some r := ⟨_, List.getElem?_eq_getElem (by omega)⟩
        have hp := hok (k - 1) (by omega)
        simp only [okAt, hpq, Bool.and_eq_true, withinB_iff] at hp
        have e3 : IntKind.i64.wrap (x - q) = x - q := by rw [wrap_i64] <;> omega
        by_cases hg : x - q < 2
        · simp +contextual -implicitDefEqProofs (maxSteps := 1000000) only [sm, sn, sxx, smp, Nat.reduceAdd, Nat.reduceSub, Nat.reduceLeDiff, Nat.reduceLT, Nat.reduceEqDiff, Int.reduceLE, Int.reduceLT, Int.reduceEq, Int.reduceToNat, Int.reduceAdd, Int.reduceSub, Int.reduceMul, Int.reduceNeg, Int.reduceNe, reduceCtorEq, ↓reduceIte, hx, h1, h0', e1, hpq, e3, hg]
          exact rightB_no hlt (by simp [okAt, hx, hpq, h1, hw1, hw2, h0]; omega)
        · simp +contextual -implicitDefEqProofs (maxSteps := 1000000) only [sm, sn, sxx, smp, Nat.reduceAdd, Nat.reduceSub, Nat.reduceLeDiff, Nat.reduceLT, Nat.reduceEqDiff, Int.reduceLE, Int.reduceLT, Int.reduceEq, Int.reduceToNat, Int.reduceAdd, Int.reduceSub, Int.reduceMul, Int.reduceNeg, Int.reduceNe, reduceCtorEq, ↓reduceIte, hx, h1, h0', e1, hpq, e3, hg, e2]
          refine ⟨k + 1, ⟨by omega, ?_⟩, by omega, [], by decide, rfl, ?_, ?_⟩
          · intro j hj
            rcases Nat.lt_succ_iff_lt_or_eq.1 hj with h | rfl
            · first | exact hok j h | simpa using hok j h
            · simp [okAt, hx, h1, hw1, hw2, hpq]; omega
          · simp +contextual -implicitDefEqProofs (maxSteps := 1000000) only [sm, sn, sxx, smp, Nat.reduceAdd, Nat.reduceSub, Nat.reduceLeDiff, Nat.reduceLT, Nat.reduceEqDiff, Int.reduceLE, Int.reduceLT, Int.reduceEq, Int.reduceToNat, Int.reduceAdd, Int.reduceSub, Int.reduceMul, Int.reduceNeg, Int.reduceNe, reduceCtorEq, ↓reduceIte]
          · simp +contextual -implicitDefEqProofs (maxSteps := 1000000) only [sm, sn, sxx, smp, Nat.reduceAdd, Nat.reduceSub, Nat.reduceLeDiff, Nat.reduceLT, Nat.reduceEqDiff, Int.reduceLE, Int.reduceLT, Int.reduceEq, Int.reduceToNat, Int.reduceAdd, Int.reduceSub, Int.reduceMul, Int.reduceNeg, Int.reduceNe, reduceCtorEq, ↓reduceIte]
    · have hkn : k = l.length := by omega
      subst hkn
      have hall := hok
      simp +contextual -implicitDefEqProofs (maxSteps := 1000000) only [sm, sn, sxx, smp, Nat.reduceAdd, Nat.reduceSub, Nat.reduceLeDiff, Nat.reduceLT, Nat.reduceEqDiff, Int.reduceLE, Int.reduceLT, Int.reduceEq, Int.reduceToNat, Int.reduceAdd, Int.reduceSub, Int.reduceMul, Int.reduceNeg, Int.reduceNe, reduceCtorEq, ↓reduceIte, Int.lt_irrefl]
      exact rightB_yes hall
def cmpI (a b : Int) : Int := if a < b then -1 else if b < a then 1 else 0
theorem cmpI_lt {a b : Int} (h : a < b) : (cmpI a b < 0) = True := by simp [cmpI, h]
theorem cmpI_ge {a b : Int} (h : ¬ a < b) : (cmpI a b < 0) = False := by
  simp only [cmpI, h, if_false, eq_iff_iff, iff_false]
  split <;> omega
theorem clone_rgs (l : List Rg) (hl : l.length ≤ 1000000000000) : Ctr Try.prog 31 [eRgs l] [] (eRgs l) [] := by
  refine call_pure Try.func31 Try.call31 e_slices_Clone_sRange_Range ?_
  by_cases h0 : l = []
  · subst h0
    simp +contextual -implicitDefEqProofs (maxSteps := 1000000) only [c_slices_Clone_sRange_Range, eRgs, sm, sn, sxx, smp, Nat.reduceAdd, Nat.reduceSub, Nat.reduceLeDiff, Nat.reduceLT, Nat.reduceEqDiff, Int.reduceLE, Int.reduceLT, Int.reduceEq, Int.reduceToNat, Int.reduceAdd, Int.reduceSub, Int.reduceMul, Int.reduceNeg, Int.reduceNe, reduceCtorEq, ↓reduceIte, Nat.zero_le]
    simp [maxLen]
  · have hnn : (AV.list 2 (l.map eRg)).nonNil = true := by
      cases l with
      | nil => exact absurd rfl h0
      | cons a b => rfl
    have c1 : l.length * 16 ≤ 140737488355328 := by omega
    have c2 : l.length ≤ maxLen := by unfold maxLen; omega
    simp +contextual -implicitDefEqProofs (maxSteps := 1000000) only [c_slices_Clone_sRange_Range, eRgs, sm, sn, sxx, smp, Nat.reduceAdd, Nat.reduceSub, Nat.reduceLeDiff, Nat.reduceLT, Nat.reduceEqDiff, Int.reduceLE, Int.reduceLT, Int.reduceEq, Int.reduceToNat, Int.reduceAdd, Int.reduceSub, Int.reduceMul, Int.reduceNeg, Int.reduceNe, reduceCtorEq, ↓reduceIte, hnn, c1, c2, Nat.le_refl]
end Go.Proofs.Ytbmcjhjbifojnaa
namespace Go.Proofs.Ytbmcjhjbifojnaa
open Av
set_option linter.unusedVariables false
set_option maxRecDepth 100000
def kd_CSet2 (f : Nat) : Nat := 0
/- touchstone/set.Meet: slots a, 0, b, 1, a, 2, b, 3, out, 5, r, 6 -/
def c_set_Meet : AFunc := ⟨65, [.tmp 4],
  .seq (.region (⟨some 4, .mov (.val .nils), none⟩ :: [])) <|
  .seq (.seq (.region (⟨some 7, .mov (.tmp 0), none⟩ ::
    ⟨some 8, .call (.val (.fn (.func 28) [])) [(.tmp 7)], none⟩ ::
    ⟨some 9, .un .not (.tmp 8), none⟩ ::
    ⟨some 10, .mov (.tmp 9), none⟩ ::
    ⟨some 11, .mov (.tmp 1), some (10, false)⟩ ::
    ⟨some 12, .call (.val (.fn (.func 28) [])) [(.tmp 11)], some (10, false)⟩ ::
    ⟨some 13, .un .not (.tmp 12), some (10, false)⟩ ::
    ⟨some 14, .pick (.tmp 10) (.val (.bool true)) (.tmp 13), none⟩ :: [])) <|
  .cond (.tmp 14) (.seq (.region (⟨some 4, .mov (.val .nils), none⟩ :: [])) <|
    .ret) <|
  .skip) <|
  .seq (.region (⟨some 5, .mov (.val .nils), none⟩ :: [])) <|
  .seq (.block 0 (.loop (.seq (.seq (.region (⟨some 15, .mov (.tmp 0), none⟩ ::
        ⟨some 16, .len false (.tmp 15), none⟩ ::
        ⟨some 17, .bin .gtr (.tmp 16) (.val (.int .i64 0)), none⟩ ::
        ⟨some 18, .mov (.tmp 17), none⟩ ::
        ⟨some 19, .mov (.tmp 1), some (18, true)⟩ ::
        ⟨some 20, .len false (.tmp 19), some (18, true)⟩ ::
        ⟨some 21, .bin .gtr (.tmp 20) (.val (.int .i64 0)), some (18, true)⟩ ::
        ⟨some 22, .pick (.tmp 18) (.tmp 21) (.val (.bool false)), none⟩ :: [])) <|
      .cond (.tmp 22) (.skip) <|
      .exit 0) <|
      .block 1 (.seq (.region (⟨some 23, .mov (.tmp 0), none⟩ ::
          ⟨some 24, .iaddr 2 (.tmp 23) (.val (.int .i64 0)), none⟩ ::
          ⟨some 25, .faddr 0 (.tmp 24), none⟩ ::
          ⟨some 26, .load false 1 (.tmp 25), none⟩ ::
          ⟨some 27, .mov (.tmp 1), none⟩ ::
          ⟨some 28, .iaddr 2 (.tmp 27) (.val (.int .i64 0)), none⟩ ::
          ⟨some 29, .faddr 0 (.tmp 28), none⟩ ::
          ⟨some 30, .load false 1 (.tmp 29), none⟩ ::
          ⟨some 31, .mx (.tmp 26) [(.tmp 30)], none⟩ ::
          ⟨some 32, .mov (.tmp 0), none⟩ ::
          ⟨some 33, .iaddr 2 (.tmp 32) (.val (.int .i64 0)), none⟩ ::
          ⟨some 34, .faddr 1 (.tmp 33), none⟩ ::
          ⟨some 35, .load false 1 (.tmp 34), none⟩ ::
          ⟨some 36, .mov (.tmp 1), none⟩ ::
          ⟨some 37, .iaddr 2 (.tmp 36) (.val (.int .i64 0)), none⟩ ::
          ⟨some 38, .faddr 1 (.tmp 37), none⟩ ::
          ⟨some 39, .load false 1 (.tmp 38), none⟩ ::
          ⟨some 40, .mn (.tmp 35) [(.tmp 39)], none⟩ ::
          ⟨some 41, .build [(.int .i64 0), (.int .i64 0)] [(0, 1, (.tmp 31)), (1, 1, (.tmp 40))], none⟩ ::
          ⟨some 6, .alloc (.agg [(.int .i64 0), (.int .i64 0)]), none⟩ ::
          ⟨none, .store 2 (.tmp 6) (.tmp 41), none⟩ :: [])) <|
        .seq (.seq (.region (⟨some 42, .faddr 0 (.tmp 6), none⟩ ::
          ⟨some 43, .load false 1 (.tmp 42), none⟩ ::
          ⟨some 44, .faddr 1 (.tmp 6), none⟩ ::
          ⟨some 45, .load false 1 (.tmp 44), none⟩ ::
          ⟨some 46, .bin .leq (.tmp 43) (.tmp 45), none⟩ :: [])) <|
        .cond (.tmp 46) (.region (⟨some 47, .mov (.tmp 5), none⟩ ::
            ⟨some 48, .load true 2 (.tmp 6), none⟩ ::
            ⟨some 49, .bslice 2 [(.tmp 48)], none⟩ ::
            ⟨some 50, .app 2 16 (.tmp 47) (.tmp 49), none⟩ ::
            ⟨some 5, .mov (.tmp 50), none⟩ :: [])) <|
        .skip) <|
        .seq (.region (⟨some 51, .mov (.tmp 0), none⟩ ::
          ⟨some 52, .iaddr 2 (.tmp 51) (.val (.int .i64 0)), none⟩ ::
          ⟨some 53, .faddr 1 (.tmp 52), none⟩ ::
          ⟨some 54, .load false 1 (.tmp 53), none⟩ ::
          ⟨some 55, .mov (.tmp 1), none⟩ ::
          ⟨some 56, .iaddr 2 (.tmp 55) (.val (.int .i64 0)), none⟩ ::
          ⟨some 57, .faddr 1 (.tmp 56), none⟩ ::
          ⟨some 58, .load false 1 (.tmp 57), none⟩ ::
          ⟨some 59, .bin .lss (.tmp 54) (.tmp 58), none⟩ :: [])) <|
        .cond (.tmp 59) (.region (⟨some 60, .mov (.tmp 0), none⟩ ::
            ⟨some 61, .slc 2 (.tmp 60) (some (.val (.int .i64 1))) none, none⟩ ::
            ⟨some 0, .mov (.tmp 61), none⟩ :: [])) <|
        .region (⟨some 62, .mov (.tmp 1), none⟩ ::
          ⟨some 63, .slc 2 (.tmp 62) (some (.val (.int .i64 1))) none, none⟩ ::
          ⟨some 1, .mov (.tmp 63), none⟩ :: []))))) <|
  .seq (.region (⟨some 64, .mov (.tmp 5), none⟩ ::
    ⟨some 4, .mov (.tmp 64), none⟩ :: [])) <|
  .ret⟩
theorem e_set_Meet : cFunc Try.prog kd_CSet2 Try.f30 = some c_set_Meet := by kernel_rfl
/- touchstone/set.Same: slots a, 0, b, 1, a, 2, b, 3 -/
def c_set_Same : AFunc := ⟨12, [.tmp 4],
  .seq (.region (⟨some 4, .mov (.val (.bool false)), none⟩ :: [])) <|
  .seq (.region (⟨some 5, .mov (.tmp 0), none⟩ ::
    ⟨some 6, .call (.val (.fn (.func 28) [])) [(.tmp 5)], none⟩ ::
    ⟨some 7, .mov (.tmp 6), none⟩ ::
    ⟨some 8, .mov (.tmp 0), some (7, true)⟩ ::
    ⟨some 9, .mov (.tmp 1), some (7, true)⟩ ::
    ⟨some 10, .call (.val (.fn (.func 40) [])) [(.tmp 8), (.tmp 9)], some (7, true)⟩ ::
    ⟨some 11, .pick (.tmp 7) (.tmp 10) (.val (.bool false)), none⟩ ::
    ⟨some 4, .mov (.tmp 11), none⟩ :: [])) <|
  .ret⟩
theorem e_set_Same : cFunc Try.prog kd_CSet2 Try.f35 = some c_set_Same := by kernel_rfl
/- slices.Equal[[]touchstone/api.Range,touchstone/api.Range]: slots s1, 0, s2, 1, s1, 2, s2, 3, i, 5 -/
def c_slices_Equal_sRange_Range : AFunc := ⟨26, [.tmp 4],
  .seq (.region (⟨some 4, .mov (.val (.bool false)), none⟩ :: [])) <|
  .seq (.seq (.region (⟨some 6, .mov (.tmp 0), none⟩ ::
    ⟨some 7, .len false (.tmp 6), none⟩ ::
    ⟨some 8, .mov (.tmp 1), none⟩ ::
    ⟨some 9, .len false (.tmp 8), none⟩ ::
    ⟨some 10, .bin .neq (.tmp 7) (.tmp 9), none⟩ :: [])) <|
  .cond (.tmp 10) (.seq (.region (⟨some 4, .mov (.val (.bool false)), none⟩ :: [])) <|
    .ret) <|
  .skip) <|
  .seq (.seq (.region (⟨some 11, .mov (.tmp 0), none⟩ ::
    ⟨some 12, .len false (.tmp 11), none⟩ ::
    ⟨some 13, .mov (.val (.int .i64 0)), none⟩ :: [])) <|
  .block 0 (.loop (.seq (.region (⟨some 14, .bin .lss (.tmp 13) (.tmp 12), none⟩ :: [])) <|
      .seq (.cond (.tmp 14) (.skip) <|
      .exit 0) <|
      .seq (.block 1 (.seq (.region (⟨some 15, .mov (.tmp 13), none⟩ ::
          ⟨some 5, .mov (.tmp 15), none⟩ :: [])) <|
        .seq (.region (⟨some 16, .mov (.tmp 0), none⟩ ::
          ⟨some 17, .mov (.tmp 5), none⟩ ::
          ⟨some 18, .iaddr 2 (.tmp 16) (.tmp 17), none⟩ ::
          ⟨some 19, .load true 2 (.tmp 18), none⟩ ::
          ⟨some 20, .mov (.tmp 1), none⟩ ::
          ⟨some 21, .mov (.tmp 5), none⟩ ::
          ⟨some 22, .iaddr 2 (.tmp 20) (.tmp 21), none⟩ ::
          ⟨some 23, .load true 2 (.tmp 22), none⟩ ::
          ⟨some 24, .eqs true 2 (.tmp 19) (.tmp 23), none⟩ :: [])) <|
        .cond (.tmp 24) (.seq (.region (⟨some 4, .mov (.val (.bool false)), none⟩ :: [])) <|
          .ret) <|
        .skip)) <|
      .region (⟨some 25, .bin .add (.tmp 13) (.val (.int .i64 1)), none⟩ ::
        ⟨some 13, .mov (.tmp 25), none⟩ :: [])))) <|
  .seq (.region (⟨some 4, .mov (.val (.bool true)), none⟩ :: [])) <|
  .ret⟩
theorem e_slices_Equal_sRange_Range : cFunc Try.prog kd_CSet2 Try.f40 = some c_slices_Equal_sRange_Range := by kernel_rfl
/- touchstone/touchstonelaw09.SetCuts: slots a, 0, b, 1, at, 2, a, 3, b, 4, at, 5 -/
/- touchstone/touchstonelaw09.SetValues: slots a, 0, b, 1, at, 2, a, 3, b, 4, at, 5, lo, 7, hi, 8, v, 9, c, 10, w, 11, m, 12 -/
end Go.Proofs.Ytbmcjhjbifojnaa
namespace Go.Proofs.Ytbmcjhjbifojnaa
open Av
attribute [local irreducible] awp awpOpers
set_option linter.unusedSimpArgs false
set_option linter.unusedVariables false
set_option maxRecDepth 100000
set_option maxHeartbeats 4000000
theorem slices_Equal (a b : List Rg) (ha : a.length ≤ 1000000000000) : Ctr Try.prog 40 [eRgs a, eRgs b] [] (.bool (decide (a = b))) [] := by
  refine call_pure Try.func40 Try.call40 e_slices_Equal_sRange_Range ?_
  by_cases hn : a.length = b.length
  · have hn' : (b.length : Int) = (a.length : Int) := by omega
    simp +contextual -implicitDefEqProofs (maxSteps := 1000000) only [c_slices_Equal_sRange_Range, eRgs, sm, sn, sxx, smp, seval, hn']
    refine loop_rule (fun k : Nat => k ≤ a.length ∧ ∀ j, j < k → eqAt a b j = true) (fun k => tm 26 [(0, .list 2 (a.map eRg)), (1, .list 2 (b.map eRg)), (12, .int .i64 a.length), (13, .int .i64 k)]) (fun _ => []) (fun k => a.length - k) 0 ⟨by omega, by omega⟩ ⟨[], by decide, rfl, ?_, ?_⟩ ?_
    · simp +contextual -implicitDefEqProofs (maxSteps := 1000000) only [sm, sn, sxx, smp, seval]
    · simp +contextual -implicitDefEqProofs (maxSteps := 1000000) only [sm, sn, sxx, smp, seval, Int.natCast_zero]
    · rintro k ⟨hk, hok⟩
      by_cases hlt : k < a.length
      · have hlt' : (k : Int) < ((a.length : Nat) : Int) := by omega
        have e2 : IntKind.i64.wrap ((k : Int) + 1) = ((k + 1 : Nat) : Int) := by rw [wrap_i64] <;> omega
        obtain ⟨⟨x, y⟩, hx⟩ : ∃ r, a[k]? = some r := ⟨_, List.getElem?_eq_getElem hlt⟩
        obtain ⟨⟨p, q⟩, hp⟩ : ∃ r, b[k]? = some r := ⟨_, List.getElem?_eq_getElem (by omega)⟩
        have hq : eqAt a b k = (decide (x = p) && decide (y = q)) := by simp [eqAt, hx, hp]
        by_cases h1 : x = p ∧ y = q
        · obtain ⟨rfl, rfl⟩ := h1
          simp +contextual -implicitDefEqProofs (maxSteps := 1000000) only [sm, sn, sxx, smp, seval, hlt', hn', hx, hp, e2]
          refine ⟨k + 1, ⟨by omega, ?_⟩, by omega, [], by decide, rfl, ?_, ?_⟩
          · intro j hj
            rcases Nat.lt_succ_iff_lt_or_eq.1 hj with h | rfl
            · first | exact hok j h | simpa using hok j h
            · simp [hq]
          · simp +contextual -implicitDefEqProofs (maxSteps := 1000000) only [sm, sn, sxx, smp, seval]
          · simp +contextual -implicitDefEqProofs (maxSteps := 1000000) only [sm, sn, sxx, smp, seval]
        · have h1' : (decide (x = p) && decide (y = q)) = false := by simp <;> omega
          simp +contextual -implicitDefEqProofs (maxSteps := 1000000) only [sm, sn, sxx, smp, seval, hlt', hn', hx, hp, h1']
          rw [h1'] at hq
          exact of_decide_eq_false (eq_no hq)
      · have hkn : k = a.length := by omega
        subst hkn
        have hall := hok
        simp +contextual -implicitDefEqProofs (maxSteps := 1000000) only [sm, sn, sxx, smp, seval, Int.lt_irrefl]
        exact of_decide_eq_true (eq_yes hn hall)
  · have hn' : ((a.length : Int) = (b.length : Int)) = False := by simp only [eq_iff_iff, iff_false]; omega
    simp +contextual -implicitDefEqProofs (maxSteps := 1000000) only [c_slices_Equal_sRange_Range, eRgs, sm, sn, sxx, smp, seval, hn']
    rintro rfl
    exact hn rfl
theorem set_Same (a b : List Rg) (ha : a.length ≤ 1000000000000) : Ctr Try.prog 35 [eRgs a, eRgs b] [] (.bool (rightB a && decide (a = b))) [] := by
  refine call_pure Try.func35 Try.call35 e_set_Same ?_
  simp +contextual -implicitDefEqProofs (maxSteps := 1000000) only [c_set_Same, eRgs, sm, sn, sxx, smp, seval]
  refine callA_rule (set_Right a ha) (wkL_refl _) rfl ?_
  cases hr : rightB a
  · simp +contextual -implicitDefEqProofs (maxSteps := 1000000) only [sm, sn, sxx, smp, seval]
  · simp +contextual -implicitDefEqProofs (maxSteps := 1000000) only [sm, sn, sxx, smp, seval]
    refine callA_rule (slices_Equal a b ha) (wkL_refl _) rfl ?_
    simp +contextual -implicitDefEqProofs (maxSteps := 1000000) only [sm, sn, sxx, smp, seval]
theorem set_Meet (a b : List Rg) (ha : a.length ≤ 1000000000000) (hb : b.length ≤ 1000000000000) : Ctr Try.prog 30 [eRgs a, eRgs b] [] (eRgs (meetS a b)) [] := by
  refine call_pure Try.func30 Try.call30 e_set_Meet ?_
  simp +contextual -implicitDefEqProofs (maxSteps := 1000000) only [c_set_Meet, eRgs, sm, sn, sxx, smp, seval]
  refine callA_rule (set_Right a ha) (wkL_refl _) rfl ?_
  cases hr : rightB a
  · simp +contextual -implicitDefEqProofs (maxSteps := 1000000) only [sm, sn, sxx, smp, seval]
    simp [meetS, hr]
  simp +contextual -implicitDefEqProofs (maxSteps := 1000000) only [sm, sn, sxx, smp, seval]
  refine callA_rule (set_Right b hb) (wkL_refl _) rfl ?_
  cases hr2 : rightB b
  · simp +contextual -implicitDefEqProofs (maxSteps := 1000000) only [sm, sn, sxx, smp, seval]
    simp [meetS, hr, hr2]
  have hms : meetS a b = meetGo (a.length + b.length) a b := by simp [meetS, hr, hr2]
  rw [hms]
  clear hms hr hr2
  generalize hT : meetGo (a.length + b.length) a b = T
  have dm : ∀ (n : Nat) (l : List Rg), List.drop n (l.map eRg) = (l.drop n).map eRg := fun n l => by rw [List.map_drop]
  simp +contextual -implicitDefEqProofs (maxSteps := 1000000) only [sm, sn, sxx, smp, seval]
  refine loop_ruleV [(5, 2)] (fun s : List Rg × List Rg × List Rg => s.1.length + s.2.1.length + s.2.2.length ≤ a.length + b.length ∧ s.2.2 ++ meetGo (s.1.length + s.2.1.length) s.1 s.2.1 = T) (fun s => tm 65 [(0, .list 2 (s.1.map eRg)), (1, .list 2 (s.2.1.map eRg)), (5, .sl 2 0 0 s.2.2.length)]) (fun s => [some (2, s.2.2.map eRg)]) (fun s => s.1.length + s.2.1.length) (a, b, []) (by simp +contextual -implicitDefEqProofs (maxSteps := 1000000) only [sm, sn, sxx, smp, seval]) ⟨by simp, by simpa using hT⟩ ⟨[0], by decide, rfl, ?_, ?_⟩ ?_
  · simp +contextual -implicitDefEqProofs (maxSteps := 1000000) only [sm, sn, sxx, smp, seval]
  · simp +contextual -implicitDefEqProofs (maxSteps := 1000000) only [sm, sn, sxx, smp, seval, Int.natCast_zero]
  · rintro ⟨u, v, acc⟩ ⟨hlen, hgo⟩
    simp only at hlen hgo
    have fin : u = [] ∨ v = [] → acc = T := by
      rintro (rfl | rfl)
      · rwa [meetGo_nil1, List.append_nil] at hgo
      · rwa [meetGo_nil2, List.append_nil] at hgo
    by_cases h0 : u = []
    · have := fin (.inl h0)
      subst h0
      subst this
      simp +contextual -implicitDefEqProofs (maxSteps := 1000000) only [sm, sn, sxx, smp, seval, Int.lt_irrefl, Int.natCast_zero]
      try simp
    by_cases h1 : v = []
    · have := fin (.inr h1)
      have g0 : (0 : Int) < (u.length : Int) := by
        cases u with
        | nil => exact absurd rfl h0
        | cons a b => simp <;> omega
      subst h1
      subst this
      simp +contextual -implicitDefEqProofs (maxSteps := 1000000) only [sm, sn, sxx, smp, seval, Int.lt_irrefl, Int.natCast_zero, g0]
      try simp
    obtain ⟨⟨x, y⟩, u', rfl⟩ : ∃ r u', u = r :: u' := List.exists_cons_of_ne_nil h0
    obtain ⟨⟨x', y'⟩, v', rfl⟩ : ∃ r v', v = r :: v' := List.exists_cons_of_ne_nil h1
    rw [meet_step (p := max x x') (q := min y y') rfl rfl] at hgo
    have hu : ((x, y) :: u')[0]? = some (x, y) := rfl
    have hv : ((x', y') :: v')[0]? = some (x', y') := rfl
    have du : List.drop 1 ((x, y) :: u') = u' := rfl
    have dv : List.drop 1 ((x', y') :: v') = v' := rfl
    have gu : (0 : Int) < (((x, y) :: u').length : Int) := by simp <;> omega
    have gv : (0 : Int) < (((x', y') :: v').length : Int) := by simp <;> omega
    have lu : 1 ≤ ((x, y) :: u').length := by simp
    have lw : 1 ≤ ((x', y') :: v').length := by simp
    have eu : ((x, y) :: u').length = u'.length + 1 := rfl
    have ev : ((x', y') :: v').length = v'.length + 1 := rfl
    generalize (x, y) :: u' = u at *
    generalize (x', y') :: v' = v at *
    have c1 : (acc.length + 1) * 16 ≤ 140737488355328 := by omega
    have c2 : acc.length + 1 ≤ maxLen := by unfold maxLen; omega
    by_cases h2 : max x x' ≤ min y y'
    · rw [if_pos h2] at hgo
      by_cases h3 : y < y'
      · rw [if_pos h3, ← List.append_assoc] at hgo
        simp +contextual -implicitDefEqProofs (maxSteps := 1000000) only [sm, sn, sxx, smp, seval, gu, gv, hu, hv, h2, h3, c1, c2, dm, lu, lw, du, dv]
        refine ⟨(u', v, acc ++ [(max x x', min y y')]), ⟨by simp <;> omega, hgo⟩, by simp <;> omega, [2], by decide, rfl, ?_, ?_⟩
        · simp +contextual -implicitDefEqProofs (maxSteps := 1000000) only [sm, sn, sxx, smp, seval]
        · simp +contextual -implicitDefEqProofs (maxSteps := 1000000) only [sm, sn, sxx, smp, seval]
      · rw [if_neg h3, ← List.append_assoc] at hgo
        simp +contextual -implicitDefEqProofs (maxSteps := 1000000) only [sm, sn, sxx, smp, seval, gu, gv, hu, hv, h2, h3, c1, c2, dm, lu, lw, du, dv]
        refine ⟨(u, v', acc ++ [(max x x', min y y')]), ⟨by simp <;> omega, hgo⟩, by simp <;> omega, [2], by decide, rfl, ?_, ?_⟩
        · simp +contextual -implicitDefEqProofs (maxSteps := 1000000) only [sm, sn, sxx, smp, seval]
        · simp +contextual -implicitDefEqProofs (maxSteps := 1000000) only [sm, sn, sxx, smp, seval]
    · rw [if_neg h2, List.nil_append] at hgo
      by_cases h3 : y < y'
      · rw [if_pos h3] at hgo
        simp +contextual -implicitDefEqProofs (maxSteps := 1000000) only [sm, sn, sxx, smp, seval, gu, gv, hu, hv, h2, h3, dm, lu, lw, du, dv]
        refine ⟨(u', v, acc), ⟨by simp <;> omega, hgo⟩, by simp <;> omega, [0], by decide, rfl, ?_, ?_⟩
        · simp +contextual -implicitDefEqProofs (maxSteps := 1000000) only [sm, sn, sxx, smp, seval]
        · simp +contextual -implicitDefEqProofs (maxSteps := 1000000) only [sm, sn, sxx, smp, seval]
      · rw [if_neg h3] at hgo
        simp +contextual -implicitDefEqProofs (maxSteps := 1000000) only [sm, sn, sxx, smp, seval, gu, gv, hu, hv, h2, h3, dm, lu, lw, du, dv]
        refine ⟨(u, v', acc), ⟨by simp <;> omega, hgo⟩, by simp <;> omega, [0], by decide, rfl, ?_, ?_⟩
        · simp +contextual -implicitDefEqProofs (maxSteps := 1000000) only [sm, sn, sxx, smp, seval]
        · simp +contextual -implicitDefEqProofs (maxSteps := 1000000) only [sm, sn, sxx, smp, seval]
end Go.Proofs.Ytbmcjhjbifojnaa
namespace Go.Proofs.Ytbmcjhjbifojnaa
open Av
set_option linter.unusedVariables false
set_option maxRecDepth 100000
def kd_CClone (f : Nat) : Nat := 0
/- slices.Clone[[][]touchstone/api.Range,[]touchstone/api.Range]: slots s, 0, s, 1 -/
end Go.Proofs.Ytbmcjhjbifojnaa
namespace Go.Proofs.Ytbmcjhjbifojnaa
open Av
attribute [local irreducible] awp awpOpers
set_option linter.unusedSimpArgs false
set_option linter.unusedVariables false
set_option maxRecDepth 100000
set_option maxHeartbeats 4000000
end Go.Proofs.Ytbmcjhjbifojnaa
