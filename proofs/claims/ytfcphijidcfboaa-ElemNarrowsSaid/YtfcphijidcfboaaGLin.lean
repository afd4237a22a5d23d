/- The code of functions, as abstract code. Printed by program. What the functions of package linear compute: ends, span, opposite, whole, own, terms. What the functions of package linear compute, continued: terms, most. What the functions of package linear compute, continued: is, not, fit, Narrow, Ends. What the functions of package linear compute, continued: Narrow, Ends. -/
import Derived.Test.YtfcphijidcfboaaAv2
import Derived.Test.YtfcphijidcfboaaProg
import Derived.Test.YtfcphijidcfboaaPlMod
import Derived.Test.YtfcphijidcfboaaGSet
import Derived.Test.YtfcphijidcfboaaGMod
namespace Go.Proofs.Ytfcphijidcfboaa
open Av
set_option linter.unusedVariables false
set_option maxRecDepth 100000
def kd_CLinear (f : Nat) : Nat := if f = 73 then 2 else 0
/- (*touchstone/linear.sum).ends: slots s, 0, t, 1, s, 2, t, 3, lo, 4, hi, 5, r, 6, _, 7 -/
/- (*touchstone/linear.sum).span: slots s, 0, s, 1, out, 3, _, 4, t, 5, lo, 6, hi, 7 -/
/- (*touchstone/linear.sum).opposite: slots s, 0, s, 1, i, 2 -/
/- (*touchstone/linear.sum).most: slots s, 0, n, 1, s, 2, n, 3, room, 5, was, 6, _, 7, t, 8, r, 9, _, 10 -/
/- (*touchstone/linear.sum).whole: slots s, 0, s, 1 -/
/- (*touchstone/linear.sum).whole$1: slots d, 0, d, 1 -/
/- (*touchstone/linear.sum).is: slots s, 0, n, 1, s, 2, n, 3 -/
/- (*touchstone/linear.sum).not: slots s, 0, n, 1, s, 2, n, 3, open, 5, _, 6, t, 7, r, 8, _, 9, x, 10 -/
/- touchstone/linear.own: slots d, 0, d, 1, out, 3, _, 4, x, 5 -/
/- touchstone/linear.terms: slots c, 0, d, 1, c, 2, d, 3, s, 5, i, 6, a, 7 -/
/- touchstone/linear.fit: slots c, 0, d, 1, c, 2, d, 3 -/
/- touchstone/linear.Narrow: slots c, 0, d, 1, c, 2, d, 3, s, 6, ok, 7 -/
/- touchstone/linear.Ends: slots c, 0, d, 1, c, 2, d, 3 -/
/- slices.ContainsFunc[[][]touchstone/api.Range,[]touchstone/api.Range]: slots s, 0, f, 1, s, 2, f, 3 -/
/- slices.IndexFunc[[][]touchstone/api.Range,[]touchstone/api.Range]: slots s, 0, f, 1, s, 2, f, 3, i, 5 -/
end Go.Proofs.Ytfcphijidcfboaa
namespace Go.Proofs.Ytfcphijidcfboaa
open Av
attribute [local irreducible] awp awpOpers
set_option linter.unusedSimpArgs false
set_option linter.unusedVariables false
set_option maxRecDepth 100000
set_option maxHeartbeats 4000000
/-- a sum, in boxes -/
def sumX (T : List Tm) (D : List (List Rg)) : Bx := [some (2, [.agg [.sl 2 1 0 T.length, .sl 1 2 0 D.length]]), some (2, T.map eRg), some (1, D.map eRgs)]
theorem sumX_eq (T : List Tm) (D : List (List Rg)) : sumX T D = [some (2, [.agg [.sl 2 1 0 T.length, .sl 1 2 0 D.length]]), some (2, T.map eRg), some (1, D.map eRgs)] := rfl
theorem tX_pair {T : List Tm} {k : Nat} (h : k < T.length) : T[k]? = some ((tX T k).1, (tX T k).2) := tX_get h
theorem opp_len (T : List Tm) : (opp T).length = T.length := by unfold opp; rw [List.length_map]
theorem opp_get {T : List Tm} {k : Nat} (h : k < T.length) : (opp T)[k]? = some (-(tX T k).1, (tX T k).2) := by
  unfold opp
  rw [List.getElem?_map, tX_get h]; rfl
theorem set_term (T : List Tm) (n : Nat) (a b : Int) : (T.map eRg).set n (.agg [.int .i64 a, .int .i64 b]) = (T.set n (a, b)).map eRg := by simp [eRg, List.map_set]
end Go.Proofs.Ytfcphijidcfboaa
namespace Go.Proofs.Ytfcphijidcfboaa
open Av
attribute [local irreducible] awp awpOpers
set_option linter.unusedSimpArgs false
set_option linter.unusedVariables false
set_option maxRecDepth 100000
set_option maxHeartbeats 4000000
theorem set_rows2 (E : List (List Rg)) (n : Nat) (r : List Rg) : (E.map eRgs).set n (.list 2 (r.map eRg)) = (E.set n r).map eRgs := by
  have : AV.list 2 (r.map eRg) = eRgs r := rfl
  rw [this, List.map_set]
theorem tdiv_bound {r a : Int} (ha : 0 < a) (hr : 0 ≤ r ∧ r ≤ 1000000000000000) : 0 ≤ r.tdiv a ∧ r.tdiv a ≤ r := by
  have h1 : r.tdiv a = r / a := Int.tdiv_eq_ediv_of_nonneg hr.1
  rw [h1]
  exact ⟨Int.ediv_nonneg hr.1 (by omega), Int.ediv_le_self _ hr.1⟩
end Go.Proofs.Ytfcphijidcfboaa
namespace Go.Proofs.Ytfcphijidcfboaa
open Av
attribute [local irreducible] awp awpOpers
set_option linter.unusedSimpArgs false
set_option linter.unusedVariables false
set_option maxRecDepth 100000
set_option maxHeartbeats 4000000
theorem most_len {D E : List (List Rg)} {T : List Tm} {n : Int} {b : Bool} (hD : DOk D) (hT : TOk T D) (hs : mostS D T n = (E, b)) : LeD E D := by
  unfold mostS at hs
  split at hs
  · simp only [Prod.mk.injEq] at hs; obtain ⟨rfl, -⟩ := hs; exact le_refl_of hD
  · simp only [Prod.mk.injEq] at hs; obtain ⟨rfl, -⟩ := hs; exact most_le hD hT (Nat.le_refl _)
theorem most_true {D E : List (List Rg)} {T : List Tm} {n : Int} (hs : mostS D T n = (E, true)) : wholeB E = true := by
  unfold mostS at hs
  split at hs
  · simp at hs
  · simp only [Prod.mk.injEq] at hs; obtain ⟨rfl, h⟩ := hs; exact h
theorem tdiv_small {r a : Int} (hr : -1000000000000000 ≤ r ∧ r ≤ 1000000000000000) : -1000000000000000 ≤ r.tdiv a ∧ r.tdiv a ≤ 1000000000000000 := by
  have h : (r.tdiv a).natAbs ≤ r.natAbs := by
    rw [Int.natAbs_tdiv]
    exact Nat.div_le_self _ _
  omega
end Go.Proofs.Ytfcphijidcfboaa
namespace Go.Proofs.Ytfcphijidcfboaa
open Av
attribute [local irreducible] awp awpOpers
set_option linter.unusedSimpArgs false
set_option linter.unusedVariables false
set_option maxRecDepth 100000
set_option maxHeartbeats 4000000
theorem le_rows {E D : List (List Rg)} (hle : LeD E D) : ∀ d ∈ E, d.length ≤ 1000000000000 := by
  intro d hd
  obtain ⟨i, hi, rfl⟩ := List.getElem_of_mem hd
  have hs := hle.2 (i : Int) (by omega) (by have := hle.1; omega)
  have e : rowOf E (i : Int) = E[i] := by unfold rowOf; rw [Int.toNat_natCast, List.getElem?_eq_getElem hi]; rfl
  rw [e] at hs
  have := right_length hs.1
  omega
theorem is_len {D E : List (List Rg)} {T : List Tm} {n : Int} {b : Bool} (hD : DOk D) (hT : TOk T D) (hs : isS D T n = (E, b)) : LeD E D := by
  obtain ⟨E1, b1, h1⟩ : ∃ E1 b1, mostS D T n = (E1, b1) := ⟨_, _, rfl⟩
  unfold isS at hs
  rw [h1] at hs
  have hle := most_len hD hT h1
  cases b1
  · simp only [Prod.mk.injEq] at hs; obtain ⟨rfl, -⟩ := hs; exact hle
  · simp only at hs
    exact (most_len (whole_ok hle (most_true h1)) (opp_ok hT hle.1) hs).trans hle
theorem not_len {D E : List (List Rg)} {T : List Tm} {n : Int} {b : Bool} (hD : DOk D) (hT : TOk T D) (hs : notS D T n = (E, b)) : LeD E D := by
  obtain ⟨of1, of2, of3⟩ := open_facts hD hT (Nat.le_refl T.length)
  unfold notS at hs
  split at hs
  · simp only [Prod.mk.injEq] at hs; obtain ⟨rfl, -⟩ := hs; exact le_refl_of hD
  · split at hs
    · simp only [Prod.mk.injEq] at hs; obtain ⟨rfl, -⟩ := hs; exact le_refl_of hD
    · split at hs
      · simp only [Prod.mk.injEq] at hs; obtain ⟨rfl, -⟩ := hs; exact le_refl_of hD
      · rename_i g1 g0 g3
        simp only [Prod.mk.injEq] at hs
        obtain ⟨rfl, -⟩ := hs
        obtain ⟨u1, u2, u3⟩ := of3 _ (List.mem_of_getElem? (tX_get (T := (openK D T T.length).1) (k := 0) (by omega)))
        have h := le_refl_of hD
        exact le_setrow h u3 (without_sub (dom_right (hD _ u3.1 u3.2)).1 _)
/-- what a model of one sum says -/
theorem dom_ok {D : List (List Rg)} (h : ∀ d ∈ D, domB d = true) : DOk D := fun x h0 h1 => h _ (row_mem ⟨h0, h1⟩)
theorem sum_facts {c : Con} {D : List (List Rg)} (hm : modB (D, [c], 0, 0) = true) (hk : 1 ≤ c.1 ∧ c.1 ≤ 6) : D.length ≤ 64 ∧ DOk D ∧ TOk (termsOf c) D ∧ (-1048576 ≤ c.2.2.2 ∧ c.2.2.2 ≤ 1048576) ∧ c.2.2.1.length ≤ c.2.1.length ∧ c.2.1.length ≤ 32 := by
  obtain ⟨K, X, A, C⟩ := c
  simp only at hk
  simp only [modB, Bool.and_eq_true, decide_eq_true_eq, List.all_eq_true] at hm
  obtain ⟨⟨⟨⟨m1, m2⟩, m3⟩, m4⟩, m5⟩ := hm
  have hmay := m4 (K, X, A, C) (by simp)
  simp only [mayB, Bool.and_eq_true, decide_eq_true_eq, List.all_eq_true] at hmay
  obtain ⟨⟨⟨⟨⟨h1, h2⟩, h3⟩, h4⟩, h5⟩, h6⟩ := hmay
  simp only [formedB, Bool.and_eq_true] at h1
  obtain ⟨⟨-, hc⟩, -⟩ := h1
  have hlen : A.length ≤ X.length := by
    have hcase : K = 1 ∨ K = 2 ∨ K = 3 ∨ K = 4 ∨ K = 5 ∨ K = 6 := by omega
    rcases hcase with rfl | rfl | rfl | rfl | rfl | rfl <;> simp [countsB, shp] at hc <;> omega
  have hTl : (termsOf (K, X, A, C)).length = A.length := by unfold termsOf; simp only [List.length_zip]; omega
  refine ⟨m1, dom_ok m3, ⟨by omega, fun k hk => ?_⟩, by simpa [withinB] using h3, hlen, h2⟩
  rw [hTl] at hk
  obtain ⟨a, ha⟩ : ∃ r, A[k]? = some r := ⟨_, List.getElem?_eq_getElem hk⟩
  obtain ⟨x, hx⟩ : ∃ r, X[k]? = some r := ⟨_, List.getElem?_eq_getElem (by omega)⟩
  have hg : (termsOf (K, X, A, C))[k]? = some (a, x) := by
    unfold termsOf
    simp only [List.getElem?_zip_eq_some]
    exact ⟨ha, hx⟩
  have e : tX (termsOf (K, X, A, C)) k = (a, x) := by unfold tX; rw [hg]; rfl
  rw [e]
  have hxo := List.all_eq_true.1 h5 k (by have := (List.getElem?_eq_some_iff.1 hx).1; simpa using this)
  unfold xOk at hxo
  simp only [hx, Bool.and_eq_true, decide_eq_true_eq] at hxo
  have hwa := h6 a (List.mem_of_getElem? ha)
  simp only [withinB, Bool.and_eq_true, decide_eq_true_eq] at hwa
  exact ⟨hwa, hxo.1.1, hxo.1.2⟩
end Go.Proofs.Ytfcphijidcfboaa
