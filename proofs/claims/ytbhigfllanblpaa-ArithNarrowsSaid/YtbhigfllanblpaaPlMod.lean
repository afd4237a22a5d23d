/- Plain laws: domains within domains; sums; a model of one constraint; all values within domains; smaller domains and sums. -/
import Derived.Test.YtbhigfllanblpaaPlS
import Derived.Test.YtbhigfllanblpaaGMod
namespace Go.Proofs.Ytbhigfllanblpaa
open Av
set_option linter.unusedSimpArgs false
set_option linter.unusedVariables false
theorem row_get {D : List (List Rg)} {x : Int} (h : 0 ≤ x ∧ x < D.length) : D[x.toNat]? = some (rowOf D x) := by
  obtain ⟨r, hr⟩ : ∃ r, D[x.toNat]? = some r := ⟨_, List.getElem?_eq_getElem (by omega)⟩
  unfold rowOf
  rw [hr]; rfl
theorem row_mem {D : List (List Rg)} {x : Int} (h : 0 ≤ x ∧ x < D.length) : rowOf D x ∈ D := List.mem_of_getElem? (row_get h)
theorem take_snoc {α : Type} {T : List α} {k : Nat} {r : α} (h : T[k]? = some r) : T.take k ++ [r] = T.take (k + 1) := by
  rw [List.take_add_one, h]; rfl
/-- one set within another one -/
def Sub (r r' : List Rg) : Prop := rightB r = true ∧ rightB r' = true ∧ ∀ v, Mem r v → Mem r' v
def LeD (s d : List (List Rg)) : Prop := s.length = d.length ∧ ∀ x : Int, 0 ≤ x → x < d.length → Sub (rowOf s x) (rowOf d x)
theorem Sub.trans {a b c : List Rg} (h : Sub a b) (k : Sub b c) : Sub a c := ⟨h.1, k.2.1, fun v hv => k.2.2 v (h.2.2 v hv)⟩
theorem LeD.trans {a b c : List (List Rg)} (h : LeD a b) (k : LeD b c) : LeD a c := ⟨h.1.trans k.1, fun x h0 h1 => (h.2 x h0 (by rw [k.1]; exact h1)).trans (k.2 x h0 h1)⟩
theorem ends_at {r : List Rg} (hr : rightB r = true) {x y p q : Int} (h0 : r[0]? = some (x, y)) (h1 : r[r.length - 1]? = some (p, q)) : endsV r = (x, q) := by
  have a1 : r.head? = some (x, y) := by rw [List.head?_eq_getElem?]; exact h0
  have a2 : r.getLast? = some (p, q) := by rw [List.getLast?_eq_getElem?]; exact h1
  simp [endsV, hr, a1, a2]
/-- the ends of a domain that has values -/
theorem ends_facts {r : List Rg} (h : domB r = true) : Mem r (endsV r).1 ∧ Mem r (endsV r).2 ∧ (∀ v, Mem r v → (endsV r).1 ≤ v ∧ v ≤ (endsV r).2) ∧ -1048576 ≤ (endsV r).1 ∧ (endsV r).1 ≤ (endsV r).2 ∧ (endsV r).2 ≤ 1048576 := by
  unfold domB at h
  rw [Bool.and_eq_true, decide_eq_true_eq] at h
  obtain ⟨hr, hl⟩ := h
  obtain ⟨⟨x, y⟩, hx⟩ : ∃ a, r[0]? = some a := ⟨_, List.getElem?_eq_getElem (by omega)⟩
  obtain ⟨⟨p, q⟩, hp⟩ : ∃ a, r[r.length - 1]? = some a := ⟨_, List.getElem?_eq_getElem (by omega)⟩
  obtain ⟨g1, g2, g3, g4, g5⟩ := right_rg hr hx
  obtain ⟨k1, k2, k3, k4, k5⟩ := right_rg hr hp
  rw [ends_at hr hx hp]
  simp only
  have m1 : Mem r x := ⟨(x, y), List.mem_of_getElem? hx, Int.le_refl _, g1⟩
  have m2 : Mem r q := ⟨(p, q), List.mem_of_getElem? hp, k1, Int.le_refl _⟩
  have hall : ∀ v, Mem r v → x ≤ v ∧ v ≤ q := by
    rintro v ⟨⟨s, t⟩, hs, h1, h2⟩
    obtain ⟨j, hj, hjs⟩ := List.getElem_of_mem hs
    have hj' : r[j]? = some (s, t) := by rw [List.getElem?_eq_getElem hj, hjs]
    simp only at h1 h2
    obtain ⟨u1, -⟩ := right_rg hr hj'
    constructor
    · by_cases j0 : j = 0
      · subst j0; rw [hx] at hj'; simp at hj'; omega
      · have := right_apart (d := j - 1) hr hx (by rw [show 0 + (j - 1) + 1 = j by omega]; exact hj')
        omega
    · by_cases jl : j = r.length - 1
      · subst jl; rw [hp] at hj'; simp at hj'; omega
      · have := right_apart (d := r.length - 1 - j - 1) hr hj' (by rw [show j + (r.length - 1 - j - 1) + 1 = r.length - 1 by omega]; exact hp)
        omega
  exact ⟨m1, m2, hall, g2, (hall x m1).2, k5⟩
theorem dom_right {r : List Rg} (h : domB r = true) : rightB r = true ∧ 0 < r.length := by
  unfold domB at h
  rw [Bool.and_eq_true, decide_eq_true_eq] at h
  exact ⟨h.1, by omega⟩
def eAt (D : List (List Rg)) (x : Int) : Rg := endsV (rowOf D x)
def tell (s : List (List Rg) × Bool) : List (List Rg) × Int := match s with
  | (_, false) => ([], 12)
  | (E, true) => (E, 0)
/-! bounds -/
def DOk (D : List (List Rg)) : Prop := ∀ x : Int, 0 ≤ x → x < D.length → domB (rowOf D x) = true
theorem mul_bound {a b : Int} (h1 : -1048576 ≤ a ∧ a ≤ 1048576) (h2 : -1048576 ≤ b ∧ b ≤ 1048576) : -1099511627776 ≤ a * b ∧ a * b ≤ 1099511627776 := by
  have : (a * b).natAbs ≤ 1048576 * 1048576 := by
    rw [Int.natAbs_mul]
    exact Nat.mul_le_mul (by omega) (by omega)
  omega
theorem eAt_facts {D : List (List Rg)} {x : Int} (h : DOk D) (hx : 0 ≤ x ∧ x < D.length) : (∀ v, Mem (rowOf D x) v → (eAt D x).1 ≤ v ∧ v ≤ (eAt D x).2) ∧ -1048576 ≤ (eAt D x).1 ∧ (eAt D x).1 ≤ (eAt D x).2 ∧ (eAt D x).2 ≤ 1048576 := by
  obtain ⟨_, _, h3, h4, h5, h6⟩ := ends_facts (h x hx.1 hx.2)
  exact ⟨h3, h4, h5, h6⟩
theorem row_set {D : List (List Rg)} {x y : Int} {r : List Rg} (hx : 0 ≤ x) (hxl : x < D.length) (hy : 0 ≤ y) : rowOf (D.set x.toNat r) y = if x = y then r else rowOf D y := by
  unfold rowOf
  by_cases h : x = y
  · subst h
    rw [if_pos rfl, List.getElem?_set_self (by omega)]
    rfl
  · rw [if_neg h, List.getElem?_set_ne (by omega)]
theorem cut_sub {r : List Rg} (h : rightB r = true) (lo hi : Int) : Sub (cutS lo hi r) r := ⟨(cutS_facts lo hi h).1, h, fun v hv => (((cutS_facts lo hi h).2 v).1 hv).1⟩
theorem without_sub {r : List Rg} (h : rightB r = true) (v : Int) : Sub (withoutS v r) r := ⟨(withoutS_facts v h).1, h, fun u hu => (((withoutS_facts v h).2 u).1 hu).1⟩
theorem le_refl_of {D : List (List Rg)} (h : DOk D) : LeD D D := ⟨rfl, fun x h0 h1 => ⟨(dom_right (h x h0 h1)).1, (dom_right (h x h0 h1)).1, fun v hv => hv⟩⟩
theorem le_setrow {E D : List (List Rg)} {x : Int} {r : List Rg} (hle : LeD E D) (hx : 0 ≤ x ∧ x < D.length) (hs : Sub r (rowOf D x)) : LeD (E.set x.toNat r) D := by
  refine ⟨by rw [List.length_set]; exact hle.1, fun y h0 h1 => ?_⟩
  rw [row_set hx.1 (by rw [hle.1]; exact hx.2) h0]
  split
  · rename_i h; subst h; exact hs
  · exact hle.2 y h0 h1
def xat (X : List Int) (i : Nat) : Int := (X[i]?).getD 0
theorem xat_eq {X : List Int} {i : Nat} {x : Int} (h : X[i]? = some x) : xat X i = x := by unfold xat; rw [h]; rfl
def InD (D : List (List Rg)) (X : List Int) : Prop := ∀ i, i < X.length → 0 ≤ xat X i ∧ xat X i < D.length
theorem one_facts {c : Con} {D : List (List Rg)} (h : modB (D, [c], 0, 0) = true) : D.length ≤ 64 ∧ (∀ d ∈ D, domB d = true) ∧ mayB D c = true := by
  simp only [modB, Bool.and_eq_true, decide_eq_true_eq, List.all_eq_true] at h
  exact ⟨h.1.1.1.1, h.1.1.2, h.1.2 c (by simp)⟩
theorem dom_len {d : List Rg} (h : domB d = true) : d.length ≤ 1048577 := by
  unfold domB at h
  rw [Bool.and_eq_true] at h
  exact right_length h.1
theorem may_facts {c : Con} {D : List (List Rg)} (h : mayB D c = true) : formedB c = true ∧ c.2.1.length ≤ 32 ∧ InD D c.2.1 ∧ xsOk D c.2.1 (shp c.1).2.2.2.2 = true ∧ ∀ a ∈ c.2.2.1, withinB a = true := by
  simp only [mayB, Bool.and_eq_true, decide_eq_true_eq, List.all_eq_true] at h
  obtain ⟨⟨⟨⟨⟨h1, h2⟩, h3⟩, h4⟩, h5⟩, h6⟩ := h
  refine ⟨h1, h2, fun i hi => ?_, h5, h6⟩
  have := List.all_eq_true.1 h5 i (by simpa using hi)
  unfold xOk at this
  obtain ⟨x, hx⟩ : ∃ x, c.2.1[i]? = some x := ⟨_, List.getElem?_eq_getElem hi⟩
  rw [hx] at this
  simp only [Bool.and_eq_true, decide_eq_true_eq] at this
  rw [xat_eq hx]
  exact ⟨this.1.1, this.1.2⟩
theorem xat_get {X : List Int} {i : Nat} (h : i < X.length) : X[i]? = some (xat X i) := by
  obtain ⟨x, hx⟩ : ∃ x, X[i]? = some x := ⟨_, List.getElem?_eq_getElem h⟩
  rw [hx, xat_eq hx]
/-! the next value of a set -/
def nx (r : List Rg) (v : Int) : Option Int := if nextB r (v + 1) = true then some (nextV r (v + 1)) else none
/-! the values of a set -/
/-! a list whose elements follow each other -/
/-! all values within domains -/
end Go.Proofs.Ytbhigfllanblpaa
