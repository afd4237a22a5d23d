/- Plain laws: domains within domains; sums; a model of one constraint; all values within domains; smaller domains and sums. -/
import Derived.Test.YtnhedjpghpdbdaaPlS
import Derived.Test.YtnhedjpghpdbdaaGMod
namespace Go.Proofs.Ytnhedjpghpdbdaa
open Av
set_option linter.unusedSimpArgs false
set_option linter.unusedVariables false
theorem row_get {D : List (List Rg)} {x : Int} (h : 0 ≤ x ∧ x < D.length) : D[x.toNat]? = some (rowOf D x) := by
  obtain ⟨r, hr⟩ : ∃ r, D[x.toNat]? = some r := ⟨_, List.getElem?_eq_getElem (by omega)⟩
  unfold rowOf
  rw [hr]; rfl
theorem row_mem {D : List (List Rg)} {x : Int} (h : 0 ≤ x ∧ x < D.length) : rowOf D x ∈ D := List.mem_of_getElem? (row_get h)
theorem take_snoc {α : Type} {T : List α} {k : Nat} {r : α} (h : T[k]? = some r) : T.take k ++ [r] = T.take (k + 1) := by
  rw [List.take_add_one, h]; rfl
/-- one set within another one -/
def Sub (r r' : List Rg) : Prop := rightB r = true ∧ rightB r' = true ∧ ∀ v, Mem r v → Mem r' v
def LeD (s d : List (List Rg)) : Prop := s.length = d.length ∧ ∀ x : Int, 0 ≤ x → x < d.length → Sub (rowOf s x) (rowOf d x)
theorem Sub.trans {a b c : List Rg} (h : Sub a b) (k : Sub b c) : Sub a c := ⟨h.1, k.2.1, fun v hv => k.2.2 v (h.2.2 v hv)⟩
theorem LeD.trans {a b c : List (List Rg)} (h : LeD a b) (k : LeD b c) : LeD a c := ⟨h.1.trans k.1, fun x h0 h1 => (h.2 x h0 (by rw [k.1]; exact h1)).trans (k.2 x h0 h1)⟩
theorem ends_at {r : List Rg} (hr : rightB r = true) {x y p q : Int} (h0 : r[0]? = some (x, y)) (h1 : r[r.length - 1]? = some (p, q)) : endsV r = (x, q) := by
  have a1 : r.head? = some (x, y) := by rw [List.head?_eq_getElem?]; exact h0
  have a2 : r.getLast? = some (p, q) := by rw [List.getLast?_eq_getElem?]; exact h1
  simp [endsV, hr, a1, a2]
/-- the ends of a domain that has values -/
theorem ends_facts {r : List Rg} (h : domB r = true) : Mem r (endsV r).1 ∧ Mem r (endsV r).2 ∧ (∀ v, Mem r v → (endsV r).1 ≤ v ∧ v ≤ (endsV r).2) ∧ -1048576 ≤ (endsV r).1 ∧ (endsV r).1 ≤ (endsV r).2 ∧ (endsV r).2 ≤ 1048576 := by
  unfold domB at h
  rw [Bool.and_eq_true, decide_eq_true_eq] at h
  obtain ⟨hr, hl⟩ := h
  obtain ⟨⟨x, y⟩, hx⟩ : ∃ a, r[0]? = some a := ⟨_, List.getElem?_eq_getElem (by omega)⟩
  obtain ⟨⟨p, q⟩, hp⟩ : ∃ a, r[r.length - 1]? = some a := ⟨_, List.getElem?_eq_getElem (by omega)⟩
  obtain ⟨g1, g2, g3, g4, g5⟩ := right_rg hr hx
  obtain ⟨k1, k2, k3, k4, k5⟩ := right_rg hr hp
  rw [ends_at hr hx hp]
  simp only
  have m1 : Mem r x := ⟨(x, y), List.mem_of_getElem? hx, Int.le_refl _, g1⟩
  have m2 : Mem r q := ⟨(p, q), List.mem_of_getElem? hp, k1, Int.le_refl _⟩
  have hall : ∀ v, Mem r v → x ≤ v ∧ v ≤ q := by
    rintro v ⟨⟨s, t⟩, hs, h1, h2⟩
    obtain ⟨j, hj, hjs⟩ := List.getElem_of_mem hs
    have hj' : r[j]? = some (s, t) := by rw [List.getElem?_eq_getElem hj, hjs]
    simp only at h1 h2
    obtain ⟨u1, -⟩ := right_rg hr hj'
    constructor
    · by_cases j0 : j = 0
      · subst j0; rw [hx] at hj'; simp at hj'; omega
      · have := right_apart (d := j - 1) hr hx (by rw [show 0 + (j - 1) + 1 = j by omega]; exact hj')
        omega
    · by_cases jl : j = r.length - 1
      · subst jl; rw [hp] at hj'; simp at hj'; omega
      · have := right_apart (d := r.length - 1 - j - 1) hr hj' (by rw [show j + (r.length - 1 - j - 1) + 1 = r.length - 1 by omega]; exact hp)
        omega
  exact ⟨m1, m2, hall, g2, (hall x m1).2, k5⟩
theorem dom_right {r : List Rg} (h : domB r = true) : rightB r = true ∧ 0 < r.length := by
  unfold domB at h
  rw [Bool.and_eq_true, decide_eq_true_eq] at h
  exact ⟨h.1, by omega⟩
def wholeB (E : List (List Rg)) : Bool := !E.any fun d => decide (d.length = 0)
def tell (s : List (List Rg) × Bool) : List (List Rg) × Int := match s with
  | (_, false) => ([], 12)
  | (E, true) => (E, 0)
/-! bounds -/
theorem row_set {D : List (List Rg)} {x y : Int} {r : List Rg} (hx : 0 ≤ x) (hxl : x < D.length) (hy : 0 ≤ y) : rowOf (D.set x.toNat r) y = if x = y then r else rowOf D y := by
  unfold rowOf
  by_cases h : x = y
  · subst h
    rw [if_pos rfl, List.getElem?_set_self (by omega)]
    rfl
  · rw [if_neg h, List.getElem?_set_ne (by omega)]
def xat (X : List Int) (i : Nat) : Int := (X[i]?).getD 0
theorem xat_eq {X : List Int} {i : Nat} {x : Int} (h : X[i]? = some x) : xat X i = x := by unfold xat; rw [h]; rfl
def InD (D : List (List Rg)) (X : List Int) : Prop := ∀ i, i < X.length → 0 ≤ xat X i ∧ xat X i < D.length
theorem one_facts {c : Con} {D : List (List Rg)} (h : modB (D, [c], 0, 0) = true) : D.length ≤ 64 ∧ (∀ d ∈ D, domB d = true) ∧ mayB D c = true := by
  simp only [modB, Bool.and_eq_true, decide_eq_true_eq, List.all_eq_true] at h
  exact ⟨h.1.1.1.1, h.1.1.2, h.1.2 c (by simp)⟩
theorem dom_len {d : List Rg} (h : domB d = true) : d.length ≤ 1048577 := by
  unfold domB at h
  rw [Bool.and_eq_true] at h
  exact right_length h.1
theorem may_facts {c : Con} {D : List (List Rg)} (h : mayB D c = true) : formedB c = true ∧ c.2.1.length ≤ 32 ∧ InD D c.2.1 ∧ xsOk D c.2.1 (shp c.1).2.2.2.2 = true ∧ ∀ a ∈ c.2.2.1, withinB a = true := by
  simp only [mayB, Bool.and_eq_true, decide_eq_true_eq, List.all_eq_true] at h
  obtain ⟨⟨⟨⟨⟨h1, h2⟩, h3⟩, h4⟩, h5⟩, h6⟩ := h
  refine ⟨h1, h2, fun i hi => ?_, h5, h6⟩
  have := List.all_eq_true.1 h5 i (by simpa using hi)
  unfold xOk at this
  obtain ⟨x, hx⟩ : ∃ x, c.2.1[i]? = some x := ⟨_, List.getElem?_eq_getElem hi⟩
  rw [hx] at this
  simp only [Bool.and_eq_true, decide_eq_true_eq] at this
  rw [xat_eq hx]
  exact ⟨this.1.1, this.1.2⟩
theorem xat_get {X : List Int} {i : Nat} (h : i < X.length) : X[i]? = some (xat X i) := by
  obtain ⟨x, hx⟩ : ∃ x, X[i]? = some x := ⟨_, List.getElem?_eq_getElem h⟩
  rw [hx, xat_eq hx]
/-! the next value of a set -/
/-! the values of a set -/
/-! a list whose elements follow each other -/
/-! all values within domains -/
end Go.Proofs.Ytnhedjpghpdbdaa
