/- Plain laws of sets of ranges: no program in sight. -/
import Derived.Test.YtbhigfllanblpaaAv2
namespace Go.Proofs.Ytbhigfllanblpaa
open Av
set_option linter.unusedSimpArgs false
set_option linter.unusedVariables false
def withinB (n : Int) : Bool := decide (-1048576 ≤ n) && decide (n ≤ 1048576)
theorem withinB_iff (n : Int) : withinB n = true ↔ -1048576 ≤ n ∧ n ≤ 1048576 := by simp [withinB]
def okAt (l : List Rg) (k : Nat) : Bool :=
  match l[k]? with
  | none => true
  | some r => !decide (r.2 < r.1) && withinB r.1 && withinB r.2 && (k == 0 || (match l[k - 1]? with | none => true | some p => !decide (r.1 - p.2 < 2)))
def rightB (l : List Rg) : Bool := (List.range l.length).all (okAt l)
theorem rightB_no {l : List Rg} {k : Nat} (hk : k < l.length) (h : okAt l k = false) : rightB l = false := by
  unfold rightB
  rw [List.all_eq_false]
  exact ⟨k, by simpa using hk, by simp [h]⟩
theorem rightB_yes {l : List Rg} (h : ∀ k, k < l.length → okAt l k = true) : rightB l = true := by
  unfold rightB
  rw [List.all_eq_true]
  intro k hk
  exact h k (by simpa using hk)
theorem at_rg {l : List Rg} {k : Nat} (h : k < l.length) : ∃ x y, l[k]? = some (x, y) := ⟨_, _, List.getElem?_eq_getElem h⟩
/-! ### lists of ranges -/
theorem rightB_at {l : List Rg} (h : rightB l = true) {k : Nat} (hk : k < l.length) : okAt l k = true := by
  unfold rightB at h
  rw [List.all_eq_true] at h
  exact h k (List.mem_range.2 hk)
theorem right_rg {l : List Rg} (h : rightB l = true) {k : Nat} {x y : Int} (hk : l[k]? = some (x, y)) : x ≤ y ∧ -1048576 ≤ x ∧ x ≤ 1048576 ∧ -1048576 ≤ y ∧ y ≤ 1048576 := by
  have h1 := rightB_at h (List.getElem?_eq_some_iff.1 hk).1
  unfold okAt at h1
  rw [hk] at h1
  simp [withinB] at h1
  omega
theorem right_gap {l : List Rg} (h : rightB l = true) {k : Nat} {x y x' y' : Int} (hk : l[k]? = some (x, y)) (hk' : l[k + 1]? = some (x', y')) : y + 2 ≤ x' := by
  have h1 := rightB_at h (List.getElem?_eq_some_iff.1 hk').1
  unfold okAt at h1
  rw [hk', show k + 1 - 1 = k by omega, hk] at h1
  simp [withinB] at h1
  omega
theorem right_apart {l : List Rg} (h : rightB l = true) : ∀ {d k : Nat} {x y x' y' : Int}, l[k]? = some (x, y) → l[k + d + 1]? = some (x', y') → y + 2 ≤ x'
  | 0, k, x, y, x', y', h1, h2 => right_gap h h1 h2
  | d + 1, k, x, y, x', y', h1, h2 => by
    have hl := (List.getElem?_eq_some_iff.1 h2).1
    obtain ⟨p, q, h3⟩ := at_rg (l := l) (k := k + d + 1) (by omega)
    have h4 := right_apart h h1 h3
    have h5 := right_gap h h3 (by rw [show k + d + 1 + 1 = k + (d + 1) + 1 by omega]; exact h2)
    have h6 := right_rg h h3
    omega
theorem right_length {l : List Rg} (h : rightB l = true) : l.length ≤ 1048577 := by
  rcases Nat.lt_or_ge l.length 2 with h2 | h2
  · omega
  · have key : ∀ d, d + 1 < l.length → ∀ x y x' y', l[0]? = some (x, y) → l[d + 1]? = some (x', y') → y + 2 * (d + 1 : Nat) ≤ x' := by
      intro d
      induction d with
      | zero => intro _ x y x' y' h3 h4; have := right_gap h h3 h4; omega
      | succ d ih =>
        intro hd x y x' y' h3 h4
        obtain ⟨p, q, h5⟩ := at_rg (l := l) (k := d + 1) (by omega)
        have h6 := ih (by omega) x y p q h3 h5
        have h7 := right_gap h h5 h4
        have h8 := right_rg h h5
        omega
    obtain ⟨x, y, h3⟩ := at_rg (l := l) (k := 0) (by omega)
    obtain ⟨x', y', h4⟩ := at_rg (l := l) (k := l.length - 1) (by omega)
    have h5 := key (l.length - 2) (by omega) x y x' y' h3 (by rw [show l.length - 2 + 1 = l.length - 1 by omega]; exact h4)
    have h6 := right_rg h h3
    have h7 := right_rg h h4
    omega

/-! ### Next, Has -/
def endsV (l : List Rg) : Rg := if rightB l = true then (match l.head?, l.getLast? with | some a, some b => (a.1, b.2) | _, _ => (0, 0)) else (0, 0)
def endsB (l : List Rg) : Bool := rightB l && !l.isEmpty
def rhasB (l : List Rg) (v : Int) : Bool := l.any (fun r => decide (r.1 ≤ v) && decide (v ≤ r.2)) && rightB l
def Mem (l : List Rg) (v : Int) : Prop := ∃ r ∈ l, r.1 ≤ v ∧ v ≤ r.2
theorem mem_nil (v : Int) : ¬ Mem [] v := by rintro ⟨r, h, _⟩; simp at h
theorem mem_cons (r : Rg) (l : List Rg) (v : Int) : Mem (r :: l) v ↔ (r.1 ≤ v ∧ v ≤ r.2) ∨ Mem l v := by
  unfold Mem; simp
/-! ### Right -/
/-! ### cuts -/
def Within (m l : List Rg) : Prop := ∀ s ∈ m, s.1 ≤ s.2 ∧ ∃ r ∈ l, r.1 ≤ s.1 ∧ s.2 ≤ r.2
theorem Within.nil (l : List Rg) : Within [] l := fun s h => by simp at h
theorem Within.more {m l : List Rg} {r : Rg} (h : Within m l) : Within m (r :: l) := fun s hs => by
  obtain ⟨h1, t, ht, h2⟩ := h s hs
  exact ⟨h1, t, by simp [ht], h2⟩
theorem Within.cons {m l : List Rg} {r s : Rg} (h : Within m l) (h0 : s.1 ≤ s.2) (h1 : r.1 ≤ s.1) (h2 : s.2 ≤ r.2) : Within (s :: m) (r :: l) := fun t ht => by
  simp only [List.mem_cons] at ht
  rcases ht with rfl | ht
  · exact ⟨h0, r, by simp, h1, h2⟩
  · exact h.more t ht
theorem Within.drop {m l : List Rg} {n : Nat} (h : Within m (l.drop n)) : Within m l := fun s hs => by
  obtain ⟨h1, r, hr, h2⟩ := h s hs
  exact ⟨h1, r, List.mem_of_mem_drop hr, h2⟩
/-! ### Has, Next -/
theorem rhas_iff {l : List Rg} {v : Int} : rhasB l v = true ↔ rightB l = true ∧ Mem l v := by
  unfold rhasB Mem
  simp [and_comm]
/-! ### Without -/
/-! ### Meet -/
theorem listall_no {α : Type} {l : List α} {p : α → Bool} {k : Nat} {x : α} (hx : l[k]? = some x) (h : p x = false) : l.all p = false := by
  rw [List.all_eq_false]
  exact ⟨x, List.mem_of_getElem? hx, by simp [h]⟩
theorem listall_yes {α : Type} {l : List α} {p : α → Bool} (h : ∀ (j : Nat) x, j < l.length → l[j]? = some x → p x = true) : l.all p = true := by
  rw [List.all_eq_true]
  intro x hx
  obtain ⟨j, hj, rfl⟩ := List.getElem_of_mem hx
  exact h j _ hj (List.getElem?_eq_getElem hj)
def eqAt {α : Type} [DecidableEq α] (a b : List α) (k : Nat) : Bool := decide (a[k]? = b[k]?)
theorem eq_yes {α : Type} [DecidableEq α] {a b : List α} (hl : a.length = b.length) (h : ∀ j, j < a.length → eqAt a b j = true) : decide (a = b) = true := by
  rw [decide_eq_true_eq]
  apply List.ext_getElem?
  intro i
  by_cases hi : i < a.length
  · have := h i hi
    simpa [eqAt] using this
  · rw [List.getElem?_eq_none (by omega), List.getElem?_eq_none (by omega)]
theorem eq_no {α : Type} [DecidableEq α] {a b : List α} {k : Nat} (h : eqAt a b k = false) : decide (a = b) = false := by
  rw [decide_eq_false_iff_not]
  rintro rfl
  simp [eqAt] at h
end Go.Proofs.Ytbhigfllanblpaa
