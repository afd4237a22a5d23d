/- Plain laws of sets of ranges: no program in sight. -/
import Derived.Test.YtonkcemcledhiaaAv2
namespace Go.Proofs.Ytonkcemcledhiaa
open Av
set_option linter.unusedSimpArgs false
set_option linter.unusedVariables false
def withinB (n : Int) : Bool := decide (-1048576 ≤ n) && decide (n ≤ 1048576)
theorem withinB_iff (n : Int) : withinB n = true ↔ -1048576 ≤ n ∧ n ≤ 1048576 := by simp [withinB]
def okAt (l : List Rg) (k : Nat) : Bool :=
  match l[k]? with
  | none => true
  | some r => !decide (r.2 < r.1) && withinB r.1 && withinB r.2 && (k == 0 || (match l[k - 1]? with | none => true | some p => !decide (r.1 - p.2 < 2)))
def rightB (l : List Rg) : Bool := (List.range l.length).all (okAt l)
theorem rightB_no {l : List Rg} {k : Nat} (hk : k < l.length) (h : okAt l k = false) : rightB l = false := by
  unfold rightB
  rw [List.all_eq_false]
  exact ⟨k, by simpa using hk, by simp [h]⟩
theorem rightB_yes {l : List Rg} (h : ∀ k, k < l.length → okAt l k = true) : rightB l = true := by
  unfold rightB
  rw [List.all_eq_true]
  intro k hk
  exact h k (by simpa using hk)
theorem at_rg {l : List Rg} {k : Nat} (h : k < l.length) : ∃ x y, l[k]? = some (x, y) := ⟨_, _, List.getElem?_eq_getElem h⟩
/-! ### lists of ranges -/
theorem drop_at {α : Type} {l : List α} {k : Nat} {x : α} (h : l[k]? = some x) : l.drop k = x :: l.drop (k + 1) := by
  obtain ⟨h1, h2⟩ := List.getElem?_eq_some_iff.1 h
  rw [List.drop_eq_getElem_cons h1, h2]
def fromN (v : Int) : List Rg → Nat
  | [] => 0
  | r :: l => if r.2 < v then fromN v l + 1 else 0
theorem fromN_le (v : Int) : ∀ l : List Rg, fromN v l ≤ l.length
  | [] => Nat.le_refl _
  | r :: l => by
    unfold fromN
    split
    · have := fromN_le v l; simp; omega
    · simp
theorem fromN_eq {v : Int} : ∀ {l : List Rg} {i : Nat}, i ≤ l.length → (∀ j x y, j < i → l[j]? = some (x, y) → y < v) → (∀ x y, l[i]? = some (x, y) → v ≤ y) → fromN v l = i
  | [], i, h, _, _ => by simp at h; simp [fromN, h]
  | r :: l, 0, _, _, h2 => by
    unfold fromN
    have := h2 r.1 r.2 (by simp)
    rw [if_neg (by omega)]
  | r :: l, i + 1, h, h1, h2 => by
    unfold fromN
    have h3 := h1 0 r.1 r.2 (by omega) (by simp)
    rw [if_pos h3, fromN_eq (i := i) (by simpa using h) (fun j x y hj hl => h1 (j + 1) x y (by omega) (by simpa using hl)) (fun x y hl => h2 x y (by simpa using hl))]
def Rises (l : List Rg) : Prop := ∀ (i j : Nat) (x y x' y' : Int), i ≤ j → l[i]? = some (x, y) → l[j]? = some (x', y') → y ≤ y'
theorem rightB_at {l : List Rg} (h : rightB l = true) {k : Nat} (hk : k < l.length) : okAt l k = true := by
  unfold rightB at h
  rw [List.all_eq_true] at h
  exact h k (List.mem_range.2 hk)
theorem right_rg {l : List Rg} (h : rightB l = true) {k : Nat} {x y : Int} (hk : l[k]? = some (x, y)) : x ≤ y ∧ -1048576 ≤ x ∧ x ≤ 1048576 ∧ -1048576 ≤ y ∧ y ≤ 1048576 := by
  have h1 := rightB_at h (List.getElem?_eq_some_iff.1 hk).1
  unfold okAt at h1
  rw [hk] at h1
  simp [withinB] at h1
  omega
theorem right_gap {l : List Rg} (h : rightB l = true) {k : Nat} {x y x' y' : Int} (hk : l[k]? = some (x, y)) (hk' : l[k + 1]? = some (x', y')) : y + 2 ≤ x' := by
  have h1 := rightB_at h (List.getElem?_eq_some_iff.1 hk').1
  unfold okAt at h1
  rw [hk', show k + 1 - 1 = k by omega, hk] at h1
  simp [withinB] at h1
  omega
theorem right_apart {l : List Rg} (h : rightB l = true) : ∀ {d k : Nat} {x y x' y' : Int}, l[k]? = some (x, y) → l[k + d + 1]? = some (x', y') → y + 2 ≤ x'
  | 0, k, x, y, x', y', h1, h2 => right_gap h h1 h2
  | d + 1, k, x, y, x', y', h1, h2 => by
    have hl := (List.getElem?_eq_some_iff.1 h2).1
    obtain ⟨p, q, h3⟩ := at_rg (l := l) (k := k + d + 1) (by omega)
    have h4 := right_apart h h1 h3
    have h5 := right_gap h h3 (by rw [show k + d + 1 + 1 = k + (d + 1) + 1 by omega]; exact h2)
    have h6 := right_rg h h3
    omega
theorem right_rises {l : List Rg} (h : rightB l = true) : Rises l := by
  intro i j x y x' y' hij h1 h2
  rcases Nat.lt_or_ge i j with h3 | h3
  · have h4 := right_apart (d := j - i - 1) h h1 (by rw [show i + (j - i - 1) + 1 = j by omega]; exact h2)
    have := right_rg h h2
    omega
  · have e : i = j := by omega
    subst e
    rw [h1] at h2
    simp at h2
    omega
/-! ### Next, Has -/
def endsV (l : List Rg) : Rg := if rightB l = true then (match l.head?, l.getLast? with | some a, some b => (a.1, b.2) | _, _ => (0, 0)) else (0, 0)
def endsB (l : List Rg) : Bool := rightB l && !l.isEmpty
def cutGo (lo hi : Int) : List Rg → List Rg
  | [] => []
  | r :: l => if hi < r.1 then [] else if max r.1 lo ≤ min r.2 hi then (max r.1 lo, min r.2 hi) :: cutGo lo hi l else cutGo lo hi l
def cutS (lo hi : Int) (l : List Rg) : List Rg := if rightB l = true then cutGo lo hi (l.drop (fromN lo l)) else []
theorem cutGo_length (lo hi : Int) : ∀ l : List Rg, (cutGo lo hi l).length ≤ l.length
  | [] => by simp [cutGo]
  | r :: l => by
    have := cutGo_length lo hi l
    unfold cutGo
    split
    · simp
    · split <;> simp <;> omega
theorem cutS_length (lo hi : Int) (l : List Rg) : (cutS lo hi l).length ≤ l.length := by
  unfold cutS
  split
  · have := cutGo_length lo hi (l.drop (fromN lo l))
    rw [List.length_drop] at this
    omega
  · simp
def Mem (l : List Rg) (v : Int) : Prop := ∃ r ∈ l, r.1 ≤ v ∧ v ≤ r.2
theorem mem_cons (r : Rg) (l : List Rg) (v : Int) : Mem (r :: l) v ↔ (r.1 ≤ v ∧ v ≤ r.2) ∨ Mem l v := by
  unfold Mem; simp
theorem mem_append (l m : List Rg) (v : Int) : Mem (l ++ m) v ↔ Mem l v ∨ Mem m v := by
  unfold Mem
  simp only [List.mem_append]
  constructor
  · rintro ⟨r, h | h, h2⟩
    · exact .inl ⟨r, h, h2⟩
    · exact .inr ⟨r, h, h2⟩
  · rintro (⟨r, h, h2⟩ | ⟨r, h, h2⟩)
    · exact ⟨r, .inl h, h2⟩
    · exact ⟨r, .inr h, h2⟩
/-! ### Right -/
/-! ### cuts -/
def Within (m l : List Rg) : Prop := ∀ s ∈ m, s.1 ≤ s.2 ∧ ∃ r ∈ l, r.1 ≤ s.1 ∧ s.2 ≤ r.2
theorem Within.nil (l : List Rg) : Within [] l := fun s h => by simp at h
theorem Within.more {m l : List Rg} {r : Rg} (h : Within m l) : Within m (r :: l) := fun s hs => by
  obtain ⟨h1, t, ht, h2⟩ := h s hs
  exact ⟨h1, t, by simp [ht], h2⟩
theorem Within.cons {m l : List Rg} {r s : Rg} (h : Within m l) (h0 : s.1 ≤ s.2) (h1 : r.1 ≤ s.1) (h2 : s.2 ≤ r.2) : Within (s :: m) (r :: l) := fun t ht => by
  simp only [List.mem_cons] at ht
  rcases ht with rfl | ht
  · exact ⟨h0, r, by simp, h1, h2⟩
  · exact h.more t ht
theorem Within.drop {m l : List Rg} {n : Nat} (h : Within m (l.drop n)) : Within m l := fun s hs => by
  obtain ⟨h1, r, hr, h2⟩ := h s hs
  exact ⟨h1, r, List.mem_of_mem_drop hr, h2⟩
/-! ### Has, Next -/
/-! ### Without -/
theorem Within.append {m n l : List Rg} (h1 : Within m l) (h2 : Within n l) : Within (m ++ n) l := fun s hs => by
  rw [List.mem_append] at hs
  rcases hs with hs | hs
  · exact h1 s hs
  · exact h2 s hs
/-! ### Meet -/
theorem listall_no {α : Type} {l : List α} {p : α → Bool} {k : Nat} {x : α} (hx : l[k]? = some x) (h : p x = false) : l.all p = false := by
  rw [List.all_eq_false]
  exact ⟨x, List.mem_of_getElem? hx, by simp [h]⟩
theorem listall_yes {α : Type} {l : List α} {p : α → Bool} (h : ∀ (j : Nat) x, j < l.length → l[j]? = some x → p x = true) : l.all p = true := by
  rw [List.all_eq_true]
  intro x hx
  obtain ⟨j, hj, rfl⟩ := List.getElem_of_mem hx
  exact h j _ hj (List.getElem?_eq_getElem hj)
def eqAt {α : Type} [DecidableEq α] (a b : List α) (k : Nat) : Bool := decide (a[k]? = b[k]?)
theorem eq_yes {α : Type} [DecidableEq α] {a b : List α} (hl : a.length = b.length) (h : ∀ j, j < a.length → eqAt a b j = true) : decide (a = b) = true := by
  rw [decide_eq_true_eq]
  apply List.ext_getElem?
  intro i
  by_cases hi : i < a.length
  · have := h i hi
    simpa [eqAt] using this
  · rw [List.getElem?_eq_none (by omega), List.getElem?_eq_none (by omega)]
theorem eq_no {α : Type} [DecidableEq α] {a b : List α} {k : Nat} (h : eqAt a b k = false) : decide (a = b) = false := by
  rw [decide_eq_false_iff_not]
  rintro rfl
  simp [eqAt] at h
end Go.Proofs.Ytonkcemcledhiaa
