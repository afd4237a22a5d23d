/- Plain laws of sums: no program in sight. -/
import Derived.Test.YtclpkkbamgmooaaPlOrd
namespace Go.Proofs.Ytclpkkbamgmooaa
open Av
set_option linter.unusedSimpArgs false
set_option linter.unusedVariables false
theorem ends_at {r : List Rg} (hr : rightB r = true) {x y p q : Int} (h0 : r[0]? = some (x, y)) (h1 : r[r.length - 1]? = some (p, q)) : endsV r = (x, q) := by
  have a1 : r.head? = some (x, y) := by rw [List.head?_eq_getElem?]; exact h0
  have a2 : r.getLast? = some (p, q) := by rw [List.getLast?_eq_getElem?]; exact h1
  simp [endsV, hr, a1, a2]
/-- the ends of a domain that has values -/
theorem ends_facts {r : List Rg} (h : domB r = true) : Mem r (endsV r).1 ∧ Mem r (endsV r).2 ∧ (∀ v, Mem r v → (endsV r).1 ≤ v ∧ v ≤ (endsV r).2) ∧ -1048576 ≤ (endsV r).1 ∧ (endsV r).1 ≤ (endsV r).2 ∧ (endsV r).2 ≤ 1048576 := by
  unfold domB at h
  rw [Bool.and_eq_true, decide_eq_true_eq] at h
  obtain ⟨hr, hl⟩ := h
  obtain ⟨⟨x, y⟩, hx⟩ : ∃ a, r[0]? = some a := ⟨_, List.getElem?_eq_getElem (by omega)⟩
  obtain ⟨⟨p, q⟩, hp⟩ : ∃ a, r[r.length - 1]? = some a := ⟨_, List.getElem?_eq_getElem (by omega)⟩
  obtain ⟨g1, g2, g3, g4, g5⟩ := right_rg hr hx
  obtain ⟨k1, k2, k3, k4, k5⟩ := right_rg hr hp
  rw [ends_at hr hx hp]
  simp only
  have m1 : Mem r x := ⟨(x, y), List.mem_of_getElem? hx, Int.le_refl _, g1⟩
  have m2 : Mem r q := ⟨(p, q), List.mem_of_getElem? hp, k1, Int.le_refl _⟩
  have hall : ∀ v, Mem r v → x ≤ v ∧ v ≤ q := by
    rintro v ⟨⟨s, t⟩, hs, h1, h2⟩
    obtain ⟨j, hj, hjs⟩ := List.getElem_of_mem hs
    have hj' : r[j]? = some (s, t) := by rw [List.getElem?_eq_getElem hj, hjs]
    simp only at h1 h2
    obtain ⟨u1, -⟩ := right_rg hr hj'
    constructor
    · by_cases j0 : j = 0
      · subst j0; rw [hx] at hj'; simp at hj'; omega
      · have := right_apart (d := j - 1) hr hx (by rw [show 0 + (j - 1) + 1 = j by omega]; exact hj')
        omega
    · by_cases jl : j = r.length - 1
      · subst jl; rw [hp] at hj'; simp at hj'; omega
      · have := right_apart (d := r.length - 1 - j - 1) hr hj' (by rw [show j + (r.length - 1 - j - 1) + 1 = r.length - 1 by omega]; exact hp)
        omega
  exact ⟨m1, m2, hall, g2, (hall x m1).2, k5⟩
theorem dom_right {r : List Rg} (h : domB r = true) : rightB r = true ∧ 0 < r.length := by
  unfold domB at h
  rw [Bool.and_eq_true, decide_eq_true_eq] at h
  exact ⟨h.1, by omega⟩
abbrev Tm := Int × Int
def tX (T : List Tm) (k : Nat) : Tm := (T[k]?).getD (0, 0)
theorem tX_get {T : List Tm} {k : Nat} (h : k < T.length) : T[k]? = some (tX T k) := by
  obtain ⟨x, hx⟩ : ∃ x, T[k]? = some x := ⟨_, List.getElem?_eq_getElem h⟩
  unfold tX
  rw [hx]; rfl
def eAt (D : List (List Rg)) (x : Int) : Rg := endsV (rowOf D x)
def termE (D : List (List Rg)) (t : Tm) : Int × Int := if t.1 < 0 then (t.1 * (eAt D t.2).2, t.1 * (eAt D t.2).1) else (t.1 * (eAt D t.2).1, t.1 * (eAt D t.2).2)
def spanK (D : List (List Rg)) (T : List Tm) : Nat → Int × Int
  | 0 => (0, 0)
  | n + 1 => ((spanK D T n).1 + (termE D (tX T n)).1, (spanK D T n).2 + (termE D (tX T n)).2)
def cutOf (D : List (List Rg)) (room : Int) (t : Tm) : Int × Int :=
  if 0 < t.1 then ((eAt D t.2).1, min (eAt D t.2).2 ((eAt D t.2).1 + room.tdiv t.1)) else if t.1 < 0 then (max (eAt D t.2).1 ((eAt D t.2).2 - room.tdiv (-t.1)), (eAt D t.2).2) else eAt D t.2
def mostK (D : List (List Rg)) (T : List Tm) (room : Int) : Nat → List (List Rg)
  | 0 => D
  | n + 1 => (mostK D T room n).set (tX T n).2.toNat (cutS (cutOf D room (tX T n)).1 (cutOf D room (tX T n)).2 (rowOf (mostK D T room n) (tX T n).2))
def wholeB (E : List (List Rg)) : Bool := !E.any fun d => decide (d.length = 0)
def mostS (D : List (List Rg)) (T : List Tm) (n : Int) : List (List Rg) × Bool :=
  if n - (spanK D T T.length).1 < 0 then (D, false) else (mostK D T (n - (spanK D T T.length).1) T.length, wholeB (mostK D T (n - (spanK D T T.length).1) T.length))
def opp (T : List Tm) : List Tm := T.map fun t => (-t.1, t.2)
def isS (D : List (List Rg)) (T : List Tm) (n : Int) : List (List Rg) × Bool := match mostS D T n with
  | (E, false) => (E, false)
  | (E, true) => mostS E (opp T) (-n)
def openK (D : List (List Rg)) (T : List Tm) : Nat → List Tm × Int
  | 0 => ([], 0)
  | n + 1 => if (tX T n).1 = 0 ∨ (eAt D (tX T n).2).1 = (eAt D (tX T n).2).2 then ((openK D T n).1, (openK D T n).2 + (tX T n).1 * (eAt D (tX T n).2).1) else ((openK D T n).1 ++ [tX T n], (openK D T n).2)
def notS (D : List (List Rg)) (T : List Tm) (n : Int) : List (List Rg) × Bool :=
  if 1 < (openK D T T.length).1.length then (D, true) else if (openK D T T.length).1.length = 0 then (D, decide (¬ n - (openK D T T.length).2 = 0)) else
    if ¬ (n - (openK D T T.length).2).tmod (tX (openK D T T.length).1 0).1 = 0 then (D, true) else
      (D.set (tX (openK D T T.length).1 0).2.toNat (withoutS ((n - (openK D T T.length).2).tdiv (tX (openK D T T.length).1 0).1) (rowOf D (tX (openK D T T.length).1 0).2)),
        wholeB (D.set (tX (openK D T T.length).1 0).2.toNat (withoutS ((n - (openK D T T.length).2).tdiv (tX (openK D T T.length).1 0).1) (rowOf D (tX (openK D T T.length).1 0).2))))
def tell (s : List (List Rg) × Bool) : List (List Rg) × Int := match s with
  | (_, false) => ([], 12)
  | (E, true) => (E, 0)
def termsOf (c : Con) : List Tm := List.zip c.2.2.1 c.2.1
def linearL (c : Con) (D : List (List Rg)) : List (List Rg) × Int :=
  if modB (D, [c], 0, 0) = true then
    (if c.1 = 1 then tell (isS D (termsOf c) c.2.2.2) else if c.1 = 2 then tell (mostS D (termsOf c) c.2.2.2) else if c.1 = 3 then tell (notS D (termsOf c) c.2.2.2) else ([], 10))
  else ([], 2)
def lendsL (c : Con) (D : List (List Rg)) : (Int × Int) × Bool :=
  if modB (D, [c], 0, 0) = true ∧ 1 ≤ c.1 ∧ c.1 ≤ 6 then (spanK D (termsOf c) (termsOf c).length, true) else ((0, 0), false)
/-! bounds -/
/-- terms of numbers and variables that are not too large -/
def TOk (T : List Tm) (D : List (List Rg)) : Prop := T.length ≤ 32 ∧ ∀ k, k < T.length → (-1048576 ≤ (tX T k).1 ∧ (tX T k).1 ≤ 1048576) ∧ 0 ≤ (tX T k).2 ∧ (tX T k).2 < D.length
def DOk (D : List (List Rg)) : Prop := ∀ x : Int, 0 ≤ x → x < D.length → domB (rowOf D x) = true
theorem mul_bound {a b : Int} (h1 : -1048576 ≤ a ∧ a ≤ 1048576) (h2 : -1048576 ≤ b ∧ b ≤ 1048576) : -1099511627776 ≤ a * b ∧ a * b ≤ 1099511627776 := by
  have : (a * b).natAbs ≤ 1048576 * 1048576 := by
    rw [Int.natAbs_mul]
    exact Nat.mul_le_mul (by omega) (by omega)
  omega
theorem eAt_facts {D : List (List Rg)} {x : Int} (h : DOk D) (hx : 0 ≤ x ∧ x < D.length) : (∀ v, Mem (rowOf D x) v → (eAt D x).1 ≤ v ∧ v ≤ (eAt D x).2) ∧ -1048576 ≤ (eAt D x).1 ∧ (eAt D x).1 ≤ (eAt D x).2 ∧ (eAt D x).2 ≤ 1048576 := by
  obtain ⟨_, _, h3, h4, h5, h6⟩ := ends_facts (h x hx.1 hx.2)
  exact ⟨h3, h4, h5, h6⟩
theorem term_bound {D : List (List Rg)} {T : List Tm} (hD : DOk D) (hT : TOk T D) {k : Nat} (hk : k < T.length) : (-1099511627776 ≤ (termE D (tX T k)).1 ∧ (termE D (tX T k)).1 ≤ 1099511627776) ∧ (-1099511627776 ≤ (termE D (tX T k)).2 ∧ (termE D (tX T k)).2 ≤ 1099511627776) := by
  obtain ⟨h1, h2⟩ := hT.2 k hk
  obtain ⟨_, h3, h4, h5⟩ := eAt_facts hD h2
  have m1 := mul_bound (a := (tX T k).1) (b := (eAt D (tX T k).2).1) h1 (by omega)
  have m2 := mul_bound (a := (tX T k).1) (b := (eAt D (tX T k).2).2) h1 (by omega)
  unfold termE
  split
  · exact ⟨m2, m1⟩
  · exact ⟨m1, m2⟩
theorem span_bound {D : List (List Rg)} {T : List Tm} (hD : DOk D) (hT : TOk T D) : ∀ {k : Nat}, k ≤ T.length → (-1099511627776 * k ≤ (spanK D T k).1 ∧ (spanK D T k).1 ≤ 1099511627776 * k) ∧ (-1099511627776 * k ≤ (spanK D T k).2 ∧ (spanK D T k).2 ≤ 1099511627776 * k)
  | 0, _ => by simp [spanK]
  | k + 1, h => by
    have h1 := span_bound hD hT (k := k) (by omega)
    have h2 := term_bound hD hT (k := k) (by omega)
    unfold spanK
    simp only
    omega
theorem min_term {a l h : Int} (hl : l ≤ h) : min (a * l) (a * h) = if a < 0 then a * h else a * l := by
  split
  · rename_i ha
    have : a * h ≤ a * l := Int.mul_le_mul_of_nonpos_left (by omega) hl
    omega
  · rename_i ha
    have : a * l ≤ a * h := Int.mul_le_mul_of_nonneg_left hl (by omega)
    omega
end Go.Proofs.Ytclpkkbamgmooaa
