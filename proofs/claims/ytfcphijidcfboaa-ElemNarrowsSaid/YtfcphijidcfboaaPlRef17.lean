/- What the reference's functions for unlike values compute, in plain words. -/
import Derived.Test.YtfcphijidcfboaaPlHall
namespace Go.Proofs.Ytfcphijidcfboaa
open Av
attribute [local irreducible] awp awpOpers
set_option linter.unusedSimpArgs false
set_option linter.unusedVariables false
/-- the least lower end among the first ones -/
def minGo (l : List Rg) : Nat → Int
  | 0 => (rgAt l 0).1
  | k + 1 => min (minGo l k) (rgAt l k).1
/-- the range that ends soonest of those, among the first ones, that begin by v -/
def bestGo (l : List Rg) (v : Int) : Nat → Int
  | 0 => -1
  | k + 1 => if (rgAt l k).1 ≤ v ∧ (bestGo l v k < 0 ∨ (rgAt l k).2 < (rgAt l (bestGo l v k).toNat).2) then k else bestGo l v k
theorem bestGo_lt (l : List Rg) (v : Int) : ∀ k, -1 ≤ bestGo l v k ∧ bestGo l v k < (k : Int)
  | 0 => by unfold bestGo; omega
  | k + 1 => by
    have := bestGo_lt l v k
    unfold bestGo
    split <;> omega
theorem bestGo_some (l : List Rg) (v : Int) : ∀ k, (∃ j, j < k ∧ (rgAt l j).1 ≤ v) → 0 ≤ bestGo l v k
  | 0, ⟨j, h, _⟩ => by omega
  | k + 1, ⟨j, h1, h2⟩ => by
    unfold bestGo
    split
    · omega
    · rename_i hn
      by_cases hj : j < k
      · exact bestGo_some l v k ⟨j, hj, h2⟩
      · have : j = k := by omega
        subst this
        omega
theorem minGo_at (l : List Rg) : ∀ k, ∃ j, (j < k ∨ j = 0) ∧ (rgAt l j).1 = minGo l k
  | 0 => ⟨0, .inr rfl, rfl⟩
  | k + 1 => by
    obtain ⟨j, h1, h2⟩ := minGo_at l k
    unfold minGo
    by_cases h : (rgAt l k).1 < minGo l k
    · exact ⟨k, .inl (by omega), by omega⟩
    · exact ⟨j, by omega, by omega⟩
theorem minGo_le (l : List Rg) : ∀ k j, j < k → minGo l k ≤ (rgAt l j).1
  | k + 1, j, h => by
    unfold minGo
    by_cases hj : j < k
    · have := minGo_le l k j hj; omega
    · have : j = k := by omega
      subst this; omega
def fromV (l : List Rg) (v : Int) : Int := max v (minGo l l.length)
def bestV (l : List Rg) (v : Int) : Nat := (bestGo l (fromV l v) l.length).toNat
def givenGo : Nat → List Rg → Int → Bool
  | 0, _, _ => true
  | n + 1, l, v => if l.length = 0 then true else if (rgAt l (bestV l v)).2 < fromV l v then false else givenGo n (l.eraseIdx (bestV l v)) (fromV l v + 1)
def givenB (l : List Rg) (v : Int) : Bool := givenGo l.length l v
def inW (r : Rg) : Bool := withinB r.1 && withinB r.2
def rroomB (l : List Rg) : Bool := decide (l.length ≤ 32) && l.all inW && givenB l (-2097152)
/-- the least, and the greatest value of a place for which there is room -/
def upR (l : List Rg) (k : Nat) (hi : Int) : Nat → Int → Int
  | 0, lo => lo
  | n + 1, lo => if lo < hi ∧ rroomB (l.set k (lo, lo)) = false then upR l k hi n (lo + 1) else lo
def dnR (l : List Rg) (k : Nat) (lo : Int) : Nat → Int → Int
  | 0, hi => hi
  | n + 1, hi => if lo < hi ∧ rroomB (l.set k (hi, hi)) = false then dnR l k lo n (hi - 1) else hi
def rendsV (l : List Rg) (k : Nat) : Rg :=
  let lo := upR l k (rgAt l k).2 ((rgAt l k).2 - (rgAt l k).1).toNat (rgAt l k).1
  (lo, dnR l k lo ((rgAt l k).2 - lo).toNat (rgAt l k).2)
def rhallN (l : List Rg) (D : List (List Rg)) (X : List Int) : Nat → List (List Rg)
  | 0 => D
  | k + 1 => (rhallN l D X k).set (xat X k).toNat (rcutS (rendsV l k).1 (rendsV l k).2 (rowOf (rhallN l D X k) (xat X k)))
def rhallL (c : Con) (D : List (List Rg)) : List (List Rg) × Int :=
  if modB (D, [c], 0, 0) = true then
    (if c.1 = 18 then (if rroomB (endRows D c.2.1) = true then tell (rhallN (endRows D c.2.1) D c.2.1 c.2.1.length, wholeB (rhallN (endRows D c.2.1) D c.2.1 c.2.1.length)) else ([], 12)) else ([], 10))
  else ([], 2)
theorem erase_skip {l : List Rg} {i k : Nat} {r : Rg} (h : l[i]? = some r) (hk : i = k) : (l.take (i + 1)).eraseIdx k = (l.take i).eraseIdx k := by
  subst hk
  rw [← take_snoc h]
  have hl : (l.take i).length = i := by rw [List.length_take]; have := (List.getElem?_eq_some_iff.1 h).1; omega
  rw [List.eraseIdx_append_of_length_le (by omega), hl, Nat.sub_self, List.eraseIdx_of_length_le (l := l.take i) (by omega)]
  simp
theorem erase_keep {l : List Rg} {i k : Nat} {r : Rg} (h : l[i]? = some r) (hk : ¬ i = k) : (l.take (i + 1)).eraseIdx k = (l.take i).eraseIdx k ++ [r] := by
  rw [← take_snoc h]
  have hl : (l.take i).length = i := by rw [List.length_take]; have := (List.getElem?_eq_some_iff.1 h).1; omega
  by_cases h2 : k < i
  · rw [List.eraseIdx_append_of_lt_length (by omega)]
  · have h3 : ([r] : List Rg).length ≤ k - i := by simp; omega
    rw [List.eraseIdx_append_of_length_le (by omega), List.eraseIdx_of_length_le (l := l.take i) (by omega), hl, List.eraseIdx_of_length_le h3]
theorem erase_len_le (l : List Rg) (k : Nat) : (l.eraseIdx k).length ≤ l.length := by rw [List.length_eraseIdx]; split <;> omega
end Go.Proofs.Ytfcphijidcfboaa
