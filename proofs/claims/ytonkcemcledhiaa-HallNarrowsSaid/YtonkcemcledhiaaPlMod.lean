/- Plain laws: domains within domains; sums; a model of one constraint; all values within domains; smaller domains and sums. -/
import Derived.Test.YtonkcemcledhiaaPlS
import Derived.Test.YtonkcemcledhiaaGMod
namespace Go.Proofs.Ytonkcemcledhiaa
open Av
set_option linter.unusedSimpArgs false
set_option linter.unusedVariables false
theorem row_get {D : List (List Rg)} {x : Int} (h : 0 ≤ x ∧ x < D.length) : D[x.toNat]? = some (rowOf D x) := by
  obtain ⟨r, hr⟩ : ∃ r, D[x.toNat]? = some r := ⟨_, List.getElem?_eq_getElem (by omega)⟩
  unfold rowOf
  rw [hr]; rfl
theorem row_mem {D : List (List Rg)} {x : Int} (h : 0 ≤ x ∧ x < D.length) : rowOf D x ∈ D := List.mem_of_getElem? (row_get h)
theorem take_snoc {α : Type} {T : List α} {k : Nat} {r : α} (h : T[k]? = some r) : T.take k ++ [r] = T.take (k + 1) := by
  rw [List.take_add_one, h]; rfl
/-- one set within another one -/
def Sub (r r' : List Rg) : Prop := rightB r = true ∧ rightB r' = true ∧ ∀ v, Mem r v → Mem r' v
def LeD (s d : List (List Rg)) : Prop := s.length = d.length ∧ ∀ x : Int, 0 ≤ x → x < d.length → Sub (rowOf s x) (rowOf d x)
theorem Sub.trans {a b c : List Rg} (h : Sub a b) (k : Sub b c) : Sub a c := ⟨h.1, k.2.1, fun v hv => k.2.2 v (h.2.2 v hv)⟩
theorem LeD.trans {a b c : List (List Rg)} (h : LeD a b) (k : LeD b c) : LeD a c := ⟨h.1.trans k.1, fun x h0 h1 => (h.2 x h0 (by rw [k.1]; exact h1)).trans (k.2 x h0 h1)⟩
theorem ends_at {r : List Rg} (hr : rightB r = true) {x y p q : Int} (h0 : r[0]? = some (x, y)) (h1 : r[r.length - 1]? = some (p, q)) : endsV r = (x, q) := by
  have a1 : r.head? = some (x, y) := by rw [List.head?_eq_getElem?]; exact h0
  have a2 : r.getLast? = some (p, q) := by rw [List.getLast?_eq_getElem?]; exact h1
  simp [endsV, hr, a1, a2]
theorem dom_right {r : List Rg} (h : domB r = true) : rightB r = true ∧ 0 < r.length := by
  unfold domB at h
  rw [Bool.and_eq_true, decide_eq_true_eq] at h
  exact ⟨h.1, by omega⟩
def wholeB (E : List (List Rg)) : Bool := !E.any fun d => decide (d.length = 0)
def tell (s : List (List Rg) × Bool) : List (List Rg) × Int := match s with
  | (_, false) => ([], 12)
  | (E, true) => (E, 0)
/-! bounds -/
def DOk (D : List (List Rg)) : Prop := ∀ x : Int, 0 ≤ x → x < D.length → domB (rowOf D x) = true
theorem row_set {D : List (List Rg)} {x y : Int} {r : List Rg} (hx : 0 ≤ x) (hxl : x < D.length) (hy : 0 ≤ y) : rowOf (D.set x.toNat r) y = if x = y then r else rowOf D y := by
  unfold rowOf
  by_cases h : x = y
  · subst h
    rw [if_pos rfl, List.getElem?_set_self (by omega)]
    rfl
  · rw [if_neg h, List.getElem?_set_ne (by omega)]
theorem cut_sub {r : List Rg} (h : rightB r = true) (lo hi : Int) : Sub (cutS lo hi r) r := ⟨(cutS_facts lo hi h).1, h, fun v hv => (((cutS_facts lo hi h).2 v).1 hv).1⟩
theorem le_refl_of {D : List (List Rg)} (h : DOk D) : LeD D D := ⟨rfl, fun x h0 h1 => ⟨(dom_right (h x h0 h1)).1, (dom_right (h x h0 h1)).1, fun v hv => hv⟩⟩
theorem le_setrow {E D : List (List Rg)} {x : Int} {r : List Rg} (hle : LeD E D) (hx : 0 ≤ x ∧ x < D.length) (hs : Sub r (rowOf D x)) : LeD (E.set x.toNat r) D := by
  refine ⟨by rw [List.length_set]; exact hle.1, fun y h0 h1 => ?_⟩
  rw [row_set hx.1 (by rw [hle.1]; exact hx.2) h0]
  split
  · rename_i h; subst h; exact hs
  · exact hle.2 y h0 h1
def xat (X : List Int) (i : Nat) : Int := (X[i]?).getD 0
theorem xat_eq {X : List Int} {i : Nat} {x : Int} (h : X[i]? = some x) : xat X i = x := by unfold xat; rw [h]; rfl
def InD (D : List (List Rg)) (X : List Int) : Prop := ∀ i, i < X.length → 0 ≤ xat X i ∧ xat X i < D.length
theorem one_facts {c : Con} {D : List (List Rg)} (h : modB (D, [c], 0, 0) = true) : D.length ≤ 64 ∧ (∀ d ∈ D, domB d = true) ∧ mayB D c = true := by
  simp only [modB, Bool.and_eq_true, decide_eq_true_eq, List.all_eq_true] at h
  exact ⟨h.1.1.1.1, h.1.1.2, h.1.2 c (by simp)⟩
theorem dom_len {d : List Rg} (h : domB d = true) : d.length ≤ 1048577 := by
  unfold domB at h
  rw [Bool.and_eq_true] at h
  exact right_length h.1
theorem may_facts {c : Con} {D : List (List Rg)} (h : mayB D c = true) : formedB c = true ∧ c.2.1.length ≤ 32 ∧ InD D c.2.1 ∧ xsOk D c.2.1 (shp c.1).2.2.2.2 = true ∧ ∀ a ∈ c.2.2.1, withinB a = true := by
  simp only [mayB, Bool.and_eq_true, decide_eq_true_eq, List.all_eq_true] at h
  obtain ⟨⟨⟨⟨⟨h1, h2⟩, h3⟩, h4⟩, h5⟩, h6⟩ := h
  refine ⟨h1, h2, fun i hi => ?_, h5, h6⟩
  have := List.all_eq_true.1 h5 i (by simpa using hi)
  unfold xOk at this
  obtain ⟨x, hx⟩ : ∃ x, c.2.1[i]? = some x := ⟨_, List.getElem?_eq_getElem hi⟩
  rw [hx] at this
  simp only [Bool.and_eq_true, decide_eq_true_eq] at this
  rw [xat_eq hx]
  exact ⟨this.1.1, this.1.2⟩
theorem xat_get {X : List Int} {i : Nat} (h : i < X.length) : X[i]? = some (xat X i) := by
  obtain ⟨x, hx⟩ : ∃ x, X[i]? = some x := ⟨_, List.getElem?_eq_getElem h⟩
  rw [hx, xat_eq hx]
/-! the next value of a set -/
/-! the values of a set -/
/-! a list whose elements follow each other -/
def Walk {α : Type} (f : α → Option α) : Option α → List α → Prop
  | none, [] => True
  | some a, b :: l => a = b ∧ Walk f (f a) l
  | none, _ :: _ => False
  | some _, [] => False
/-! all values within domains -/
end Go.Proofs.Ytonkcemcledhiaa
