/- Plain laws: domains within domains; sums; a model of one constraint; all values within domains; smaller domains and sums. -/
import Derived.Test.YtonkcemcledhiaaPlS
import Derived.Test.YtonkcemcledhiaaGMod
namespace Go.Proofs.Ytonkcemcledhiaa
open Av
set_option linter.unusedSimpArgs false
set_option linter.unusedVariables false
theorem row_get {D : List (List Rg)} {x : Int} (h : 0 ≤ x ∧ x < D.length) : D[x.toNat]? = some (rowOf D x) := by
  obtain ⟨r, hr⟩ : ∃ r, D[x.toNat]? = some r := ⟨_, List.getElem?_eq_getElem (by omega)⟩
  unfold rowOf
  rw [hr]; rfl
theorem row_mem {D : List (List Rg)} {x : Int} (h : 0 ≤ x ∧ x < D.length) : rowOf D x ∈ D := List.mem_of_getElem? (row_get h)
theorem take_snoc {α : Type} {T : List α} {k : Nat} {r : α} (h : T[k]? = some r) : T.take k ++ [r] = T.take (k + 1) := by
  rw [List.take_add_one, h]; rfl
/-- one set within another one -/
def Sub (r r' : List Rg) : Prop := rightB r = true ∧ rightB r' = true ∧ ∀ v, Mem r v → Mem r' v
def LeD (s d : List (List Rg)) : Prop := s.length = d.length ∧ ∀ x : Int, 0 ≤ x → x < d.length → Sub (rowOf s x) (rowOf d x)
theorem Sub.trans {a b c : List Rg} (h : Sub a b) (k : Sub b c) : Sub a c := ⟨h.1, k.2.1, fun v hv => k.2.2 v (h.2.2 v hv)⟩
theorem LeD.trans {a b c : List (List Rg)} (h : LeD a b) (k : LeD b c) : LeD a c := ⟨h.1.trans k.1, fun x h0 h1 => (h.2 x h0 (by rw [k.1]; exact h1)).trans (k.2 x h0 h1)⟩
def wholeB (E : List (List Rg)) : Bool := !E.any fun d => decide (d.length = 0)
def tell (s : List (List Rg) × Bool) : List (List Rg) × Int := match s with
  | (_, false) => ([], 12)
  | (E, true) => (E, 0)
/-! bounds -/
def xat (X : List Int) (i : Nat) : Int := (X[i]?).getD 0
theorem xat_eq {X : List Int} {i : Nat} {x : Int} (h : X[i]? = some x) : xat X i = x := by unfold xat; rw [h]; rfl
def InD (D : List (List Rg)) (X : List Int) : Prop := ∀ i, i < X.length → 0 ≤ xat X i ∧ xat X i < D.length
theorem one_facts {c : Con} {D : List (List Rg)} (h : modB (D, [c], 0, 0) = true) : D.length ≤ 64 ∧ (∀ d ∈ D, domB d = true) ∧ mayB D c = true := by
  simp only [modB, Bool.and_eq_true, decide_eq_true_eq, List.all_eq_true] at h
  exact ⟨h.1.1.1.1, h.1.1.2, h.1.2 c (by simp)⟩
theorem may_facts {c : Con} {D : List (List Rg)} (h : mayB D c = true) : formedB c = true ∧ c.2.1.length ≤ 32 ∧ InD D c.2.1 ∧ xsOk D c.2.1 (shp c.1).2.2.2.2 = true ∧ ∀ a ∈ c.2.2.1, withinB a = true := by
  simp only [mayB, Bool.and_eq_true, decide_eq_true_eq, List.all_eq_true] at h
  obtain ⟨⟨⟨⟨⟨h1, h2⟩, h3⟩, h4⟩, h5⟩, h6⟩ := h
  refine ⟨h1, h2, fun i hi => ?_, h5, h6⟩
  have := List.all_eq_true.1 h5 i (by simpa using hi)
  unfold xOk at this
  obtain ⟨x, hx⟩ : ∃ x, c.2.1[i]? = some x := ⟨_, List.getElem?_eq_getElem hi⟩
  rw [hx] at this
  simp only [Bool.and_eq_true, decide_eq_true_eq] at this
  rw [xat_eq hx]
  exact ⟨this.1.1, this.1.2⟩
theorem xat_get {X : List Int} {i : Nat} (h : i < X.length) : X[i]? = some (xat X i) := by
  obtain ⟨x, hx⟩ : ∃ x, X[i]? = some x := ⟨_, List.getElem?_eq_getElem h⟩
  rw [hx, xat_eq hx]
/-! the next value of a set -/
/-! the values of a set -/
/-! a list whose elements follow each other -/
def Walk {α : Type} (f : α → Option α) : Option α → List α → Prop
  | none, [] => True
  | some a, b :: l => a = b ∧ Walk f (f a) l
  | none, _ :: _ => False
  | some _, [] => False
/-! all values within domains -/
end Go.Proofs.Ytonkcemcledhiaa
