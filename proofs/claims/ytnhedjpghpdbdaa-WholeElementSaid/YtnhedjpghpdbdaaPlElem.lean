/- Plain laws: choices of an element. -/
import Derived.Test.YtnhedjpghpdbdaaPlMod
import Derived.Test.YtnhedjpghpdbdaaPlMrg
import Derived.Test.YtnhedjpghpdbdaaWSortF
namespace Go.Proofs.Ytnhedjpghpdbdaa
open Av
attribute [local irreducible] awp awpOpers
set_option linter.unusedSimpArgs false
set_option linter.unusedVariables false
abbrev Ch := Int × List Rg
def eCh (c : Ch) : AV := .agg [.int .i64 c.1, .list 2 (c.2.map eRg)]
/-- is a choice one that the index names, with a value of the result's? -/
def keepC (ri rr : List Rg) (c : Ch) : Bool := hasB ri c.1 && !decide ((meetS c.2 rr).length = 0)
/-- the choices kept of the first j -/
def kept (p : Ch → Bool) (L : List Ch) (j : Nat) : List Ch := (L.take j).filter p
/-- what the row holds then -/
def contC (p : Ch → Bool) (L : List Ch) (j : Nat) : List Ch := kept p L j ++ L.drop (kept p L j).length
theorem kept_le (p : Ch → Bool) (L : List Ch) (j : Nat) (h : j ≤ L.length) : (kept p L j).length ≤ j := by
  unfold kept
  have := List.length_filter_le p (L.take j)
  rw [List.length_take] at this
  omega
theorem cont_len (p : Ch → Bool) (L : List Ch) (j : Nat) (h : j ≤ L.length) : (contC p L j).length = L.length := by
  have := kept_le p L j h
  unfold contC
  rw [List.length_append, List.length_drop]; omega
theorem cont_at {p : Ch → Bool} {L : List Ch} {j : Nat} {c : Ch} (h : L[j]? = some c) : (contC p L j)[j]? = some c := by
  have hj := (List.getElem?_eq_some_iff.1 h).1
  have := kept_le p L j (by omega)
  unfold contC
  rw [List.getElem?_append_right (by omega), List.getElem?_drop, show (kept p L j).length + (j - (kept p L j).length) = j by omega]
  exact h
theorem kept_yes {p : Ch → Bool} {L : List Ch} {j : Nat} {c : Ch} (h : L[j]? = some c) (hp : p c = true) : kept p L (j + 1) = kept p L j ++ [c] := by
  unfold kept
  rw [List.take_add_one, h, List.filter_append]
  simp [hp]
theorem kept_no {p : Ch → Bool} {L : List Ch} {j : Nat} {c : Ch} (h : L[j]? = some c) (hp : p c = false) : kept p L (j + 1) = kept p L j := by
  unfold kept
  rw [List.take_add_one, h, List.filter_append]
  simp [hp]
theorem cont_set {p : Ch → Bool} {L : List Ch} {j : Nat} {c : Ch} (h : L[j]? = some c) (hp : p c = true) : (contC p L j).set (kept p L j).length c = contC p L (j + 1) := by
  have hj := (List.getElem?_eq_some_iff.1 h).1
  have hl := kept_le p L j (by omega)
  unfold contC
  rw [kept_yes h hp]
  obtain ⟨y, hy⟩ : ∃ y, L[(kept p L j).length]? = some y := ⟨_, List.getElem?_eq_getElem (by omega)⟩
  rw [drop_at hy, List.set_append_right _ _ (Nat.le_refl _), Nat.sub_self, List.set_cons_zero, List.length_append, List.length_cons, List.length_nil, List.append_assoc]
  rfl
theorem cont_no {p : Ch → Bool} {L : List Ch} {j : Nat} {c : Ch} (h : L[j]? = some c) (hp : p c = false) : contC p L (j + 1) = contC p L j := by
  unfold contC
  rw [kept_no h hp]
theorem kept_full (p : Ch → Bool) (L : List Ch) : kept p L L.length = L.filter p := by unfold kept; rw [List.take_length]
theorem cont_take (p : Ch → Bool) (L : List Ch) (j : Nat) : (contC p L j).take (kept p L j).length = kept p L j := by
  unfold contC
  rw [List.take_append_of_le_length (Nat.le_refl _), List.take_length]
theorem kept_all {p : Ch → Bool} {L : List Ch} {j : Nat} (hj : j ≤ L.length) (h : ∀ (i : Nat) c, i < j → L[i]? = some c → p c = true) : kept p L j = L.take j := by
  unfold kept
  rw [List.filter_eq_self]
  intro c hc
  obtain ⟨i, hi⟩ := List.getElem?_of_mem hc
  have hil := (List.getElem?_eq_some_iff.1 hi).1
  rw [List.length_take] at hil
  rw [List.getElem?_take, if_pos (by omega)] at hi
  exact h i c (by omega) hi
theorem least_ofE {P : Nat → Prop} (h : ∃ k, P k) : ∃ k, P k ∧ ∀ j, j < k → ¬ P j := by
  obtain ⟨k, hk⟩ := h
  induction k using Nat.strongRecOn with
  | ind k ih =>
    by_cases h : ∃ j, j < k ∧ P j
    · obtain ⟨j, hj, hp⟩ := h
      exact ih j hj hp
    · exact ⟨k, hk, fun j hj hp => h ⟨j, hj, hp⟩⟩
theorem eCh_flat (L : List Ch) : flatL (L.map eCh) = true := by
  induction L with
  | nil => rfl
  | cons c L ih =>
    rw [List.map_cons]
    simp only [flatL, ih, Bool.and_true]
    rfl
end Go.Proofs.Ytnhedjpghpdbdaa
