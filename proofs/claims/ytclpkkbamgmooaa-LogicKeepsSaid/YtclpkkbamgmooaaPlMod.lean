/- Plain laws of a model of one constraint. -/
import Derived.Test.YtclpkkbamgmooaaPlLinear2
namespace Go.Proofs.Ytclpkkbamgmooaa
open Av
set_option linter.unusedSimpArgs false
set_option linter.unusedVariables false
def xat (X : List Int) (i : Nat) : Int := (X[i]?).getD 0
theorem xat_eq {X : List Int} {i : Nat} {x : Int} (h : X[i]? = some x) : xat X i = x := by unfold xat; rw [h]; rfl
def InD (D : List (List Rg)) (X : List Int) : Prop := ∀ i, i < X.length → 0 ≤ xat X i ∧ xat X i < D.length
theorem one_facts {c : Con} {D : List (List Rg)} (h : modB (D, [c], 0, 0) = true) : D.length ≤ 64 ∧ (∀ d ∈ D, domB d = true) ∧ mayB D c = true := by
  simp only [modB, Bool.and_eq_true, decide_eq_true_eq, List.all_eq_true] at h
  exact ⟨h.1.1.1.1, h.1.1.2, h.1.2 c (by simp)⟩
theorem dom_len {d : List Rg} (h : domB d = true) : d.length ≤ 1048577 := by
  unfold domB at h
  rw [Bool.and_eq_true] at h
  exact right_length h.1
theorem may_facts {c : Con} {D : List (List Rg)} (h : mayB D c = true) : formedB c = true ∧ c.2.1.length ≤ 32 ∧ InD D c.2.1 ∧ xsOk D c.2.1 (shp c.1).2.2.2.2 = true ∧ ∀ a ∈ c.2.2.1, withinB a = true := by
  simp only [mayB, Bool.and_eq_true, decide_eq_true_eq, List.all_eq_true] at h
  obtain ⟨⟨⟨⟨⟨h1, h2⟩, h3⟩, h4⟩, h5⟩, h6⟩ := h
  refine ⟨h1, h2, fun i hi => ?_, h5, h6⟩
  have := List.all_eq_true.1 h5 i (by simpa using hi)
  unfold xOk at this
  obtain ⟨x, hx⟩ : ∃ x, c.2.1[i]? = some x := ⟨_, List.getElem?_eq_getElem hi⟩
  rw [hx] at this
  simp only [Bool.and_eq_true, decide_eq_true_eq] at this
  rw [xat_eq hx]
  exact ⟨this.1.1, this.1.2⟩
theorem xat_get {X : List Int} {i : Nat} (h : i < X.length) : X[i]? = some (xat X i) := by
  obtain ⟨x, hx⟩ : ∃ x, X[i]? = some x := ⟨_, List.getElem?_eq_getElem h⟩
  rw [hx, xat_eq hx]
theorem truth_sub {r t : List Rg} (hs : Sub r t) (hr : domB r = true) (hd : domB t = true) (ht : truthB t = true) : truthB r = true := by
  have h01 : ∀ v, Mem r v → 0 ≤ v ∧ v ≤ 1 := fun v hv => by
    obtain ⟨-, -, h3, -⟩ := ends_facts hd
    have := h3 v (hs.2.2 v hv)
    have hd' := dom_right hd
    obtain ⟨⟨x, y⟩, hx⟩ : ∃ a, t[0]? = some a := ⟨_, List.getElem?_eq_getElem (by omega)⟩
    obtain ⟨⟨p, q⟩, hp⟩ : ∃ a, t[t.length - 1]? = some a := ⟨_, List.getElem?_eq_getElem (by omega)⟩
    rw [ends_at hd'.1 hx hp] at this
    unfold truthB at ht
    rw [hx, hp] at ht
    simp only [Bool.and_eq_true, decide_eq_true_eq] at ht
    simp only at this
    omega
  unfold domB at hr
  rw [Bool.and_eq_true, decide_eq_true_eq] at hr
  obtain ⟨⟨x, y⟩, hx⟩ : ∃ a, r[0]? = some a := ⟨_, List.getElem?_eq_getElem (by omega)⟩
  obtain ⟨⟨p, q⟩, hp⟩ : ∃ a, r[r.length - 1]? = some a := ⟨_, List.getElem?_eq_getElem (by omega)⟩
  obtain ⟨g1, -⟩ := right_rg hr.1 hx
  obtain ⟨g2, -⟩ := right_rg hr.1 hp
  have m1 := h01 x ⟨(x, y), List.mem_of_getElem? hx, Int.le_refl _, g1⟩
  have m2 := h01 q ⟨(p, q), List.mem_of_getElem? hp, g2, Int.le_refl _⟩
  unfold truthB
  rw [hx, hp]
  simp only [Bool.and_eq_true, decide_eq_true_eq]
  omega
theorem may_sub {c : Con} {S D : List (List Rg)} (hle : LeD S D) (hS : ∀ r ∈ S, domB r = true) (hD : ∀ r ∈ D, domB r = true) (h : mayB D c = true) : mayB S c = true := by
  obtain ⟨-, -, hI, -⟩ := may_facts h
  simp only [mayB, Bool.and_eq_true] at h ⊢
  obtain ⟨⟨h1, h2⟩, h3⟩ := h
  refine ⟨⟨h1, ?_⟩, h3⟩
  unfold xsOk at h2 ⊢
  rw [List.all_eq_true] at h2 ⊢
  intro i hi
  have h4 := h2 i hi
  have hi' : i < c.2.1.length := by simpa using hi
  unfold xOk at h4 ⊢
  rw [xat_get hi'] at h4 ⊢
  simp only [Bool.and_eq_true, decide_eq_true_eq] at h4 ⊢
  obtain ⟨⟨a1, a2⟩, a3⟩ := h4
  refine ⟨⟨a1, by have := hle.1; omega⟩, ?_⟩
  split
  · rename_i hc
    rw [if_pos hc] at a3
    exact truth_sub (hle.2 _ a1 a2) (hS _ (row_mem ⟨a1, by have := hle.1; omega⟩)) (hD _ (row_mem ⟨a1, a2⟩)) a3
  · rfl
theorem mod_sub {c : Con} {S D : List (List Rg)} (hle : LeD S D) (hS : ∀ r ∈ S, domB r = true) (hm : modB (D, [c], 0, 0) = true) : modB (S, [c], 0, 0) = true := by
  obtain ⟨f1, f2, f3⟩ := one_facts hm
  have := may_sub hle hS f2 f3
  simp only [modB, Bool.and_eq_true, decide_eq_true_eq, List.all_eq_true]
  refine ⟨⟨⟨⟨by have := hle.1; omega, by simp⟩, hS⟩, fun x hx => ?_⟩, by simp [askB]⟩
  simp at hx; subst hx; exact this
end Go.Proofs.Ytclpkkbamgmooaa
