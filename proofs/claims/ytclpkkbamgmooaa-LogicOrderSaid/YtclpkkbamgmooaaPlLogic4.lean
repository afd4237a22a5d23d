/- Plain laws of constraints on truth values, continued: the law of smaller domains. -/
import Derived.Test.YtclpkkbamgmooaaPlLogic3
namespace Go.Proofs.Ytclpkkbamgmooaa
open Av
set_option linter.unusedSimpArgs false
set_option linter.unusedVariables false
theorem truth_sub {r t : List Rg} (hs : Sub r t) (hr : domB r = true) (hd : domB t = true) (ht : truthB t = true) : truthB r = true := by
  have h01 : ∀ v, Mem r v → 0 ≤ v ∧ v ≤ 1 := fun v hv => by
    obtain ⟨a, ha, h1, h2⟩ := hs.2.2 v hv
    rcases tri_of hd ht with rfl | rfl | rfl <;> (simp at ha; subst ha; simp only at h1 h2; omega)
  unfold domB at hr
  rw [Bool.and_eq_true, decide_eq_true_eq] at hr
  obtain ⟨⟨x, y⟩, hx⟩ : ∃ a, r[0]? = some a := ⟨_, List.getElem?_eq_getElem (by omega)⟩
  obtain ⟨⟨p, q⟩, hp⟩ : ∃ a, r[r.length - 1]? = some a := ⟨_, List.getElem?_eq_getElem (by omega)⟩
  obtain ⟨g1, -⟩ := right_rg hr.1 hx
  obtain ⟨g2, -⟩ := right_rg hr.1 hp
  have m1 := h01 x ⟨(x, y), List.mem_of_getElem? hx, Int.le_refl _, g1⟩
  have m2 := h01 q ⟨(p, q), List.mem_of_getElem? hp, g2, Int.le_refl _⟩
  unfold truthB
  rw [hx, hp]
  simp only [Bool.and_eq_true, decide_eq_true_eq]
  omega
theorem may_sub {c : Con} {S D : List (List Rg)} (hle : LeD S D) (hS : ∀ r ∈ S, domB r = true) (hD : ∀ r ∈ D, domB r = true) (h : mayB D c = true) : mayB S c = true := by
  obtain ⟨-, -, hI, -⟩ := may_facts h
  simp only [mayB, Bool.and_eq_true] at h ⊢
  obtain ⟨⟨h1, h2⟩, h3⟩ := h
  refine ⟨⟨h1, ?_⟩, h3⟩
  unfold xsOk at h2 ⊢
  rw [List.all_eq_true] at h2 ⊢
  intro i hi
  have h4 := h2 i hi
  have hi' : i < c.2.1.length := by simpa using hi
  unfold xOk at h4 ⊢
  rw [xat_get hi'] at h4 ⊢
  simp only [Bool.and_eq_true, decide_eq_true_eq] at h4 ⊢
  obtain ⟨⟨a1, a2⟩, a3⟩ := h4
  refine ⟨⟨a1, by have := hle.1; omega⟩, ?_⟩
  split
  · rename_i hc
    rw [if_pos hc] at a3
    exact truth_sub (hle.2 _ a1 a2) (hS _ (row_mem ⟨a1, by have := hle.1; omega⟩)) (hD _ (row_mem ⟨a1, a2⟩)) a3
  · rfl
theorem mod_sub {c : Con} {S D : List (List Rg)} (hle : LeD S D) (hS : ∀ r ∈ S, domB r = true) (hm : modB (D, [c], 0, 0) = true) : modB (S, [c], 0, 0) = true := by
  obtain ⟨f1, f2, f3⟩ := one_facts hm
  have := may_sub hle hS f2 f3
  simp only [modB, Bool.and_eq_true, decide_eq_true_eq, List.all_eq_true]
  refine ⟨⟨⟨⟨by have := hle.1; omega, by simp⟩, hS⟩, fun x hx => ?_⟩, by simp [askB]⟩
  simp at hx; subst hx; exact this
theorem order_logic {c : Con} {S D : List (List Rg)} (hK : 11 ≤ c.1 ∧ c.1 ≤ 14) (hm : modB (D, [c], 0, 0) = true) (hS : modB (S, [c], 0, 0) = true) (hle : LeD S D) :
    (∃ E, logicL c D = (E, 0) ∧ (logicL c S = ([], 12) ∨ ∃ E', logicL c S = (E', 0) ∧ LeD E' E)) ∨ (logicL c D = ([], 12) ∧ logicL c S = ([], 12)) := by
  have key : ∀ oS oD, Mono oS oD → logicL c D = finO oD → logicL c S = finO oS →
      (∃ E, logicL c D = (E, 0) ∧ (logicL c S = ([], 12) ∨ ∃ E', logicL c S = (E', 0) ∧ LeD E' E)) ∨ (logicL c D = ([], 12) ∧ logicL c S = ([], 12)) := by
    intro oS oD hM h1 h2
    cases oS with
    | none =>
      cases oD with
      | none => exact .inr ⟨h1, h2⟩
      | some E => exact .inl ⟨E, h1, .inl h2⟩
    | some E' =>
      obtain ⟨E, rfl, hEE⟩ := hM E' rfl
      exact .inl ⟨E, h1, .inr ⟨E', h2, hEE⟩⟩
  obtain ⟨f1, f2, f3⟩ := one_facts hm
  obtain ⟨s1, s2, s3⟩ := one_facts hS
  obtain ⟨g1, g2, g3⟩ := may_len f3
  obtain ⟨-, -, hI, -⟩ := may_facts f3
  have tD := may_tri f3 f2
  have tS := may_tri s3 s2
  rw [logic_same, logic_same]
  have hcase : c.1 = 11 ∨ c.1 = 12 ∨ c.1 = 13 ∨ c.1 = 14 := by omega
  rw [logic_same, logic_same] at key
  unfold logicR at key ⊢
  rw [if_pos hm, if_pos hS] at key ⊢
  rcases hcase with h | h | h | h
  · have hl := g1 h
    simp only [h, if_true] at key ⊢
    exact key _ _ (mono_clause hle hI (tS (by rw [h]; rfl)) (tD (by rw [h]; rfl)) (fun i hi => hl.2 _ (List.mem_of_getElem? (xat_get hi))) hl.1.symm) rfl rfl
  · simp only [h, if_true, show ¬ (12 : Int) = 11 by decide, if_false] at key ⊢
    exact key _ _ (mono_both (.inr rfl) (g2 (.inl h)) hle hI (tS (by rw [h]; rfl)) (tD (by rw [h]; rfl))) rfl rfl
  · simp only [h, if_true, show ¬ (13 : Int) = 11 by decide, show ¬ (13 : Int) = 12 by decide, if_false] at key ⊢
    exact key _ _ (mono_both (.inl rfl) (g2 (.inr h)) hle hI (tS (by rw [h]; rfl)) (tD (by rw [h]; rfl))) rfl rfl
  · simp only [h, if_true, show ¬ (14 : Int) = 11 by decide, show ¬ (14 : Int) = 12 by decide, show ¬ (14 : Int) = 13 by decide, if_false] at key ⊢
    exact key _ _ (mono_xor (g3 h) hle hI (tS (by rw [h]; rfl)) (tD (by rw [h]; rfl))) rfl rfl
end Go.Proofs.Ytclpkkbamgmooaa
