/- Plain laws of constraints on truth values, continued: the law of smaller domains. -/
import Derived.Test.YtclpkkbamgmooaaPlLogic3
namespace Go.Proofs.Ytclpkkbamgmooaa
open Av
set_option linter.unusedSimpArgs false
set_option linter.unusedVariables false
theorem order_logic {c : Con} {S D : List (List Rg)} (hK : 11 ≤ c.1 ∧ c.1 ≤ 14) (hm : modB (D, [c], 0, 0) = true) (hS : modB (S, [c], 0, 0) = true) (hle : LeD S D) :
    (∃ E, logicL c D = (E, 0) ∧ (logicL c S = ([], 12) ∨ ∃ E', logicL c S = (E', 0) ∧ LeD E' E)) ∨ (logicL c D = ([], 12) ∧ logicL c S = ([], 12)) := by
  have key : ∀ oS oD, Mono oS oD → logicL c D = finO oD → logicL c S = finO oS →
      (∃ E, logicL c D = (E, 0) ∧ (logicL c S = ([], 12) ∨ ∃ E', logicL c S = (E', 0) ∧ LeD E' E)) ∨ (logicL c D = ([], 12) ∧ logicL c S = ([], 12)) := by
    intro oS oD hM h1 h2
    cases oS with
    | none =>
      cases oD with
      | none => exact .inr ⟨h1, h2⟩
      | some E => exact .inl ⟨E, h1, .inl h2⟩
    | some E' =>
      obtain ⟨E, rfl, hEE⟩ := hM E' rfl
      exact .inl ⟨E, h1, .inr ⟨E', h2, hEE⟩⟩
  obtain ⟨f1, f2, f3⟩ := one_facts hm
  obtain ⟨s1, s2, s3⟩ := one_facts hS
  obtain ⟨g1, g2, g3⟩ := may_len f3
  obtain ⟨-, -, hI, -⟩ := may_facts f3
  have tD := may_tri f3 f2
  have tS := may_tri s3 s2
  rw [logic_same, logic_same]
  have hcase : c.1 = 11 ∨ c.1 = 12 ∨ c.1 = 13 ∨ c.1 = 14 := by omega
  rw [logic_same, logic_same] at key
  unfold logicR at key ⊢
  rw [if_pos hm, if_pos hS] at key ⊢
  rcases hcase with h | h | h | h
  · have hl := g1 h
    simp only [h, if_true] at key ⊢
    exact key _ _ (mono_clause hle hI (tS (by rw [h]; rfl)) (tD (by rw [h]; rfl)) (fun i hi => hl.2 _ (List.mem_of_getElem? (xat_get hi))) hl.1.symm) rfl rfl
  · simp only [h, if_true, show ¬ (12 : Int) = 11 by decide, if_false] at key ⊢
    exact key _ _ (mono_both (.inr rfl) (g2 (.inl h)) hle hI (tS (by rw [h]; rfl)) (tD (by rw [h]; rfl))) rfl rfl
  · simp only [h, if_true, show ¬ (13 : Int) = 11 by decide, show ¬ (13 : Int) = 12 by decide, if_false] at key ⊢
    exact key _ _ (mono_both (.inl rfl) (g2 (.inr h)) hle hI (tS (by rw [h]; rfl)) (tD (by rw [h]; rfl))) rfl rfl
  · simp only [h, if_true, show ¬ (14 : Int) = 11 by decide, show ¬ (14 : Int) = 12 by decide, show ¬ (14 : Int) = 13 by decide, if_false] at key ⊢
    exact key _ _ (mono_xor (g3 h) hle hI (tS (by rw [h]; rfl)) (tD (by rw [h]; rfl))) rfl rfl
end Go.Proofs.Ytclpkkbamgmooaa
