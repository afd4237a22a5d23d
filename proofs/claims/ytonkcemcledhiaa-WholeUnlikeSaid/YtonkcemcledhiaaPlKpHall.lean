/- Plain laws: unlike values change the rows of their variables alone. -/
import Derived.Test.YtonkcemcledhiaaPlKp
import Derived.Test.YtonkcemcledhiaaPlHall
namespace Go.Proofs.Ytonkcemcledhiaa
open Av
attribute [local irreducible] awp awpOpers
set_option linter.unusedSimpArgs false
set_option linter.unusedVariables false
theorem hallN_kp (l : List Rg) (D : List (List Rg)) (X : List Int) : ∀ k, k ≤ X.length → Kp X D (hallN l D X k)
  | 0, _ => kp_refl X D
  | k + 1, h => kp_set (xat_mem (by omega)) _ (hallN_kp l D X k (by omega))
theorem tell_fst {s : List (List Rg) × Bool} {G : List (List Rg)} (h : tell s = (G, 0)) : G = s.1 := by
  obtain ⟨E, b⟩ := s
  cases b
  · simp [tell] at h
  · simp [tell] at h
    exact h.symm
theorem hall_kp {c : Con} {D G : List (List Rg)} (h : hallL c D = (G, 0)) : Kp c.2.1 D G ∧ G.length = D.length ∧ InD D c.2.1 := by
  unfold hallL at h
  by_cases hm : modB (D, [c], 0, 0) = true
  · rw [if_pos hm] at h
    have g3 := (may_facts (one_facts hm).2.2).2.2.1
    by_cases hK : c.1 = 18
    · rw [if_pos hK] at h
      by_cases hr : roomB (endRows D c.2.1) = true
      · rw [if_pos hr] at h
        have e := tell_fst h
        refine ⟨tell_kp h (hallN_kp _ _ _ _ (Nat.le_refl _)), ?_, g3⟩
        rw [e]
        exact hallN_len _ _ _ _
      · rw [if_neg hr] at h; simp at h
    · rw [if_neg hK] at h; simp at h
  · rw [if_neg hm] at h; simp at h
end Go.Proofs.Ytonkcemcledhiaa
