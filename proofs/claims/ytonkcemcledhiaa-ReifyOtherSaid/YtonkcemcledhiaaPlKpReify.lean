/- Plain laws: a sum with a flag changes the rows of its variables alone. -/
import Derived.Test.YtonkcemcledhiaaPlKpLin
import Derived.Test.YtonkcemcledhiaaPlReify
namespace Go.Proofs.Ytonkcemcledhiaa
open Av
attribute [local irreducible] awp awpOpers
set_option linter.unusedSimpArgs false
set_option linter.unusedVariables false
theorem loseS_kl {X : List Int} {D : List (List Rg)} {f : Int} (hf : f ∈ X) (v : Int) : Kl X D (loseS D f v).1 := kl_set hf _
theorem openS_kl {X : List Int} {D : List (List Rg)} {f : Int} (hf : f ∈ X) (K : Int) (T : List Tm) (C : Int) : Kl X D (openS K D T C f).1 := by
  unfold openS
  split
  · exact loseS_kl hf _
  · split
    · exact loseS_kl hf _
    · exact ⟨kp_refl X D, rfl⟩
theorem reifyS_kl {X : List Int} {D : List (List Rg)} {f : Int} {T : List Tm} (hf : f ∈ X) (hT : TV T X) (K C : Int) : Kl X D (reifyS K D T C f).1 := by
  unfold reifyS
  split
  · unfold set1S
    split
    · exact isS_kl hT _
    · exact mostS_kl hT _
  · split
    · unfold set0S
      split
      · exact notS_kl hT _
      · split
        · exact mostS_kl (tv_opp hT) _
        · exact openS_kl hf _ _ _
    · exact openS_kl hf _ _ _
theorem reify_kp {c : Con} {D G : List (List Rg)} (h : reifyL c D = (G, 0)) : Kp c.2.1 D G ∧ G.length = D.length ∧ InD D c.2.1 := by
  unfold reifyL at h
  have hT : TV (termsOf c) c.2.1 := tv_zip _ _
  by_cases hm : modB (D, [c], 0, 0) = true
  · rw [if_pos hm] at h
    have g3 := (may_facts (one_facts hm).2.2).2.2.1
    by_cases hK : 4 ≤ c.1 ∧ c.1 ≤ 6
    · rw [if_pos hK] at h
      have hl := reif_len hK hm
      have hk := tell_kl h (reifyS_kl (xat_mem (X := c.2.1) (j := c.2.1.length - 1) (by omega)) hT _ _)
      exact ⟨hk.1, hk.2, g3⟩
    · rw [if_neg hK] at h; simp at h
  · rw [if_neg hm] at h; simp at h
end Go.Proofs.Ytonkcemcledhiaa
