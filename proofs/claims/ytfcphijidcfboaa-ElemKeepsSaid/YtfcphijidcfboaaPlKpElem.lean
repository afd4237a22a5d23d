/- Plain laws: an element changes only rows of its own. -/
import Derived.Test.YtfcphijidcfboaaPlKp
import Derived.Test.YtfcphijidcfboaaPlElem2
namespace Go.Proofs.Ytfcphijidcfboaa
open Av
attribute [local irreducible] awp awpOpers
set_option linter.unusedSimpArgs false
set_option linter.unusedVariables false
theorem fin_eq {E G : List (List Rg)} (h : finE E = (G, 0)) : E = G ∧ wholeB E = true := by
  unfold finE at h
  cases hw : wholeB E <;> rw [hw] at h <;> simp [tell] at h
  exact ⟨h, rfl⟩
theorem elem_kp2 {c : Con} {D G : List (List Rg)} (h : elemL c D = (G, 0)) : (Kp c.2.1 D G ∧ G.length = D.length ∧ InD D c.2.1) ∧ ∀ d ∈ G, rightB d = true := by
  obtain ⟨K, X, A, C⟩ := c
  unfold elemL at h
  by_cases hm : modB (D, [(K, X, A, C)], 0, 0) = true
  · rw [if_pos hm] at h
    obtain ⟨f1, f2, f3⟩ := one_facts hm
    obtain ⟨g1, g2, g3, g4, g5⟩ := may_facts f3
    simp only at h g3 ⊢
    by_cases h16 : K = 16
    · subst h16
      rw [if_pos rfl] at h
      obtain ⟨hX2, hAl, hX32, hi, hr, hdm, hAk⟩ := tab_facts hm
      obtain ⟨hLl, hLc, hLk, hLg⟩ := chsA_facts hAl hAk
      obtain ⟨rfl, -⟩ := fin_eq h
      refine ⟨⟨?_, narE_len _ _ _ _, g3⟩, narE_right hi hr hdm (fun c h => hLk c (List.mem_filter.1 h).1) (fun c h => hLg c (List.mem_filter.1 h).1)⟩
      unfold narE
      exact kp_set (by unfold lastV0; exact xat_mem (by omega)) _ (kp_set (xat_mem (by omega)) _ (kp_refl _ _))
    · rw [if_neg h16] at h
      by_cases h17 : K = 17
      · subst h17
        rw [if_pos rfl] at h
        obtain ⟨hX3, hA0, hX32, hI, hi, hr, hdm⟩ := var_facts hm
        obtain ⟨hLl, hLc, hLk, hLg⟩ := chsX_facts hX3 hX32 hI hdm
        obtain ⟨rfl, -⟩ := fin_eq h
        have hvo := var_one (p := keepC (rowOf D (xat X 0)) (rowOf D (lastV0 X))) hX3 hX32 hI hi hr hdm
        have hnr := narE_right hi hr hdm (K := (chsX D ((X.take (X.length - 1)).drop 1)).filter (keepC (rowOf D (xat X 0)) (rowOf D (lastV0 X)))) (fun c h => hLk c (List.mem_filter.1 h).1) (fun c h => hLg c (List.mem_filter.1 h).1)
        have hkp : Kp X D (narE (xat X 0) (lastV0 X) ((chsX D ((X.take (X.length - 1)).drop 1)).filter (keepC (rowOf D (xat X 0)) (rowOf D (lastV0 X)))) D) := by
          unfold narE
          exact kp_set (by unfold lastV0; exact xat_mem (by omega)) _ (kp_set (xat_mem (by omega)) _ (kp_refl _ _))
        have hlen := narE_len (xat X 0) (lastV0 X) ((chsX D ((X.take (X.length - 1)).drop 1)).filter (keepC (rowOf D (xat X 0)) (rowOf D (lastV0 X)))) D
        generalize narE (xat X 0) (lastV0 X) ((chsX D ((X.take (X.length - 1)).drop 1)).filter (keepC (rowOf D (xat X 0)) (rowOf D (lastV0 X)))) D = E at hvo hnr hkp hlen ⊢
        refine ⟨⟨?_, by rw [choE_len, hlen], hI⟩, choE_right hnr⟩
        unfold choE
        split
        · rename_i hc
          obtain ⟨⟨p0, p1⟩, -⟩ := hvo hc.1 hc.2
          exact kp_set (by unfold lastV0; exact xat_mem (by omega)) _ (kp_set (xat_mem (by omega)) _ hkp)
        · exact hkp
      · rw [if_neg h17] at h
        simp at h
  · rw [if_neg hm] at h
    simp at h
theorem elem_kp {c : Con} {D G : List (List Rg)} (h : elemL c D = (G, 0)) : Kp c.2.1 D G ∧ G.length = D.length ∧ InD D c.2.1 := (elem_kp2 h).1
theorem elem_rows {c : Con} {D G : List (List Rg)} (h : elemL c D = (G, 0)) : ∀ d ∈ G, d.length ≤ 1000000000000 := right_rows (elem_kp2 h).2
end Go.Proofs.Ytfcphijidcfboaa
