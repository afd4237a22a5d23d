/- Plain laws: truth values change the rows of their variables alone. -/
import Derived.Test.YtonkcemcledhiaaPlKpLin
import Derived.Test.YtonkcemcledhiaaPlLogic
namespace Go.Proofs.Ytonkcemcledhiaa
open Av
attribute [local irreducible] awp awpOpers
set_option linter.unusedSimpArgs false
set_option linter.unusedVariables false
section
variable {X : List Int} {D : List (List Rg)}
theorem setS_kl {s : List (List Rg) × Bool} {x : Int} (hx : x ∈ X) (v : Int) (h : Kl X D s.1) : Kl X D (setS s x v).1 := by
  unfold setS
  split
  · exact kl_trans h (kl_set hx _)
  · split
    · exact h
    · exact h
theorem clauseS_kl {A : List Int} (hA : A.length ≤ X.length) : Kl X D (clauseS D X A).1 := by
  unfold clauseS
  cases hs : cg D X A A.length with
  | none => exact ⟨kp_refl X D, rfl⟩
  | some s =>
    obtain ⟨f, l⟩ := s
    obtain ⟨b1, b2, b3, b4⟩ := cg_bounds hs
    simp only
    split
    · exact ⟨kp_refl X D, rfl⟩
    · split
      · exact setS_kl (xat_mem (by omega)) _ ⟨kp_refl X D, rfl⟩
      · exact ⟨kp_refl X D, rfl⟩
theorem firstS_kl (h0 : 0 < X.length) (yes : Int) : Kl X D (firstS D X yes).1 := by
  unfold firstS
  split
  · exact setS_kl (xat_mem (by omega)) _ ⟨kp_refl X D, rfl⟩
  · split
    · exact setS_kl (xat_mem (by omega)) _ ⟨kp_refl X D, rfl⟩
    · exact ⟨kp_refl X D, rfl⟩
theorem evS_kl (v : Int) : ∀ n, n ≤ X.length → Kl X D (evS D X v n).1
  | 0, _ => ⟨kp_refl X D, rfl⟩
  | n + 1, h => setS_kl (xat_mem (by omega)) _ (evS_kl v n (by omega))
theorem restS_kl (h0 : 0 < X.length) (yes : Int) : Kl X D (restS D X yes).1 := by
  unfold restS
  split
  · exact evS_kl _ _ (by omega)
  · split
    · split
      · exact ⟨kp_refl X D, rfl⟩
      · split
        · rename_i h1
          obtain ⟨j, hj, hl, -⟩ := cl_last (so D X 2) (n := X.length - 1) (by omega)
          exact setS_kl (xat_mem (by omega)) _ ⟨kp_refl X D, rfl⟩
        · exact ⟨kp_refl X D, rfl⟩
    · exact ⟨kp_refl X D, rfl⟩
theorem allS_kl (h0 : 0 < X.length) (yes : Int) : Kl X D (allS D X yes).1 := by
  have h1 := firstS_kl (D := D) h0 yes
  unfold allS
  generalize firstS D X yes = s at h1 ⊢
  obtain ⟨E, b⟩ := s
  cases b
  · exact kl_trans h1 (restS_kl h0 _)
  · exact h1
theorem xorS_kl (h3 : X.length = 3) : Kl X D (xorS D X).1 := by
  unfold xorS
  split
  · exact ⟨kp_refl X D, rfl⟩
  · split
    · rename_i h1
      obtain ⟨j, hj, hl, -⟩ := cl_last (so D X 2) (n := 3) (by omega)
      exact setS_kl (xat_mem (by omega)) _ ⟨kp_refl X D, rfl⟩
    · exact ⟨kp_refl X D, rfl⟩
theorem fin_kl {G : List (List Rg)} {s : List (List Rg) × Bool} (h : fin s = (G, 0)) (hk : Kl X D s.1) : Kl X D G := by
  obtain ⟨E, b⟩ := s
  cases b
  · simp [fin] at h
    subst h
    exact hk
  · simp [fin] at h
end
theorem logic_kp {c : Con} {D G : List (List Rg)} (h : logicL c D = (G, 0)) : Kp c.2.1 D G ∧ G.length = D.length ∧ InD D c.2.1 := by
  unfold logicL at h
  by_cases hm : modB (D, [c], 0, 0) = true
  · rw [if_pos hm] at h
    have f3 := (one_facts hm).2.2
    have g3 := (may_facts f3).2.2.1
    obtain ⟨l1, l2, l3⟩ := may_len f3
    have hk : Kl c.2.1 D G := by
      by_cases k1 : c.1 = 11
      · rw [if_pos k1] at h; exact fin_kl h (clauseS_kl (by have := (l1 k1).1; omega))
      · rw [if_neg k1] at h
        by_cases k2 : c.1 = 12
        · rw [if_pos k2] at h; exact fin_kl h (allS_kl (l2 (by omega)) _)
        · rw [if_neg k2] at h
          by_cases k3 : c.1 = 13
          · rw [if_pos k3] at h; exact fin_kl h (allS_kl (l2 (by omega)) _)
          · rw [if_neg k3] at h
            by_cases k4 : c.1 = 14
            · rw [if_pos k4] at h; exact fin_kl h (xorS_kl (l3 k4))
            · rw [if_neg k4] at h; simp at h
    exact ⟨hk.1, hk.2, g3⟩
  · rw [if_neg hm] at h; simp at h
end Go.Proofs.Ytonkcemcledhiaa
