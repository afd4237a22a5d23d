/- Plain laws: a sum changes the rows of its variables alone. -/
import Derived.Test.YtonkcemcledhiaaPlKp
namespace Go.Proofs.Ytonkcemcledhiaa
open Av
attribute [local irreducible] awp awpOpers
set_option linter.unusedSimpArgs false
set_option linter.unusedVariables false
def TV (T : List Tm) (X : List Int) : Prop := ∀ t ∈ T, t.2 ∈ X
theorem tv_at {T : List Tm} {X : List Int} (h : TV T X) {k : Nat} (hk : k < T.length) : (tX T k).2 ∈ X := h _ (List.mem_of_getElem? (tX_get hk))
theorem tv_opp {T : List Tm} {X : List Int} (h : TV T X) : TV (opp T) X := by
  intro t ht
  unfold opp at ht
  obtain ⟨u, hu, rfl⟩ := List.mem_map.1 ht
  exact h u hu
theorem tv_zip (A X : List Int) : TV (List.zip A X) X := by
  intro t ht
  obtain ⟨a, b⟩ := t
  exact (List.of_mem_zip ht).2
theorem tv_open {D : List (List Rg)} {T : List Tm} {X : List Int} (h : TV T X) : ∀ k, k ≤ T.length → TV (openK D T k).1 X
  | 0, _ => by intro t ht; simp [openK] at ht
  | k + 1, hk => by
    have ih := tv_open (D := D) h k (by omega)
    unfold openK
    split
    · exact ih
    · intro t ht
      rcases List.mem_append.1 ht with h1 | h1
      · exact ih t h1
      · rw [List.mem_singleton] at h1
        rw [h1]
        exact tv_at h (by omega)
theorem mostK_kp {D : List (List Rg)} {T : List Tm} {X : List Int} (h : TV T X) (room : Int) : ∀ k, k ≤ T.length → Kp X D (mostK D T room k)
  | 0, _ => kp_refl X D
  | k + 1, hk => kp_set (tv_at h (by omega)) _ (mostK_kp h room k (by omega))
theorem mostK_len2 (D : List (List Rg)) (T : List Tm) (room : Int) : ∀ k, (mostK D T room k).length = D.length
  | 0 => rfl
  | k + 1 => by unfold mostK; rw [List.length_set]; exact mostK_len2 D T room k
/-- kept, and of the same length -/
def Kl (X : List Int) (D E : List (List Rg)) : Prop := Kp X D E ∧ E.length = D.length
theorem kl_trans {X : List Int} {D E F : List (List Rg)} (h1 : Kl X D E) (h2 : Kl X E F) : Kl X D F := ⟨kp_trans h1.1 h2.1, h2.2.trans h1.2⟩
theorem kl_set {X : List Int} {D : List (List Rg)} {x : Int} (hx : x ∈ X) (r : List Rg) : Kl X D (D.set x.toNat r) := ⟨kp_set hx r (kp_refl X D), by rw [List.length_set]⟩
theorem mostS_kl {D : List (List Rg)} {T : List Tm} {X : List Int} (h : TV T X) (n : Int) : Kl X D (mostS D T n).1 := by
  unfold mostS
  split
  · exact ⟨kp_refl X D, rfl⟩
  · exact ⟨mostK_kp h _ _ (Nat.le_refl _), mostK_len2 _ _ _ _⟩
theorem isS_kl {D : List (List Rg)} {T : List Tm} {X : List Int} (h : TV T X) (n : Int) : Kl X D (isS D T n).1 := by
  have h1 := mostS_kl (D := D) h n
  unfold isS
  generalize mostS D T n = s at h1 ⊢
  obtain ⟨E, b⟩ := s
  cases b
  · exact h1
  · exact kl_trans h1 (mostS_kl (tv_opp h) _)
theorem notS_kl {D : List (List Rg)} {T : List Tm} {X : List Int} (h : TV T X) (n : Int) : Kl X D (notS D T n).1 := by
  unfold notS
  split
  · exact ⟨kp_refl X D, rfl⟩
  · split
    · exact ⟨kp_refl X D, rfl⟩
    · split
      · exact ⟨kp_refl X D, rfl⟩
      · exact kl_set (tv_at (tv_open h _ (Nat.le_refl _)) (by omega)) _
theorem tell_kl {X : List Int} {D G : List (List Rg)} {s : List (List Rg) × Bool} (h : tell s = (G, 0)) (hk : Kl X D s.1) : Kl X D G := by
  obtain ⟨E, b⟩ := s
  cases b
  · simp [tell] at h
  · simp [tell] at h
    subst h
    exact hk
theorem linear_kp {c : Con} {D G : List (List Rg)} (h : linearL c D = (G, 0)) : Kp c.2.1 D G ∧ G.length = D.length ∧ InD D c.2.1 := by
  unfold linearL at h
  have hT : TV (termsOf c) c.2.1 := tv_zip _ _
  by_cases hm : modB (D, [c], 0, 0) = true
  · rw [if_pos hm] at h
    have g3 := (may_facts (one_facts hm).2.2).2.2.1
    have hk : Kl c.2.1 D G := by
      by_cases k1 : c.1 = 1
      · rw [if_pos k1] at h; exact tell_kl h (isS_kl hT _)
      · rw [if_neg k1] at h
        by_cases k2 : c.1 = 2
        · rw [if_pos k2] at h; exact tell_kl h (mostS_kl hT _)
        · rw [if_neg k2] at h
          by_cases k3 : c.1 = 3
          · rw [if_pos k3] at h; exact tell_kl h (notS_kl hT _)
          · rw [if_neg k3] at h; simp at h
    exact ⟨hk.1, hk.2, g3⟩
  · rw [if_neg hm] at h; simp at h
end Go.Proofs.Ytonkcemcledhiaa
