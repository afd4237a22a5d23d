/- Plain laws: arithmetic changes the rows of its variables alone. -/
import Derived.Test.YtonkcemcledhiaaPlKp
import Derived.Test.YtonkcemcledhiaaPlArith
namespace Go.Proofs.Ytonkcemcledhiaa
open Av
attribute [local irreducible] awp awpOpers
set_option linter.unusedSimpArgs false
set_option linter.unusedVariables false
section
variable {X : List Int} {D : List (List Rg)} {s : Sd} {x y z : Int}
theorem putA_kp (hx : x ∈ X) (l : List Rg) (h : Kp X D s.1) : Kp X D (putA s x l).1 := by
  unfold putA
  split
  · exact h
  · exact kp_set hx _ h
theorem cutA_kp (hx : x ∈ X) (lo hi : Int) (h : Kp X D s.1) : Kp X D (cutA s x lo hi).1 := by
  unfold cutA
  split
  · exact h
  · exact putA_kp hx _ h
theorem divA_kp (hx : x ∈ X) (h : Kp X D s.1) : Kp X D (divA s x y z).1 := by
  unfold divA
  split
  · exact h
  · split
    · exact h
    · exact cutA_kp hx _ _ h
theorem loseA_kp (hx : x ∈ X) (hy : y ∈ X) (h : Kp X D s.1) : Kp X D (loseA s x y z).1 := by
  unfold loseA
  split
  · split
    · exact putA_kp hx _ h
    · exact putA_kp hy _ (putA_kp hx _ h)
  · exact h
theorem timesA_kp (hx : x ∈ X) (hy : y ∈ X) (hz : z ∈ X) : Kp X D (timesA D x y z).1 :=
  divA_kp hy (divA_kp hx (loseA_kp hx hy (cutA_kp hz _ _ (kp_refl X D))))
theorem capA_kp (hy : y ∈ X) (h : Kp X D s.1) : Kp X D (capA s x y z).1 := by
  unfold capA
  split
  · exact cutA_kp hy _ _ h
  · exact h
theorem cupA_kp (hy : y ∈ X) (h : Kp X D s.1) : Kp X D (cupA s x y z).1 := by
  unfold cupA
  split
  · exact cutA_kp hy _ _ h
  · exact h
theorem lesserA_kp (hx : x ∈ X) (hy : y ∈ X) (hz : z ∈ X) : Kp X D (lesserA D x y z).1 :=
  capA_kp hx (capA_kp hy (cutA_kp hy _ _ (cutA_kp hx _ _ (cutA_kp hz _ _ (kp_refl X D)))))
theorem greaterA_kp (hx : x ∈ X) (hy : y ∈ X) (hz : z ∈ X) : Kp X D (greaterA D x y z).1 :=
  cupA_kp hx (cupA_kp hy (cutA_kp hy _ _ (cutA_kp hx _ _ (cutA_kp hz _ _ (kp_refl X D)))))
theorem sizeA_kp (hx : x ∈ X) (hy : y ∈ X) : Kp X D (sizeA D x y).1 := by
  unfold sizeA size3
  split
  · exact cutA_kp hx _ _ (cutA_kp hy _ _ (kp_refl X D))
  · exact putA_kp hx _ (cutA_kp hx _ _ (cutA_kp hy _ _ (kp_refl X D)))
theorem sameA_kp (hx : x ∈ X) (hy : y ∈ X) : Kp X D (sameA D x y).1 := putA_kp hy _ (putA_kp hx _ (kp_refl X D))
end
theorem arith_kp {c : Con} {D G : List (List Rg)} (h : arithL c D = (G, 0)) : Kp c.2.1 D G ∧ G.length = D.length ∧ InD D c.2.1 := by
  unfold arithL at h
  by_cases hm : modB (D, [c], 0, 0) = true
  · rw [if_pos hm] at h
    by_cases hK : c.1 = 7 ∨ c.1 = 8 ∨ c.1 = 9 ∨ c.1 = 10 ∨ c.1 = 15
    · rw [if_pos hK] at h
      have hlen := (arith_ok (c := c) (D := D) hK hm).2
      have hidx := arith_idx (c := c) (D := D) hK hm
      obtain ⟨-, -, -, -, i3, i2, -⟩ := hidx
      have g3 := (may_facts (one_facts hm).2.2).2.2.1
      have hk : Kp c.2.1 D (arithS c.1 D c.2.1).1 := by
        unfold arithS
        rcases hK with h7 | h7 | h7 | h7 | h7
        · have := (i3 (by omega)).1
          rw [if_pos h7]
          exact timesA_kp (xat_mem (by omega)) (xat_mem (by omega)) (xat_mem (by omega))
        · have := (i3 (by omega)).1
          rw [if_neg (by omega), if_pos h7]
          exact lesserA_kp (xat_mem (by omega)) (xat_mem (by omega)) (xat_mem (by omega))
        · have := (i3 (by omega)).1
          rw [if_neg (by omega), if_neg (by omega), if_pos h7]
          exact greaterA_kp (xat_mem (by omega)) (xat_mem (by omega)) (xat_mem (by omega))
        · have := i2 (by omega)
          rw [if_neg (by omega), if_neg (by omega), if_neg (by omega), if_pos h7]
          exact sizeA_kp (xat_mem (by omega)) (xat_mem (by omega))
        · have := i2 (by omega)
          rw [if_neg (by omega), if_neg (by omega), if_neg (by omega), if_neg (by omega)]
          exact sameA_kp (xat_mem (by omega)) (xat_mem (by omega))
      unfold tellA at h
      refine ⟨tell_kp h hk, ?_, g3⟩
      revert h hlen
      generalize arithS c.1 D c.2.1 = s
      obtain ⟨E, b⟩ := s
      intro h hlen
      cases b
      · simp [tell] at h
        subst h
        exact hlen
      · simp [tell] at h
    · rw [if_neg hK] at h
      simp at h
  · rw [if_neg hm] at h
    simp at h
end Go.Proofs.Ytonkcemcledhiaa
