/- Plain laws of products .. at one value each. -/
import Derived.Test.YtfcphijidcfboaaPlArith
import Derived.Test.YtfcphijidcfboaaGEvery
namespace Go.Proofs.Ytfcphijidcfboaa
open Av
attribute [local irreducible] awp awpOpers
set_option linter.unusedSimpArgs false
set_option linter.unusedVariables false
set_option linter.unusedSectionVars false
/-! one value each -/
section
variable {a : List Int} (hb : ∀ v ∈ a, -1048576 ≤ v ∧ v ≤ 1048576)
include hb
theorem one_e {x : Int} (hx : 0 ≤ x ∧ x < a.length) : eAt (oneD a) x = (xat a x.toNat, xat a x.toNat) := eAt_one hb hx
theorem one_v {x : Int} (hx : 0 ≤ x ∧ x < a.length) : -1048576 ≤ xat a x.toNat ∧ xat a x.toNat ≤ 1048576 := hb _ (List.mem_of_getElem? (xat_get (by omega)))
theorem one_set {x : Int} (hx : 0 ≤ x ∧ x < a.length) {l : List Rg} (hl : rightB l = true) (h : ∀ v, Mem l v ↔ v = xat a x.toNat) : putA (oneD a, false) x l = (oneD a, false) := by
  have hd := dom_right (dom_one (one_v hb hx))
  have : l = [(xat a x.toNat, xat a x.toNat)] := right_ext hl hd.1 fun v => by rw [h, mem_one']
  subst this
  unfold putA
  rw [if_neg (by simp)]
  have := set_self (D := oneD a) (x := x) (by rw [one_len]; exact hx)
  rw [row_one hx] at this
  simp only
  rw [this]
theorem one_cut {x lo hi : Int} (hx : 0 ≤ x ∧ x < a.length) (h : lo ≤ xat a x.toNat ∧ xat a x.toNat ≤ hi) : cutA (oneD a, false) x lo hi = (oneD a, false) := by
  unfold cutA
  rw [if_neg (by simp)]
  have hd := dom_right (dom_one (one_v hb hx))
  simp only
  rw [row_one hx]
  obtain ⟨f1, f2⟩ := cutS_facts lo hi hd.1
  exact one_set hb hx f1 fun v => by rw [f2, mem_one']; omega
theorem one_div {x y z : Int} (hx : 0 ≤ x ∧ x < a.length) (hy : 0 ≤ y ∧ y < a.length) (hz : 0 ≤ z ∧ z < a.length) (h : xat a z.toNat = xat a x.toNat * xat a y.toNat) : divA (oneD a, false) x y z = (oneD a, false) := by
  unfold divA
  rw [if_neg (by simp)]
  simp only
  rw [one_e hb hy, one_e hb hz]
  simp only
  split
  · rfl
  · rename_i h0
    have hv : ¬ xat a y.toNat = 0 := by omega
    have e1 : (xat a z.toNat).tdiv (xat a y.toNat) = xat a x.toNat := by rw [h]; exact Int.mul_tdiv_cancel _ hv
    have e2 : (xat a z.toNat).tmod (xat a y.toNat) = 0 := by rw [h]; exact Int.mul_tmod_left _ _
    have c1 : cel (xat a z.toNat) (xat a y.toNat) = xat a x.toNat := by unfold cel; rw [if_neg (by simp [e2]), e1]
    have c2 : flr (xat a z.toNat) (xat a y.toNat) = xat a x.toNat := by unfold flr; rw [if_neg (by simp [e2]), e1]
    refine one_cut hb hx ?_
    unfold corn
    simp only [c1, c2]
    omega
theorem one_without {x : Int} (hx : 0 ≤ x ∧ x < a.length) (h : ¬ xat a x.toNat = 0) : putA (oneD a, false) x (withoutS 0 (rowOf (oneD a) x)) = (oneD a, false) := by
  have hd := dom_right (dom_one (one_v hb hx))
  rw [row_one hx]
  obtain ⟨f1, f2⟩ := withoutS_facts 0 hd.1
  exact one_set hb hx f1 fun v => by rw [f2, mem_one']; omega
theorem one_times {x y z : Int} (hx : 0 ≤ x ∧ x < a.length) (hy : 0 ≤ y ∧ y < a.length) (hz : 0 ≤ z ∧ z < a.length) (h : xat a x.toNat * xat a y.toNat = xat a z.toNat) : timesA (oneD a) x y z = (oneD a, false) := by
  have h1 : cutA (oneD a, false) z (corn muls (eAt (oneD a) x) (eAt (oneD a) y)).1 (corn muls (eAt (oneD a) x) (eAt (oneD a) y)).2 = (oneD a, false) := by
    rw [one_e hb hx, one_e hb hy]
    refine one_cut hb hz ?_
    unfold corn muls
    simp only
    omega
  have h2 : loseA (oneD a, false) x y z = (oneD a, false) := by
    unfold loseA
    split
    · rename_i hc
      have hz0 : ¬ xat a z.toNat = 0 := by
        intro e
        have hd := dom_right (dom_one (one_v hb hz))
        have := hc.2
        simp only at this
        rw [row_one hz, has_iff.2 ⟨hd.1, (mem_one' _ _).2 e.symm⟩] at this
        cases this
      have hx0 : ¬ xat a x.toNat = 0 := fun e => hz0 (by rw [← h, e, Int.zero_mul])
      have hy0 : ¬ xat a y.toNat = 0 := fun e => hz0 (by rw [← h, e, Int.mul_zero])
      simp only
      rw [one_without hb hx hx0, if_neg (by simp)]
      exact one_without hb hy hy0
    · rfl
  unfold timesA
  rw [h1, h2, one_div hb hx hy hz h.symm]
  exact one_div hb hy hx hz (by rw [Int.mul_comm]; exact h.symm)
theorem one_lesser {x y z : Int} (hx : 0 ≤ x ∧ x < a.length) (hy : 0 ≤ y ∧ y < a.length) (hz : 0 ≤ z ∧ z < a.length) (h : min (xat a x.toNat) (xat a y.toNat) = xat a z.toNat) : lesserA (oneD a) x y z = (oneD a, false) := by
  have vx := one_v hb hx
  have vy := one_v hb hy
  have e1 : ∀ {u w : Int}, (0 ≤ u ∧ u < (a.length : Int)) → (0 ≤ w ∧ w < (a.length : Int)) → xat a z.toNat ≤ xat a u.toNat → (xat a z.toNat < xat a u.toNat → xat a w.toNat = xat a z.toNat) → capA (oneD a, false) u w z = (oneD a, false) := by
    intro u w hu hw k1 k2
    have vw := one_v hb hw
    unfold capA
    simp only
    rw [one_e hb hz, one_e hb hu]
    simp only
    split
    · rename_i hc
      exact one_cut hb hw (by have := k2 hc; omega)
    · rfl
  have h3 : lesser3 (oneD a) x y z = (oneD a, false) := by
    unfold lesser3
    rw [one_e hb hx, one_e hb hy]
    simp only
    rw [one_cut hb hz (by omega)]
    simp only
    rw [one_e hb hz]
    simp only
    rw [one_cut hb hx (by omega)]
    simp only
    rw [one_e hb hz]
    simp only
    exact one_cut hb hy (by omega)
  unfold lesserA
  rw [h3, e1 hx hy (by omega) (by omega)]
  exact e1 hy hx (by omega) (by omega)
theorem one_greater {x y z : Int} (hx : 0 ≤ x ∧ x < a.length) (hy : 0 ≤ y ∧ y < a.length) (hz : 0 ≤ z ∧ z < a.length) (h : max (xat a x.toNat) (xat a y.toNat) = xat a z.toNat) : greaterA (oneD a) x y z = (oneD a, false) := by
  have vx := one_v hb hx
  have vy := one_v hb hy
  have e1 : ∀ {u w : Int}, (0 ≤ u ∧ u < (a.length : Int)) → (0 ≤ w ∧ w < (a.length : Int)) → xat a u.toNat ≤ xat a z.toNat → (xat a u.toNat < xat a z.toNat → xat a w.toNat = xat a z.toNat) → cupA (oneD a, false) u w z = (oneD a, false) := by
    intro u w hu hw k1 k2
    have vw := one_v hb hw
    unfold cupA
    simp only
    rw [one_e hb hz, one_e hb hu]
    simp only
    split
    · rename_i hc
      exact one_cut hb hw (by have := k2 hc; omega)
    · rfl
  have h3 : greater3 (oneD a) x y z = (oneD a, false) := by
    unfold greater3
    rw [one_e hb hx, one_e hb hy]
    simp only
    rw [one_cut hb hz (by omega)]
    simp only
    rw [one_e hb hz]
    simp only
    rw [one_cut hb hx (by omega)]
    simp only
    rw [one_e hb hz]
    simp only
    exact one_cut hb hy (by omega)
  unfold greaterA
  rw [h3, e1 hx hy (by omega) (by omega)]
  exact e1 hy hx (by omega) (by omega)
theorem one_size {x y : Int} (hx : 0 ≤ x ∧ x < a.length) (hy : 0 ≤ y ∧ y < a.length) (h : max (xat a x.toNat) (-(xat a x.toNat)) = xat a y.toNat) : sizeA (oneD a) x y = (oneD a, false) := by
  have vx := one_v hb hx
  have h1 : size1 (oneD a) x y = (oneD a, false) := by
    unfold size1
    rw [one_e hb hx]
    exact one_cut hb hy (by simp only; omega)
  have h2 : size2 (oneD a, false) x y = (oneD a, false) := by
    unfold size2
    simp only
    rw [one_e hb hy]
    exact one_cut hb hx (by simp only; omega)
  unfold sizeA
  rw [h1, h2]
  unfold size3
  simp only
  rw [one_e hb hy]
  simp only
  split
  · rfl
  · rename_i hc
    have hd := dom_right (dom_one (one_v hb hx))
    rw [row_one hx]
    have hp : 0 < xat a y.toNat := by omega
    obtain ⟨g1, g2⟩ := sizeCut_facts hp hd.1
    exact one_set hb hx g1 fun v => by rw [g2, mem_one']; omega
theorem one_same {x y : Int} (hx : 0 ≤ x ∧ x < a.length) (hy : 0 ≤ y ∧ y < a.length) (h : xat a x.toNat = xat a y.toNat) : sameA (oneD a) x y = (oneD a, false) := by
  have hd1 := dom_right (dom_one (one_v hb hx))
  have hd2 := dom_right (dom_one (one_v hb hy))
  have h1 : putA (oneD a, false) x (meetS (rowOf (oneD a) x) (rowOf (oneD a) y)) = (oneD a, false) := by
    rw [row_one hx, row_one hy]
    obtain ⟨m1, m2⟩ := meetS_facts hd1.1 hd2.1
    exact one_set hb hx m1 fun v => by rw [m2, mem_one', mem_one']; omega
  unfold sameA
  rw [h1]
  simp only
  rw [row_one hx]
  exact one_set hb hy hd1.1 fun v => by rw [mem_one']; omega
end
theorem vals_xat {X a : List Int} {i : Nat} (h : i < X.length) : xat (valsOf X a) i = xat a (xat X i).toNat := xat_eq (vals_get (xat_get h))
theorem arith_kept {c : Con} {D : List (List Rg)} (hK : aKind c.1) (hm : modB (D, [c], 0, 0) = true) :
    KeptP (fun a => askdB c a && holdsB c (valsOf c.2.1 a)) D (arithL c D).1 (arithL c D).2 := by
  obtain ⟨f1, hD, h0, h1, h2, h3, -⟩ := arith_idx hK hm
  obtain ⟨g1, g2, g3⟩ := one_facts hm
  have hF := full_dom g2
  refine kept_of (fun a ha => ?_) (fun a ha hh => ?_) (arith_res hK hm)
  · obtain ⟨o1, o2⟩ := one_le hF ha
    exact order_arith hK hm (mod_sub o1 o2 hm) o1
  · obtain ⟨o1, o2⟩ := one_le hF ha
    rw [Bool.and_eq_true] at hh
    have hh2 := hh.2
    have hb := box_bound hF ha
    have hal := ha.1
    rw [arith_l hK (mod_sub o1 o2 hm)]
    have key : arithS c.1 (oneD a) c.2.1 = (oneD a, false) := by
      have h0' : 0 ≤ xat c.2.1 0 ∧ xat c.2.1 0 < (a.length : Int) := by omega
      have h1' : 0 ≤ xat c.2.1 1 ∧ xat c.2.1 1 < (a.length : Int) := by omega
      unfold arithS
      unfold holdsB at hh2
      unfold aKind at hK
      rcases hK with h | h | h | h | h <;> rw [h] at h2 h3 hh2 ⊢ <;> simp at hh2 h2 h3 <;> simp only [show ¬ (8 : Int) = 7 by decide, show ¬ (9 : Int) = 7 by decide, show ¬ (9 : Int) = 8 by decide, show ¬ (10 : Int) = 7 by decide, show ¬ (10 : Int) = 8 by decide, show ¬ (10 : Int) = 9 by decide, show ¬ (15 : Int) = 7 by decide, show ¬ (15 : Int) = 8 by decide, show ¬ (15 : Int) = 9 by decide, show ¬ (15 : Int) = 10 by decide, if_true, if_false]
      · rw [vals_xat (by omega), vals_xat (by omega), vals_xat (by omega)] at hh2
        exact one_times hb h0' h1' (by omega) hh2
      · rw [vals_xat (by omega), vals_xat (by omega), vals_xat (by omega)] at hh2
        exact one_lesser hb h0' h1' (by omega) hh2
      · rw [vals_xat (by omega), vals_xat (by omega), vals_xat (by omega)] at hh2
        exact one_greater hb h0' h1' (by omega) hh2
      · rw [vals_xat (by omega), vals_xat (by omega)] at hh2
        exact one_size hb h0' h1' hh2
      · rw [vals_xat (by omega), vals_xat (by omega)] at hh2
        exact one_same hb h0' h1' hh2
    rw [key]
    rfl
end Go.Proofs.Ytfcphijidcfboaa
