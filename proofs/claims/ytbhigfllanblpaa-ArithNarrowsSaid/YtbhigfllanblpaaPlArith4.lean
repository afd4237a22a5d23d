/- The document's steps for products, lesser and greater ones, sizes, likeness lead to the same domains. -/
import Derived.Test.YtbhigfllanblpaaPlArith3
namespace Go.Proofs.Ytbhigfllanblpaa
open Av
attribute [local irreducible] awp awpOpers
set_option linter.unusedSimpArgs false
set_option linter.unusedVariables false
set_option linter.unusedSectionVars false
/-- both failed, or both the same -/
def EqS (s t : Sd) : Prop := t.2 = s.2 ∧ (s.2 = false → t = s)
theorem eqs_refl (s : Sd) : EqS s s := ⟨rfl, fun _ => rfl⟩
theorem eqs_bad {s t : Sd} (h : s.2 = true) (k : t.2 = true) : EqS s t := ⟨by rw [h, k], fun e => by rw [h] at e; cases e⟩
theorem eqs_of {s t : Sd} (h : s.2 = true ∧ t.2 = true ∨ s = t) : EqS s t := by
  rcases h with ⟨h, k⟩ | rfl
  · exact eqs_bad h k
  · exact eqs_refl _
theorem eqs_tell {s t : Sd} (h : EqS s t) : tellA s = tellA t := by
  obtain ⟨h1, h2⟩ := h
  cases hb : s.2
  · rw [h2 hb]
  · rw [hb] at h1
    unfold tellA
    rw [hb, h1]
    rfl
theorem mem_bounds {l : List Rg} {v : Int} (h : rightB l = true) (k : Mem l v) : -1048576 ≤ v ∧ v ≤ 1048576 := has_within (has_iff.2 ⟨h, k⟩)
theorem far_hi (lo : Int) (l : List Rg) : cutS lo 1099511627776 l = cutS lo 1048576 l := by
  by_cases h : rightB l = true
  · obtain ⟨f1, f2⟩ := cutS_facts lo 1099511627776 h
    obtain ⟨g1, g2⟩ := cutS_facts lo 1048576 h
    refine right_ext f1 g1 fun v => ?_
    rw [f2, g2]
    constructor
    · intro ⟨a, b, c⟩
      have := mem_bounds h a
      exact ⟨a, b, this.2⟩
    · intro ⟨a, b, c⟩
      exact ⟨a, b, by omega⟩
  · unfold cutS
    rw [if_neg h, if_neg h]
theorem far_lo (hi : Int) (l : List Rg) : cutS (-1099511627776) hi l = cutS (-1048576) hi l := by
  by_cases h : rightB l = true
  · obtain ⟨f1, f2⟩ := cutS_facts (-1099511627776) hi h
    obtain ⟨g1, g2⟩ := cutS_facts (-1048576) hi h
    refine right_ext f1 g1 fun v => ?_
    rw [f2, g2]
    constructor
    · intro ⟨a, b, c⟩
      have := mem_bounds h a
      exact ⟨a, this.1, c⟩
    · intro ⟨a, b, c⟩
      exact ⟨a, by omega, c⟩
  · unfold cutS
    rw [if_neg h, if_neg h]
section
variable {s t : Sd} {x y z : Int}
theorem eq_put (l : List Rg) (h : EqS s t) : EqS (putA s x l) (rput t x l) := by
  obtain ⟨h1, h2⟩ := h
  cases hb : s.2
  · rw [h2 hb]
    unfold putA rput
    rw [hb]
    simp only [Bool.false_eq_true, if_false]
    by_cases h0 : l.length = 0
    · rw [if_pos h0]
      exact eqs_bad rfl (by simp [h0])
    · rw [if_neg h0]
      exact eqs_of (.inr (by simp [h0]))
  · rw [hb] at h1
    have : rput t x l = t := by unfold rput; rw [if_pos h1]
    rw [this]
    refine eqs_bad ?_ h1
    unfold putA
    split
    · rfl
    · exact hb
theorem eq_cut {lo hi lo' hi' : Int} (h : EqS s t) (hc : s.2 = false → cutS lo' hi' (rowOf s.1 x) = cutS lo hi (rowOf s.1 x)) : EqS (cutA s x lo hi) (rcut t x lo' hi') := by
  cases hb : s.2
  · have e := h.2 hb
    subst e
    unfold cutA rcut
    rw [hb]
    simp only [Bool.false_eq_true, if_false]
    rw [hc hb]
    exact eq_put _ (eqs_refl _)
  · have h1 := h.1
    rw [hb] at h1
    unfold cutA rcut
    rw [if_pos hb, if_pos h1]
    exact h
theorem rlo_eq (h : s.2 = false) : rlo s x = (eAt s.1 x).1 := by unfold rlo; rw [if_neg (by rw [h]; simp)]
theorem rhi_eq (h : s.2 = false) : rhi s x = (eAt s.1 x).2 := by unfold rhi; rw [if_neg (by rw [h]; simp)]
theorem rlo_bad (h : s.2 = true) : rlo s x = 0 := by unfold rlo; rw [if_pos h]
theorem rhi_bad (h : s.2 = true) : rhi s x = 0 := by unfold rhi; rw [if_pos h]
theorem nb {b : Bool} (h : b = false) : ¬ b = true := by rw [h]; simp
theorem bad_t (h : EqS s t) (hb : s.2 = true) : t.2 = true := by rw [h.1, hb]
theorem eq_quo (h : EqS s t) : EqS (divA s x y z) (rquo t x y z) := by
  cases hb : s.2
  · have e := h.2 hb
    subst e
    unfold divA rquo
    rw [if_neg (nb hb), rlo_eq hb, rhi_eq hb, rlo_eq hb, rhi_eq hb]
    by_cases c : (eAt t.1 y).1 ≤ 0 ∧ 0 ≤ (eAt t.1 y).2
    · rw [if_pos c, if_pos (.inr c)]
      exact eqs_refl _
    · rw [if_neg c, if_neg (by rintro (h | h); exact nb hb h; exact c h)]
      exact eq_cut (eqs_refl _) fun _ => rfl
  · unfold divA rquo
    rw [if_pos hb, if_pos (.inl (bad_t h hb))]
    exact h
theorem eq_lose (h : EqS s t) : EqS (loseA s x y z) (rt2 t x y z) := by
  cases hb : s.2
  · have e := h.2 hb
    subst e
    unfold loseA rt2
    by_cases c : t.2 = false ∧ hasB (rowOf t.1 z) 0 = false
    · rw [if_pos c, if_pos c]
      have e1 : rlose t x = rput t x (withoutS 0 (rowOf t.1 x)) := by unfold rlose; rw [if_neg (nb hb)]
      rw [e1]
      have h1 := eq_put (x := x) (withoutS 0 (rowOf t.1 x)) (eqs_refl t)
      generalize putA t x (withoutS 0 (rowOf t.1 x)) = s1 at h1 ⊢
      generalize rput t x (withoutS 0 (rowOf t.1 x)) = t1 at h1 ⊢
      cases hb1 : s1.2
      · have e := h1.2 hb1
        subst e
        rw [if_neg (by simp)]
        unfold rlose
        rw [if_neg (nb hb1)]
        exact eq_put _ (eqs_refl _)
      · rw [if_pos rfl]
        unfold rlose
        rw [if_pos (bad_t h1 hb1)]
        exact h1
    · rw [if_neg c, if_neg c]
      exact eqs_refl _
  · unfold loseA rt2
    rw [if_neg (by rintro ⟨h, -⟩; rw [hb] at h; cases h), if_neg (by rintro ⟨k, -⟩; rw [bad_t h hb] at k; cases k)]
    exact h
theorem eq_times (D : List (List Rg)) (x y z : Int) : EqS (timesA D x y z) (rtimes (D, false) x y z) := by
  have h1 : EqS (cutA (D, false) z (corn muls (eAt D x) (eAt D y)).1 (corn muls (eAt D x) (eAt D y)).2) (rt1 (D, false) x y z) := by
    unfold rt1
    rw [rlo_eq rfl, rlo_eq rfl, rhi_eq rfl, rhi_eq rfl]
    have e1 : (corn muls (eAt D x) (eAt D y)).1 = min (min ((eAt D x).1 * (eAt D y).1) ((eAt D x).1 * (eAt D y).2)) (min ((eAt D x).2 * (eAt D y).1) ((eAt D x).2 * (eAt D y).2)) := by
      unfold corn muls
      simp only
      omega
    have e2 : (corn muls (eAt D x) (eAt D y)).2 = max (max ((eAt D x).1 * (eAt D y).1) ((eAt D x).1 * (eAt D y).2)) (max ((eAt D x).2 * (eAt D y).1) ((eAt D x).2 * (eAt D y).2)) := by
      unfold corn muls
      simp only
      omega
    rw [e1, e2]
    exact eq_cut (eqs_refl _) fun _ => rfl
  unfold timesA rtimes
  exact eq_quo (eq_quo (eq_lose h1))
theorem eq_l2 (h : EqS s t) : EqS (cutA s x (eAt s.1 z).1 1048576) (rl2 t x z) := by
  unfold rl2
  cases hb : s.2
  · have e := h.2 hb
    subst e
    rw [rlo_eq hb]
    exact eq_cut (eqs_refl _) fun _ => far_hi _ _
  · unfold cutA rcut
    rw [if_pos hb, if_pos (bad_t h hb)]
    exact h
theorem eq_g2 (h : EqS s t) : EqS (cutA s x (-1048576) (eAt s.1 z).2) (rg2 t x z) := by
  unfold rg2
  cases hb : s.2
  · have e := h.2 hb
    subst e
    rw [rhi_eq hb]
    exact eq_cut (eqs_refl _) fun _ => far_lo _ _
  · unfold cutA rcut
    rw [if_pos hb, if_pos (bad_t h hb)]
    exact h
theorem cut_bad {lo hi : Int} (h : s.2 = true) : cutA s x lo hi = s := by unfold cutA; rw [if_pos h]
theorem eq_cap (h : EqS s t) : EqS (capA s x y z) (rcap t x y z) := by
  unfold capA rcap
  cases hb : s.2
  · have e := h.2 hb
    subst e
    rw [rlo_eq hb, rhi_eq hb]
    split
    · exact eq_cut (eqs_refl _) fun _ => far_lo _ _
    · exact eqs_refl _
  · rw [rlo_bad (bad_t h hb), rhi_bad (bad_t h hb), cut_bad hb]
    simp only [Int.lt_irrefl, if_false]
    split <;> exact h
theorem eq_cup (h : EqS s t) : EqS (cupA s x y z) (rcup t x y z) := by
  unfold cupA rcup
  cases hb : s.2
  · have e := h.2 hb
    subst e
    rw [rlo_eq hb, rhi_eq hb]
    split
    · exact eq_cut (eqs_refl _) fun _ => far_hi _ _
    · exact eqs_refl _
  · rw [rlo_bad (bad_t h hb), rhi_bad (bad_t h hb), cut_bad hb]
    simp only [Int.lt_irrefl, if_false]
    split <;> exact h
theorem eq_lesser (D : List (List Rg)) (x y z : Int) : EqS (lesserA D x y z) (rlesser (D, false) x y z) := by
  have h1 : EqS (cutA (D, false) z (min (eAt D x).1 (eAt D y).1) (min (eAt D x).2 (eAt D y).2)) (rl1 (D, false) x y z) := by
    unfold rl1
    rw [rlo_eq rfl, rlo_eq rfl, rhi_eq rfl, rhi_eq rfl]
    exact eq_cut (eqs_refl _) fun _ => rfl
  unfold lesserA lesser3 rlesser
  exact eq_cap (eq_cap (eq_l2 (eq_l2 h1)))
theorem eq_greater (D : List (List Rg)) (x y z : Int) : EqS (greaterA D x y z) (rgreater (D, false) x y z) := by
  have h1 : EqS (cutA (D, false) z (max (eAt D x).1 (eAt D y).1) (max (eAt D x).2 (eAt D y).2)) (rg1 (D, false) x y z) := by
    unfold rg1
    rw [rlo_eq rfl, rlo_eq rfl, rhi_eq rfl, rhi_eq rfl]
    exact eq_cut (eqs_refl _) fun _ => rfl
  unfold greaterA greater3 rgreater
  exact eq_cup (eq_cup (eq_g2 (eq_g2 h1)))
theorem eq_same (D : List (List Rg)) (x y : Int) : EqS (sameA D x y) (rsame (D, false) x y) := by
  have h1 : EqS (putA (D, false) x (meetS (rowOf D x) (rowOf D y))) (rsm1 (D, false) x y) := eq_put _ (eqs_refl _)
  unfold sameA rsame
  generalize putA (D, false) x (meetS (rowOf D x) (rowOf D y)) = s1 at h1 ⊢
  generalize rsm1 (D, false) x y = t1 at h1 ⊢
  cases hb : s1.2
  · have e := h1.2 hb
    subst e
    rw [if_neg (nb hb)]
    exact eq_put _ (eqs_refl _)
  · rw [if_pos (bad_t h1 hb)]
    refine eqs_bad ?_ (bad_t h1 hb)
    unfold putA
    split
    · rfl
    · exact hb
theorem eq_s2 (h : EqS s t) : EqS (size2 s x y) (rs4 t x y) := by
  unfold size2 rs4
  cases hb : s.2
  · have e := h.2 hb
    subst e
    rw [rhi_eq hb]
    exact eq_cut (eqs_refl _) fun _ => rfl
  · unfold cutA rcut
    rw [if_pos hb, if_pos (bad_t h hb)]
    exact h
theorem eq_s3 (h : EqS s t) : EqS (size3 s x y) (rs5 t x y) := by
  unfold size3 rs5
  cases hb : s.2
  · have e := h.2 hb
    subst e
    rw [rlo_eq hb]
    by_cases c : (eAt t.1 y).1 ≤ 0
    · rw [if_pos (.inr c), if_pos (.inr c)]
      exact eqs_refl _
    · rw [if_neg (by rintro (h | h); cases h; exact c h), if_neg (by rintro (h | h); exact nb hb h; exact c h)]
      rw [far_lo, far_hi]
      exact eq_put _ (eqs_refl _)
  · rw [if_pos (.inl rfl), if_pos (.inl (bad_t h hb))]
    exact h
end
theorem set_twice {D : List (List Rg)} {x : Int} {l m : List Rg} : (D.set x.toNat l).set x.toNat m = D.set x.toNat m := by rw [List.set_set]
theorem eq_s1 (D : List (List Rg)) (x y : Int) (hD : DOk D) (hx : 0 ≤ x ∧ x < D.length) (hy : 0 ≤ y ∧ y < D.length) : EqS (size1 D x y) (rs3 (rs2 (rs1 (D, false) x y) x y) x y) := by
  have hr := dom_right (hD y hy.1 hy.2)
  obtain ⟨-, -, b1, b2, b3, b4⟩ := ends_facts (hD x hx.1 hx.2)
  have e1 : rs1 (D, false) x y = rput (D, false) y (cutS 0 (max (eAt D x).2 (-(eAt D x).1)) (rowOf D y)) := by
    unfold rs1 rcut
    rw [rlo_eq rfl, rhi_eq rfl]
    rfl
  rw [e1]
  have e2 : size1 D x y = putA (D, false) y (cutS (max (max (eAt D x).1 (-(eAt D x).2)) 0) (max (eAt D x).2 (-(eAt D x).1)) (rowOf D y)) := by
    unfold size1 cutA
    rfl
  rw [e2]
  obtain ⟨f1, f2⟩ := cutS_facts 0 (max (eAt D x).2 (-(eAt D x).1)) hr.1
  obtain ⟨g1, g2⟩ := cutS_facts (max (max (eAt D x).1 (-(eAt D x).2)) 0) (max (eAt D x).2 (-(eAt D x).1)) hr.1
  have hxx : eAt D x = endsV (rowOf D x) := rfl
  rw [← hxx] at b1 b2 b3 b4
  generalize hL : max (max (eAt D x).1 (-(eAt D x).2)) 0 = L at g1 g2 ⊢
  generalize hm : max (eAt D x).2 (-(eAt D x).1) = m at f1 f2 g1 g2 ⊢
  generalize hr1 : cutS 0 m (rowOf D y) = r1 at f1 f2 ⊢
  generalize hr2 : cutS L m (rowOf D y) = r2 at g1 g2 ⊢
  by_cases h0 : r1.length = 0
  · have hbad : (rput (D, false) y r1).2 = true := by unfold rput; simp [h0]
    have k2 : rs2 (rput (D, false) y r1) x y = rput (D, false) y r1 := by unfold rs2; rw [rlo_bad hbad, if_neg (by omega)]
    have k3 : rs3 (rput (D, false) y r1) x y = rput (D, false) y r1 := by unfold rs3; rw [rhi_bad hbad, if_neg (by omega)]
    rw [k2, k3]
    have hz : r2 = [] := by
      refine sub_empty' (r := r2) ⟨g1, by decide, fun v hv => ?_⟩
      have := (g2 v).1 hv
      have hv1 := (f2 v).2 ⟨this.1, by omega, this.2.2⟩
      rw [List.length_eq_zero_iff.1 h0] at hv1
      exact hv1
    refine eqs_bad ?_ hbad
    unfold putA
    rw [hz]
    rfl
  · have ht : rput (D, false) y r1 = (D.set y.toNat r1, false) := by unfold rput; simp [h0]
    rw [ht]
    have hrow : rowOf (D.set y.toNat r1) y = r1 := by rw [row_set hy.1 hy.2 hy.1, if_pos rfl]
    have hput : ∀ l, rput (D.set y.toNat r1, false) y l = rput (D, false) y l := fun l => by
      unfold rput
      simp only [Bool.false_eq_true, if_false, set_twice]
    have hnb : ((D.set y.toNat r1, false) : Sd).2 = false := rfl
    by_cases hxy : x = y
    · subst hxy
      have hdm : domB r1 = true := by unfold domB; rw [f1]; simp; omega
      obtain ⟨p1, p2, p3, p4, p5, p6⟩ := ends_facts hdm
      have q1 := (f2 _).1 p1
      have q2 := (f2 _).1 p2
      have hlo : rlo (D.set x.toNat r1, false) x = (endsV r1).1 := by rw [rlo_eq hnb]; unfold eAt; rw [hrow]
      have k2 : rs2 (D.set x.toNat r1, false) x x = (D.set x.toNat r1, false) := by
        unfold rs2
        rw [hlo]
        split
        · unfold rcut
          rw [if_neg (by simp)]
          simp only
          rw [hrow, hput]
          have : cutS (endsV r1).1 1099511627776 r1 = r1 := by
            obtain ⟨c1, c2⟩ := cutS_facts (endsV r1).1 1099511627776 f1
            refine right_ext c1 f1 fun v => ?_
            rw [c2]
            constructor
            · exact fun h => h.1
            · intro h
              have := p3 v h
              exact ⟨h, this.1, by omega⟩
          rw [this, ht]
        · rfl
      have hhi : rhi (D.set x.toNat r1, false) x = (endsV r1).2 := by rw [rhi_eq hnb]; unfold eAt; rw [hrow]
      have k3 : rs3 (D.set x.toNat r1, false) x x = (D.set x.toNat r1, false) := by
        unfold rs3
        rw [hhi, if_neg (by omega)]
      rw [k2, k3, ← ht]
      have : r2 = r1 := by
        refine right_ext g1 f1 fun v => ?_
        rw [g2, f2]
        constructor
        · intro ⟨a, b, c⟩; exact ⟨a, by omega, c⟩
        · intro ⟨a, b, c⟩
          have := b1 v a
          exact ⟨a, by omega, c⟩
      rw [this]
      exact eq_put _ (eqs_refl _)
    · have hro : rowOf (D.set y.toNat r1) x = rowOf D x := by rw [row_set hy.1 hy.2 hx.1, if_neg (fun h => hxy h.symm)]
      have hlo : rlo (D.set y.toNat r1, false) x = (eAt D x).1 := by rw [rlo_eq hnb]; unfold eAt; rw [hro]
      have hhi : rhi (D.set y.toNat r1, false) x = (eAt D x).2 := by rw [rhi_eq hnb]; unfold eAt; rw [hro]
      have hcut : ∀ a, 0 ≤ a → max a 0 = L → rcut (D.set y.toNat r1, false) y a 1099511627776 = rput (D, false) y r2 := fun a ha hL' => by
        unfold rcut
        rw [if_neg (by simp)]
        simp only
        rw [hrow, hput]
        have : cutS a 1099511627776 r1 = r2 := by
          obtain ⟨c1, c2⟩ := cutS_facts a 1099511627776 f1
          refine right_ext c1 g1 fun v => ?_
          rw [c2, f2, g2]
          constructor
          · intro ⟨⟨a, b, c⟩, d, e⟩; exact ⟨a, by omega, c⟩
          · intro ⟨a, b, c⟩
            exact ⟨⟨a, by omega, c⟩, by omega, by omega⟩
        rw [this]
      by_cases c1 : 0 < (eAt D x).1
      · have k2 : rs2 (D.set y.toNat r1, false) x y = rput (D, false) y r2 := by
          unfold rs2
          rw [hlo, if_pos c1, hcut _ (by omega) (by omega)]
        have k3 : rs3 (rput (D, false) y r2) x y = rput (D, false) y r2 := by
          unfold rs3
          rw [if_neg]
          cases hb : (rput (D, false) y r2).2
          · rw [rhi_eq hb]
            have : (rput (D, false) y r2).1 = D.set y.toNat r2 := by unfold rput; simp
            rw [this]
            unfold eAt
            rw [row_set hy.1 hy.2 hx.1, if_neg (fun h => hxy h.symm), ← hxx]
            omega
          · rw [rhi_bad hb]; omega
        rw [k2, k3]
        exact eq_put _ (eqs_refl _)
      · have k2 : rs2 (D.set y.toNat r1, false) x y = (D.set y.toNat r1, false) := by
          unfold rs2
          rw [hlo, if_neg c1]
        rw [k2]
        unfold rs3
        rw [hhi]
        by_cases c2 : (eAt D x).2 < 0
        · rw [if_pos c2, hcut _ (by omega) (by omega)]
          exact eq_put _ (eqs_refl _)
        · rw [if_neg c2, ← ht]
          have : r2 = r1 := by
            rw [← hr1, ← hr2]
            congr 1
            omega
          rw [this]
          exact eq_put _ (eqs_refl _)
theorem eq_size (D : List (List Rg)) (x y : Int) (hD : DOk D) (hx : 0 ≤ x ∧ x < D.length) (hy : 0 ≤ y ∧ y < D.length) : EqS (sizeA D x y) (rsize (D, false) x y) := by
  unfold sizeA rsize
  exact eq_s3 (eq_s2 (eq_s1 D x y hD hx hy))
end Go.Proofs.Ytbhigfllanblpaa
