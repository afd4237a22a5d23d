/- Plain laws of sums: smaller domains lead to smaller ones. -/
import Derived.Test.YtclpkkbamgmooaaPlMod
namespace Go.Proofs.Ytclpkkbamgmooaa
open Av
set_option linter.unusedSimpArgs false
set_option linter.unusedVariables false
theorem le_rowd {E D : List (List Rg)} (hle : LeD E D) {x : Int} (hx : 0 ≤ x ∧ x < D.length) : Sub (rowOf E x) (rowOf D x) := hle.2 x hx.1 hx.2
theorem eAt_le {E D : List (List Rg)} (hle : LeD E D) (hE : DOk E) (hD : DOk D) {x : Int} (hx : 0 ≤ x ∧ x < D.length) : (eAt D x).1 ≤ (eAt E x).1 ∧ (eAt E x).1 ≤ (eAt E x).2 ∧ (eAt E x).2 ≤ (eAt D x).2 := by
  obtain ⟨m1, m2, _, _, h4, _⟩ := ends_facts (hE x hx.1 (by rw [hle.1]; exact hx.2))
  obtain ⟨_, _, h3, _⟩ := ends_facts (hD x hx.1 hx.2)
  have hs := (le_rowd hle hx).2.2
  exact ⟨(h3 _ (hs _ m1)).1, h4, (h3 _ (hs _ m2)).2⟩
theorem term_up {E D : List (List Rg)} (hle : LeD E D) (hE : DOk E) (hD : DOk D) {t : Tm} (hx : 0 ≤ t.2 ∧ t.2 < D.length) : (termE D t).1 ≤ (termE E t).1 := by
  obtain ⟨h1, h2, h3⟩ := eAt_le hle hE hD hx
  unfold termE
  split
  · exact Int.mul_le_mul_of_nonpos_left (by omega) h3
  · exact Int.mul_le_mul_of_nonneg_left h1 (by omega)
theorem span_up {E D : List (List Rg)} {T : List Tm} (hle : LeD E D) (hE : DOk E) (hD : DOk D) (hT : TOk T D) : ∀ {n : Nat}, n ≤ T.length → (spanK D T n).1 ≤ (spanK E T n).1 ∧ ∀ k, k < n → (termE E (tX T k)).1 - (termE D (tX T k)).1 ≤ (spanK E T n).1 - (spanK D T n).1
  | 0, _ => by simp [spanK]
  | n + 1, h => by
    obtain ⟨h1, h2⟩ := span_up hle hE hD hT (n := n) (by omega)
    have h3 := term_up hle hE hD (hT.2 n (by omega)).2
    unfold spanK
    simp only
    refine ⟨by omega, fun k hk => ?_⟩
    by_cases e : k = n
    · subst e; omega
    · have := h2 k (by omega)
      omega
/-- what is cut is no more than what is cut of more values -/
theorem cut_sub2 {r s : List Rg} {a b c d : Int} (h : Sub r s) (h1 : c ≤ a) (h2 : b ≤ d) : Sub (cutS a b r) (cutS c d s) := by
  obtain ⟨f1, f2⟩ := cutS_facts a b h.1
  obtain ⟨g1, g2⟩ := cutS_facts c d h.2.1
  refine ⟨f1, g1, fun v hv => ?_⟩
  rw [f2] at hv
  rw [g2]
  exact ⟨h.2.2 v hv.1, by omega, by omega⟩
theorem div_room {q p a d : Int} (ha : 0 < a) (hq : 0 ≤ q) (hp : 0 ≤ p) (h : q + a * d ≤ p) : d + q.tdiv a ≤ p.tdiv a := by
  rw [Int.tdiv_eq_ediv_of_nonneg hq, Int.tdiv_eq_ediv_of_nonneg hp]
  have e : d + q / a = (q + a * d) / a := by rw [Int.add_mul_ediv_left _ _ (by omega)]; omega
  rw [e]
  exact Int.ediv_le_ediv ha h
theorem cutOf_le {E D : List (List Rg)} (hle : LeD E D) (hE : DOk E) (hD : DOk D) {t : Tm} (hx : 0 ≤ t.2 ∧ t.2 < D.length) {q p : Int} (hq : 0 ≤ q) (h : (termE E t).1 - (termE D t).1 ≤ p - q) :
    (cutOf D p t).1 ≤ (cutOf E q t).1 ∧ (cutOf E q t).2 ≤ (cutOf D p t).2 := by
  obtain ⟨h1, h2, h3⟩ := eAt_le hle hE hD hx
  have htu := term_up hle hE hD hx
  unfold termE at h htu
  unfold cutOf
  by_cases a1 : 0 < t.1
  · rw [if_neg (by omega), if_neg (by omega)] at h
    rw [if_neg (by omega), if_neg (by omega)] at htu
    rw [if_pos a1, if_pos a1]
    simp only at h htu ⊢
    have := div_room (q := q) (p := p) (a := t.1) (d := (eAt E t.2).1 - (eAt D t.2).1) a1 hq (by omega) (by rw [Int.mul_sub]; omega)
    omega
  · by_cases a2 : t.1 < 0
    · rw [if_pos a2, if_pos a2] at h
      rw [if_pos a2, if_pos a2] at htu
      rw [if_neg a1, if_pos a2, if_neg a1, if_pos a2]
      simp only at h htu ⊢
      have := div_room (q := q) (p := p) (a := -t.1) (d := (eAt D t.2).2 - (eAt E t.2).2) (by omega) hq (by omega) (by rw [Int.neg_mul, Int.mul_sub]; omega)
      omega
    · rw [if_neg a1, if_neg a2, if_neg a1, if_neg a2]
      exact ⟨h1, h3⟩
theorem setrow_le {E D : List (List Rg)} {x : Int} {r s : List Rg} (hle : LeD E D) (hx : 0 ≤ x ∧ x < D.length) (hs : Sub r s) : LeD (E.set x.toNat r) (D.set x.toNat s) := by
  refine ⟨by rw [List.length_set, List.length_set]; exact hle.1, fun y h0 h1 => ?_⟩
  rw [List.length_set] at h1
  rw [row_set hx.1 (by rw [hle.1]; exact hx.2) h0, row_set hx.1 hx.2 h0]
  split
  · exact hs
  · exact hle.2 y h0 h1
theorem most_up {E D : List (List Rg)} {T : List Tm} {q p : Int} (hle : LeD E D) (hE : DOk E) (hD : DOk D) (hT : TOk T D) (hq : 0 ≤ q) (hr : ∀ k, k < T.length → (termE E (tX T k)).1 - (termE D (tX T k)).1 ≤ p - q) : ∀ {k : Nat}, k ≤ T.length → LeD (mostK E T q k) (mostK D T p k)
  | 0, _ => hle
  | k + 1, h => by
    have h1 := most_up hle hE hD hT hq hr (k := k) (by omega)
    obtain ⟨_, h2⟩ := hT.2 k (by omega)
    have hl := (most_le (room := p) hD hT (k := k) (by omega)).1
    obtain ⟨c1, c2⟩ := cutOf_le hle hE hD h2 hq (hr k (by omega))
    unfold mostK
    exact setrow_le h1 (by rw [hl]; exact h2) (cut_sub2 (le_rowd h1 (by rw [hl]; exact h2)) c1 c2)
theorem whole_up {E D : List (List Rg)} (hle : LeD E D) (h : wholeB D = false) : wholeB E = false := by
  unfold wholeB at h ⊢
  rw [Bool.not_eq_false', List.any_eq_true] at h ⊢
  obtain ⟨r, hr, h0⟩ := h
  obtain ⟨i, hi, rfl⟩ := List.getElem_of_mem hr
  have hx : 0 ≤ (i : Int) ∧ (i : Int) < D.length := by omega
  have hs := le_rowd hle hx
  have e : rowOf D (i : Int) = D[i] := by
    have := row_get hx
    rw [Int.toNat_natCast, List.getElem?_eq_getElem hi] at this
    injection this with this
    exact this.symm
  rw [e] at hs
  have h0' : D[i] = [] := by
    rw [decide_eq_true_eq] at h0
    exact List.length_eq_zero_iff.1 h0
  refine ⟨rowOf E i, row_mem ⟨hx.1, by rw [hle.1]; exact hx.2⟩, ?_⟩
  rw [decide_eq_true_eq, List.length_eq_zero_iff]
  rw [h0'] at hs
  cases hq : rowOf E i with
  | nil => rfl
  | cons a l =>
    exfalso
    rw [hq] at hs
    have := right_rg hs.1 (k := 0) (x := a.1) (y := a.2) rfl
    exact mem_nil a.1 (hs.2.2 a.1 ⟨a, by simp, Int.le_refl _, this.1⟩)
/-- a narrowing of smaller domains, and one of larger ones -/
def Up (s t : List (List Rg) × Bool) : Prop := (t.2 = false → s.2 = false) ∧ (s.2 = true → LeD s.1 t.1)
theorem mostS_up {E D : List (List Rg)} {T : List Tm} {n : Int} (hle : LeD E D) (hE : DOk E) (hD : DOk D) (hT : TOk T D) : Up (mostS E T n) (mostS D T n) := by
  obtain ⟨h1, h2⟩ := span_up hle hE hD hT (n := T.length) (Nat.le_refl _)
  unfold mostS
  by_cases hq : n - (spanK E T T.length).1 < 0
  · rw [if_pos hq]
    exact ⟨fun _ => rfl, fun h => by cases h⟩
  · rw [if_neg hq, if_neg (by omega)]
    have := most_up (q := n - (spanK E T T.length).1) (p := n - (spanK D T T.length).1) hle hE hD hT (by omega) (fun k hk => by have := h2 k hk; omega) (k := T.length) (Nat.le_refl _)
    exact ⟨fun h => whole_up this h, fun _ => this⟩
theorem most_leD {D E : List (List Rg)} {T : List Tm} {n : Int} {b : Bool} (hD : DOk D) (hT : TOk T D) (hs : mostS D T n = (E, b)) : LeD E D := by
  unfold mostS at hs
  split at hs <;> (injection hs with h1 h2; subst h1)
  · exact le_refl_of hD
  · exact most_le hD hT (Nat.le_refl _)
theorem most_wh {D E : List (List Rg)} {T : List Tm} {n : Int} (hs : mostS D T n = (E, true)) : wholeB E = true := by
  unfold mostS at hs
  split at hs <;> injection hs with h1 h2
  · cases h2
  · subst h1; exact h2
theorem isS_up {E D : List (List Rg)} {T : List Tm} {n : Int} (hle : LeD E D) (hE : DOk E) (hD : DOk D) (hT : TOk T D) : Up (isS E T n) (isS D T n) := by
  have h1 := mostS_up (n := n) hle hE hD hT
  have hTE : TOk T E := ⟨hT.1, fun k hk => by have := hT.2 k hk; rw [hle.1]; exact this⟩
  unfold isS
  cases hsE : mostS E T n with
  | mk E1 b1 =>
    cases hsD : mostS D T n with
    | mk D1 b2 =>
      rw [hsE, hsD] at h1
      cases b1
      · exact ⟨fun _ => rfl, fun h => by cases h⟩
      · cases b2
        · have := h1.1 rfl; cases this
        · have l1 := most_leD hE hTE hsE
          have l2 := most_leD hD hT hsD
          exact mostS_up (h1.2 rfl) (whole_ok l1 (most_wh hsE)) (whole_ok l2 (most_wh hsD)) (opp_ok hT l2.1)
/-- open terms of smaller domains -/
theorem open_up {E D : List (List Rg)} {T : List Tm} (hle : LeD E D) (hE : DOk E) (hD : DOk D) (hT : TOk T D) : ∀ {k : Nat}, k ≤ T.length →
    ((openK D T k).1 = [] → openK E T k = openK D T k) ∧ ∀ t, (openK D T k).1 = [t] → openK E T k = openK D T k ∨ ((openK E T k).1 = [] ∧ (openK E T k).2 = (openK D T k).2 + t.1 * (eAt E t.2).1 ∧ (eAt E t.2).1 = (eAt E t.2).2)
  | 0, _ => by simp [openK]
  | k + 1, h => by
    obtain ⟨h1, h2⟩ := open_up hle hE hD hT (k := k) (by omega)
    obtain ⟨_, hx⟩ := hT.2 k (by omega)
    obtain ⟨e1, e2, e3⟩ := eAt_le hle hE hD hx
    generalize ht : tX T k = t at hx e1 e2 e3
    unfold openK
    rw [ht]
    by_cases hc : t.1 = 0 ∨ (eAt D t.2).1 = (eAt D t.2).2
    · have hc' : t.1 = 0 ∨ (eAt E t.2).1 = (eAt E t.2).2 := by omega
      have he : t.1 * (eAt E t.2).1 = t.1 * (eAt D t.2).1 := by
        rcases hc with h0 | h0
        · rw [h0]; simp
        · rw [show (eAt E t.2).1 = (eAt D t.2).1 by omega]
      rw [if_pos hc, if_pos hc']
      simp only
      refine ⟨fun hn => by rw [h1 hn, he], fun u hu => ?_⟩
      rcases h2 u hu with h3 | ⟨h3, h4, h5⟩
      · left; rw [h3, he]
      · right; exact ⟨h3, by rw [h4, he]; omega, h5⟩
    · rw [if_neg hc]
      simp only
      refine ⟨fun hn => by simp at hn, fun u hu => ?_⟩
      have hn : (openK D T k).1 = [] := by
        cases hq : (openK D T k).1 with
        | nil => rfl
        | cons a l => rw [hq] at hu; simp at hu
      rw [hn] at hu
      simp at hu
      subst hu
      by_cases hc' : t.1 = 0 ∨ (eAt E t.2).1 = (eAt E t.2).2
      · rw [if_pos hc']
        right
        rw [h1 hn]
        exact ⟨hn, rfl, by omega⟩
      · rw [if_neg hc']
        left
        rw [h1 hn]
theorem without_sub2 {r s : List Rg} (h : Sub r s) (v : Int) : Sub (withoutS v r) (withoutS v s) := by
  obtain ⟨f1, f2⟩ := withoutS_facts v h.1
  obtain ⟨g1, g2⟩ := withoutS_facts v h.2.1
  exact ⟨f1, g1, fun u hu => by rw [f2] at hu; rw [g2]; exact ⟨h.2.2 u hu.1, hu.2⟩⟩
theorem notS_up {E D : List (List Rg)} {T : List Tm} {n : Int} (hle : LeD E D) (hE : DOk E) (hD : DOk D) (hT : TOk T D) (hlE : ∀ E' b, notS E T n = (E', b) → LeD E' E) : Up (notS E T n) (notS D T n) := by
  obtain ⟨h1, h2⟩ := open_up hle hE hD hT (k := T.length) (Nat.le_refl _)
  obtain ⟨_, _, h3⟩ := open_facts hD hT (k := T.length) (Nat.le_refl _)
  have any_ok : ∀ D', notS D T n = (D', true) → D' = D → Up (notS E T n) (notS D T n) := by
    intro D' hd e
    subst e
    rw [hd]
    refine ⟨fun h => (by cases h), fun _ => ?_⟩
    exact (hlE _ _ rfl).trans hle
  by_cases c1 : 1 < (openK D T T.length).1.length
  · exact any_ok D (by unfold notS; rw [if_pos c1]) rfl
  by_cases c0 : (openK D T T.length).1 = []
  · have hd : ∀ F : List (List Rg), notS F T n = if 1 < (openK F T T.length).1.length then (F, true) else if (openK F T T.length).1.length = 0 then (F, decide (¬ n - (openK F T T.length).2 = 0)) else
        if ¬ (n - (openK F T T.length).2).tmod (tX (openK F T T.length).1 0).1 = 0 then (F, true) else
      (F.set (tX (openK F T T.length).1 0).2.toNat (withoutS ((n - (openK F T T.length).2).tdiv (tX (openK F T T.length).1 0).1) (rowOf F (tX (openK F T T.length).1 0).2)),
        wholeB (F.set (tX (openK F T T.length).1 0).2.toNat (withoutS ((n - (openK F T T.length).2).tdiv (tX (openK F T T.length).1 0).1) (rowOf F (tX (openK F T T.length).1 0).2)))) := fun F => rfl
    rw [hd E, hd D, h1 c0, c0]
    simp only [List.length_nil, Nat.not_lt_zero, if_false, if_true, show ¬ 1 < 0 by omega]
    exact ⟨fun h => h, fun _ => hle⟩
  · obtain ⟨t, ht⟩ : ∃ t, (openK D T T.length).1 = [t] := by
      cases hq : (openK D T T.length).1 with
      | nil => exact absurd hq c0
      | cons a l =>
        cases l with
        | nil => exact ⟨a, rfl⟩
        | cons b m => rw [hq] at c1; simp at c1
    obtain ⟨t0, tb, tx⟩ := h3 t (by rw [ht]; simp)
    have hd : ∀ F : List (List Rg), (openK F T T.length).1 = [t] → notS F T n = if ¬ (n - (openK F T T.length).2).tmod t.1 = 0 then (F, true) else
      (F.set t.2.toNat (withoutS ((n - (openK F T T.length).2).tdiv t.1) (rowOf F t.2)), wholeB (F.set t.2.toNat (withoutS ((n - (openK F T T.length).2).tdiv t.1) (rowOf F t.2)))) := by
      intro F hF
      unfold notS
      rw [hF]
      have : tX [t] 0 = t := rfl
      simp [this]
    by_cases cm : (n - (openK D T T.length).2).tmod t.1 = 0
    · rcases h2 t ht with he | ⟨e1, e2, e3⟩
      · rw [hd D ht, hd E (by rw [he]; exact ht), he, if_neg (by simpa using cm), if_neg (by simpa using cm)]
        have := setrow_le hle tx (without_sub2 (le_rowd hle tx) ((n - (openK D T T.length).2).tdiv t.1))
        exact ⟨fun h => whole_up this h, fun _ => this⟩
      · have hn : notS E T n = (E, decide (¬ n - (openK E T T.length).2 = 0)) := by
          unfold notS
          rw [e1]
          simp
        have hdv : (n - (openK D T T.length).2).tdiv t.1 * t.1 = n - (openK D T T.length).2 := Int.tdiv_mul_cancel (Int.dvd_of_tmod_eq_zero cm)
        rw [hd D ht, hn, if_neg (by simpa using cm), e2]
        generalize hv : (n - (openK D T T.length).2).tdiv t.1 = v at hdv
        generalize hs : (openK D T T.length).2 = s at hdv
        obtain ⟨m1, m2, m3, _⟩ := ends_facts (hE t.2 tx.1 (by rw [hle.1]; exact tx.2))
        change Mem _ (eAt E t.2).1 at m1
        change ∀ w, _ → (eAt E t.2).1 ≤ w ∧ w ≤ (eAt E t.2).2 at m3
        have hS := le_rowd hle tx
        obtain ⟨f1, f2⟩ := withoutS_facts v hS.2.1
        by_cases hu : (eAt E t.2).1 = v
        · have hz : n - (s + t.1 * (eAt E t.2).1) = 0 := by rw [hu, Int.mul_comm]; omega
          refine ⟨fun _ => by simp [hz], fun h => ?_⟩
          simp [hz] at h
        · have hsub : Sub (rowOf E t.2) (withoutS v (rowOf D t.2)) := ⟨hS.1, f1, fun w hw => by
            rw [f2]
            refine ⟨hS.2.2 w hw, fun e => ?_⟩
            have := m3 w hw
            omega⟩
          have hz : ¬ n - (s + t.1 * (eAt E t.2).1) = 0 := by
            intro hz
            apply hu
            have : t.1 * (eAt E t.2).1 = t.1 * v := by rw [Int.mul_comm t.1 v]; omega
            exact Int.eq_of_mul_eq_mul_left t0 this
          have hset := setrow_le (x := t.2) (r := rowOf E t.2) hle tx hsub
          rw [set_self ⟨tx.1, by rw [hle.1]; exact tx.2⟩] at hset
          refine ⟨fun h => ?_, fun _ => hset⟩
          have := whole_up hset h
          exfalso
          unfold wholeB at this
          rw [Bool.not_eq_false', List.any_eq_true] at this
          obtain ⟨r, hr, h0⟩ := this
          obtain ⟨i, hi, rfl⟩ := List.getElem_of_mem hr
          have hx : 0 ≤ (i : Int) ∧ (i : Int) < E.length := by omega
          have := dom_right (hE i hx.1 hx.2)
          have e : rowOf E (i : Int) = E[i] := by
            have := row_get hx
            rw [Int.toNat_natCast, List.getElem?_eq_getElem hi] at this
            injection this with this
            exact this.symm
          rw [e] at this
          rw [decide_eq_true_eq] at h0
          omega
    · exact any_ok D (by rw [hd D ht, if_pos (by simpa using cm)]) rfl
theorem tell_up {s t : List (List Rg) × Bool} (h : Up s t) : (∃ E, tell t = (E, 0) ∧ (tell s = ([], 12) ∨ ∃ E', tell s = (E', 0) ∧ LeD E' E)) ∨ (tell t = ([], 12) ∧ tell s = ([], 12)) := by
  obtain ⟨E, b⟩ := s
  obtain ⟨D, c⟩ := t
  cases c
  · have := h.1 rfl
    simp only at this
    subst this
    exact .inr ⟨rfl, rfl⟩
  · refine .inl ⟨D, rfl, ?_⟩
    cases b
    · exact .inl rfl
    · exact .inr ⟨E, rfl, h.2 rfl⟩
end Go.Proofs.Ytclpkkbamgmooaa
