/- Plain laws: a sum that has to be at most a number leaves tight domains. -/
import Derived.Test.YtbhigfllanblpaaGLinLaw
namespace Go.Proofs.Ytbhigfllanblpaa
open Av
set_option linter.unusedSimpArgs false
set_option linter.unusedVariables false
/-! fewer values: fewer assignments -/
theorem sorted_sub : ∀ (m l : List Int), l.Pairwise (· < ·) → m.Pairwise (· < ·) → (∀ x ∈ l, x ∈ m) → l.length ≤ m.length
  | [], [], _, _, _ => Nat.le_refl _
  | [], a :: l, _, _, h => absurd (h a (by simp)) (by simp)
  | b :: m, [], _, _, _ => by simp
  | b :: m, a :: l, h1, h2, h3 => by
    obtain ⟨p1, p2⟩ := List.pairwise_cons.1 h1
    obtain ⟨q1, q2⟩ := List.pairwise_cons.1 h2
    by_cases e : a = b
    · subst e
      have := sorted_sub m l p2 q2 fun x hx => by
        rcases List.mem_cons.1 (h3 x (by simp [hx])) with h | h
        · have := p1 x hx; omega
        · exact h
      simp; omega
    · have ha : a ∈ m := by
        rcases List.mem_cons.1 (h3 a (by simp)) with h | h
        · exact absurd h e
        · exact h
      have hba := q1 a ha
      have := sorted_sub m (a :: l) h1 q2 fun x hx => by
        rcases List.mem_cons.1 (h3 x hx) with h | h
        · rcases List.mem_cons.1 hx with h' | h'
          · omega
          · have := p1 x h'; omega
        · exact h
      simp at this ⊢; omega
theorem all_len : ∀ {E D : List (List Rg)}, E.length = D.length → (∀ (i : Nat) r s, E[i]? = some r → D[i]? = some s → Sub r s) → (allA E).length ≤ (allA D).length
  | [], [], _, _ => Nat.le_refl _
  | [], _ :: _, h, _ => by simp at h
  | _ :: _, [], h, _ => by simp at h
  | r :: E, s :: D, h, hs => by
    have h1 := all_len (E := E) (D := D) (by simpa using h) fun i a b ha hb => hs (i + 1) a b (by simpa using ha) (by simpa using hb)
    have h2 := hs 0 r s rfl rfl
    have h3 := sorted_sub (valsGo s) (valsGo r) (vals_sorted (right_wf h2.1).1) (vals_sorted (right_wf h2.2.1).1) fun v hv => mem_vals.2 (h2.2.2 v (mem_vals.1 hv))
    have e1 : ∀ (L : List Int) (c : Nat), (L.map fun _ => c).sum = L.length * c := by
      intro L c
      induction L with
      | nil => simp
      | cons a l ih => simp [ih, Nat.add_mul]; omega
    have e : ∀ (r : List Rg) (D : List (List Rg)), (allA (r :: D)).length = (valsGo r).length * (allA D).length := fun r D => by
      have e0 : allA (r :: D) = (valsGo r).flatMap fun v => (allA D).map fun a => v :: a := rfl
      rw [e0, List.length_flatMap]
      simp only [List.length_map]
      rw [e1]
    rw [e, e]
    exact Nat.mul_le_mul h3 h1
theorem le_at {E D : List (List Rg)} (h : LeD E D) : ∀ (i : Nat) r s, E[i]? = some r → D[i]? = some s → Sub r s := by
  intro i r s hr hs
  have hi : i < D.length := (List.getElem?_eq_some_iff.1 hs).1
  have := h.2 (i : Int) (by omega) (by omega)
  have h1 : rowOf E (i : Int) = r := by unfold rowOf; rw [Int.toNat_natCast, hr]; rfl
  have h2 : rowOf D (i : Int) = s := by unfold rowOf; rw [Int.toNat_natCast, hs]; rfl
  rw [h1, h2] at this
  exact this
/-! no variable twice -/
def Alone (T : List Tm) : Prop := ∀ i k, k < i → i < T.length → ¬ (tX T i).2 = (tX T k).2
theorem row_most {D : List (List Rg)} {T : List Tm} {room : Int} (hD : DOk D) (hT : TOk T D) (hA : Alone T) : ∀ {n : Nat}, n ≤ T.length →
    (∀ k, k < n → rowOf (mostK D T room n) (tX T k).2 = cutS (cutOf D room (tX T k)).1 (cutOf D room (tX T k)).2 (rowOf D (tX T k).2)) ∧
    ∀ y : Int, 0 ≤ y → (∀ k, k < n → ¬ (tX T k).2 = y) → rowOf (mostK D T room n) y = rowOf D y
  | 0, _ => ⟨fun k hk => by omega, fun y _ _ => rfl⟩
  | n + 1, h => by
    obtain ⟨h1, h2⟩ := row_most (room := room) hD hT hA (n := n) (by omega)
    obtain ⟨_, hx⟩ := hT.2 n (by omega)
    have hl := (most_le (room := room) hD hT (k := n) (by omega)).1
    have hn := h2 (tX T n).2 hx.1 fun k hk e => hA n k hk (by omega) e.symm
    unfold mostK
    refine ⟨fun k hk => ?_, fun y hy hne => ?_⟩
    · obtain ⟨_, hxk⟩ := hT.2 k (by omega)
      rw [row_set hx.1 (by rw [hl]; exact hx.2) hxk.1]
      by_cases e : k = n
      · subst e; rw [if_pos rfl, hn]
      · rw [if_neg (fun e' => hA n k (by omega) (by omega) e')]
        exact h1 k (by omega)
    · rw [row_set hx.1 (by rw [hl]; exact hx.2) hy, if_neg (hne n (by omega))]
      exact h2 y hy fun k hk => hne k (by omega)
section
variable {D E : List (List Rg)} {T : List Tm} {R : Int}
/-- what a cut leaves of a term -/
theorem term_cut (hD : DOk D) (hE : DOk E) {t : Tm} (hx : 0 ≤ t.2 ∧ t.2 < D.length) (hl : E.length = D.length) (hR : 0 ≤ R) (hr : rowOf E t.2 = cutS (cutOf D R t).1 (cutOf D R t).2 (rowOf D t.2)) :
    (termE E t).1 = (termE D t).1 ∧ ∀ v, Mem (rowOf E t.2) v → t.1 * v ≤ (termE E t).1 + R := by
  obtain ⟨m1, m2, m3, _, m5, _⟩ := ends_facts (hD t.2 hx.1 hx.2)
  obtain ⟨n1, n2, n3, _, n5, _⟩ := ends_facts (hE t.2 hx.1 (by rw [hl]; exact hx.2))
  obtain ⟨-, c2⟩ := cutS_facts (cutOf D R t).1 (cutOf D R t).2 (dom_right (hD t.2 hx.1 hx.2)).1
  rw [← hr] at c2
  change Mem _ (eAt D t.2).1 at m1
  change Mem _ (eAt D t.2).2 at m2
  change ∀ v, _ → (eAt D t.2).1 ≤ v ∧ v ≤ (eAt D t.2).2 at m3
  change (eAt D t.2).1 ≤ (eAt D t.2).2 at m5
  change Mem _ (eAt E t.2).1 at n1
  change Mem _ (eAt E t.2).2 at n2
  change ∀ v, _ → (eAt E t.2).1 ≤ v ∧ v ≤ (eAt E t.2).2 at n3
  unfold cutOf at c2
  unfold termE
  by_cases a1 : 0 < t.1
  · rw [if_pos a1] at c2
    simp only at c2
    have hq : 0 ≤ R.tdiv t.1 := by rw [Int.tdiv_eq_ediv_of_nonneg hR]; exact Int.ediv_nonneg hR (by omega)
    have hlo := n3 _ ((c2 (eAt D t.2).1).2 ⟨m1, by omega, by omega⟩)
    have hlo2 := m3 _ ((c2 _).1 n1).1
    have he : (eAt E t.2).1 = (eAt D t.2).1 := by omega
    rw [if_neg (by omega), if_neg (by omega), he]
    refine ⟨rfl, fun v hv => ?_⟩
    have hv2 := (c2 v).1 hv
    have h3 : t.1 * (v - (eAt D t.2).1) ≤ t.1 * R.tdiv t.1 := Int.mul_le_mul_of_nonneg_left (by omega) (by omega)
    have h4 : t.1 * R.tdiv t.1 ≤ R := by
      rw [Int.tdiv_eq_ediv_of_nonneg hR]
      have := Int.mul_ediv_self_le (x := R) (k := t.1) (by omega)
      exact this
    rw [Int.mul_sub] at h3
    simp only
    omega
  · by_cases a2 : t.1 < 0
    · rw [if_neg a1, if_pos a2] at c2
      simp only at c2
      have hq : 0 ≤ R.tdiv (-t.1) := by rw [Int.tdiv_eq_ediv_of_nonneg hR]; exact Int.ediv_nonneg hR (by omega)
      have hhi := n3 _ ((c2 (eAt D t.2).2).2 ⟨m2, by omega, by omega⟩)
      have hhi2 := m3 _ ((c2 _).1 n2).1
      have he : (eAt E t.2).2 = (eAt D t.2).2 := by omega
      rw [if_pos a2, if_pos a2, he]
      refine ⟨rfl, fun v hv => ?_⟩
      have hv2 := (c2 v).1 hv
      have h3 : -t.1 * ((eAt D t.2).2 - v) ≤ -t.1 * R.tdiv (-t.1) := Int.mul_le_mul_of_nonneg_left (by omega) (by omega)
      have h4 : -t.1 * R.tdiv (-t.1) ≤ R := by
        rw [Int.tdiv_eq_ediv_of_nonneg hR]
        have := Int.mul_ediv_self_le (x := R) (k := -t.1) (by omega)
        exact this
      rw [Int.mul_sub, Int.neg_mul, Int.neg_mul] at h3
      rw [Int.neg_mul] at h4
      rw [Int.neg_mul] at h3
      simp only
      omega
    · have h0 : t.1 = 0 := by omega
      rw [if_neg a2, if_neg a2, h0]
      simp
      exact fun _ _ => hR
/-- low values, but for one variable -/
noncomputable def coef (T : List Tm) (i : Nat) : Int := by
  classical exact if h : ∃ k, k < T.length ∧ (tX T k).2 = (i : Int) then (tX T (Classical.choose h)).1 else 0
theorem coef_at (hA : Alone T) {k : Nat} (hk : k < T.length) (h0 : 0 ≤ (tX T k).2) : coef T (tX T k).2.toNat = (tX T k).1 := by
  have h : ∃ j, j < T.length ∧ (tX T j).2 = (((tX T k).2.toNat : Nat) : Int) := ⟨k, hk, by omega⟩
  have hc := Classical.choose_spec h
  have e : Classical.choose h = k := by
    rcases Nat.lt_trichotomy (Classical.choose h) k with h1 | h1 | h1
    · exact absurd (by omega) (hA k (Classical.choose h) h1 hk)
    · exact h1
    · exact absurd (by omega) (hA (Classical.choose h) k h1 hc.1)
  unfold coef
  rw [dif_pos h, e]
noncomputable def lowV (E : List (List Rg)) (T : List Tm) (i : Nat) : Int := if coef T i < 0 then (eAt E i).2 else (eAt E i).1
noncomputable def lowA (E : List (List Rg)) (T : List Tm) (x : Nat) (v : Int) : List Int := (List.range E.length).map fun i => if i = x then v else lowV E T i
theorem low_at {x : Nat} {v : Int} {i : Nat} (hi : i < E.length) : (lowA E T x v)[i]? = some (if i = x then v else lowV E T i) := by
  unfold lowA
  rw [List.getElem?_map, List.getElem?_range hi]; rfl
theorem low_xat {x : Nat} {v : Int} {i : Nat} (hi : i < E.length) : xat (lowA E T x v) i = if i = x then v else lowV E T i := by
  unfold xat
  rw [low_at hi]; rfl
theorem low_box (hE : DOk E) {x : Nat} {v : Int} (hv : Mem (rowOf E x) v) : InBox E (lowA E T x v) := by
  refine ⟨by unfold lowA; simp, fun i r u hr hu => ?_⟩
  have hi : i < E.length := (List.getElem?_eq_some_iff.1 hr).1
  rw [low_at hi] at hu
  injection hu with hu
  have h1 : rowOf E (i : Int) = r := by unfold rowOf; rw [Int.toNat_natCast, hr]; rfl
  obtain ⟨m1, m2, _⟩ := ends_facts (hE (i : Int) (by omega) (by omega))
  rw [h1] at m1 m2
  subst hu
  split
  · rename_i e; subst e; rw [h1] at hv; exact hv
  · unfold lowV
    have he : eAt E (i : Int) = endsV r := by unfold eAt; rw [h1]
    split
    · rw [he]; exact m2
    · rw [he]; exact m1
theorem low_sum (hE : DOk E) (hT : TOk T E) (hA : Alone T) (hR : 0 ≤ R) {x : Nat} {v : Int} (hv : Mem (rowOf E x) v)
    (ht : ∀ k, k < T.length → ∀ u, Mem (rowOf E (tX T k).2) u → (tX T k).1 * u ≤ (termE E (tX T k)).1 + R) : ∀ {n : Nat}, n ≤ T.length →
    sumT T (lowA E T x v) n ≤ (spanK E T n).1 + R ∧ ((∀ k, k < n → ¬ (tX T k).2 = (x : Int)) → sumT T (lowA E T x v) n = (spanK E T n).1)
  | 0, _ => by simp [sumT, spanK]; exact hR
  | n + 1, h => by
    obtain ⟨h1, h2⟩ := low_sum hE hT hA hR hv ht (n := n) (by omega)
    obtain ⟨_, hx⟩ := hT.2 n (by omega)
    have hc := coef_at hA (k := n) (by omega) hx.1
    have hval := low_xat (E := E) (T := T) (x := x) (v := v) (i := (tX T n).2.toNat) (by omega)
    unfold sumT spanK
    simp only
    by_cases e : (tX T n).2.toNat = x
    · rw [if_pos e] at hval
      have hxe : (tX T n).2 = (x : Int) := by omega
      have h3 := h2 fun k hk e' => hA n k hk (by omega) (by rw [e', hxe])
      have h4 := ht n (by omega) v (by rw [hxe]; exact hv)
      rw [hval, h3]
      exact ⟨by omega, fun hne => absurd hxe (hne n (by omega))⟩
    · rw [if_neg e] at hval
      have h5 : (tX T n).1 * xat (lowA E T x v) (tX T n).2.toNat = (termE E (tX T n)).1 := by
        rw [hval]
        unfold lowV termE
        rw [hc, Int.toNat_of_nonneg hx.1]
        split
        · rfl
        · rfl
      rw [h5]
      exact ⟨by omega, fun hne => by rw [h2 fun k hk => hne k (by omega)]⟩
end
theorem most_tight {D E : List (List Rg)} {T : List Tm} {n : Int} (hD : DOk D) (hT : TOk T D) (hA : Alone T) (hs : mostS D T n = (E, true)) :
    LeD E D ∧ DOk E ∧ ∀ (x : Nat) v, x < E.length → Mem (rowOf E x) v → ∃ a, InBox E a ∧ xat a x = v ∧ sumT T a T.length ≤ n := by
  have hle := most_leD hD hT hs
  have hE := whole_ok hle (most_wh hs)
  refine ⟨hle, hE, fun x v hx hv => ?_⟩
  unfold mostS at hs
  split at hs
  · cases hs
  · rename_i hneg
    injection hs with h1 h2
    generalize hR : n - (spanK D T T.length).1 = R at *
    have hR0 : 0 ≤ R := by omega
    obtain ⟨r1, r2⟩ := row_most (room := R) hD hT hA (Nat.le_refl T.length)
    rw [h1] at r1 r2
    have hTE : TOk T E := ⟨hT.1, fun k hk => by have := hT.2 k hk; rw [hle.1]; exact this⟩
    have htc : ∀ k, k < T.length → _ := fun k hk => term_cut hD hE (hT.2 k hk).2 hle.1 hR0 (r1 k hk)
    have hsp : ∀ m, m ≤ T.length → (spanK E T m).1 = (spanK D T m).1 := by
      intro m
      induction m with
      | zero => intro _; rfl
      | succ m ih =>
        intro hm
        unfold spanK
        simp only
        rw [ih (by omega), (htc m (by omega)).1]
    obtain ⟨s1, -⟩ := low_sum hE hTE hA hR0 hv (fun k hk => (htc k hk).2) (Nat.le_refl T.length)
    rw [hsp T.length (Nat.le_refl _)] at s1
    refine ⟨lowA E T x v, low_box hE hv, ?_, by omega⟩
    rw [low_xat hx, if_pos rfl]
theorem ask_lin {c : Con} {D : List (List Rg)} {a : List Int} (hK : 1 ≤ c.1 ∧ c.1 ≤ 3) (hm : modB (D, [c], 0, 0) = true) (hF : Full D) (ha : InBox D a) : askdB c a = true := by
  obtain ⟨g1, g2, g3⟩ := one_facts hm
  obtain ⟨f1, f2, f3, f4, f5, f6⟩ := sum_facts hm (by omega)
  obtain ⟨q1, q2, q3, q4, q5⟩ := may_facts g3
  have hb := box_bound hF ha
  have hst : (shp c.1).2.2.2.2 = 0 := by
    have : c.1 = 1 ∨ c.1 = 2 ∨ c.1 = 3 := by omega
    rcases this with h | h | h <;> rw [h] <;> rfl
  simp only [mayB, formedB, Bool.and_eq_true, decide_eq_true_eq, List.all_eq_true] at g3
  simp only [askdB, mayB, formedB, Bool.and_eq_true, decide_eq_true_eq, List.all_eq_true, up_len]
  refine ⟨⟨⟨by omega, f6⟩, fun x hx => ?_⟩, ⟨⟨⟨⟨⟨g3.1.1.1.1.1, f6⟩, g3.1.1.1.2⟩, g3.1.1.2⟩, ?_⟩, g3.2⟩⟩
  · obtain ⟨i, hi, rfl⟩ := List.getElem_of_mem hx
    have h1 := q3 i hi
    have e : xat c.2.1 i = c.2.1[i] := by unfold xat; rw [List.getElem?_eq_getElem hi]; rfl
    rw [e] at h1
    simp only [idxB, Bool.and_eq_true, decide_eq_true_eq]
    rw [ha.1]
    refine ⟨h1, (withinB_iff _).2 (hb _ (List.mem_of_getElem? (xat_get (by rw [ha.1]; omega))))⟩
  · unfold xsOk
    rw [List.all_eq_true]
    intro i hi
    rw [up_len, List.mem_range] at hi
    unfold xOk
    rw [up_get hi, hst]
    have hl : (oneD (valsOf c.2.1 a)).length = c.2.1.length := by rw [one_len]; unfold valsOf; rw [List.length_map]
    simp [hl, hi]
/-- each end is in values for which it holds -/
theorem linear_tight {c : Con} {D E : List (List Rg)} (hK : c.1 = 2) (hm : modB (D, [c], 0, 0) = true) (hA : ∀ i k, k < i → i < c.2.1.length → ¬ xat c.2.1 i = xat c.2.1 k) (hE : linearL c D = (E, 0)) :
    LeD E D ∧ DOk E ∧ ∀ (x : Nat) v, x < E.length → Mem (rowOf E x) v → ∃ a, InBox E a ∧ xat a x = v ∧ (askdB c a && holdsB c (valsOf c.2.1 a)) = true := by
  obtain ⟨f1, f2, f3, f4, f5, f6⟩ := sum_facts hm (by omega)
  have hTl : (termsOf c).length = c.2.2.1.length := by unfold termsOf; simp only [List.length_zip]; omega
  have hTA : Alone (termsOf c) := by
    intro i k hki hi
    rw [hTl] at hi
    have e : ∀ j, j < c.2.2.1.length → (tX (termsOf c) j).2 = xat c.2.1 j := fun j hj => by
      have := zip_tX (xat_get (X := c.2.2.1) (i := j) hj) (xat_get (X := c.2.1) (i := j) (by omega))
      change tX (termsOf c) j = _ at this
      rw [this]
    rw [e i hi, e k (by omega)]
    exact hA i k hki (by omega)
  have hs : mostS D (termsOf c) c.2.2.2 = (E, true) := by
    unfold linearL at hE
    rw [if_pos hm, if_neg (by omega), if_pos hK] at hE
    generalize mostS D (termsOf c) c.2.2.2 = s at hE
    obtain ⟨F, b⟩ := s
    cases b
    · have := congrArg Prod.snd hE; simp [tell] at this
    · have := congrArg Prod.fst hE
      simp only [tell] at this
      rw [this]
  obtain ⟨t1, t2, t3⟩ := most_tight f2 f3 hTA hs
  refine ⟨t1, t2, fun x v hx hv => ?_⟩
  obtain ⟨a, a1, a2, a3⟩ := t3 x v hx hv
  refine ⟨a, a1, a2, ?_⟩
  have hF := full_dom (one_facts hm).2.1
  have haD : InBox D a := ⟨by rw [a1.1]; exact t1.1, fun i r u hr hu => by
    obtain ⟨s, hs'⟩ : ∃ s, E[i]? = some s := ⟨_, List.getElem?_eq_getElem (by have := (List.getElem?_eq_some_iff.1 hr).1; have := t1.1; omega)⟩
    exact (le_at t1 i s r hs' hr).2.2 u (a1.2 i s u hs' hu)⟩
  rw [ask_lin (by omega) hm hF haD, Bool.true_and]
  unfold holdsB
  rw [if_pos (by omega)]
  have hsum : sumN c.2.2.1 (valsOf c.2.1 a) c.2.2.1.length = sumT (termsOf c) a (termsOf c).length := by
    rw [hTl]
    exact sum_link f5 (Nat.le_refl _)
  rw [hsum, hK]
  unfold linB
  simp
  exact a3
end Go.Proofs.Ytbhigfllanblpaa
