/- Plain laws for unlike values: smaller domains, fixed ones, sizes. -/
import Derived.Test.YtonkcemcledhiaaPlHall3
import Derived.Test.YtonkcemcledhiaaGEvery
namespace Go.Proofs.Ytonkcemcledhiaa
open Av
attribute [local irreducible] awp awpOpers
set_option linter.unusedSimpArgs false
set_option linter.unusedVariables false
theorem ends_leR {S D : List (List Rg)} {X : List Int} (hle : LeD S D) (hS : DOk S) (hD : DOk D) (hX : InD D X) : LeR (endRows S X) (endRows D X) := by
  refine ⟨by rw [endRows_len, endRows_len], fun k r' r h' h => ?_⟩
  have hk : k < X.length := by rw [← endRows_len S X]; exact (List.getElem?_eq_some_iff.1 h').1
  rw [endRows_get hk] at h' h
  injection h' with h'
  injection h with h
  have := eAt_le hle hS hD (hX k hk)
  rw [← h', ← h]
  unfold eAt at this
  exact ⟨this.1, this.2.2⟩
theorem ends_inW {D : List (List Rg)} {X : List Int} (hD : DOk D) (hX : InD D X) : ∀ r ∈ endRows D X, inW r = true := by
  intro r hr
  obtain ⟨k, hk, rfl⟩ := List.getElem_of_mem hr
  rw [endRows_len] at hk
  have h := endRows_get (D := D) hk
  rw [List.getElem?_eq_getElem (by rw [endRows_len]; exact hk)] at h
  injection h with h
  rw [h]
  have hx := hX k hk
  obtain ⟨-, -, -, h1, h2, h3⟩ := ends_facts (hD _ hx.1 hx.2)
  rw [inW_iff]
  omega
theorem hallN_le {l' l : List Rg} {S D : List (List Rg)} {X : List Int} (hle : LeD S D) (hX : InD D X) (hR : LeR l' l) (hr' : rroomB l' = true) (hr : rroomB l = true) (hl : l.length = X.length) : ∀ k, k ≤ X.length → LeD (hallN l' S X k) (hallN l D X k)
  | 0, _ => hle
  | k + 1, h => by
    have ih := hallN_le hle hX hR hr' hr hl k (by omega)
    have hx := hX k (by omega)
    have hw := tight_wider hR hr' hr (k := k) (by omega)
    have hx' : 0 ≤ xat X k ∧ xat X k < (hallN l D X k).length := by rw [hallN_len]; exact hx
    exact setrow_le ih hx' (cut_sub2 (ih.2 _ hx'.1 hx'.2) hw.1 hw.2)
theorem hallN_sub {l : List Rg} {D : List (List Rg)} {X : List Int} (hD : DOk D) (hX : InD D X) : ∀ k, k ≤ X.length → LeD (hallN l D X k) D
  | 0, _ => le_refl_of hD
  | k + 1, h => by
    have ih := hallN_sub (l := l) hD hX k (by omega)
    have hx := hX k (by omega)
    have hs := ih.2 _ hx.1 hx.2
    exact le_setrow ih hx ((cut_sub hs.1 _ _).trans hs)
theorem hall_idx {c : Con} {D : List (List Rg)} (hm : modB (D, [c], 0, 0) = true) : D.length ≤ 64 ∧ DOk D ∧ c.2.1.length ≤ 32 ∧ InD D c.2.1 := by
  obtain ⟨f1, f2, f3⟩ := one_facts hm
  obtain ⟨g1, g2, g3, g4, g5⟩ := may_facts f3
  exact ⟨f1, fun x h0 h1 => f2 _ (row_mem ⟨h0, h1⟩), g2, g3⟩
theorem hall_l {c : Con} {D : List (List Rg)} (hK : c.1 = 18) (hm : modB (D, [c], 0, 0) = true) : hallL c D = if rroomB (endRows D c.2.1) = true then tell (hallN (endRows D c.2.1) D c.2.1 c.2.1.length, wholeB (hallN (endRows D c.2.1) D c.2.1 c.2.1.length)) else ([], 12) := by
  unfold hallL
  rw [if_pos hm, if_pos hK, rooms_eq]
theorem tell_or (s : List (List Rg) × Bool) : tell s = ([], 12) ∨ ∃ E, tell s = (E, 0) := by
  obtain ⟨E, b⟩ := s
  cases b
  · exact .inl rfl
  · exact .inr ⟨E, rfl⟩
theorem order_hall {c : Con} {S D : List (List Rg)} (hK : c.1 = 18) (hm : modB (D, [c], 0, 0) = true) (hmS : modB (S, [c], 0, 0) = true) (hle : LeD S D) :
    (∃ E, hallL c D = (E, 0) ∧ (hallL c S = ([], 12) ∨ ∃ E', hallL c S = (E', 0) ∧ LeD E' E)) ∨ (hallL c D = ([], 12) ∧ hallL c S = ([], 12)) := by
  rw [hall_l hK hm, hall_l hK hmS]
  obtain ⟨f1, hD, h32, hX⟩ := hall_idx hm
  obtain ⟨f1', hS, -, -⟩ := hall_idx hmS
  have hR := ends_leR hle hS hD hX
  by_cases hr' : rroomB (endRows S c.2.1) = true
  · have hr : rroomB (endRows D c.2.1) = true := by
      rw [rroom_iff]
      exact ⟨by rw [endRows_len]; exact h32, ends_inW hD hX, hr_wider hR (rroom_iff.1 hr').2.2⟩
    rw [if_pos hr', if_pos hr]
    have hN := hallN_le hle hX hR hr' hr (endRows_len _ _) _ (Nat.le_refl _)
    refine tell_up ⟨fun k => whole_up hN k, fun _ => hN⟩
  · rw [if_neg hr']
    by_cases hr : rroomB (endRows D c.2.1) = true
    · rw [if_pos hr]
      rcases tell_or (hallN (endRows D c.2.1) D c.2.1 c.2.1.length, wholeB (hallN (endRows D c.2.1) D c.2.1 c.2.1.length)) with h | ⟨E, h⟩
      · exact .inr ⟨h, rfl⟩
      · exact .inl ⟨E, h, .inl rfl⟩
    · rw [if_neg hr]
      exact .inr ⟨rfl, rfl⟩
theorem hall_res {c : Con} {D : List (List Rg)} (hK : c.1 = 18) (hm : modB (D, [c], 0, 0) = true) : hallL c D = ([], 12) ∨ ∃ E, hallL c D = (E, 0) ∧ LeD E D ∧ ∀ r ∈ E, 0 < r.length := by
  rw [hall_l hK hm]
  obtain ⟨f1, hD, h32, hX⟩ := hall_idx hm
  by_cases hr : rroomB (endRows D c.2.1) = true
  · rw [if_pos hr]
    have hN := hallN_sub (l := endRows D c.2.1) hD hX _ (Nat.le_refl _)
    cases hw : wholeB (hallN (endRows D c.2.1) D c.2.1 c.2.1.length)
    · exact .inl rfl
    · refine .inr ⟨_, rfl, hN, fun r hr => ?_⟩
      unfold wholeB at hw
      simp only [Bool.not_eq_true', List.any_eq_false, decide_eq_true_eq] at hw
      exact Nat.pos_of_ne_zero (hw r hr)
  · rw [if_neg hr]; exact .inl rfl
theorem size_hall {c : Con} {D : List (List Rg)} (hK : c.1 = 18) (hm : modB (D, [c], 0, 0) = true) : (hallL c D).1.length ≤ 1000000000000 := by
  have := (one_facts hm).1
  rcases hall_res hK hm with h | ⟨E, h, hle, -⟩
  · rw [h]; simp
  · rw [h]; have := hle.1; simp only; omega
theorem hall_small {c : Con} {D : List (List Rg)} (hD : D.length ≤ 1000000000000) (hd : ∀ d ∈ D, d.length ≤ 1000000000000) : (hallL c D).1.length ≤ 1000000000000 ∧ ∀ d ∈ (hallL c D).1, d.length ≤ 1000000000000 := by
  by_cases hm : modB (D, [c], 0, 0) = true
  · by_cases hK : c.1 = 18
    · rcases hall_res hK hm with h | ⟨E, h, hle, hpos⟩
      · rw [h]; simp
      · rw [h]
        show E.length ≤ 1000000000000 ∧ ∀ d ∈ E, d.length ≤ 1000000000000
        refine ⟨by rw [hle.1]; exact hD, fun r hr => ?_⟩
        obtain ⟨k, hk, rfl⟩ := List.getElem_of_mem hr
        have hkD : k < D.length := by rw [← hle.1]; exact hk
        have hs := (hle.2 (k : Int) (by omega) (by omega)).1
        have hro : rowOf E (k : Int) = E[k] := by
          unfold rowOf
          rw [Int.toNat_natCast, List.getElem?_eq_getElem hk]
          rfl
        rw [hro] at hs
        have hp := hpos _ (List.getElem_mem hk)
        have := dom_len (d := E[k]) (by unfold domB; rw [hs]; simp; omega)
        omega
    · unfold hallL
      rw [if_pos hm, if_neg hK]; simp
  · unfold hallL
    rw [if_neg hm]; simp
/-! values that stand alone -/
theorem uniq_len : ∀ (n : Nat) (L : List Int) (p q : Int), q - p + 1 ≤ n → L.Nodup → (∀ v ∈ L, p ≤ v ∧ v ≤ q) → L.length ≤ n
  | 0, L, p, q, h, hn, hv => by
    cases L with
    | nil => simp
    | cons a L => have := hv a List.mem_cons_self; omega
  | n + 1, L, p, q, h, hn, hv => by
    have h1 := uniq_len n (L.erase q) p (q - 1) (by omega) (hn.erase q) fun v hm => by
      have h2 := (hn.mem_erase_iff).1 hm
      have h3 := hv v h2.2
      have := h2.1
      omega
    have h2 : (L.erase q).length + 1 ≥ L.length := by
      rw [List.length_erase]
      split <;> omega
    omega
theorem ends_one {a X : List Int} (hb : ∀ v ∈ a, -1048576 ≤ v ∧ v ≤ 1048576) (hX : InD (oneD a) X) : endRows (oneD a) X = (valsOf X a).map fun v => (v, v) := by
  refine List.ext_getElem? fun k => ?_
  rw [List.getElem?_map]
  by_cases hk : k < X.length
  · have hx := hX k hk
    rw [one_len] at hx
    rw [endRows_get hk, vals_get (xat_get hk), Option.map_some]
    have := eAt_one hb hx
    unfold eAt at this
    rw [this]
  · rw [List.getElem?_eq_none (by rw [endRows_len]; omega), List.getElem?_eq_none (by unfold valsOf; rw [List.length_map]; omega)]; rfl
theorem hr_uniq {V : List Int} (h : V.Nodup) : HR (V.map fun v => (v, v)) := by
  intro p q h0
  have e : cntR (V.map fun v => (v, v)) p q = (V.filter fun v => decide (p ≤ v) && decide (v ≤ q)).length := by
    unfold cntR
    rw [List.filter_map, List.length_map]
    rfl
  rw [e] at h0 ⊢
  obtain ⟨u, hu⟩ := List.exists_mem_of_length_pos h0
  have hu' := List.mem_filter.1 hu
  simp only [Bool.and_eq_true, decide_eq_true_eq] at hu'
  have := uniq_len (q - p + 1).toNat (V.filter fun v => decide (p ≤ v) && decide (v ≤ q)) p q (by omega) (h.filter _) fun v hv => by
    have hv' := List.mem_filter.1 hv
    simp only [Bool.and_eq_true, decide_eq_true_eq] at hv'
    exact hv'.2
  omega
theorem row_same {D : List (List Rg)} {x : Int} (hx : 0 ≤ x ∧ x < D.length) : D.set x.toNat (rowOf D x) = D := by
  have hr := row_get hx
  refine List.ext_getElem? fun k => ?_
  rw [List.getElem?_set]
  split
  · rename_i h; subst h
    rw [hr]
    split
    · rfl
    · omega
  · rfl
theorem hallN_one {a X : List Int} (hb : ∀ v ∈ a, -1048576 ≤ v ∧ v ≤ 1048576) (hX : InD (oneD a) X) (hr : rroomB (endRows (oneD a) X) = true) : ∀ k, k ≤ X.length → hallN (endRows (oneD a) X) (oneD a) X k = oneD a
  | 0, _ => rfl
  | k + 1, h => by
    have ih := hallN_one hb hX hr k (by omega)
    have hx := hX k (by omega)
    have hx' := hx
    rw [one_len] at hx'
    unfold hallN
    rw [ih]
    have hg := endRows_get (D := oneD a) (X := X) (k := k) (by omega)
    obtain ⟨u, w, ht, u1, u2, u3, -⟩ := tight_facts hg hr
    have he := eAt_one hb hx'
    unfold eAt at he
    rw [he] at u1 u3
    simp only at u1 u3
    have hd : domB [(xat a (xat X k).toNat, xat a (xat X k).toNat)] = true := dom_one (hb _ (List.mem_of_getElem? (xat_get (by omega))))
    have hrt := (dom_right hd).1
    have hw := cut_within (r := [(xat a (xat X k).toNat, xat a (xat X k).toNat)]) ⟨hrt, hrt, fun v hv => hv⟩ hd
    rw [← row_one hx', he, row_one hx'] at hw
    rw [ht]
    have e1 : u = xat a (xat X k).toNat := by omega
    have e2 : w = xat a (xat X k).toNat := by omega
    rw [e1, e2, row_one hx', hw, ← row_one hx']
    exact row_same hx
theorem hall_one {c : Con} {a : List Int} (hK : c.1 = 18) (hb : ∀ v ∈ a, -1048576 ≤ v ∧ v ≤ 1048576) (hm : modB (oneD a, [c], 0, 0) = true) (hu : (valsOf c.2.1 a).Nodup) : hallL c (oneD a) = (oneD a, 0) := by
  rw [hall_l hK hm]
  obtain ⟨f1, hD, h32, hX⟩ := hall_idx hm
  have hr : rroomB (endRows (oneD a) c.2.1) = true := by
    rw [rroom_iff]
    refine ⟨by rw [endRows_len]; exact h32, ends_inW hD hX, ?_⟩
    rw [ends_one hb hX]
    exact hr_uniq hu
  rw [if_pos hr, hallN_one hb hX hr _ (Nat.le_refl _), whole_one]
  rfl
end Go.Proofs.Ytonkcemcledhiaa
