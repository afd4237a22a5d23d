/- Plain laws: values within domains, as domains of one value each; sums. -/
import Derived.Test.YtclpkkbamgmooaaPlLinOrd
import Derived.Test.YtclpkkbamgmooaaWKeep
namespace Go.Proofs.Ytclpkkbamgmooaa
open Av
set_option linter.unusedSimpArgs false
set_option linter.unusedVariables false
theorem one_len (a : List Int) : (oneD a).length = a.length := by unfold oneD; rw [List.length_map]
theorem row_one {a : List Int} {x : Int} (h : 0 ≤ x ∧ x < a.length) : rowOf (oneD a) x = [(xat a x.toNat, xat a x.toNat)] := by
  have h1 : (oneD a)[x.toNat]? = some [(xat a x.toNat, xat a x.toNat)] := one_get (xat_get (by omega))
  unfold rowOf
  rw [h1]; rfl
theorem mem_one' (v u : Int) : Mem [(v, v)] u ↔ u = v := by
  unfold Mem
  constructor
  · rintro ⟨r, hr, h1, h2⟩
    simp at hr
    subst hr
    simp only at h1 h2
    omega
  · rintro rfl
    exact ⟨(u, u), by simp, Int.le_refl _, Int.le_refl _⟩
theorem dom_one {v : Int} (h : -1048576 ≤ v ∧ v ≤ 1048576) : domB [(v, v)] = true := by
  have hw : withinB v = true := (withinB_iff v).2 h
  have hr : rightB [(v, v)] = true := rightB_yes fun k hk => by
    have hk0 : k = 0 := by simpa using hk
    subst hk0
    exact ok_4 (x := v) (y := v) rfl (by simp) hw hw rfl
  unfold domB
  rw [hr]; simp
theorem box_row {D : List (List Rg)} {a : List Int} (h : InBox D a) {x : Int} (hx : 0 ≤ x ∧ x < D.length) : Mem (rowOf D x) (xat a x.toNat) := h.2 x.toNat _ _ (row_get hx) (xat_get (by rw [h.1]; omega))
theorem one_le {D : List (List Rg)} {a : List Int} (hF : Full D) (h : InBox D a) : LeD (oneD a) D ∧ ∀ r ∈ oneD a, domB r = true := by
  have hb := box_bound hF h
  have hd : ∀ r ∈ oneD a, domB r = true := by
    intro r hr
    unfold oneD at hr
    obtain ⟨v, hv, rfl⟩ := List.mem_map.1 hr
    exact dom_one (hb v hv)
  refine ⟨⟨by rw [one_len]; exact h.1, fun x h0 h1 => ?_⟩, hd⟩
  have hx : 0 ≤ x ∧ x < (a.length : Int) := ⟨h0, by rw [h.1]; exact h1⟩
  have hm := row_mem (D := oneD a) (x := x) (by rw [one_len]; exact hx)
  refine ⟨(dom_right (hd _ hm)).1, (hF _ (row_mem ⟨h0, h1⟩)).1, fun u hu => ?_⟩
  rw [row_one hx, mem_one'] at hu
  subst hu
  exact box_row h ⟨h0, h1⟩
theorem le_box {E : List (List Rg)} {a : List Int} (h : LeD (oneD a) E) : InBox E a := by
  have hl : a.length = E.length := by rw [← one_len]; exact h.1
  refine ⟨hl, fun i r v hr hv => ?_⟩
  have hi : i < E.length := (List.getElem?_eq_some_iff.1 hr).1
  have hs := (h.2 (i : Int) (by omega) (by omega)).2.2
  have h1 : rowOf E (i : Int) = r := by unfold rowOf; rw [Int.toNat_natCast, hr]; rfl
  have h2 : xat a i = v := by unfold xat; rw [hv]; rfl
  have h3 := row_one (a := a) (x := (i : Int)) (by omega)
  rw [Int.toNat_natCast, h2] at h3
  rw [h1, h3] at hs
  exact hs v ((mem_one' v v).2 rfl)
theorem full_dom {D : List (List Rg)} (h : ∀ r ∈ D, domB r = true) : Full D := fun r hr => dom_right (h r hr)
theorem dom_full {D : List (List Rg)} (h : Full D) : ∀ r ∈ D, domB r = true := fun r hr => by
  unfold domB
  rw [(h r hr).1]
  have := (h r hr).2
  simp; omega
/-- what a narrowing that is no larger on smaller domains leaves -/
theorem kept_of {N : List (List Rg) → List (List Rg) × Int} {h : List Int → Bool} {D : List (List Rg)}
    (hor : ∀ a, InBox D a → (∃ E, N D = (E, 0) ∧ (N (oneD a) = ([], 12) ∨ ∃ E', N (oneD a) = (E', 0) ∧ LeD E' E)) ∨ (N D = ([], 12) ∧ N (oneD a) = ([], 12)))
    (hone : ∀ a, InBox D a → h a = true → N (oneD a) = (oneD a, 0)) (hres : N D = ([], 12) ∨ ∃ E, N D = (E, 0) ∧ LeD E D ∧ ∀ r ∈ E, 0 < r.length) : KeptP h D (N D).1 (N D).2 := by
  have key : ∀ a, InBox D a → h a = true → ∃ E, N D = (E, 0) ∧ InBox E a := by
    intro a ha hh
    have h1 := hone a ha hh
    rcases hor a ha with ⟨E, hE, h2 | ⟨E', h2, h3⟩⟩ | ⟨h2, h3⟩
    · rw [h1] at h2; have h9 := congrArg Prod.snd h2; simp at h9
    · rw [h1] at h2
      injection h2 with h2 _
      subst h2
      exact ⟨E, hE, le_box h3⟩
    · rw [h1] at h3; have h9 := congrArg Prod.snd h3; simp at h9
  rcases hres with h0 | ⟨E, hE, hle, hp⟩
  · rw [h0]
    refine .inl ⟨rfl, rfl, fun a ha => ?_⟩
    cases hh : h a with
    | false => rfl
    | true =>
      obtain ⟨E, hE, -⟩ := key a ha hh
      rw [h0] at hE
      cases hE
  · rw [hE]
    refine .inr ⟨rfl, hle, hp, fun a ha hh => ?_⟩
    obtain ⟨E', hE', hb⟩ := key a ha hh
    rw [hE] at hE'
    injection hE' with hE' _
    subst hE'
    exact hb
/-! sums of values -/
def sumT (T : List Tm) (a : List Int) : Nat → Int
  | 0 => 0
  | k + 1 => sumT T a k + (tX T k).1 * xat a (tX T k).2.toNat
theorem eAt_one {a : List Int} {x : Int} (hb : ∀ v ∈ a, -1048576 ≤ v ∧ v ≤ 1048576) (hx : 0 ≤ x ∧ x < a.length) : eAt (oneD a) x = (xat a x.toNat, xat a x.toNat) := by
  unfold eAt
  rw [row_one hx]
  have hv : -1048576 ≤ xat a x.toNat ∧ xat a x.toNat ≤ 1048576 := hb _ (List.mem_of_getElem? (xat_get (by omega)))
  exact ends_at (dom_right (dom_one hv)).1 rfl rfl
theorem span_one {a : List Int} {T : List Tm} (hb : ∀ v ∈ a, -1048576 ≤ v ∧ v ≤ 1048576) (hT : ∀ k, k < T.length → 0 ≤ (tX T k).2 ∧ (tX T k).2 < a.length) : ∀ {n : Nat}, n ≤ T.length → (spanK (oneD a) T n).1 = sumT T a n
  | 0, _ => rfl
  | n + 1, h => by
    have h1 := span_one hb hT (n := n) (by omega)
    unfold spanK sumT
    simp only
    rw [h1]
    have h2 := eAt_one hb (hT n (by omega))
    unfold termE
    rw [h2]
    simp
theorem most_one {a : List Int} {T : List Tm} {room : Int} (hr : 0 ≤ room) (hb : ∀ v ∈ a, -1048576 ≤ v ∧ v ≤ 1048576) (hT : ∀ k, k < T.length → 0 ≤ (tX T k).2 ∧ (tX T k).2 < a.length) : ∀ {n : Nat}, n ≤ T.length → mostK (oneD a) T room n = oneD a
  | 0, _ => rfl
  | n + 1, h => by
    have h1 := most_one hr hb hT (n := n) (by omega)
    have hx := hT n (by omega)
    have h2 := eAt_one hb hx
    have hv : -1048576 ≤ xat a (tX T n).2.toNat ∧ xat a (tX T n).2.toNat ≤ 1048576 := hb _ (List.mem_of_getElem? (xat_get (by omega)))
    have hd := dom_one hv
    have hc : cutOf (oneD a) room (tX T n) = (xat a (tX T n).2.toNat, xat a (tX T n).2.toNat) := by
      unfold cutOf
      rw [h2]
      simp only
      split
      · rename_i hp
        have : 0 ≤ room.tdiv (tX T n).1 := by rw [Int.tdiv_eq_ediv_of_nonneg hr]; exact Int.ediv_nonneg hr (by omega)
        rw [Int.min_eq_left (by omega)]
      · split
        · rename_i hp
          have : 0 ≤ room.tdiv (-(tX T n).1) := by rw [Int.tdiv_eq_ediv_of_nonneg hr]; exact Int.ediv_nonneg hr (by omega)
          rw [Int.max_eq_left (by omega)]
        · rfl
    unfold mostK
    rw [h1, hc, row_one hx]
    have hcut : cutS (xat a (tX T n).2.toNat) (xat a (tX T n).2.toNat) [(xat a (tX T n).2.toNat, xat a (tX T n).2.toNat)] = [(xat a (tX T n).2.toNat, xat a (tX T n).2.toNat)] := by
      have := cut_within (r := [(xat a (tX T n).2.toNat, xat a (tX T n).2.toNat)]) ⟨(dom_right hd).1, (dom_right hd).1, fun v hv => hv⟩ hd
      rw [ends_at (dom_right hd).1 rfl rfl] at this
      exact this
    simp only
    rw [hcut]
    have := set_self (D := oneD a) (x := (tX T n).2) (by rw [one_len]; exact hx)
    rw [row_one hx] at this
    exact this
theorem whole_one (a : List Int) : wholeB (oneD a) = true := by
  unfold wholeB
  rw [Bool.not_eq_true', List.any_eq_false]
  intro r hr
  unfold oneD at hr
  obtain ⟨v, -, rfl⟩ := List.mem_map.1 hr
  simp
theorem mostS_one {a : List Int} {T : List Tm} {n : Int} (hb : ∀ v ∈ a, -1048576 ≤ v ∧ v ≤ 1048576) (hT : ∀ k, k < T.length → 0 ≤ (tX T k).2 ∧ (tX T k).2 < a.length) (h : sumT T a T.length ≤ n) : mostS (oneD a) T n = (oneD a, true) := by
  unfold mostS
  rw [span_one hb hT (Nat.le_refl _), if_neg (by omega), most_one (by omega) hb hT (Nat.le_refl _), whole_one]
theorem opp_at {T : List Tm} {k : Nat} (hk : k < T.length) : tX (opp T) k = (-(tX T k).1, (tX T k).2) := by
  have : (opp T)[k]? = some (-(tX T k).1, (tX T k).2) := by unfold opp; rw [List.getElem?_map, tX_get hk]; rfl
  conv => lhs; unfold tX
  rw [this]; rfl
theorem sumT_opp {T : List Tm} {a : List Int} : ∀ {n : Nat}, n ≤ T.length → sumT (opp T) a n = -sumT T a n
  | 0, _ => rfl
  | n + 1, h => by
    have h1 := sumT_opp (T := T) (a := a) (n := n) (by omega)
    unfold sumT
    rw [h1, opp_at (by omega)]
    simp only
    rw [Int.neg_mul]
    omega
theorem opp_length (T : List Tm) : (opp T).length = T.length := by unfold opp; rw [List.length_map]
theorem open_one {a : List Int} {T : List Tm} (hb : ∀ v ∈ a, -1048576 ≤ v ∧ v ≤ 1048576) (hT : ∀ k, k < T.length → 0 ≤ (tX T k).2 ∧ (tX T k).2 < a.length) : ∀ {n : Nat}, n ≤ T.length → openK (oneD a) T n = ([], sumT T a n)
  | 0, _ => rfl
  | n + 1, h => by
    have h1 := open_one hb hT (n := n) (by omega)
    have h2 := eAt_one hb (hT n (by omega))
    unfold openK sumT
    rw [h2, h1, if_pos (.inr rfl)]
/-- a sum of one value each -/
theorem linear_one {c : Con} {a : List Int} (hb : ∀ v ∈ a, -1048576 ≤ v ∧ v ≤ 1048576) (hK : 1 ≤ c.1 ∧ c.1 ≤ 3) (hm : modB (oneD a, [c], 0, 0) = true) (hT : ∀ k, k < (termsOf c).length → 0 ≤ (tX (termsOf c) k).2 ∧ (tX (termsOf c) k).2 < a.length)
    (h : (c.1 = 1 → sumT (termsOf c) a (termsOf c).length = c.2.2.2) ∧ (c.1 = 2 → sumT (termsOf c) a (termsOf c).length ≤ c.2.2.2) ∧ (c.1 = 3 → ¬ sumT (termsOf c) a (termsOf c).length = c.2.2.2)) : linearL c (oneD a) = (oneD a, 0) := by
  unfold linearL
  rw [if_pos hm]
  generalize termsOf c = T at hT h ⊢
  have hTo : ∀ k, k < (opp T).length → 0 ≤ (tX (opp T) k).2 ∧ (tX (opp T) k).2 < a.length := fun k hk => by
    rw [opp_length] at hk
    rw [opp_at hk]
    exact hT k hk
  have hc : c.1 = 1 ∨ c.1 = 2 ∨ c.1 = 3 := by omega
  rcases hc with h1 | h1 | h1
  · rw [if_pos h1]
    have hs := h.1 h1
    unfold isS
    rw [mostS_one hb hT (by omega)]
    simp only
    rw [mostS_one hb hTo (by rw [opp_length, sumT_opp (Nat.le_refl _)]; omega)]
    rfl
  · rw [if_neg (by omega), if_pos h1]
    have hs := h.2.1 h1
    rw [mostS_one hb hT hs]
    rfl
  · rw [if_neg (by omega), if_neg (by omega), if_pos h1]
    have hs := h.2.2 h1
    have hn : notS (oneD a) T c.2.2.2 = (oneD a, true) := by
      unfold notS
      rw [open_one hb hT (Nat.le_refl _)]
      simp
      omega
    rw [hn]
    rfl
end Go.Proofs.Ytclpkkbamgmooaa
