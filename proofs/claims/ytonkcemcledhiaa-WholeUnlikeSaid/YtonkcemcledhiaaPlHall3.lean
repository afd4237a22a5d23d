/- Plain laws for unlike values: room, and what is left of ranges, is told alike; smaller ranges leave less. -/
import Derived.Test.YtonkcemcledhiaaPlHall2
namespace Go.Proofs.Ytonkcemcledhiaa
open Av
attribute [local irreducible] awp awpOpers
set_option linter.unusedSimpArgs false
set_option linter.unusedVariables false
def HR (l : List Rg) : Prop := ∀ a b : Int, 0 < cntR l a b → (cntR l a b : Int) ≤ b - a + 1
theorem inS_iff {a b : Int} {r : Rg} : inS a b r = true ↔ a ≤ r.1 ∧ r.2 ≤ b := by simp [inS]
theorem min_lo : ∀ (L : List Rg), L ≠ [] → ∃ p ∈ L, ∀ r ∈ L, p.1 ≤ r.1
  | [r], _ => ⟨r, by simp, by simp⟩
  | r :: s :: L, _ => by
    obtain ⟨p, hp, h⟩ := min_lo (s :: L) (by simp)
    by_cases hr : r.1 ≤ p.1
    · exact ⟨r, by simp, fun q hq => by rcases List.mem_cons.1 hq with rfl | hq; exact Int.le_refl _; have := h q hq; omega⟩
    · exact ⟨p, List.mem_cons_of_mem _ hp, fun q hq => by rcases List.mem_cons.1 hq with rfl | hq; omega; exact h q hq⟩
theorem max_hi : ∀ (L : List Rg), L ≠ [] → ∃ p ∈ L, ∀ r ∈ L, r.2 ≤ p.2
  | [r], _ => ⟨r, by simp, by simp⟩
  | r :: s :: L, _ => by
    obtain ⟨p, hp, h⟩ := max_hi (s :: L) (by simp)
    by_cases hr : p.2 ≤ r.2
    · exact ⟨r, by simp, fun q hq => by rcases List.mem_cons.1 hq with rfl | hq; exact Int.le_refl _; have := h q hq; omega⟩
    · exact ⟨p, List.mem_cons_of_mem _ hp, fun q hq => by rcases List.mem_cons.1 hq with rfl | hq; omega; exact h q hq⟩
/-- a stretch may be made as short as what lies within it -/
theorem shrink {l : List Rg} {a b : Int} (h : 0 < cntR l a b) : ∃ p ∈ l, ∃ q ∈ l, a ≤ p.1 ∧ q.2 ≤ b ∧ cntR l a b ≤ cntR l p.1 q.2 := by
  have hne : l.filter (inS a b) ≠ [] := by
    intro e
    unfold cntR at h
    rw [e] at h; simp at h
  obtain ⟨p, hp, h1⟩ := min_lo _ hne
  obtain ⟨q, hq, h2⟩ := max_hi _ hne
  obtain ⟨p1, p2⟩ := List.mem_filter.1 hp
  obtain ⟨q1, q2⟩ := List.mem_filter.1 hq
  rw [inS_iff] at p2 q2
  refine ⟨p, p1, q, q1, p2.1, q2.2, cnt_mono fun r hr hin => ?_⟩
  have hm := List.mem_filter.2 ⟨hr, hin⟩
  rw [inS_iff]
  exact ⟨h1 r hm, h2 r hm⟩
theorem pairOk_iff {l : List Rg} {p q : Rg} : pairOk l p q = true ↔ (0 < cntR l p.1 q.2 → (cntR l p.1 q.2 : Int) ≤ q.2 - p.1 + 1) := by
  unfold pairOk
  by_cases h : 0 < cntR l p.1 q.2 <;> simp [h]
theorem inW_iff {r : Rg} : inW r = true ↔ (-1048576 ≤ r.1 ∧ r.1 ≤ 1048576) ∧ (-1048576 ≤ r.2 ∧ r.2 ≤ 1048576) := by
  simp only [inW, withinB, Bool.and_eq_true, decide_eq_true_eq]
theorem hr_one {l : List Rg} (h : HR l) {r : Rg} (hr : r ∈ l) : r.1 ≤ r.2 := by
  have h0 : 0 < cntR l r.1 r.2 := by
    unfold cntR
    refine List.length_pos_of_mem (a := r) (List.mem_filter.2 ⟨hr, inS_iff.2 ⟨Int.le_refl _, Int.le_refl _⟩⟩)
  have := h _ _ h0
  omega
theorem room_iff {l : List Rg} : roomB l = true ↔ l.length ≤ 32 ∧ (∀ r ∈ l, inW r = true) ∧ HR l := by
  unfold roomB
  simp only [Bool.and_eq_true, decide_eq_true_eq, List.all_eq_true]
  constructor
  · rintro ⟨⟨h1, h2⟩, h3⟩
    refine ⟨h1, fun r hr => ?_, fun a b h0 => ?_⟩
    · have := okRg_facts (h2 r hr)
      rw [inW_iff]; omega
    · obtain ⟨p, hp, q, hq, s1, s2, s3⟩ := shrink h0
      have := pairOk_iff.1 (h3 p hp q hq) (by omega)
      omega
  · rintro ⟨h1, h2, h3⟩
    refine ⟨⟨h1, fun r hr => ?_⟩, fun p hp q hq => pairOk_iff.2 (h3 _ _)⟩
    have a1 := inW_iff.1 (h2 r hr)
    have a2 := hr_one h3 hr
    simp only [okRg, withinB, Bool.and_eq_true, decide_eq_true_eq]
    omega
theorem hc_hr {l : List Rg} (h : ∀ r ∈ l, inW r = true) : Hc l (-2097152) ↔ HR l := by
  have : ∀ a b, cntC l (-2097152) a b = cntR l a b := fun a b => Nat.le_antisymm
    (cnt_mono fun r hr hc => by have := inW_iff.1 (h r hr); rw [clip_iff] at hc; rw [inS_iff]; omega)
    (cnt_mono fun r hr hc => by have := inW_iff.1 (h r hr); rw [inS_iff] at hc; rw [clip_iff]; omega)
  unfold Hc HR
  simp only [this]
theorem rroom_iff {l : List Rg} : rroomB l = true ↔ l.length ≤ 32 ∧ (∀ r ∈ l, inW r = true) ∧ HR l := by
  unfold rroomB givenB
  simp only [Bool.and_eq_true, decide_eq_true_eq, List.all_eq_true]
  rw [given_iff _ _ _ rfl]
  constructor
  · rintro ⟨⟨h1, h2⟩, h3⟩
    exact ⟨h1, h2, (hc_hr h2).1 h3⟩
  · rintro ⟨h1, h2, h3⟩
    exact ⟨⟨h1, h2⟩, (hc_hr h2).2 h3⟩
theorem rooms_eq (l : List Rg) : roomB l = rroomB l := by rw [Bool.eq_iff_iff, room_iff, rroom_iff]
theorem hr_erase {l : List Rg} {k : Nat} {r : Rg} (hk : l[k]? = some r) (h : HR l) : HR (l.eraseIdx k) := by
  intro a b h0
  have e := cnt_erase (inS a b) hk
  change cntR l a b = cntR (l.eraseIdx k) a b + _ at e
  have := h a b (by omega)
  omega
theorem cov_room {O : List Rg} (hO : HR O) {v : Int} : covB (fullU O O) v = false ↔ ∀ a b : Int, a ≤ v → v ≤ b → (cntR O a b : Int) ≤ b - a := by
  constructor
  · intro h a b h1 h2
    rcases (show b - a < (cntR O a b : Int) ∨ (cntR O a b : Int) ≤ b - a by omega) with hlt | hge
    · exfalso
      have h0 : 0 < cntR O a b := by omega
      obtain ⟨p, hp, q, hq, s1, s2, s3⟩ := shrink h0
      have h3 := hO p.1 q.2 (by omega)
      have hc : covB (fullU O O) v = true := by
        rw [cov_iff]
        refine ⟨(p.1, q.2), mem_fullU.2 ⟨p, hp, q, hq, ?_, rfl⟩, by simp only; omega, by simp only; omega⟩
        unfold tightB
        simp only [Bool.and_eq_true, decide_eq_true_eq]
        omega
      rw [hc] at h; cases h
    · exact hge
  · intro h
    rw [← Bool.not_eq_true, cov_iff]
    rintro ⟨s, hs, h1, h2⟩
    obtain ⟨p, hp, q, hq, ht, rfl⟩ := mem_fullU.1 hs
    unfold tightB at ht
    simp only [Bool.and_eq_true, decide_eq_true_eq] at ht
    have := h p.1 q.2 h1 h2
    omega
theorem with_room {l : List Rg} {k : Nat} {r : Rg} (hk : l[k]? = some r) (hr : rroomB l = true) {v : Int} (hv : -1048576 ≤ v ∧ v ≤ 1048576) : rroomB (l.set k (v, v)) = true ↔ covB (fullU (l.eraseIdx k) (l.eraseIdx k)) v = false := by
  obtain ⟨h1, h2, h3⟩ := rroom_iff.1 hr
  have hO := hr_erase hk h3
  rw [cov_room hO, rroom_iff]
  have e := fun a b => cnt_set (q := (v, v)) (inS a b) hk
  change ∀ a b, cntR (l.set k (v, v)) a b = cntR (l.eraseIdx k) a b + _ at e
  constructor
  · rintro ⟨-, -, g⟩ a b a1 a2
    have e1 := e a b
    rw [if_pos (inS_iff.2 ⟨a1, a2⟩)] at e1
    have := g a b (by omega)
    omega
  · intro g
    refine ⟨by rw [List.length_set]; exact h1, fun q hq => ?_, fun a b h0 => ?_⟩
    · rcases List.mem_or_eq_of_mem_set hq with hq | rfl
      · exact h2 q hq
      · rw [inW_iff]; exact ⟨hv, hv⟩
    · have e1 := e a b
      split at e1
      · rename_i hin
        have hin := inS_iff.1 hin
        simp only at hin
        have := g a b hin.1 hin.2
        omega
      · have := hO a b (by omega)
        omega
/-- some value of a place is not in a full stretch of the others -/
theorem choose {l : List Rg} {k : Nat} {r : Rg} (hk : l[k]? = some r) (hr : rroomB l = true) : ∃ u, r.1 ≤ u ∧ u ≤ r.2 ∧ covB (fullU (l.eraseIdx k) (l.eraseIdx k)) u = false := by
  obtain ⟨h1, h2, h3⟩ := rroom_iff.1 hr
  obtain ⟨u, u1, u2, u3⟩ := hc_choose l.length l (-2097152) k r rfl hk ((hc_hr h2).2 h3)
  have hb := inW_iff.1 (h2 r (List.mem_of_getElem? hk))
  refine ⟨u, u1, u2, (with_room hk hr (by omega)).1 (rroom_iff.2 ⟨by rw [List.length_set]; exact h1, ?_, ?_⟩)⟩
  · intro q hq
    rcases List.mem_or_eq_of_mem_set hq with hq | rfl
    · exact h2 q hq
    · rw [inW_iff]; simp only; omega
  · refine (hc_hr ?_).1 u3
    intro q hq
    rcases List.mem_or_eq_of_mem_set hq with hq | rfl
    · exact h2 q hq
    · rw [inW_iff]; simp only; omega
theorem least_un {S : List Rg} : ∀ (n : Nat) (lo u : Int), lo ≤ u → u - lo ≤ n → covB S u = false → ∃ x, lo ≤ x ∧ x ≤ u ∧ covB S x = false ∧ ∀ v, lo ≤ v → v < x → covB S v = true
  | 0, lo, u, h1, h2, h3 => ⟨lo, Int.le_refl _, h1, by rw [show lo = u by omega]; exact h3, fun v a b => by omega⟩
  | n + 1, lo, u, h1, h2, h3 => by
    cases hc : covB S lo
    · exact ⟨lo, Int.le_refl _, h1, hc, fun v a b => by omega⟩
    · have hne : lo ≠ u := fun e => by rw [e, h3] at hc; cases hc
      obtain ⟨x, x1, x2, x3, x4⟩ := least_un n (lo + 1) u (by omega) (by omega) h3
      refine ⟨x, by omega, x2, x3, fun v a b => ?_⟩
      by_cases hv : v = lo
      · rw [hv]; exact hc
      · exact x4 v (by omega) b
theorem most_un {S : List Rg} : ∀ (n : Nat) (hi u : Int), u ≤ hi → hi - u ≤ n → covB S u = false → ∃ x, u ≤ x ∧ x ≤ hi ∧ covB S x = false ∧ ∀ v, x < v → v ≤ hi → covB S v = true
  | 0, hi, u, h1, h2, h3 => ⟨hi, h1, Int.le_refl _, by rw [show hi = u by omega]; exact h3, fun v a b => by omega⟩
  | n + 1, hi, u, h1, h2, h3 => by
    cases hc : covB S hi
    · exact ⟨hi, h1, Int.le_refl _, hc, fun v a b => by omega⟩
    · have hne : hi ≠ u := fun e => by rw [e, h3] at hc; cases hc
      obtain ⟨x, x1, x2, x3, x4⟩ := most_un n (hi - 1) u (by omega) (by omega) h3
      refine ⟨x, x1, by omega, x3, fun v a b => ?_⟩
      by_cases hv : v = hi
      · rw [hv]; exact hc
      · exact x4 v a (by omega)
/-- what is left of a place, by its values -/
theorem tight_facts {l : List Rg} {k : Nat} {r : Rg} (hk : l[k]? = some r) (hr : rroomB l = true) : ∃ x y, tightV l k = (x, y) ∧ r.1 ≤ x ∧ x ≤ y ∧ y ≤ r.2 ∧ covB (fullU (l.eraseIdx k) (l.eraseIdx k)) x = false ∧ covB (fullU (l.eraseIdx k) (l.eraseIdx k)) y = false ∧
    (∀ v, r.1 ≤ v → v < x → covB (fullU (l.eraseIdx k) (l.eraseIdx k)) v = true) ∧ ∀ v, y < v → v ≤ r.2 → covB (fullU (l.eraseIdx k) (l.eraseIdx k)) v = true := by
  obtain ⟨u, u1, u2, u3⟩ := choose hk hr
  obtain ⟨x, x1, x2, x3, x4⟩ := least_un (u - r.1).toNat r.1 u u1 (by omega) u3
  obtain ⟨y, y1, y2, y3, y4⟩ := most_un (r.2 - u).toNat r.2 u u2 (by omega) u3
  refine ⟨x, y, ?_, x1, by omega, y2, x3, y3, x4, y4⟩
  have hrg : rgAt l k = r := by unfold rgAt; rw [hk]; rfl
  unfold tightV
  rw [hrg]
  exact trim_eq x1 x4 x3 y2 y4 y3
theorem upR_eq {l : List Rg} {k : Nat} {r : Rg} (hk : l[k]? = some r) (hr : rroomB l = true) {x hi : Int} (hx : covB (fullU (l.eraseIdx k) (l.eraseIdx k)) x = false) (hb : -1048576 ≤ x ∧ x ≤ 1048576) (hxh : x ≤ hi) : ∀ (n : Nat) (lo : Int), lo ≤ x → x - lo ≤ n → -1048576 ≤ lo →
    (∀ v, lo ≤ v → v < x → covB (fullU (l.eraseIdx k) (l.eraseIdx k)) v = true) → upR l k hi n lo = x
  | 0, lo, h1, h2, h3, h4 => by unfold upR; omega
  | n + 1, lo, h1, h2, h3, h4 => by
    unfold upR
    have hw := with_room hk hr (v := lo) (by omega)
    by_cases hv : lo = x
    · subst hv
      rw [if_neg (by rw [hw.2 hx]; simp)]
    · rw [if_pos ⟨by omega, by
        cases hc : rroomB (l.set k (lo, lo))
        · rfl
        · have h6 := hw.1 hc; rw [h4 lo (Int.le_refl _) (by omega)] at h6; cases h6⟩]
      exact upR_eq hk hr hx hb hxh n (lo + 1) (by omega) (by omega) (by omega) (fun v a b => h4 v (by omega) b)
theorem dnR_eq {l : List Rg} {k : Nat} {r : Rg} (hk : l[k]? = some r) (hr : rroomB l = true) {y lo : Int} (hy : covB (fullU (l.eraseIdx k) (l.eraseIdx k)) y = false) (hb : -1048576 ≤ y ∧ y ≤ 1048576) (hly : lo ≤ y) : ∀ (n : Nat) (hi : Int), y ≤ hi → hi - y ≤ n → hi ≤ 1048576 →
    (∀ v, y < v → v ≤ hi → covB (fullU (l.eraseIdx k) (l.eraseIdx k)) v = true) → dnR l k lo n hi = y
  | 0, hi, h1, h2, h3, h4 => by unfold dnR; omega
  | n + 1, hi, h1, h2, h3, h4 => by
    unfold dnR
    have hw := with_room hk hr (v := hi) (by omega)
    by_cases hv : hi = y
    · subst hv
      rw [if_neg (by rw [hw.2 hy]; simp)]
    · rw [if_pos ⟨by omega, by
        cases hc : rroomB (l.set k (hi, hi))
        · rfl
        · have h6 := hw.1 hc; rw [h4 hi (by omega) (Int.le_refl _)] at h6; cases h6⟩]
      exact dnR_eq hk hr hy hb hly n (hi - 1) (by omega) (by omega) (by omega) (fun v a b => h4 v a (by omega))
theorem ends_eq {l : List Rg} {k : Nat} {r : Rg} (hk : l[k]? = some r) (hr : rroomB l = true) : rendsV l k = tightV l k := by
  obtain ⟨x, y, ht, x1, xy, y2, x3, y3, x4, y4⟩ := tight_facts hk hr
  have hb := inW_iff.1 ((rroom_iff.1 hr).2.1 r (List.mem_of_getElem? hk))
  have hrg : rgAt l k = r := by unfold rgAt; rw [hk]; rfl
  rw [ht]
  unfold rendsV
  simp only [hrg]
  rw [upR_eq hk hr x3 (by omega) (show x ≤ r.2 by omega) _ r.1 x1 (by omega) (by omega) x4]
  rw [dnR_eq hk hr y3 (by omega) xy _ r.2 y2 (by omega) (by omega) y4]
theorem rhallN_eq {l : List Rg} (hr : rroomB l = true) {D : List (List Rg)} {X : List Int} : ∀ k, k ≤ l.length → rhallN l D X k = hallN l D X k
  | 0, _ => rfl
  | k + 1, h => by
    unfold rhallN hallN
    rw [rhallN_eq hr k (by omega), ends_eq (rgAt_get (by omega)) hr, cut_eq]
theorem hall_same_as (c : Con) (D : List (List Rg)) : hallL c D = rhallL c D := by
  unfold hallL rhallL
  rw [rooms_eq]
  by_cases hm : modB (D, [c], 0, 0) = true
  · rw [if_pos hm, if_pos hm]
    by_cases hK : c.1 = 18
    · rw [if_pos hK, if_pos hK]
      by_cases hr : rroomB (endRows D c.2.1) = true
      · rw [if_pos hr, if_pos hr, rhallN_eq hr _ (by rw [endRows_len]; exact Nat.le_refl _)]
      · rw [if_neg hr, if_neg hr]
    · rw [if_neg hK, if_neg hK]
  · rw [if_neg hm, if_neg hm]
/-! smaller ranges -/
def LeR (l' l : List Rg) : Prop := l'.length = l.length ∧ ∀ (k : Nat) r' r, l'[k]? = some r' → l[k]? = some r → r.1 ≤ r'.1 ∧ r'.2 ≤ r.2
theorem cntR_wide : ∀ {l' l : List Rg} (a b : Int), LeR l' l → cntR l a b ≤ cntR l' a b
  | [], [], a, b, _ => Nat.le_refl _
  | [], r :: l, a, b, h => by have := h.1; simp at this
  | r' :: l', [], a, b, h => by have := h.1; simp at this
  | r' :: l', r :: l, a, b, h => by
    have ih := cntR_wide (l' := l') (l := l) a b ⟨by have := h.1; simpa using this, fun k x y hx hy => h.2 (k + 1) x y (by simpa using hx) (by simpa using hy)⟩
    have h0 := h.2 0 r' r rfl rfl
    unfold cntR at ih ⊢
    rw [List.filter_cons, List.filter_cons]
    by_cases h1 : inS a b r = true
    · rw [if_pos h1, if_pos (by rw [inS_iff] at h1 ⊢; omega), List.length_cons, List.length_cons]; omega
    · rw [if_neg h1]
      split
      · rw [List.length_cons]; omega
      · exact ih
theorem leR_erase {l' l : List Rg} (h : LeR l' l) (k : Nat) : LeR (l'.eraseIdx k) (l.eraseIdx k) := by
  refine ⟨by rw [List.length_eraseIdx, List.length_eraseIdx, h.1], fun j x y hx hy => ?_⟩
  rw [List.getElem?_eraseIdx] at hx hy
  by_cases hj : j < k
  · rw [if_pos hj] at hx hy; exact h.2 j x y hx hy
  · rw [if_neg hj] at hx hy; exact h.2 (j + 1) x y hx hy
theorem hr_wider {l' l : List Rg} (h : LeR l' l) (hr : HR l') : HR l := by
  intro a b h0
  have := cntR_wide a b h
  have := hr a b (by omega)
  omega
theorem cov_wider {O' O : List Rg} (h : LeR O' O) (hO' : HR O') {v : Int} (hv : covB (fullU O' O') v = false) : covB (fullU O O) v = false := by
  rw [cov_room (hr_wider h hO')]
  rw [cov_room hO'] at hv
  intro a b h1 h2
  have := cntR_wide a b h
  have := hv a b h1 h2
  omega
theorem tight_wider {l' l : List Rg} (h : LeR l' l) (hr' : rroomB l' = true) (hr : rroomB l = true) {k : Nat} (hk : k < l.length) : (tightV l k).1 ≤ (tightV l' k).1 ∧ (tightV l' k).2 ≤ (tightV l k).2 := by
  have hk' : k < l'.length := by rw [h.1]; exact hk
  have h0 := h.2 k _ _ (rgAt_get hk') (rgAt_get hk)
  obtain ⟨x, y, ht, x1, xy, y2, x3, y3, x4, y4⟩ := tight_facts (rgAt_get hk) hr
  obtain ⟨x', y', ht', x1', xy', y2', x3', y3', x4', y4'⟩ := tight_facts (rgAt_get hk') hr'
  have hO' := hr_erase (rgAt_get hk') (rroom_iff.1 hr').2.2
  have c1 := cov_wider (leR_erase h k) hO' x3'
  have c2 := cov_wider (leR_erase h k) hO' y3'
  rw [ht, ht']
  simp only
  constructor
  · rcases (show x' < x ∨ x ≤ x' by omega) with hlt | hge
    · rw [x4 x' (by omega) hlt] at c1; cases c1
    · exact hge
  · rcases (show y < y' ∨ y' ≤ y by omega) with hlt | hge
    · rw [y4 y' hlt (by omega)] at c2; cases c2
    · exact hge
end Go.Proofs.Ytonkcemcledhiaa
