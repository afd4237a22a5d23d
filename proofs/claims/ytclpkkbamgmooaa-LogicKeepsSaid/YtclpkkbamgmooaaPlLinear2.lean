/- Plain laws of sums, continued: what a narrowing leaves. -/
import Derived.Test.YtclpkkbamgmooaaPlLinear
namespace Go.Proofs.Ytclpkkbamgmooaa
open Av
set_option linter.unusedSimpArgs false
set_option linter.unusedVariables false
theorem row_set {D : List (List Rg)} {x y : Int} {r : List Rg} (hx : 0 ≤ x) (hxl : x < D.length) (hy : 0 ≤ y) : rowOf (D.set x.toNat r) y = if x = y then r else rowOf D y := by
  unfold rowOf
  by_cases h : x = y
  · subst h
    rw [if_pos rfl, List.getElem?_set_self (by omega)]
    rfl
  · rw [if_neg h, List.getElem?_set_ne (by omega)]
theorem set_self {D : List (List Rg)} {x : Int} (h : 0 ≤ x ∧ x < D.length) : D.set x.toNat (rowOf D x) = D := by
  apply List.ext_getElem?
  intro i
  by_cases hi : i = x.toNat
  · subst hi; rw [List.getElem?_set_self (by omega), row_get h]
  · rw [List.getElem?_set_ne (fun e => hi e.symm)]
theorem sub_nil {r : List Rg} (h : rightB r = true) : Sub [] r := ⟨by decide, h, fun v hv => absurd hv (mem_nil v)⟩
theorem cut_sub {r : List Rg} (h : rightB r = true) (lo hi : Int) : Sub (cutS lo hi r) r := ⟨(cutS_facts lo hi h).1, h, fun v hv => (((cutS_facts lo hi h).2 v).1 hv).1⟩
theorem without_sub {r : List Rg} (h : rightB r = true) (v : Int) : Sub (withoutS v r) r := ⟨(withoutS_facts v h).1, h, fun u hu => (((withoutS_facts v h).2 u).1 hu).1⟩
theorem le_refl_of {D : List (List Rg)} (h : DOk D) : LeD D D := ⟨rfl, fun x h0 h1 => ⟨(dom_right (h x h0 h1)).1, (dom_right (h x h0 h1)).1, fun v hv => hv⟩⟩
theorem le_setrow {E D : List (List Rg)} {x : Int} {r : List Rg} (hle : LeD E D) (hx : 0 ≤ x ∧ x < D.length) (hs : Sub r (rowOf D x)) : LeD (E.set x.toNat r) D := by
  refine ⟨by rw [List.length_set]; exact hle.1, fun y h0 h1 => ?_⟩
  rw [row_set hx.1 (by rw [hle.1]; exact hx.2) h0]
  split
  · rename_i h; subst h; exact hs
  · exact hle.2 y h0 h1
theorem most_le {D : List (List Rg)} {T : List Tm} {room : Int} (hD : DOk D) (hT : TOk T D) : ∀ {k : Nat}, k ≤ T.length → LeD (mostK D T room k) D
  | 0, _ => le_refl_of hD
  | k + 1, h => by
    have h1 := most_le (room := room) hD hT (k := k) (by omega)
    obtain ⟨_, h2⟩ := hT.2 k (by omega)
    unfold mostK
    have := h1.2 _ h2.1 h2.2
    exact le_setrow h1 h2 ((cut_sub this.1 _ _).trans this)
/-- cutting at the ends of what a domain is within -/
theorem cut_within {r t : List Rg} (hs : Sub r t) (ht : domB t = true) : cutS (endsV t).1 (endsV t).2 r = r := by
  obtain ⟨f1, f2⟩ := cutS_facts (endsV t).1 (endsV t).2 hs.1
  obtain ⟨_, _, h3, _⟩ := ends_facts ht
  exact right_ext f1 hs.1 fun v => by rw [f2]; exact ⟨fun h => h.1, fun h => ⟨h, h3 v (hs.2.2 v h)⟩⟩
theorem cut_up {r t : List Rg} (hs : Sub r t) (ht : domB t = true) (u : Int) : cutS (endsV t).1 (min (endsV t).2 u) r = cutS (-1099511627776) u r := by
  obtain ⟨f1, f2⟩ := cutS_facts (endsV t).1 (min (endsV t).2 u) hs.1
  obtain ⟨g1, g2⟩ := cutS_facts (-1099511627776) u hs.1
  obtain ⟨_, _, h3, h4, h5, h6⟩ := ends_facts ht
  refine right_ext f1 g1 fun v => ?_
  rw [f2, g2]
  constructor
  · rintro ⟨h, k1, k2⟩; exact ⟨h, by omega, by omega⟩
  · rintro ⟨h, k1, k2⟩; have := h3 v (hs.2.2 v h); exact ⟨h, by omega, by omega⟩
theorem cut_down {r t : List Rg} (hs : Sub r t) (ht : domB t = true) (u : Int) : cutS (max (endsV t).1 u) (endsV t).2 r = cutS u 1099511627776 r := by
  obtain ⟨f1, f2⟩ := cutS_facts (max (endsV t).1 u) (endsV t).2 hs.1
  obtain ⟨g1, g2⟩ := cutS_facts u 1099511627776 hs.1
  obtain ⟨_, _, h3, h4, h5, h6⟩ := ends_facts ht
  refine right_ext f1 g1 fun v => ?_
  rw [f2, g2]
  constructor
  · rintro ⟨h, k1, k2⟩; exact ⟨h, by omega, by omega⟩
  · rintro ⟨h, k1, k2⟩; have := h3 v (hs.2.2 v h); exact ⟨h, by omega, by omega⟩
/-- domains that have values again -/
theorem whole_ok {E D : List (List Rg)} (hle : LeD E D) (hw : wholeB E = true) : DOk E := by
  intro x h0 h1
  have hs := hle.2 x h0 (by rw [← hle.1]; exact h1)
  have hm := row_mem (D := E) ⟨h0, h1⟩
  unfold wholeB at hw
  rw [Bool.not_eq_true', List.any_eq_false] at hw
  have := hw _ hm
  simp only [decide_eq_true_eq] at this
  unfold domB
  rw [hs.1, Bool.true_and, decide_eq_true_eq]
  omega
theorem opp_ok {T : List Tm} {D E : List (List Rg)} (hT : TOk T D) (hl : E.length = D.length) : TOk (opp T) E := by
  have h0 : (opp T).length = T.length := by unfold opp; rw [List.length_map]
  refine ⟨by rw [h0]; exact hT.1, fun k hk => ?_⟩
  rw [h0] at hk
  obtain ⟨h1, h2⟩ := hT.2 k hk
  have e : tX (opp T) k = (-(tX T k).1, (tX T k).2) := by
    have : (opp T)[k]? = some (-(tX T k).1, (tX T k).2) := by unfold opp; rw [List.getElem?_map, tX_get hk]; rfl
    conv => lhs; unfold tX
    rw [this]; rfl
  rw [e]
  simp only
  omega
theorem open_facts {D : List (List Rg)} {T : List Tm} (hD : DOk D) (hT : TOk T D) : ∀ {k : Nat}, k ≤ T.length → (openK D T k).1.length ≤ k ∧ (-1099511627776 * k ≤ (openK D T k).2 ∧ (openK D T k).2 ≤ 1099511627776 * k) ∧ ∀ t ∈ (openK D T k).1, ¬ t.1 = 0 ∧ (-1048576 ≤ t.1 ∧ t.1 ≤ 1048576) ∧ 0 ≤ t.2 ∧ t.2 < D.length
  | 0, _ => by simp [openK]
  | k + 1, h => by
    obtain ⟨h1, h2, h3⟩ := open_facts hD hT (k := k) (by omega)
    obtain ⟨t1, t2⟩ := hT.2 k (by omega)
    obtain ⟨_, e1, e2, e3⟩ := eAt_facts hD t2
    have m1 := mul_bound (a := (tX T k).1) (b := (eAt D (tX T k).2).1) t1 (by omega)
    unfold openK
    split
    · simp only
      exact ⟨by omega, by omega, h3⟩
    · rename_i hn
      simp only
      refine ⟨by simp; omega, by omega, fun t ht => ?_⟩
      rcases List.mem_append.1 ht with h | h
      · exact h3 t h
      · simp at h; subst h
        exact ⟨fun e => hn (.inl e), t1, t2⟩
end Go.Proofs.Ytclpkkbamgmooaa
