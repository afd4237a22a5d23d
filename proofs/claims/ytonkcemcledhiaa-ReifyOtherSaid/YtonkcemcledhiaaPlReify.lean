/- Plain laws of sums with a flag. -/
import Derived.Test.YtonkcemcledhiaaGLinLaw
namespace Go.Proofs.Ytonkcemcledhiaa
open Av
attribute [local irreducible] awp awpOpers
set_option linter.unusedSimpArgs false
set_option linter.unusedVariables false
set_option linter.unusedSectionVars false
def loseS (D : List (List Rg)) (x v : Int) : List (List Rg) × Bool := (D.set x.toNat (withoutS v (rowOf D x)), wholeB (D.set x.toNat (withoutS v (rowOf D x))))
def openS (K : Int) (D : List (List Rg)) (T : List Tm) (C f : Int) : List (List Rg) × Bool :=
  if C < (spanK D T T.length).1 ∨ (K = 4 ∧ (spanK D T T.length).2 < C) then loseS D f 1
  else if (K = 5 ∧ (spanK D T T.length).2 ≤ C) ∨ (K = 4 ∧ (spanK D T T.length).1 = C ∧ (spanK D T T.length).2 = C) then loseS D f 0
  else (D, true)
def set1S (K : Int) (D : List (List Rg)) (T : List Tm) (C : Int) : List (List Rg) × Bool := if K = 4 then isS D T C else mostS D T C
def set0S (K : Int) (D : List (List Rg)) (T : List Tm) (C f : Int) : List (List Rg) × Bool := if K = 4 then notS D T C else if K = 5 then mostS D (opp T) (-C - 1) else openS K D T C f
def reifyS (K : Int) (D : List (List Rg)) (T : List Tm) (C f : Int) : List (List Rg) × Bool :=
  if (eAt D f).1 = 1 then set1S K D T C else if (eAt D f).2 = 0 then set0S K D T C f else openS K D T C f
def flagX (c : Con) : Int := xat c.2.1 (c.2.1.length - 1)
def headX (c : Con) : List Int := c.2.1.take (c.2.1.length - 1)
def reifyL (c : Con) (D : List (List Rg)) : List (List Rg) × Int :=
  if modB (D, [c], 0, 0) = true then (if 4 ≤ c.1 ∧ c.1 ≤ 6 then tell (reifyS c.1 D (termsOf c) c.2.2.2 (flagX c)) else ([], 10)) else ([], 2)
/-! what a model of one sum with a flag says -/
theorem reif_len {c : Con} {D : List (List Rg)} (hK : 4 ≤ c.1 ∧ c.1 ≤ 6) (hm : modB (D, [c], 0, 0) = true) : c.2.1.length = c.2.2.1.length + 1 := by
  obtain ⟨f1, f2, f3⟩ := one_facts hm
  obtain ⟨g1, -⟩ := may_facts f3
  simp only [formedB, Bool.and_eq_true] at g1
  have g2 := g1.1.2
  have : shp c.1 = (1, 1, 0, true, 1) := by
    unfold shp
    rw [if_neg (by omega), if_pos (by omega)]
  rw [this] at g2
  simp [countsB] at g2
  omega
theorem head_len {c : Con} {D : List (List Rg)} (hK : 4 ≤ c.1 ∧ c.1 ≤ 6) (hm : modB (D, [c], 0, 0) = true) : (headX c).length = c.2.2.1.length := by
  have := reif_len hK hm
  unfold headX
  rw [List.length_take]; omega
theorem flag_facts {c : Con} {D : List (List Rg)} (hK : 4 ≤ c.1 ∧ c.1 ≤ 6) (hm : modB (D, [c], 0, 0) = true) : (0 ≤ flagX c ∧ flagX c < D.length) ∧ truthB (rowOf D (flagX c)) = true := by
  obtain ⟨f1, f2, f3⟩ := one_facts hm
  obtain ⟨g1, g2, g3, g4, g5⟩ := may_facts f3
  have hl := reif_len hK hm
  refine ⟨g3 _ (by omega), ?_⟩
  have : (shp c.1).2.2.2.2 = 1 := by
    unfold shp
    rw [if_neg (by omega), if_pos (by omega)]
  rw [this] at g4
  have h := List.all_eq_true.1 g4 (c.2.1.length - 1) (by simp; omega)
  unfold xOk at h
  rw [xat_get (by omega)] at h
  simp only [Bool.and_eq_true] at h
  have h2 := h.2
  have hc : (1 : Int) = 2 ∨ True ∧ c.2.1.length - 1 + 1 = c.2.1.length := by right; exact ⟨trivial, by omega⟩
  rw [if_pos hc] at h2
  exact h2
theorem terms_head {c : Con} {D : List (List Rg)} (K : Int) (hK : 4 ≤ c.1 ∧ c.1 ≤ 6) (hm : modB (D, [c], 0, 0) = true) : termsOf (K, headX c, c.2.2.1, c.2.2.2) = termsOf c := by
  have hl := reif_len hK hm
  unfold termsOf headX
  simp only
  apply List.ext_getElem?
  intro i
  by_cases hi : i < c.2.2.1.length
  · have h1 : (c.2.1.take (c.2.1.length - 1))[i]? = c.2.1[i]? := by rw [List.getElem?_take, if_pos (by omega)]
    have e1 := xat_get (X := c.2.2.1) (i := i) hi
    have e2 := xat_get (X := c.2.1) (i := i) (by omega)
    have a1 : (List.zip c.2.2.1 (c.2.1.take (c.2.1.length - 1)))[i]? = some (xat c.2.2.1 i, xat c.2.1 i) := by
      rw [List.getElem?_zip_eq_some]; exact ⟨e1, by rw [h1]; exact e2⟩
    have a2 : (List.zip c.2.2.1 c.2.1)[i]? = some (xat c.2.2.1 i, xat c.2.1 i) := by
      rw [List.getElem?_zip_eq_some]; exact ⟨e1, e2⟩
    rw [a1, a2]
  · rw [List.getElem?_eq_none (by rw [List.length_zip]; omega), List.getElem?_eq_none (by rw [List.length_zip]; omega)]
theorem mod_plain {c : Con} {D : List (List Rg)} {K : Int} (hK : 4 ≤ c.1 ∧ c.1 ≤ 6) (hm : modB (D, [c], 0, 0) = true) (h : 1 ≤ K ∧ K ≤ 3) : modB (D, [(K, headX c, c.2.2.1, c.2.2.2)], 0, 0) = true := by
  have hh := head_len hK hm
  have hl := reif_len hK hm
  obtain ⟨f1, f2, f3⟩ := one_facts hm
  obtain ⟨g1, g2, g3, g4, g5⟩ := may_facts f3
  have hw : withinB c.2.2.2 = true := by
    simp only [mayB, Bool.and_eq_true] at f3
    exact f3.1.1.1.2
  have hs : shp K = (1, 0, 0, true, 0) := by
    unfold shp
    rw [if_pos (by omega)]
  have hk : kindB K = true := by unfold kindB; rw [Bool.and_eq_true, decide_eq_true_eq, decide_eq_true_eq]; omega
  simp only [modB, Bool.and_eq_true, decide_eq_true_eq, List.all_eq_true]
  refine ⟨⟨⟨⟨f1, by simp⟩, f2⟩, fun x hx => ?_⟩, by simp [askB]⟩
  simp at hx; subst hx
  have h11 : ¬ K = 11 := by omega
  have h19 : ¬ K = 19 := by omega
  have hfm : formedB (K, headX c, c.2.2.1, c.2.2.2) = true := by
    unfold formedB
    simp only [hs, hk, hh]
    rw [if_neg h11, if_neg h19]
    simp [countsB]
  simp only [mayB, hfm, hs, hw, hh, Bool.and_eq_true, decide_eq_true_eq, Bool.or_true, Bool.true_and, and_true, true_and]
  refine ⟨⟨by omega, ?_⟩, by rw [List.all_eq_true]; exact g5⟩
  · unfold xsOk
    rw [List.all_eq_true]
    intro i hi
    have hi' : i < c.2.2.1.length := by rw [← hh]; simpa using hi
    have e1 : (headX c)[i]? = some (xat c.2.1 i) := by unfold headX; rw [List.getElem?_take, if_pos (by omega)]; exact xat_get (by omega)
    unfold xOk
    rw [e1]
    have := g3 i (by omega)
    simp [this.1, this.2]
theorem wholeB_set {D : List (List Rg)} {x : Int} {r : List Rg} (hD : ∀ d ∈ D, 0 < d.length) (hx : 0 ≤ x ∧ x < D.length) : wholeB (D.set x.toNat r) = decide (0 < r.length) := by
  have hin : r ∈ D.set x.toNat r := List.mem_of_getElem? (List.getElem?_set_self (by omega) : (D.set x.toNat r)[x.toNat]? = some r)
  unfold wholeB
  by_cases hr : r.length = 0
  · have : (D.set x.toNat r).any (fun d => decide (d.length = 0)) = true := List.any_eq_true.2 ⟨r, hin, by simpa using hr⟩
    rw [this]
    simp [hr]
  · have : (D.set x.toNat r).any (fun d => decide (d.length = 0)) = false := by
      rw [List.any_eq_false]
      intro d hd
      rcases List.mem_or_eq_of_mem_set hd with h | rfl
      · have := hD d h
        simp only [decide_eq_true_eq]; omega
      · simp only [decide_eq_true_eq]; omega
    rw [this]
    have : 0 < r.length := by omega
    simp [this]
/-! what is left lies within -/
theorem lose_le {D E : List (List Rg)} {x v : Int} {b : Bool} (hD : DOk D) (hx : 0 ≤ x ∧ x < D.length) (hs : loseS D x v = (E, b)) : LeD E D ∧ (b = true → wholeB E = true) := by
  unfold loseS at hs
  injection hs with h1 h2
  subst h1
  exact ⟨le_setrow (le_refl_of hD) hx (without_sub (dom_right (hD _ hx.1 hx.2)).1 _), fun h => by rw [h2]; exact h⟩
theorem whole_of {D : List (List Rg)} (h : DOk D) : wholeB D = true := by
  unfold wholeB
  rw [Bool.not_eq_true', List.any_eq_false]
  intro r hr
  have := dok_pos h r hr
  simp only [decide_eq_true_eq]; omega
theorem open_le {K C f : Int} {D E : List (List Rg)} {T : List Tm} {b : Bool} (hD : DOk D) (hx : 0 ≤ f ∧ f < D.length) (hs : openS K D T C f = (E, b)) : LeD E D ∧ (b = true → wholeB E = true) := by
  unfold openS at hs
  split at hs
  · exact lose_le hD hx hs
  · split at hs
    · exact lose_le hD hx hs
    · injection hs with h1 h2
      subst h1
      exact ⟨le_refl_of hD, fun _ => whole_of hD⟩
theorem is_wh {D E : List (List Rg)} {T : List Tm} {n : Int} (hs : isS D T n = (E, true)) : wholeB E = true := by
  unfold isS at hs
  split at hs
  · cases hs
  · exact most_wh hs
theorem not_wh {D E : List (List Rg)} {T : List Tm} {n : Int} (hD : DOk D) (hs : notS D T n = (E, true)) : wholeB E = true := by
  unfold notS at hs
  split at hs
  · cases hs; exact whole_of hD
  · split at hs
    · injection hs with h1 h2; subst h1; exact whole_of hD
    · split at hs
      · cases hs; exact whole_of hD
      · injection hs with h1 h2; subst h1; exact h2
theorem reifyS_le {K C f : Int} {D E : List (List Rg)} {T : List Tm} {b : Bool} (hD : DOk D) (hT : TOk T D) (hx : 0 ≤ f ∧ f < D.length) (hs : reifyS K D T C f = (E, b)) : LeD E D ∧ (b = true → wholeB E = true) := by
  unfold reifyS at hs
  split at hs
  · unfold set1S at hs
    split at hs
    · exact ⟨is_len hD hT hs, fun h => by subst h; exact is_wh hs⟩
    · exact ⟨most_len hD hT hs, fun h => by subst h; exact most_wh hs⟩
  · split at hs
    · unfold set0S at hs
      split at hs
      · exact ⟨not_len hD hT hs, fun h => by subst h; exact not_wh hD hs⟩
      · split at hs
        · exact ⟨most_len hD (opp_ok hT rfl) hs, fun h => by subst h; exact most_wh hs⟩
        · exact open_le hD hx hs
    · exact open_le hD hx hs
theorem reify_res {c : Con} {D : List (List Rg)} (hK : 4 ≤ c.1 ∧ c.1 ≤ 6) (hm : modB (D, [c], 0, 0) = true) : reifyL c D = ([], 12) ∨ ∃ E, reifyL c D = (E, 0) ∧ LeD E D ∧ ∀ r ∈ E, 0 < r.length := by
  obtain ⟨f1, f2, f3, f4, f5, f6⟩ := sum_facts hm (by omega)
  obtain ⟨hf, -⟩ := flag_facts hK hm
  unfold reifyL
  rw [if_pos hm, if_pos hK]
  obtain ⟨E, b, hs⟩ : ∃ E b, reifyS c.1 D (termsOf c) c.2.2.2 (flagX c) = (E, b) := ⟨_, _, rfl⟩
  obtain ⟨h1, h2⟩ := reifyS_le f2 f3 hf hs
  rw [hs]
  cases b
  · exact .inl rfl
  · exact .inr ⟨E, rfl, h1, whole_pos (h2 rfl)⟩
/-! no values are lost -/
section
variable {D : List (List Rg)} {T : List Tm} {a : List Int} {n : Int} (hF : Full D) (hD : DOk D) (hT : TOk T D) (ha : InBox D a)
include hF hD hT ha
theorem one_ok : DOk (oneD a) := dom_ok (one_le hF ha).2
theorem tm_in : ∀ k, k < T.length → 0 ≤ (tX T k).2 ∧ (tX T k).2 < a.length := fun k hk => by have := (hT.2 k hk).2; rw [ha.1]; exact this
theorem up_keep {s t : List (List Rg) × Bool} (h : Up s t) (hs : s = (oneD a, true)) : ∃ E, t = (E, true) ∧ InBox E a := by
  obtain ⟨E, b⟩ := t
  subst hs
  cases b
  · have := h.1 rfl
    cases this
  · exact ⟨E, rfl, le_box (h.2 rfl)⟩
theorem most_keep (h : sumT T a T.length ≤ n) : ∃ E, mostS D T n = (E, true) ∧ InBox E a :=
  up_keep hF hD hT ha (mostS_up (one_le hF ha).1 (one_ok hF hD hT ha) hD hT) (mostS_one (box_bound hF ha) (tm_in hF hD hT ha) h)
theorem is_keep (h : sumT T a T.length = n) : ∃ E, isS D T n = (E, true) ∧ InBox E a := by
  refine up_keep hF hD hT ha (isS_up (one_le hF ha).1 (one_ok hF hD hT ha) hD hT) ?_
  have hi := tm_in hF hD hT ha
  unfold isS
  rw [mostS_one (box_bound hF ha) hi (by omega)]
  simp only
  exact mostS_one (box_bound hF ha) (fun k hk => by rw [opp_length] at hk; rw [opp_at hk]; exact hi k hk) (by rw [opp_length, sumT_opp (Nat.le_refl _)]; omega)
theorem not_keep (h : ¬ sumT T a T.length = n) : ∃ E, notS D T n = (E, true) ∧ InBox E a := by
  have h1 := (one_le hF ha).1
  have h2 := one_ok hF hD hT ha
  have hT1 : TOk T (oneD a) := ⟨hT.1, fun k hk => by have := hT.2 k hk; rw [h1.1]; exact this⟩
  refine up_keep hF hD hT ha (notS_up h1 h2 hD hT fun E' b h => not_len h2 hT1 h) ?_
  unfold notS
  rw [open_one (box_bound hF ha) (tm_in hF hD hT ha) (Nat.le_refl _)]
  simp
  omega
theorem sum_in : (spanK D T T.length).1 ≤ sumT T a T.length ∧ sumT T a T.length ≤ (spanK D T T.length).2 := by
  have hi := tm_in hF hD hT ha
  have hb := box_bound hF ha
  have h1 := (span_up (one_le hF ha).1 (one_ok hF hD hT ha) hD hT (n := T.length) (Nat.le_refl _)).1
  rw [span_one hb hi (Nat.le_refl _)] at h1
  have hT' := opp_ok hT rfl
  have h2 := (span_up (one_le hF ha).1 (one_ok hF hD hT ha) hD hT' (n := (opp T).length) (Nat.le_refl _)).1
  rw [span_one hb (fun k hk => by rw [opp_length] at hk; rw [opp_at hk]; exact hi k hk) (Nat.le_refl _), opp_length, sumT_opp (Nat.le_refl _), opp_span (Nat.le_refl _)] at h2
  omega
end
theorem lose_keep {D : List (List Rg)} {a : List Int} {x v : Int} (hF : Full D) (ha : InBox D a) (hx : 0 ≤ x ∧ x < D.length) (h : ¬ xat a x.toNat = v) : ∃ E, loseS D x v = (E, true) ∧ InBox E a := by
  have hr := hF _ (row_mem hx)
  have hv := box_row ha hx
  obtain ⟨w1, w2⟩ := withoutS_facts v hr.1
  have hin : Mem (withoutS v (rowOf D x)) (xat a x.toNat) := (w2 _).2 ⟨hv, h⟩
  have hp : 0 < (withoutS v (rowOf D x)).length := by
    cases hq : withoutS v (rowOf D x) with
    | nil => rw [hq] at hin; exact absurd hin (mem_nil _)
    | cons _ _ => simp
  refine ⟨D.set x.toNat (withoutS v (rowOf D x)), ?_, by rw [List.length_set]; exact ha.1, fun i r u hi hu => ?_⟩
  · unfold loseS
    rw [wholeB_set (fun d hd => (hF d hd).2) hx]
    simp [hp]
  · by_cases e : i = x.toNat
    · subst e
      rw [List.getElem?_set_self (by omega)] at hi
      injection hi with hi
      subst hi
      have : xat a x.toNat = u := xat_eq hu
      rw [← this]; exact hin
    · rw [List.getElem?_set_ne (fun h => e h.symm)] at hi
      exact ha.2 i r u hi hu
theorem truth_ends {r : List Rg} (hd : domB r = true) (ht : truthB r = true) : 0 ≤ (endsV r).1 ∧ (endsV r).2 ≤ 1 := by
  have hd' := dom_right hd
  obtain ⟨⟨x, y⟩, hx⟩ : ∃ a, r[0]? = some a := ⟨_, List.getElem?_eq_getElem (by omega)⟩
  obtain ⟨⟨p, q⟩, hp⟩ : ∃ a, r[r.length - 1]? = some a := ⟨_, List.getElem?_eq_getElem (by omega)⟩
  rw [ends_at hd'.1 hx hp]
  unfold truthB at ht
  rw [hx, hp] at ht
  simpa using ht
theorem reify_keep {K C f : Int} {D : List (List Rg)} {T : List Tm} {a : List Int} (hK : 4 ≤ K ∧ K ≤ 6) (hF : Full D) (hD : DOk D) (hT : TOk T D) (hf : 0 ≤ f ∧ f < D.length) (ht : truthB (rowOf D f) = true) (ha : InBox D a)
    (hh : linB K C (sumT T a T.length) (xat a f.toNat) = true) : ∃ E, reifyS K D T C f = (E, true) ∧ InBox E a := by
  obtain ⟨s1, s2⟩ := sum_in hF hD hT ha
  have hv := box_row ha hf
  have hd := hD f hf.1 hf.2
  obtain ⟨e1, e2⟩ := truth_ends hd ht
  obtain ⟨-, -, e3, -, -, -⟩ := ends_facts hd
  have e4 := e3 _ hv
  have e5 : eAt D f = endsV (rowOf D f) := rfl
  have hopen : ∃ E, openS K D T C f = (E, true) ∧ InBox E a := by
    unfold openS
    split
    · rename_i hn
      refine lose_keep hF ha hf fun e => ?_
      rw [e] at hh
      unfold linB at hh
      have hc : K = 4 ∨ K = 5 ∨ K = 6 := by omega
      rcases hc with rfl | rfl | rfl <;> simp at hh hn <;> omega
    · split
      · rename_i hn hy
        refine lose_keep hF ha hf fun e => ?_
        rw [e] at hh
        unfold linB at hh
        have hc : K = 4 ∨ K = 5 ∨ K = 6 := by omega
        rcases hc with rfl | rfl | rfl <;> simp at hh hn hy <;> omega
      · exact ⟨D, rfl, ha⟩
  unfold reifyS
  split
  · rename_i h1
    have hv1 : xat a f.toNat = 1 := by rw [e5] at h1; omega
    rw [hv1] at hh
    unfold set1S
    unfold linB at hh
    have hc : K = 4 ∨ K = 5 ∨ K = 6 := by omega
    rcases hc with rfl | rfl | rfl <;> simp at hh
    · rw [if_pos rfl]; exact is_keep hF hD hT ha hh
    · rw [if_neg (by omega)]; exact most_keep hF hD hT ha hh
    · rw [if_neg (by omega)]; exact most_keep hF hD hT ha hh
  · split
    · rename_i h1 h0
      have hv0 : xat a f.toNat = 0 := by rw [e5] at h0; omega
      unfold set0S
      split
      · rename_i h4
        subst h4
        rw [hv0] at hh
        unfold linB at hh
        simp at hh
        exact not_keep hF hD hT ha hh
      · split
        · rename_i h4 h5
          subst h5
          rw [hv0] at hh
          unfold linB at hh
          simp at hh
          exact most_keep hF hD (opp_ok hT rfl) ha (by rw [opp_length, sumT_opp (Nat.le_refl _)]; omega)
        · exact hopen
    · exact hopen
theorem reify_kept {c : Con} {D : List (List Rg)} (hK : 4 ≤ c.1 ∧ c.1 ≤ 6) (hm : modB (D, [c], 0, 0) = true) :
    KeptP (fun a => askdB c a && holdsB c (valsOf c.2.1 a)) D (reifyL c D).1 (reifyL c D).2 := by
  obtain ⟨f1, f2, f3, f4, f5, f6⟩ := sum_facts hm (by omega)
  obtain ⟨hf, ht⟩ := flag_facts hK hm
  obtain ⟨g1, g2, g3⟩ := one_facts hm
  have hF := full_dom g2
  have hl := reif_len hK hm
  have key : ∀ a, InBox D a → (askdB c a && holdsB c (valsOf c.2.1 a)) = true → ∃ E, reifyL c D = (E, 0) ∧ InBox E a := by
    intro a ha hh
    rw [Bool.and_eq_true] at hh
    have hh2 := hh.2
    unfold holdsB at hh2
    rw [if_pos (by omega)] at hh2
    have hTl : (termsOf c).length = c.2.2.1.length := by unfold termsOf; simp only [List.length_zip]; omega
    have hsum : sumN c.2.2.1 (valsOf c.2.1 a) c.2.2.1.length = sumT (termsOf c) a (termsOf c).length := by
      rw [hTl]
      exact sum_link f5 (Nat.le_refl _)
    have hlast : lastV (valsOf c.2.1 a) = xat a (flagX c).toNat := by
      unfold lastV flagX
      have h1 : (valsOf c.2.1 a).length = c.2.1.length := by unfold valsOf; rw [List.length_map]
      rw [h1]
      exact xat_eq (vals_get (xat_get (by omega)))
    rw [hsum, hlast] at hh2
    obtain ⟨E, hE, hb⟩ := reify_keep hK hF f2 f3 hf ht ha hh2
    refine ⟨E, ?_, hb⟩
    unfold reifyL
    rw [if_pos hm, if_pos hK, hE]
    rfl
  rcases reify_res hK hm with h0 | ⟨E, hE, hle, hp⟩
  · rw [h0]
    refine .inl ⟨rfl, rfl, fun a ha => ?_⟩
    cases hh : (askdB c a && holdsB c (valsOf c.2.1 a)) with
    | false => exact hh
    | true =>
      obtain ⟨E, hE, -⟩ := key a ha hh
      rw [h0] at hE
      cases hE
  · rw [hE]
    refine .inr ⟨rfl, hle, hp, fun a ha hh => ?_⟩
    obtain ⟨E', hE', hb⟩ := key a ha hh
    rw [hE] at hE'
    injection hE' with hE' _
    subst hE'
    exact hb
end Go.Proofs.Ytonkcemcledhiaa
