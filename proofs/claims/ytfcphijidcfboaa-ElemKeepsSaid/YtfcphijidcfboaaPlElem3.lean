/- Plain laws: smaller domains lead to smaller ones. -/
import Derived.Test.YtfcphijidcfboaaPlKpElem
namespace Go.Proofs.Ytfcphijidcfboaa
open Av
attribute [local irreducible] awp awpOpers
set_option linter.unusedSimpArgs false
set_option linter.unusedVariables false
theorem len_mem {r : List Rg} (h : rightB r = true) : ¬ r.length = 0 ↔ ∃ v, Mem r v := by
  constructor
  · intro h0
    have hk : r[0]? = some r[0] := List.getElem?_eq_getElem (by omega)
    have := right_rg h (k := 0) (x := r[0].1) (y := r[0].2) hk
    exact ⟨r[0].1, r[0], List.mem_of_getElem? hk, Int.le_refl _, this.1⟩
  · rintro ⟨v, q, hq, -⟩ h0
    have : r = [] := List.eq_nil_of_length_eq_zero h0
    subst this
    simp at hq
theorem keep_iff {ri rr : List Rg} {c : Ch} (hr : rightB rr = true) (hc : rightB c.2 = true) : keepC ri rr c = true ↔ hasB ri c.1 = true ∧ ∃ v, Mem c.2 v ∧ Mem rr v := by
  unfold keepC
  rw [Bool.and_eq_true, Bool.not_eq_true', decide_eq_false_iff_not, len_mem (meetS_facts hc hr).1]
  simp only [(meetS_facts hc hr).2]
/-- whole, or failed -/
theorem fin_up {S D : List (List Rg)} (hle : LeD S D) : (∃ E, finE D = (E, 0) ∧ (finE S = ([], 12) ∨ ∃ E', finE S = (E', 0) ∧ LeD E' E)) ∨ (finE D = ([], 12) ∧ finE S = ([], 12)) := by
  unfold finE
  cases hw : wholeB D
  · right
    have hs : wholeB S = false := by
      unfold wholeB at hw ⊢
      rw [Bool.not_eq_false', List.any_eq_true] at hw
      rw [Bool.not_eq_false', List.any_eq_true]
      obtain ⟨d, hd, h0⟩ := hw
      obtain ⟨k, hk, rfl⟩ := List.getElem_of_mem hd
      have hsub := hle.2 (k : Int) (by omega) (by omega)
      have e1 : rowOf D (k : Int) = D[k] := by unfold rowOf; rw [Int.toNat_natCast, List.getElem?_eq_getElem hk]; rfl
      have hks : k < S.length := by rw [hle.1]; exact hk
      have e2 : rowOf S (k : Int) = S[k] := by unfold rowOf; rw [Int.toNat_natCast, List.getElem?_eq_getElem hks]; rfl
      rw [e1, e2] at hsub
      refine ⟨S[k], List.getElem_mem hks, ?_⟩
      rw [decide_eq_true_eq] at h0 ⊢
      by_cases hz : S[k].length = 0
      · exact hz
      · obtain ⟨v, hv⟩ := (len_mem hsub.1).1 hz
        exact absurd h0 ((len_mem hsub.2.1).2 ⟨v, hsub.2.2 v hv⟩)
    rw [hs]
    exact ⟨rfl, rfl⟩
  · left
    refine ⟨D, rfl, ?_⟩
    cases hs : wholeB S
    · exact .inl rfl
    · exact .inr ⟨S, rfl, hle⟩
/-- choices and fewer -/
def Fewer (KS KD : List Ch) : Prop := ∀ c ∈ KS, ∃ c' ∈ KD, c'.1 = c.1 ∧ ∀ v, Mem c.2 v → Mem c'.2 v
structure Good (K : List Ch) : Prop where
  idx : ∀ c ∈ K, -1048576 ≤ c.1 ∧ c.1 ≤ 1048576
  row : ∀ c ∈ K, ∀ q ∈ c.2, q.1 ≤ q.2 ∧ InR q
theorem nar_up {i r : Int} {KS KD : List Ch} {S D : List (List Rg)} (hle : LeD S D) (hS : ∀ d ∈ S, domB d = true) (hD : ∀ d ∈ D, domB d = true) (hi : 0 ≤ i ∧ i < D.length) (hr : 0 ≤ r ∧ r < D.length) (gS : Good KS) (gD : Good KD) (hf : Fewer KS KD) : LeD (narE i r KS S) (narE i r KD D) := by
  have hl := hle.1
  have hiS : 0 ≤ i ∧ i < S.length := by omega
  have hrS : 0 ≤ r ∧ r < S.length := by omega
  have rS := narE_right hiS hrS hS gS.idx gS.row
  have rD := narE_right hi hr hD gD.idx gD.row
  obtain ⟨i1, i2⟩ := idx_mem gS.idx
  obtain ⟨j1, j2⟩ := idx_mem gD.idx
  obtain ⟨a1, a2⟩ := all_mem gS.row
  obtain ⟨b1, b2⟩ := all_mem gD.row
  have hI : ∀ v, Mem (idxE KS) v → Mem (idxE KD) v := fun v h => by
    obtain ⟨c, hc, rfl⟩ := (i2 v).1 h
    obtain ⟨c', hc', e, -⟩ := hf c hc
    exact (j2 _).2 ⟨c', hc', e⟩
  have hA : ∀ v, Mem (allE KS) v → Mem (allE KD) v := fun v h => by
    obtain ⟨c, hc, hv⟩ := (a2 v).1 h
    obtain ⟨c', hc', -, e⟩ := hf c hc
    exact (b2 _).2 ⟨c', hc', e v hv⟩
  refine ⟨by rw [narE_len, narE_len, hl], fun z h0 h1 => ⟨right_row rS z, right_row rD z, fun v hv => ?_⟩⟩
  rw [narE_len] at h1
  rw [nar_row hiS hrS z h0] at hv
  rw [nar_row hi hr z h0]
  have hSr := (dom_right (hS _ (row_mem hrS))).1
  have hDr := (dom_right (hD _ (row_mem hr))).1
  have hsr := (hle.2 r hr.1 hr.2).2.2
  by_cases e1 : r = z
  · rw [if_pos e1] at hv ⊢
    by_cases e2 : i = r
    · rw [if_pos e2] at hv ⊢
      have := ((meetS_facts i1 a1).2 v).1 hv
      exact ((meetS_facts j1 b1).2 v).2 ⟨hI v this.1, hA v this.2⟩
    · rw [if_neg e2] at hv ⊢
      have := ((meetS_facts hSr a1).2 v).1 hv
      exact ((meetS_facts hDr b1).2 v).2 ⟨hsr v this.1, hA v this.2⟩
  · rw [if_neg e1] at hv ⊢
    by_cases e2 : i = z
    · rw [if_pos e2] at hv ⊢
      exact hI v hv
    · rw [if_neg e2] at hv ⊢
      exact (hle.2 z h0 h1).2.2 v hv
theorem cho_row {E : List (List Rg)} {one r : Int} {m : List Rg} (h1 : 0 ≤ one ∧ one < E.length) (hr : 0 ≤ r ∧ r < E.length) (z : Int) (hz : 0 ≤ z) : rowOf ((E.set one.toNat m).set r.toNat m) z = if r = z ∨ one = z then m else rowOf E z := by
  rw [row_set hr.1 (by rw [List.length_set]; exact hr.2) hz, row_set h1.1 h1.2 hz]
  by_cases e : r = z
  · simp [e]
  · by_cases e2 : one = z
    · simp [e2]
    · simp [e, e2]
def oneOk (X : List Int) (i : Int) (E : List (List Rg)) : Prop := endsB (rowOf E i) = true → (endsV (rowOf E i)).1 = (endsV (rowOf E i)).2 → 0 ≤ xat X (endsV (rowOf E i)).1.toNat ∧ xat X (endsV (rowOf E i)).1.toNat < E.length
theorem ends_dom {r : List Rg} (h : endsB r = true) : domB r = true := by
  unfold endsB at h
  unfold domB
  rw [Bool.and_eq_true] at h ⊢
  refine ⟨h.1, ?_⟩
  have := h.2
  cases r with
  | nil => simp at this
  | cons a b => simp
theorem dom_ends {r : List Rg} (h : rightB r = true) (h0 : ¬ r.length = 0) : endsB r = true := by
  unfold endsB
  rw [h]
  cases r with
  | nil => simp at h0
  | cons a b => rfl
theorem cho_le {X : List Int} {i r : Int} {E : List (List Rg)} (hE : ∀ d ∈ E, rightB d = true) (hr : 0 ≤ r ∧ r < E.length) (ho : oneOk X i E) : LeD (choE X i r E) E := by
  refine ⟨choE_len _ _ _ _, fun z h0 h1 => ⟨right_row (choE_right hE) z, right_row hE z, fun v hv => ?_⟩⟩
  unfold choE at hv
  split at hv
  · rename_i hc
    have h2 := ho hc.1 hc.2
    generalize xat X (endsV (rowOf E i)).1.toNat = one at hv h2
    rw [cho_row h2 hr z h0] at hv
    have hm := (meetS_facts (right_row hE one) (right_row hE r)).2 v
    split at hv
    · rename_i e
      rcases e with rfl | rfl
      · exact (hm.1 hv).2
      · exact (hm.1 hv).1
    · exact hv
  · exact hv
theorem cho_up {X : List Int} {i r : Int} {S D : List (List Rg)} (hle : LeD S D) (hS : ∀ d ∈ S, rightB d = true) (hD : ∀ d ∈ D, rightB d = true) (hi : 0 ≤ i ∧ i < D.length) (hr : 0 ≤ r ∧ r < D.length) (oS : oneOk X i S) (oD : oneOk X i D) :
    LeD (choE X i r S) (choE X i r D) ∨ wholeB (choE X i r S) = false := by
  have hl := hle.1
  have hrS : 0 ≤ r ∧ r < S.length := by omega
  by_cases hc : endsB (rowOf D i) = true ∧ (endsV (rowOf D i)).1 = (endsV (rowOf D i)).2
  · by_cases h0 : (rowOf S i).length = 0
    · right
      have hne : ¬ (endsB (rowOf S i) = true ∧ (endsV (rowOf S i)).1 = (endsV (rowOf S i)).2) := by
        rintro ⟨h, -⟩
        unfold endsB at h
        have : rowOf S i = [] := List.eq_nil_of_length_eq_zero h0
        rw [this] at h
        simp at h
      unfold choE
      rw [if_neg hne]
      unfold wholeB
      rw [Bool.not_eq_false', List.any_eq_true]
      exact ⟨rowOf S i, row_mem (by omega), by simp [h0]⟩
    · left
      have hbS := dom_ends (right_row hS i) h0
      obtain ⟨d1, d2, d3, -⟩ := ends_facts (ends_dom hc.1)
      obtain ⟨s1, s2, s3, -⟩ := ends_facts (ends_dom hbS)
      have hsub := (hle.2 i hi.1 hi.2).2.2
      have t1 := d3 _ (hsub _ s1)
      have t2 := d3 _ (hsub _ s2)
      have hcS : endsB (rowOf S i) = true ∧ (endsV (rowOf S i)).1 = (endsV (rowOf S i)).2 := ⟨hbS, by omega⟩
      have hpe : (endsV (rowOf S i)).1 = (endsV (rowOf D i)).1 := by omega
      have hoD := oD hc.1 hc.2
      have hrS2 := choE_right (X := X) (i := i) (r := r) hS
      have hrD2 := choE_right (X := X) (i := i) (r := r) hD
      refine ⟨by rw [choE_len, choE_len, hl], fun z z0 z1 => ⟨right_row hrS2 z, right_row hrD2 z, fun v hv => ?_⟩⟩
      rw [choE_len] at z1
      unfold choE at hv ⊢
      rw [if_pos hcS, hpe] at hv
      rw [if_pos hc]
      generalize xat X (endsV (rowOf D i)).1.toNat = one at hoD hv ⊢
      rw [cho_row (by omega) hrS z z0] at hv
      rw [cho_row hoD hr z z0]
      split at hv
      · rename_i e
        rw [if_pos e]
        have := ((meetS_facts (right_row hS one) (right_row hS r)).2 v).1 hv
        exact ((meetS_facts (right_row hD one) (right_row hD r)).2 v).2 ⟨(hle.2 one hoD.1 hoD.2).2.2 v this.1, (hle.2 r hr.1 hr.2).2.2 v this.2⟩
      · rename_i e
        rw [if_neg e]
        exact (hle.2 z z0 z1).2.2 v hv
  · left
    have e : choE X i r D = D := by unfold choE; rw [if_neg hc]
    rw [e]
    exact (cho_le hS hrS oS).trans hle
theorem order_elem {c : Con} {S D : List (List Rg)} (hK : c.1 = 16 ∨ c.1 = 17) (hm : modB (D, [c], 0, 0) = true) (hmS : modB (S, [c], 0, 0) = true) (hle : LeD S D) :
    (∃ E, elemL c D = (E, 0) ∧ (elemL c S = ([], 12) ∨ ∃ E', elemL c S = (E', 0) ∧ LeD E' E)) ∨ (elemL c D = ([], 12) ∧ elemL c S = ([], 12)) := by
  obtain ⟨K, X, A, C⟩ := c
  simp only at hK
  have hl := hle.1
  rcases hK with rfl | rfl
  · obtain ⟨hX2, hAl, hX32, hi, hr, hdm, hAk⟩ := tab_facts hm
    obtain ⟨-, -, -, -, -, hdS, -⟩ := tab_facts hmS
    obtain ⟨hLl, hLc, hLk, hLg⟩ := chsA_facts hAl hAk
    have eD : elemL (16, X, A, C) D = finE (narE (xat X 0) (lastV0 X) ((chsA A).filter (keepC (rowOf D (xat X 0)) (rowOf D (lastV0 X)))) D) := by unfold elemL; rw [if_pos hm]; rfl
    have eS : elemL (16, X, A, C) S = finE (narE (xat X 0) (lastV0 X) ((chsA A).filter (keepC (rowOf S (xat X 0)) (rowOf S (lastV0 X)))) S) := by unfold elemL; rw [if_pos hmS]; rfl
    rw [eD, eS]
    have hSi := hle.2 _ hi.1 hi.2
    have hSr := hle.2 _ hr.1 hr.2
    refine fin_up (nar_up hle hdS hdm hi hr ⟨fun c h => hLk c (List.mem_filter.1 h).1, fun c h => hLg c (List.mem_filter.1 h).1⟩ ⟨fun c h => hLk c (List.mem_filter.1 h).1, fun c h => hLg c (List.mem_filter.1 h).1⟩ fun c hc => ?_)
    obtain ⟨h1, h2⟩ := List.mem_filter.1 hc
    have hcr : rightB c.2 = true := by
      unfold chsA at h1
      obtain ⟨i, hi2, rfl⟩ := List.mem_map.1 h1
      have hw := hAk (xat A i) (List.mem_of_getElem? (xat_get (List.mem_range.1 hi2)))
      simp [rightB, okAt, withinB]
      omega
    rw [keep_iff hSr.1 hcr] at h2
    obtain ⟨k1, v, k2, k3⟩ := h2
    refine ⟨c, List.mem_filter.2 ⟨h1, ?_⟩, rfl, fun _ h => h⟩
    rw [keep_iff hSr.2.1 hcr]
    exact ⟨has_iff.2 ⟨hSi.2.1, hSi.2.2 _ (has_iff.1 k1).2⟩, v, k2, hSr.2.2 v k3⟩
  · obtain ⟨hX3, hA0, hX32, hI, hi, hr, hdm⟩ := var_facts hm
    obtain ⟨-, -, -, hIS, hiS, hrS, hdS⟩ := var_facts hmS
    obtain ⟨hLl, hLc, hLk, hLg⟩ := chsX_facts hX3 hX32 hI hdm
    obtain ⟨-, -, mLk, mLg⟩ := chsX_facts hX3 hX32 hIS hdS
    have eD : elemL (17, X, A, C) D = finE (choE X (xat X 0) (lastV0 X) (narE (xat X 0) (lastV0 X) ((chsX D ((X.take (X.length - 1)).drop 1)).filter (keepC (rowOf D (xat X 0)) (rowOf D (lastV0 X)))) D)) := by unfold elemL; rw [if_pos hm]; rfl
    have eS : elemL (17, X, A, C) S = finE (choE X (xat X 0) (lastV0 X) (narE (xat X 0) (lastV0 X) ((chsX S ((X.take (X.length - 1)).drop 1)).filter (keepC (rowOf S (xat X 0)) (rowOf S (lastV0 X)))) S)) := by unfold elemL; rw [if_pos hmS]; rfl
    rw [eD, eS]
    have hSi := hle.2 _ hi.1 hi.2
    have hSr := hle.2 _ hr.1 hr.2
    have gD : Good ((chsX D ((X.take (X.length - 1)).drop 1)).filter (keepC (rowOf D (xat X 0)) (rowOf D (lastV0 X)))) := ⟨fun c h => hLk c (List.mem_filter.1 h).1, fun c h => hLg c (List.mem_filter.1 h).1⟩
    have gS : Good ((chsX S ((X.take (X.length - 1)).drop 1)).filter (keepC (rowOf S (xat X 0)) (rowOf S (lastV0 X)))) := ⟨fun c h => mLk c (List.mem_filter.1 h).1, fun c h => mLg c (List.mem_filter.1 h).1⟩
    have hf : Fewer ((chsX S ((X.take (X.length - 1)).drop 1)).filter (keepC (rowOf S (xat X 0)) (rowOf S (lastV0 X)))) ((chsX D ((X.take (X.length - 1)).drop 1)).filter (keepC (rowOf D (xat X 0)) (rowOf D (lastV0 X)))) := by
      intro c hc
      obtain ⟨h1, h2⟩ := List.mem_filter.1 hc
      obtain ⟨k, hk, rfl⟩ := chsX_mem hX3 c h1
      have hxk := hI (1 + k) (by omega)
      have hsk := hle.2 _ hxk.1 hxk.2
      rw [keep_iff hSr.1 hsk.1] at h2
      obtain ⟨k1, v, k2, k3⟩ := h2
      refine ⟨(((k + 1 : Nat) : Int), rowOf D (xat X (1 + k))), List.mem_filter.2 ⟨?_, ?_⟩, rfl, fun v hv => hsk.2.2 v hv⟩
      · unfold chsX
        rw [List.mem_map]
        exact ⟨k, by rw [List.mem_range, mid_len hX3]; exact hk, by rw [mid_at hk]⟩
      · rw [keep_iff hSr.2.1 hsk.2.1]
        exact ⟨has_iff.2 ⟨hSi.2.1, hSi.2.2 _ (has_iff.1 k1).2⟩, v, hsk.2.2 v k2, hSr.2.2 v k3⟩
    have hvD := var_one (p := keepC (rowOf D (xat X 0)) (rowOf D (lastV0 X))) hX3 hX32 hI hi hr hdm
    have hvS := var_one (p := keepC (rowOf S (xat X 0)) (rowOf S (lastV0 X))) hX3 hX32 hIS hiS hrS hdS
    have hup := nar_up hle hdS hdm hi hr gS gD hf
    have rS := narE_right hiS hrS hdS gS.idx gS.row
    have rD := narE_right hi hr hdm gD.idx gD.row
    have lS := narE_len (xat X 0) (lastV0 X) ((chsX S ((X.take (X.length - 1)).drop 1)).filter (keepC (rowOf S (xat X 0)) (rowOf S (lastV0 X)))) S
    have lD := narE_len (xat X 0) (lastV0 X) ((chsX D ((X.take (X.length - 1)).drop 1)).filter (keepC (rowOf D (xat X 0)) (rowOf D (lastV0 X)))) D
    generalize narE (xat X 0) (lastV0 X) ((chsX S ((X.take (X.length - 1)).drop 1)).filter (keepC (rowOf S (xat X 0)) (rowOf S (lastV0 X)))) S = ES at hvS hup rS lS ⊢
    generalize narE (xat X 0) (lastV0 X) ((chsX D ((X.take (X.length - 1)).drop 1)).filter (keepC (rowOf D (xat X 0)) (rowOf D (lastV0 X)))) D = ED at hvD hup rD lD ⊢
    rcases cho_up (X := X) (i := xat X 0) (r := lastV0 X) hup rS rD (by omega) (by omega) (fun a b => by rw [lS]; exact (hvS a b).2) (fun a b => by rw [lD]; exact (hvD a b).2) with h | h
    · exact fin_up h
    · have hs : finE (choE X (xat X 0) (lastV0 X) ES) = ([], 12) := by unfold finE; rw [h]; rfl
      rw [hs]
      cases hw : wholeB (choE X (xat X 0) (lastV0 X) ED)
      · right
        exact ⟨by unfold finE; rw [hw]; rfl, rfl⟩
      · left
        exact ⟨_, by unfold finE; rw [hw]; rfl, .inl rfl⟩
theorem size_elem {c : Con} {D : List (List Rg)} (hK : c.1 = 16 ∨ c.1 = 17) (hm : modB (D, [c], 0, 0) = true) : (elemL c D).1.length ≤ 1000000000000 := by
  by_cases h : (elemL c D).2 = 0
  · obtain ⟨-, h2, -⟩ := elem_kp (show elemL c D = ((elemL c D).1, 0) from Prod.ext rfl h)
    have := (one_facts hm).1
    omega
  · have : (elemL c D).1 = [] := by
      revert h
      unfold elemL finE
      repeat' split
      all_goals intro h
      all_goals first | rfl | exact absurd rfl h | (unfold tell at h ⊢; split at h <;> first | rfl | exact absurd rfl h)
    rw [this]; simp
end Go.Proofs.Ytfcphijidcfboaa
