/- Plain laws: no solution is lost. -/
import Derived.Test.YtfcphijidcfboaaPlElem3
import Derived.Test.YtfcphijidcfboaaGEvery
namespace Go.Proofs.Ytfcphijidcfboaa
open Av
attribute [local irreducible] awp awpOpers
set_option linter.unusedSimpArgs false
set_option linter.unusedVariables false
theorem rows_ext {E D : List (List Rg)} (hl : E.length = D.length) (h : ∀ z : Int, 0 ≤ z → z < D.length → rowOf E z = rowOf D z) : E = D := by
  apply List.ext_getElem hl
  intro k h1 h2
  have := h (k : Int) (by omega) (by omega)
  unfold rowOf at this
  rw [Int.toNat_natCast, List.getElem?_eq_getElem h1, List.getElem?_eq_getElem h2] at this
  exact this
theorem one_row_eq {r : List Rg} {v : Int} (hr : rightB r = true) (h1 : ∀ u, Mem r u → u = v) (h2 : Mem r v) (hv : -1048576 ≤ v ∧ v ≤ 1048576) : r = [(v, v)] := by
  refine right_ext hr (by simp [rightB, okAt, withinB]; omega) fun u => ⟨fun h => ?_, fun h => ?_⟩
  · have := h1 u h; subst this; exact ⟨(u, u), by simp, by simp⟩
  · obtain ⟨q, hq, ha⟩ := h
    simp only [List.mem_singleton] at hq
    subst hq
    simp only at ha
    have : u = v := by omega
    subst this; exact h2
theorem nar_le {i r : Int} {L : List Ch} {D : List (List Rg)} (hD : ∀ d ∈ D, domB d = true) (hi : 0 ≤ i ∧ i < D.length) (hr : 0 ≤ r ∧ r < D.length) (g : Good (L.filter (keepC (rowOf D i) (rowOf D r)))) :
    LeD (narE i r (L.filter (keepC (rowOf D i) (rowOf D r))) D) D := by
  have rN := narE_right hi hr hD g.idx g.row
  obtain ⟨i1, i2⟩ := idx_mem g.idx
  obtain ⟨a1, a2⟩ := all_mem g.row
  have hri := (dom_right (hD _ (row_mem hi))).1
  have hrr := (dom_right (hD _ (row_mem hr))).1
  have hI : ∀ v, Mem (idxE (L.filter (keepC (rowOf D i) (rowOf D r)))) v → Mem (rowOf D i) v := fun v h => by
    obtain ⟨c, hc, rfl⟩ := (i2 v).1 h
    have := (List.mem_filter.1 hc).2
    unfold keepC at this
    rw [Bool.and_eq_true] at this
    exact (has_iff.1 this.1).2
  refine ⟨narE_len _ _ _ _, fun z h0 h1 => ⟨right_row rN z, (dom_right (hD _ (row_mem ⟨h0, h1⟩))).1, fun v hv => ?_⟩⟩
  rw [nar_row hi hr z h0] at hv
  split at hv
  · rename_i e
    subst e
    split at hv
    · rename_i e2
      subst e2
      exact hI v (((meetS_facts i1 a1).2 v).1 hv).1
    · exact (((meetS_facts hrr a1).2 v).1 hv).1
  · split at hv
    · rename_i e
      subst e
      exact hI v hv
    · exact hv
theorem elem_res {c : Con} {D : List (List Rg)} (hK : c.1 = 16 ∨ c.1 = 17) (hm : modB (D, [c], 0, 0) = true) : elemL c D = ([], 12) ∨ ∃ E, elemL c D = (E, 0) ∧ LeD E D ∧ ∀ r ∈ E, 0 < r.length := by
  have key : ∀ E, LeD E D → finE E = ([], 12) ∨ ∃ E', finE E = (E', 0) ∧ LeD E' D ∧ ∀ r ∈ E', 0 < r.length := by
    intro E hE
    unfold finE
    cases hw : wholeB E
    · exact .inl rfl
    · refine .inr ⟨E, rfl, hE, fun r hr => ?_⟩
      unfold wholeB at hw
      rw [Bool.not_eq_true', List.any_eq_false] at hw
      have := hw r hr
      simp only [decide_eq_true_eq] at this
      omega
  obtain ⟨K, X, A, C⟩ := c
  simp only at hK
  rcases hK with rfl | rfl
  · obtain ⟨hX2, hAl, hX32, hi, hr, hdm, hAk⟩ := tab_facts hm
    obtain ⟨hLl, hLc, hLk, hLg⟩ := chsA_facts hAl hAk
    have eD : elemL (16, X, A, C) D = finE (narE (xat X 0) (lastV0 X) ((chsA A).filter (keepC (rowOf D (xat X 0)) (rowOf D (lastV0 X)))) D) := by unfold elemL; rw [if_pos hm]; rfl
    rw [eD]
    exact key _ (nar_le hdm hi hr ⟨fun c h => hLk c (List.mem_filter.1 h).1, fun c h => hLg c (List.mem_filter.1 h).1⟩)
  · obtain ⟨hX3, hA0, hX32, hI, hi, hr, hdm⟩ := var_facts hm
    obtain ⟨hLl, hLc, hLk, hLg⟩ := chsX_facts hX3 hX32 hI hdm
    have eD : elemL (17, X, A, C) D = finE (choE X (xat X 0) (lastV0 X) (narE (xat X 0) (lastV0 X) ((chsX D ((X.take (X.length - 1)).drop 1)).filter (keepC (rowOf D (xat X 0)) (rowOf D (lastV0 X)))) D)) := by unfold elemL; rw [if_pos hm]; rfl
    rw [eD]
    have gD : Good ((chsX D ((X.take (X.length - 1)).drop 1)).filter (keepC (rowOf D (xat X 0)) (rowOf D (lastV0 X)))) := ⟨fun c h => hLk c (List.mem_filter.1 h).1, fun c h => hLg c (List.mem_filter.1 h).1⟩
    have hvD := var_one (p := keepC (rowOf D (xat X 0)) (rowOf D (lastV0 X))) hX3 hX32 hI hi hr hdm
    have lD := narE_len (xat X 0) (lastV0 X) ((chsX D ((X.take (X.length - 1)).drop 1)).filter (keepC (rowOf D (xat X 0)) (rowOf D (lastV0 X)))) D
    exact key _ ((cho_le (narE_right hi hr hdm gD.idx gD.row) (by omega) (fun a b => by rw [lD]; exact (hvD a b).2)).trans (nar_le hdm hi hr gD))
/-- where all variables have one value -/
theorem nar_one {i r : Int} {L : List Ch} {a : List Int} (hb : ∀ v ∈ a, -1048576 ≤ v ∧ v ≤ 1048576) (hi : 0 ≤ i ∧ i < a.length) (hr : 0 ≤ r ∧ r < a.length) (hD : ∀ d ∈ oneD a, domB d = true)
    (g : Good (L.filter (keepC (rowOf (oneD a) i) (rowOf (oneD a) r)))) {c : Ch} (hc : c ∈ L) (h1 : c.1 = xat a i.toNat) (h2 : Mem c.2 (xat a r.toNat)) (h3 : rightB c.2 = true) :
    narE i r (L.filter (keepC (rowOf (oneD a) i) (rowOf (oneD a) r))) (oneD a) = oneD a := by
  have hol := one_len a
  have hiD : 0 ≤ i ∧ i < (oneD a).length := by omega
  have hrD : 0 ≤ r ∧ r < (oneD a).length := by omega
  have hle := nar_le (L := L) hD hiD hrD g
  have hm1 : ∀ z : Int, 0 ≤ z ∧ z < a.length → Mem (rowOf (oneD a) z) (xat a z.toNat) := fun z hz => by rw [row_one hz]; exact ⟨(_, _), List.mem_singleton.2 rfl, by simp⟩
  have hri := (dom_right (hD _ (row_mem hiD))).1
  have hrr := (dom_right (hD _ (row_mem hrD))).1
  have hcK : c ∈ L.filter (keepC (rowOf (oneD a) i) (rowOf (oneD a) r)) := by
    refine List.mem_filter.2 ⟨hc, (keep_iff hrr h3).2 ⟨has_iff.2 ⟨hri, ?_⟩, xat a r.toNat, h2, hm1 r hr⟩⟩
    rw [h1]
    exact hm1 i hi
  obtain ⟨i1, i2⟩ := idx_mem g.idx
  obtain ⟨a1, a2⟩ := all_mem g.row
  have hI := (i2 (xat a i.toNat)).2 ⟨c, hcK, h1⟩
  have hA := (a2 (xat a r.toNat)).2 ⟨c, hcK, h2⟩
  refine rows_ext hle.1 fun z h0 h1' => ?_
  rw [hol] at h1'
  have hz : 0 ≤ z ∧ z < a.length := ⟨h0, h1'⟩
  have hsub := hle.2 z h0 (by rw [hol]; exact h1')
  have hbz := hb (xat a z.toNat) (List.mem_of_getElem? (xat_get (by omega)))
  have e := row_one hz
  rw [e]
  refine one_row_eq hsub.1 (fun u hu => ?_) ?_ hbz
  · have := hsub.2.2 u hu
    rw [e] at this
    obtain ⟨q, hq, hq2⟩ := this
    rw [List.mem_singleton] at hq
    subst hq
    simp only at hq2
    omega
  · rw [nar_row hiD hrD z h0]
    by_cases e1 : r = z
    · subst e1
      rw [if_pos rfl]
      by_cases e2 : i = r
      · subst e2
        rw [if_pos rfl]
        exact ((meetS_facts i1 a1).2 _).2 ⟨hI, hA⟩
      · rw [if_neg e2]
        exact ((meetS_facts hrr a1).2 _).2 ⟨hm1 r hr, hA⟩
    · rw [if_neg e1]
      by_cases e2 : i = z
      · subst e2
        rw [if_pos rfl]
        exact hI
      · rw [if_neg e2]
        exact hm1 z hz
theorem whole_oneE (a : List Int) : wholeB (oneD a) = true := by
  unfold wholeB
  rw [Bool.not_eq_true', List.any_eq_false]
  intro d hd
  unfold oneD at hd
  obtain ⟨v, -, rfl⟩ := List.mem_map.1 hd
  simp
theorem cho_one {X : List Int} {i r : Int} {a : List Int} (hb : ∀ v ∈ a, -1048576 ≤ v ∧ v ≤ 1048576) (hi : 0 ≤ i ∧ i < a.length) (hr : 0 ≤ r ∧ r < a.length) (ho : 0 ≤ xat X (xat a i.toNat).toNat ∧ xat X (xat a i.toNat).toNat < a.length)
    (hv : xat a (xat X (xat a i.toNat).toNat).toNat = xat a r.toNat) : choE X i r (oneD a) = oneD a := by
  have hol := one_len a
  have he := eAt_one hb hi
  unfold eAt at he
  unfold choE
  split
  · rw [he]
    simp only
    generalize xat X (xat a i.toNat).toNat = one at ho hv ⊢
    have e1 := row_one ho
    have e2 := row_one hr
    have hbz := hb (xat a r.toNat) (List.mem_of_getElem? (xat_get (by omega)))
    have hrt : rightB [(xat a r.toNat, xat a r.toNat)] = true := by simp [rightB, okAt, withinB]; omega
    have hm : meetS (rowOf (oneD a) one) (rowOf (oneD a) r) = [(xat a r.toNat, xat a r.toNat)] := by
      rw [e1, e2, hv]
      have hmf := meetS_facts hrt hrt
      refine right_ext hmf.1 hrt fun u => ?_
      rw [hmf.2]
      exact ⟨fun h => h.1, fun h => ⟨h, h⟩⟩
    rw [hm]
    refine rows_ext (by rw [List.length_set, List.length_set]) fun z h0 h1 => ?_
    rw [cho_row (by omega) (by omega) z h0]
    split
    · rename_i e
      rcases e with rfl | rfl
      · exact e2.symm
      · rw [e1, hv]
    · rfl
  · rfl
theorem vals_len' (X a : List Int) : (valsOf X a).length = X.length := by unfold valsOf; rw [List.length_map]
theorem elem_one {c : Con} {a : List Int} (hK : c.1 = 16 ∨ c.1 = 17) (hb : ∀ v ∈ a, -1048576 ≤ v ∧ v ≤ 1048576) (hm : modB (oneD a, [c], 0, 0) = true) (hh : holdsB c (valsOf c.2.1 a) = true) : elemL c (oneD a) = (oneD a, 0) := by
  obtain ⟨K, X, A, C⟩ := c
  simp only at hK hh
  have hol := one_len a
  have hdm := (one_facts hm).2.1
  have fin : finE (oneD a) = (oneD a, 0) := by unfold finE; rw [whole_oneE]; rfl
  have hvx : ∀ j, j < X.length → xat (valsOf X a) j = xat a (xat X j).toNat := fun j hj => by
    have := vals_get (a := a) (xat_get (X := X) (i := j) hj)
    unfold xat at this ⊢
    rw [this]
    rfl
  have hVl : (valsOf X a).length = X.length := vals_len' X a
  rcases hK with rfl | rfl
  · obtain ⟨hX2, hAl, hX32, hi, hr, -, hAk⟩ := tab_facts hm
    obtain ⟨hLl, hLc, hLk, hLg⟩ := chsA_facts hAl hAk
    have eD : elemL (16, X, A, C) (oneD a) = finE (narE (xat X 0) (lastV0 X) ((chsA A).filter (keepC (rowOf (oneD a) (xat X 0)) (rowOf (oneD a) (lastV0 X)))) (oneD a)) := by unfold elemL; rw [if_pos hm]; rfl
    have hl1 : lastV0 X = xat X 1 := by unfold lastV0; rw [hX2]
    simp [holdsB] at hh
    obtain ⟨⟨q1, q2⟩, q3⟩ := hh
    rw [hvx 0 (by omega)] at q1 q2 q3
    rw [hvx 1 (by omega), ← hl1] at q3
    replace q3 : xat A (xat a (xat X 0).toNat - 1).toNat = xat a (lastV0 X).toNat := by
      first
        | exact q3
        | (rw [show (xat a (xat X 0).toNat - 1).toNat = (xat a (xat X 0).toNat).toNat - 1 by omega]; exact q3)
    rw [eD, nar_one (c := (xat a (xat X 0).toNat, [(xat A (xat a (xat X 0).toNat - 1).toNat, xat A (xat a (xat X 0).toNat - 1).toNat)])) hb (by omega) (by omega) hdm ⟨fun c h => hLk c (List.mem_filter.1 h).1, fun c h => hLg c (List.mem_filter.1 h).1⟩ ?_ rfl ?_ ?_, fin]
    · unfold chsA
      rw [List.mem_map]
      refine ⟨(xat a (xat X 0).toNat - 1).toNat, by rw [List.mem_range]; omega, ?_⟩
      congr 1
      omega
    · simp only
      rw [q3]
      exact ⟨(_, _), List.mem_singleton.2 rfl, by simp⟩
    · have hw := hb (xat a (lastV0 X).toNat) (List.mem_of_getElem? (xat_get (by omega)))
      simp only
      rw [q3]
      simp [rightB, okAt, withinB]; omega
  · obtain ⟨hX3, hA0, hX32, hI, hi, hr, -⟩ := var_facts hm
    obtain ⟨hLl, hLc, hLk, hLg⟩ := chsX_facts hX3 hX32 hI hdm
    have eD : elemL (17, X, A, C) (oneD a) = finE (choE X (xat X 0) (lastV0 X) (narE (xat X 0) (lastV0 X) ((chsX (oneD a) ((X.take (X.length - 1)).drop 1)).filter (keepC (rowOf (oneD a) (xat X 0)) (rowOf (oneD a) (lastV0 X)))) (oneD a))) := by unfold elemL; rw [if_pos hm]; rfl
    simp [holdsB] at hh
    obtain ⟨⟨q1, q2⟩, q3⟩ := hh
    rw [hvx 0 (by omega)] at q1 q2 q3
    rw [hVl] at q2
    have hlv : lastV (valsOf X a) = xat a (lastV0 X).toNat := by unfold lastV lastV0; rw [hVl]; exact hvx _ (by omega)
    have hvn : (xat a (xat X 0).toNat).toNat < X.length := by omega
    rw [hvx _ hvn, hlv] at q3
    have hxo := hI (xat a (xat X 0).toNat).toNat hvn
    rw [eD, nar_one (c := (xat a (xat X 0).toNat, rowOf (oneD a) (xat X (xat a (xat X 0).toNat).toNat))) hb (by omega) (by omega) hdm ⟨fun c h => hLk c (List.mem_filter.1 h).1, fun c h => hLg c (List.mem_filter.1 h).1⟩ ?_ rfl ?_ ?_, cho_one hb (by omega) (by omega) (by omega) q3, fin]
    · unfold chsX
      rw [List.mem_map]
      refine ⟨(xat a (xat X 0).toNat).toNat - 1, by rw [List.mem_range, mid_len hX3]; omega, ?_⟩
      rw [mid_at (by omega), show 1 + ((xat a (xat X 0).toNat).toNat - 1) = (xat a (xat X 0).toNat).toNat by omega]
      congr 1
      omega
    · simp only
      rw [row_one (by omega), q3]
      exact ⟨(_, _), List.mem_singleton.2 rfl, by simp⟩
    · exact (dom_right (hdm _ (row_mem hxo))).1
theorem elem_kept {c : Con} {D : List (List Rg)} (hK : c.1 = 16 ∨ c.1 = 17) (hm : modB (D, [c], 0, 0) = true) :
    KeptP (fun a => askdB c a && holdsB c (valsOf c.2.1 a)) D (elemL c D).1 (elemL c D).2 := by
  have g2 := (one_facts hm).2.1
  have hF := full_dom g2
  refine kept_of (fun a ha => ?_) (fun a ha hh => ?_) (elem_res hK hm)
  · obtain ⟨o1, o2⟩ := one_le hF ha
    exact order_elem hK hm (mod_sub o1 o2 hm) o1
  · obtain ⟨o1, o2⟩ := one_le hF ha
    rw [Bool.and_eq_true] at hh
    exact elem_one hK (box_bound hF ha) (mod_sub o1 o2 hm) hh.2
end Go.Proofs.Ytfcphijidcfboaa
