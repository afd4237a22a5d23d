/- Plain laws: an element of a table, and one of variables that have the table's values. -/
import Derived.Test.YtnhedjpghpdbdaaPlElem2
namespace Go.Proofs.Ytnhedjpghpdbdaa
open Av
attribute [local irreducible] awp awpOpers
set_option linter.unusedSimpArgs false
set_option linter.unusedVariables false
def oneRow (a : Int) : List Rg := [(a, a)]
/-- the variables, of which k have been laid -/
def xsE (i : Int) (n k : Nat) : List Int := i :: (List.range k).map fun j => ((n + j : Nat) : Int)
def vX (i r : Int) (n m : Nat) : List Int := xsE i n m ++ [r]
def allD (D : List (List Rg)) (A : List Int) : List (List Rg) := D ++ A.map oneRow
theorem xsE_len (i : Int) (n k : Nat) : (xsE i n k).length = k + 1 := by unfold xsE; simp
theorem xsE_step (i : Int) (n k : Nat) : xsE i n (k + 1) = xsE i n k ++ [((n + k : Nat) : Int)] := by
  unfold xsE
  rw [List.range_succ, List.map_append]
  rfl
theorem vX_len (i r : Int) (n m : Nat) : (vX i r n m).length = m + 2 := by unfold vX; rw [List.length_append, xsE_len]; rfl
theorem vX_0 (i r : Int) (n m : Nat) : xat (vX i r n m) 0 = i := rfl
theorem vX_last (i r : Int) (n m : Nat) : lastV0 (vX i r n m) = r := by
  unfold lastV0
  rw [vX_len]
  unfold xat vX
  rw [show m + 2 - 1 = (xsE i n m).length by rw [xsE_len]; omega, List.getElem?_append_right (Nat.le_refl _)]
  simp
theorem vX_mid (i r : Int) (n m : Nat) : ((vX i r n m).take ((vX i r n m).length - 1)).drop 1 = (List.range m).map fun j => ((n + j : Nat) : Int) := by
  rw [vX_len]
  unfold vX
  rw [show m + 2 - 1 = (xsE i n m).length by rw [xsE_len]; omega, List.take_left]
  rfl
theorem vX_at {i r : Int} {n m k : Nat} (h : k < m) : xat (vX i r n m) (k + 1) = ((n + k : Nat) : Int) := by
  unfold xat vX
  rw [List.getElem?_append_left (by rw [xsE_len]; omega)]
  unfold xsE
  rw [List.getElem?_cons_succ, List.getElem?_map, List.getElem?_range h]
  rfl
theorem row_app {D T : List (List Rg)} {x : Int} (h : 0 ≤ x ∧ x < D.length) : rowOf (D ++ T) x = rowOf D x := by
  unfold rowOf
  rw [List.getElem?_append_left (by omega)]
theorem row_tail {D : List (List Rg)} {A : List Int} {j : Nat} (h : j < A.length) : rowOf (D ++ A.map oneRow) ((D.length + j : Nat) : Int) = [(xat A j, xat A j)] := by
  unfold rowOf
  rw [Int.toNat_natCast, List.getElem?_append_right (by omega), show D.length + j - D.length = j by omega, List.getElem?_map, xat_get h]
  rfl
theorem chs_same (D : List (List Rg)) (A : List Int) : chsX (allD D A) ((List.range A.length).map fun j => ((D.length + j : Nat) : Int)) = chsA A := by
  unfold chsX chsA
  rw [List.length_map, List.length_range]
  refine List.map_congr_left fun j hj => ?_
  have hj' := List.mem_range.1 hj
  have e : xat ((List.range A.length).map fun j => ((D.length + j : Nat) : Int)) j = ((D.length + j : Nat) : Int) := by
    unfold xat
    rw [List.getElem?_map, List.getElem?_range hj']
    rfl
  rw [e]
  unfold allD
  rw [row_tail hj']
theorem nar_all {i r : Int} {K : List Ch} {D T : List (List Rg)} (hi : 0 ≤ i ∧ i < D.length) (hr : 0 ≤ r ∧ r < D.length) : narE i r K (D ++ T) = narE i r K D ++ T := by
  unfold narE
  rw [List.set_append_left _ _ (by omega), row_app (by rw [List.length_set]; exact hr), List.set_append_left _ _ (by rw [List.length_set]; omega)]
theorem set_same {E : List (List Rg)} {x : Int} (h : 0 ≤ x ∧ x < E.length) : E.set x.toNat (rowOf E x) = E := by
  have := row_get h
  refine List.ext_getElem? fun k => ?_
  by_cases hk : x.toNat = k
  · subst hk
    rw [List.getElem?_set_self (by omega), this]
  · rw [List.getElem?_set_ne hk]
theorem one_right {a : Int} (h : -1048576 ≤ a ∧ a ≤ 1048576) : rightB [(a, a)] = true := by
  rw [right_iff]
  exact ⟨⟨by simp, by simp, trivial⟩, fun s hs => by rw [List.mem_singleton.1 hs]; simp only; omega⟩
theorem one_mem (a v : Int) : Mem [(a, a)] v ↔ v = a := by
  unfold Mem
  simp only [List.mem_singleton, exists_eq_left]
  omega
/-- the one choice that is left is the result's row already -/
theorem cho_same {i r : Int} {A : List Int} {D : List (List Rg)} (hir : i ≠ r) (hi : 0 ≤ i ∧ i < D.length) (hr : 0 ≤ r ∧ r < D.length) (hd : ∀ d ∈ D, domB d = true) (hA : 1 ≤ A.length ∧ A.length ≤ 64) (hAk : ∀ a ∈ A, -1048576 ≤ a ∧ a ≤ 1048576) :
    choE (vX i r D.length A.length) i r (narE i r ((chsA A).filter (keepC (rowOf D i) (rowOf D r))) D ++ A.map oneRow) = narE i r ((chsA A).filter (keepC (rowOf D i) (rowOf D r))) D ++ A.map oneRow := by
  obtain ⟨q1, q2, q3, q4⟩ := chsA_facts hA hAk
  have hkm : ∀ c ∈ (chsA A).filter (keepC (rowOf D i) (rowOf D r)), c ∈ chsA A ∧ keepC (rowOf D i) (rowOf D r) c = true := fun c h => List.mem_filter.1 h
  generalize (chsA A).filter (keepC (rowOf D i) (rowOf D r)) = K at hkm ⊢
  obtain ⟨i1, i2⟩ := idx_mem (K := K) fun c h => q3 c (hkm c h).1
  obtain ⟨a1, a2⟩ := all_mem (K := K) fun c h => q4 c (hkm c h).1
  have hEl := narE_len i r K D
  have e1 : rowOf (narE i r K D) i = idxE K := by rw [nar_row hi hr i hi.1, if_neg (fun h => hir h.symm), if_pos rfl]
  have e2 : rowOf (narE i r K D) r = meetS (rowOf D r) (allE K) := by rw [nar_row hi hr r hr.1, if_pos rfl, if_neg hir]
  have hrr := (dom_right (hd _ (row_mem hr))).1
  have hmf := meetS_facts hrr a1
  generalize hE : narE i r K D = E at hEl e1 e2 ⊢
  have hiE : 0 ≤ i ∧ i < E.length := by omega
  have hrE : 0 ≤ r ∧ r < E.length := by omega
  unfold choE
  rw [row_app hiE, row_app hrE, e1]
  split
  · rename_i hc
    obtain ⟨hb, hone⟩ := hc
    have hdm : domB (idxE K) = true := by
      unfold endsB at hb
      unfold domB
      rw [Bool.and_eq_true] at hb ⊢
      refine ⟨hb.1, ?_⟩
      have := hb.2
      simp only [List.isEmpty_iff, Bool.not_eq_true', decide_eq_true_eq] at this ⊢
      cases hq : idxE K with
      | nil => rw [hq] at this; simp at this
      | cons a b => simp
    obtain ⟨f1, f2, f3⟩ := ends_facts hdm
    generalize endsV (idxE K) = ee at f1 f2 f3 hone ⊢
    obtain ⟨p, q⟩ := ee
    simp only at f1 f2 f3 hone ⊢
    subst hone
    obtain ⟨c, hcm, hcv⟩ := (i2 _).1 f1
    obtain ⟨hcA, hck⟩ := hkm c hcm
    have hat : ∀ c ∈ chsA A, ∃ j, j < A.length ∧ c = (((j + 1 : Nat) : Int), [(xat A j, xat A j)]) := by
      intro c hc
      unfold chsA at hc
      obtain ⟨j, hj, rfl⟩ := List.mem_map.1 hc
      exact ⟨j, List.mem_range.1 hj, rfl⟩
    obtain ⟨j, hj, hce⟩ := hat c hcA
    have hpj : p = ((j + 1 : Nat) : Int) := by rw [← hcv, hce]
    have hall : ∀ c' ∈ K, c'.2 = [(xat A j, xat A j)] := by
      intro c' hc'
      obtain ⟨j', hj', he'⟩ := hat c' (hkm c' hc').1
      have h1 : Mem (idxE K) c'.1 := (i2 _).2 ⟨c', hc', rfl⟩
      have h2 := f3.1 _ h1
      have h3 : c'.1 = ((j' + 1 : Nat) : Int) := by rw [he']
      have : j' = j := by omega
      rw [he', this]
    have haj := hAk (xat A j) (List.mem_of_getElem? (xat_get hj))
    have hw := one_right haj
    have hmr : Mem (rowOf D r) (xat A j) := by
      unfold keepC at hck
      rw [Bool.and_eq_true, hce] at hck
      have h1 := hck.2
      simp only [Bool.not_eq_true', decide_eq_false_iff_not] at h1
      have hm2 := meetS_facts hw hrr
      cases hq : meetS [(xat A j, xat A j)] (rowOf D r) with
      | nil => rw [hq] at h1; exact absurd rfl h1
      | cons a b =>
        have ha := (right_wf hm2.1).1
        rw [hq] at ha
        have : Mem (meetS [(xat A j, xat A j)] (rowOf D r)) a.1 := by rw [hq]; exact ⟨a, by simp, Int.le_refl _, ha.1⟩
        obtain ⟨g1, g2⟩ := (hm2.2 _).1 this
        rw [(one_mem _ _).1 g1] at g2
        exact g2
    have hrow : rowOf E r = [(xat A j, xat A j)] := by
      rw [e2]
      refine right_ext hmf.1 hw fun v => (hmf.2 v).trans ?_
      rw [a2, one_mem]
      constructor
      · rintro ⟨-, c', hc', hv⟩
        rw [hall c' hc', one_mem] at hv
        exact hv
      · rintro rfl
        exact ⟨hmr, c, hcm, by rw [hall c hcm, one_mem]⟩
    have hx : xat (vX i r D.length A.length) p.toNat = ((E.length + j : Nat) : Int) := by
      rw [hpj, Int.toNat_natCast, vX_at hj, hEl]
    rw [hx, row_tail hj, hrow]
    have hmm : meetS [(xat A j, xat A j)] [(xat A j, xat A j)] = [(xat A j, xat A j)] := by
      have := meetS_facts hw hw
      exact right_ext this.1 hw fun v => (this.2 v).trans ⟨fun h => h.1, fun h => ⟨h, h⟩⟩
    rw [hmm]
    have s1 := set_same (E := E ++ A.map oneRow) (x := ((E.length + j : Nat) : Int)) (by rw [List.length_append, List.length_map]; omega)
    rw [row_tail hj] at s1
    rw [s1]
    have s2 := set_same (E := E ++ A.map oneRow) (x := r) (by rw [List.length_append]; omega)
    rw [row_app hrE, hrow] at s2
    exact s2
  · rfl
theorem whole_all (E : List (List Rg)) (A : List Int) : wholeB (E ++ A.map oneRow) = wholeB E := by
  unfold wholeB
  rw [List.any_append]
  have : ((A.map oneRow).any fun d => decide (d.length = 0)) = false := by
    rw [List.any_eq_false]
    intro d hd
    obtain ⟨a, -, rfl⟩ := List.mem_map.1 hd
    simp [oneRow]
  rw [this, Bool.or_false]
theorem vX_mod {i r : Int} {A : List Int} {C : Int} {D : List (List Rg)} (hm : modB (D, [(16, [i, r], A, C)], 0, 0) = true) (hA : A.length ≤ 30) (hDA : D.length + A.length ≤ 64) :
    modB (allD D A, [(17, vX i r D.length A.length, [], 0)], 0, 0) = true := by
  obtain ⟨hX2, hAl, hX32, hi, hr, hdm, hAk⟩ := tab_facts hm
  have hl : (allD D A).length = D.length + A.length := by unfold allD; rw [List.length_append, List.length_map]
  have hi' : 0 ≤ i ∧ i < D.length := hi
  have hr' : 0 ≤ r ∧ r < D.length := hr
  simp only [modB, mayB, Bool.and_eq_true, decide_eq_true_eq, List.all_eq_true, List.mem_singleton, forall_eq, hl, vX_len, askB, if_true]
  refine ⟨⟨⟨⟨hDA, by simp⟩, fun d hd => ?_⟩, ⟨⟨⟨⟨⟨?_, by omega⟩, by decide⟩, by simp⟩, ?_⟩, by simp⟩⟩, trivial⟩
  · unfold allD at hd
    rcases List.mem_append.1 hd with h | h
    · exact hdm d h
    · obtain ⟨a, ha, rfl⟩ := List.mem_map.1 h
      unfold domB oneRow
      rw [one_right (hAk a ha)]
      rfl
  · unfold formedB
    simp only [vX_len]
    simp [kindB, shp, countsB]
    omega
  · have e : (shp 17).2.2.2.2 = 0 := by decide
    rw [e]
    unfold xsOk
    refine all_yes fun k hk => ?_
    rw [vX_len] at hk
    unfold xOk
    have hg : (vX i r D.length A.length)[k]? = some (xat (vX i r D.length A.length) k) := xat_get (by rw [vX_len]; exact hk)
    rw [hg]
    have hb : 0 ≤ xat (vX i r D.length A.length) k ∧ xat (vX i r D.length A.length) k < (allD D A).length := by
      rw [hl]
      rcases Nat.eq_zero_or_pos k with rfl | hp
      · rw [vX_0]; omega
      · obtain ⟨k, rfl⟩ : ∃ j, k = j + 1 := ⟨k - 1, by omega⟩
        by_cases hka : k < A.length
        · rw [vX_at hka]; omega
        · have : k + 1 = (vX i r D.length A.length).length - 1 := by rw [vX_len]; omega
          have h2 := vX_last i r D.length A.length
          unfold lastV0 at h2
          rw [this, h2]; omega
    simp [hb.1, hb.2]
theorem elem_vars {i r : Int} {A : List Int} {C : Int} {D : List (List Rg)} (hm : modB (D, [(16, [i, r], A, C)], 0, 0) = true) (hA : A.length ≤ 30) (hDA : D.length + A.length ≤ 64) (hir : i ≠ r) :
    ∃ E, E.length = D.length ∧ (∀ d ∈ E, rightB d = true) ∧ elemL (16, [i, r], A, C) D = finE E ∧ elemL (17, vX i r D.length A.length, [], 0) (allD D A) = tell (E ++ A.map oneRow, wholeB E) := by
  have hm2 := vX_mod hm hA hDA
  obtain ⟨hX2, hAl, hX32, hi, hr, hdm, hAk⟩ := tab_facts hm
  have hi' : 0 ≤ i ∧ i < D.length := hi
  have hr' : 0 ≤ r ∧ r < D.length := hr
  obtain ⟨hLl, hLc, hLk, hLg⟩ := chsA_facts hAl hAk
  refine ⟨narE i r ((chsA A).filter (keepC (rowOf D i) (rowOf D r))) D, narE_len _ _ _ _, narE_right hi' hr' hdm (fun c h => hLk c (List.mem_filter.1 h).1) (fun c h => hLg c (List.mem_filter.1 h).1), ?_, ?_⟩
  · unfold elemL
    rw [if_pos hm]
    rfl
  · unfold elemL
    rw [if_pos hm2, if_neg (by simp), if_pos rfl]
    simp only [vX_0, vX_last, vX_mid]
    rw [chs_same]
    unfold allD
    rw [row_app hi', row_app hr', nar_all hi' hr', cho_same hir hi' hr' hdm hAl hAk]
    unfold finE
    rw [whole_all]
end Go.Proofs.Ytnhedjpghpdbdaa
