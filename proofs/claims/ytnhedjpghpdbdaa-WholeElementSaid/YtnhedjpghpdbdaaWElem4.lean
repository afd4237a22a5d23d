/- What elem.element.chosen and elem.Narrow compute. -/
import Derived.Test.YtnhedjpghpdbdaaWElem3
import Derived.Test.YtnhedjpghpdbdaaGMod
import Derived.Test.YtnhedjpghpdbdaaGSet
namespace Go.Proofs.Ytnhedjpghpdbdaa
open Av
attribute [local irreducible] awp awpOpers
set_option linter.unusedSimpArgs false
set_option linter.unusedVariables false
set_option maxRecDepth 100000
set_option maxHeartbeats 4000000
def choE (X : List Int) (i r : Int) (D : List (List Rg)) : List (List Rg) :=
  if endsB (rowOf D i) = true ∧ (endsV (rowOf D i)).1 = (endsV (rowOf D i)).2 then
    (D.set (xat X (endsV (rowOf D i)).1.toNat).toNat (meetS (rowOf D (xat X (endsV (rowOf D i)).1.toNat)) (rowOf D r))).set r.toNat (meetS (rowOf D (xat X (endsV (rowOf D i)).1.toNat)) (rowOf D r))
  else D
theorem choE_len (X : List Int) (i r : Int) (D : List (List Rg)) : (choE X i r D).length = D.length := by
  unfold choE
  split
  · rw [List.length_set, List.length_set]
  · rfl
theorem elem_chosen (X : List Int) (i r : Int) (L : List Ch) (D : List (List Rg)) (hi : 0 ≤ i ∧ i < D.length) (hr : 0 ≤ r ∧ r < D.length) (hd : ∀ d ∈ D, d.length ≤ 1000000000000)
    (hx : endsB (rowOf D i) = true → (endsV (rowOf D i)).1 = (endsV (rowOf D i)).2 → (0 ≤ (endsV (rowOf D i)).1 ∧ (endsV (rowOf D i)).1 < X.length) ∧ 0 ≤ xat X (endsV (rowOf D i)).1.toNat ∧ xat X (endsV (rowOf D i)).1.toNat < D.length) :
    Ctr Try.prog 36 [.ptr 4 0 0 0, .list 1 (X.map eI)] (elB i r L D) (.tuple []) (elB i r L (choE X i r D)) := by
  refine call_box Try.func36 Try.call36 e_elem_element_chosen ?_
  have hri := row_get hi
  have hrr := row_get hr
  have hE := set_Ends (rowOf D i) (hd _ (row_mem hi))
  have hlr := hd _ (row_mem hr)
  have i0 := hi.1
  have r0 := hr.1
  have hin : i.toNat < D.length := by omega
  have hrn : r.toNat < D.length := by omega
  obtain ⟨G, hG⟩ : ∃ G, choE X i r D = G := ⟨_, rfl⟩
  rw [hG]
  unfold choE at hG
  generalize rowOf D i = ri at hri hE hx hG
  generalize rowOf D r = rr at hrr hlr hG
  obtain ⟨⟨p, q⟩, hpq⟩ : ∃ y, endsV ri = y := ⟨_, rfl⟩
  rw [hpq] at hE hx hG
  simp only at hx hG
  simp +contextual -implicitDefEqProofs (maxSteps := 1000000) only [c_elem_element_chosen, sm, sn, sxx, seval, elB_eq, hri, i0, hin]
  refine callA_rule hE (by simp +contextual -implicitDefEqProofs (maxSteps := 1000000) only [sm, sn, sxx, seval, eRgs]) rfl ?_
  cases hb : endsB ri
  · have hn : ¬ (false = true ∧ p = q) := fun h => by cases h.1
    rw [hb, if_neg hn] at hG
    subst hG
    simp +contextual -implicitDefEqProofs (maxSteps := 1000000) only [sm, sn, sxx, seval, eRg]
    refine ⟨[], [0, 1, 2], by decide, ?_⟩
    simp +contextual -implicitDefEqProofs (maxSteps := 1000000) only [sm, sn, sxx, seval, eCh_flat, elB_eq]
    try rfl
  · by_cases he : p = q
    · obtain ⟨⟨p0, p1⟩, o0, o1⟩ := hx hb he
      rw [hb, if_pos ⟨rfl, he⟩] at hG
      have hxp := xat_get (X := X) (i := p.toNat) (by omega)
      generalize xat X p.toNat = one at hxp o0 o1 hG
      have hro := row_get (D := D) (x := one) ⟨o0, o1⟩
      have hlo := hd _ (row_mem (D := D) (x := one) ⟨o0, o1⟩)
      have hon : one.toNat < D.length := by omega
      generalize rowOf D one = ro at hro hlo hG
      have hm := set_Meet ro rr hlo hlr
      generalize meetS ro rr = m at hm hG
      have hs1 := set_rowsE D one.toNat m
      have hs2 := set_rowsE (D.set one.toNat m) r.toNat m
      have hl1 : (D.set one.toNat m).length = D.length := List.length_set
      have hl2 : ((D.set one.toNat m).set r.toNat m).length = D.length := by rw [List.length_set, hl1]
      simp +contextual -implicitDefEqProofs (maxSteps := 1000000) only [sm, sn, sxx, seval, eRg, he, p0, p1, hxp, o0, hro, r0, hrr, hon, hrn]
      rw [← he]
      simp +contextual -implicitDefEqProofs (maxSteps := 1000000) only [sm, sn, sxx, seval, eRg, p0, p1, hxp, o0, hro, r0, hrr, hon, hrn]
      refine callA_rule hm (by simp +contextual -implicitDefEqProofs (maxSteps := 1000000) only [sm, sn, sxx, seval, eRgs]) rfl ?_
      have hrn1 : r.toNat < (D.set one.toNat m).length := by omega
      have hgo : ∃ w, (D.set one.toNat m)[r.toNat]? = some w := ⟨_, List.getElem?_eq_getElem hrn1⟩
      obtain ⟨w, hw⟩ := hgo
      generalize hD1 : D.set one.toNat m = D1 at hs1 hs2 hl1 hl2 hrn1 hw hG
      rw [hG] at hs2 hl2
      simp +contextual -implicitDefEqProofs (maxSteps := 1000000) only [sm, sn, sxx, seval, eRgs, o0, hro, r0, hon, hrn, hs1, hs2, hw, hl1, hrn1]
      refine ⟨[], [0, 1, 2], by decide, ?_⟩
      simp +contextual -implicitDefEqProofs (maxSteps := 1000000) only [sm, sn, sxx, seval, eCh_flat, elB_eq, hl2]
      try rfl
    · have hn : ¬ (true = true ∧ p = q) := fun h => he h.2
      rw [hb, if_neg hn] at hG
      subst hG
      simp +contextual -implicitDefEqProofs (maxSteps := 1000000) only [sm, sn, sxx, seval, eRg, he]
      refine ⟨[], [0, 1, 2], by decide, ?_⟩
      simp +contextual -implicitDefEqProofs (maxSteps := 1000000) only [sm, sn, sxx, seval, eCh_flat, elB_eq]
      try rfl
theorem elem_of_no (K : Int) (X A : List Int) (C : Int) (D : List (List Rg)) (h1 : ¬ K = 16) (h2 : ¬ K = 17) : Ctr Try.prog 34 [eCon (K, X, A, C), eDoms D] [] (.tuple [.nilp, .bool false]) [] := by
  refine call_pure Try.func34 Try.call34 e_elem_of ?_
  simp +contextual -implicitDefEqProofs (maxSteps := 1000000) only [c_elem_of, eCon, eIs, eDoms, sm, sn, sxx, seval, h1, h2]
end Go.Proofs.Ytnhedjpghpdbdaa
