/- Plain laws: what elem.Narrow leaves. -/
import Derived.Test.YtnhedjpghpdbdaaWElem4
namespace Go.Proofs.Ytnhedjpghpdbdaa
open Av
attribute [local irreducible] awp awpOpers
set_option linter.unusedSimpArgs false
set_option linter.unusedVariables false
def finE (E : List (List Rg)) : List (List Rg) × Int := tell (E, wholeB E)
def elemL (c : Con) (D : List (List Rg)) : List (List Rg) × Int :=
  if modB (D, [c], 0, 0) = true then
    (if c.1 = 16 then finE (narE (xat c.2.1 0) (lastV0 c.2.1) ((chsA c.2.2.1).filter (keepC (rowOf D (xat c.2.1 0)) (rowOf D (lastV0 c.2.1)))) D)
    else if c.1 = 17 then finE (choE c.2.1 (xat c.2.1 0) (lastV0 c.2.1) (narE (xat c.2.1 0) (lastV0 c.2.1) ((chsX D ((c.2.1.take (c.2.1.length - 1)).drop 1)).filter (keepC (rowOf D (xat c.2.1 0)) (rowOf D (lastV0 c.2.1)))) D))
    else ([], 10)) else ([], 2)
theorem row_good {r : List Rg} (h : rightB r = true) : ∀ q ∈ r, q.1 ≤ q.2 ∧ InR q := by
  intro q hq
  obtain ⟨k, hk⟩ := List.getElem?_of_mem hq
  have := right_rg h (k := k) (x := q.1) (y := q.2) hk
  unfold InR
  omega
theorem narE_len (i r : Int) (K : List Ch) (D : List (List Rg)) : (narE i r K D).length = D.length := by unfold narE; rw [List.length_set, List.length_set]
theorem idx_good {K : List Ch} (hk : ∀ c ∈ K, -1048576 ≤ c.1 ∧ c.1 ≤ 1048576) : ∀ q ∈ K.map (fun c => ((c.1, c.1) : Rg)), q.1 ≤ q.2 ∧ InR q := by
  intro q hq
  obtain ⟨c, hcm, rfl⟩ := List.mem_map.1 hq
  have := hk c hcm
  unfold InR
  simp only
  omega
theorem all_good {K : List Ch} (hg : ∀ c ∈ K, ∀ q ∈ c.2, q.1 ≤ q.2 ∧ InR q) : ∀ q ∈ K.flatMap (fun c => c.2), q.1 ≤ q.2 ∧ InR q := by
  intro q hq
  obtain ⟨c, hcm, hqc⟩ := List.mem_flatMap.1 hq
  exact hg c hcm q hqc
theorem of_facts {l : List Rg} (hg : ∀ r ∈ l, r.1 ≤ r.2 ∧ InR r) : rightB (mergeS (sortV l)) = true ∧ ∀ v, Mem (mergeS (sortV l)) v ↔ Mem l v :=
  mergeS_facts (sortV_perm l) (sortV_asc l) (fun s h => (hg s h).1) (fun s h => (hg s h).2)
theorem idx_mem {K : List Ch} (hk : ∀ c ∈ K, -1048576 ≤ c.1 ∧ c.1 ≤ 1048576) : rightB (idxE K) = true ∧ ∀ v, Mem (idxE K) v ↔ ∃ c ∈ K, c.1 = v := by
  obtain ⟨h1, h2⟩ := of_facts (idx_good hk)
  refine ⟨h1, fun v => (h2 v).trans ?_⟩
  unfold Mem
  constructor
  · rintro ⟨q, hq, hv⟩
    obtain ⟨c, hcm, rfl⟩ := List.mem_map.1 hq
    simp only at hv
    exact ⟨c, hcm, by omega⟩
  · rintro ⟨c, hcm, rfl⟩
    exact ⟨(c.1, c.1), List.mem_map.2 ⟨c, hcm, rfl⟩, by simp⟩
theorem all_mem {K : List Ch} (hg : ∀ c ∈ K, ∀ q ∈ c.2, q.1 ≤ q.2 ∧ InR q) : rightB (allE K) = true ∧ ∀ v, Mem (allE K) v ↔ ∃ c ∈ K, Mem c.2 v := by
  obtain ⟨h1, h2⟩ := of_facts (all_good hg)
  refine ⟨h1, fun v => (h2 v).trans ?_⟩
  unfold Mem
  constructor
  · rintro ⟨q, hq, hv⟩
    obtain ⟨c, hcm, hqc⟩ := List.mem_flatMap.1 hq
    exact ⟨c, hcm, q, hqc, hv⟩
  · rintro ⟨c, hcm, q, hqc, hv⟩
    exact ⟨q, List.mem_flatMap.2 ⟨c, hcm, hqc⟩, hv⟩
theorem narE_right {i r : Int} {K : List Ch} {D : List (List Rg)} (hi : 0 ≤ i ∧ i < D.length) (hr : 0 ≤ r ∧ r < D.length) (hd : ∀ d ∈ D, domB d = true)
    (hk : ∀ c ∈ K, -1048576 ≤ c.1 ∧ c.1 ≤ 1048576) (hg : ∀ c ∈ K, ∀ q ∈ c.2, q.1 ≤ q.2 ∧ InR q) : ∀ d ∈ narE i r K D, rightB d = true := by
  have h1 := (idx_mem hk).1
  have h2 := (all_mem hg).1
  have h4 : rightB (rowOf (D.set i.toNat (idxE K)) r) = true := by
    rw [row_set hi.1 hi.2 hr.1]
    split
    · exact h1
    · exact (dom_right (hd _ (row_mem hr))).1
  intro d hdm
  unfold narE at hdm
  rcases List.mem_or_eq_of_mem_set hdm with h | h
  · rcases List.mem_or_eq_of_mem_set h with h | h
    · exact (dom_right (hd d h)).1
    · rw [h]; exact h1
  · rw [h]; exact (meetS_facts h4 h2).1
theorem right_rows {E : List (List Rg)} (h : ∀ d ∈ E, rightB d = true) : ∀ d ∈ E, d.length ≤ 1000000000000 := fun d hd => by have := right_length (h d hd); omega
theorem right_row {E : List (List Rg)} (h : ∀ d ∈ E, rightB d = true) (x : Int) : rightB (rowOf E x) = true := by
  unfold rowOf
  cases hx : E[x.toNat]? with
  | none => rfl
  | some d => exact h d (List.mem_of_getElem? hx)
theorem tab_facts {X A : List Int} {C : Int} {D : List (List Rg)} (hm : modB (D, [(16, X, A, C)], 0, 0) = true) :
    X.length = 2 ∧ (1 ≤ A.length ∧ A.length ≤ 64) ∧ X.length ≤ 32 ∧ (0 ≤ xat X 0 ∧ xat X 0 < D.length) ∧ (0 ≤ lastV0 X ∧ lastV0 X < D.length) ∧ (∀ d ∈ D, domB d = true) ∧ ∀ a ∈ A, -1048576 ≤ a ∧ a ≤ 1048576 := by
  obtain ⟨f1, f2, f3⟩ := one_facts hm
  obtain ⟨g1, g2, g3, g4, g5⟩ := may_facts f3
  simp only at g2 g3 g5
  simp only [formedB, Bool.and_eq_true] at g1
  have hc := g1.1.2
  simp [countsB, shp] at hc
  have hX : X.length = 2 := by omega
  refine ⟨hX, by omega, g2, g3 0 (by omega), ?_, f2, fun a h => (withinB_iff a).1 (g5 a h)⟩
  unfold lastV0
  exact g3 (X.length - 1) (by omega)
theorem var_facts {X A : List Int} {C : Int} {D : List (List Rg)} (hm : modB (D, [(17, X, A, C)], 0, 0) = true) :
    3 ≤ X.length ∧ A.length = 0 ∧ X.length ≤ 32 ∧ InD D X ∧ (0 ≤ xat X 0 ∧ xat X 0 < D.length) ∧ (0 ≤ lastV0 X ∧ lastV0 X < D.length) ∧ ∀ d ∈ D, domB d = true := by
  obtain ⟨f1, f2, f3⟩ := one_facts hm
  obtain ⟨g1, g2, g3, g4, g5⟩ := may_facts f3
  simp only at g2 g3 g5
  simp only [formedB, Bool.and_eq_true] at g1
  have hc := g1.1.2
  simp [countsB, shp] at hc
  have hX : 3 ≤ X.length := by omega
  refine ⟨hX, by simp only [List.length_eq_zero_iff]; first | exact hc.2 | (have := hc.2; simpa using this), g2, g3, g3 0 (by omega), ?_, f2⟩
  unfold lastV0
  exact g3 (X.length - 1) (by omega)
theorem chsA_facts {A : List Int} (hA : 1 ≤ A.length ∧ A.length ≤ 64) (h : ∀ a ∈ A, -1048576 ≤ a ∧ a ≤ 1048576) :
    (chsA A).length ≤ 500 ∧ (∀ c ∈ chsA A, c.2.length ≤ 2000000) ∧ (∀ c ∈ chsA A, -1048576 ≤ c.1 ∧ c.1 ≤ 1048576) ∧ ∀ c ∈ chsA A, ∀ q ∈ c.2, q.1 ≤ q.2 ∧ InR q := by
  have hm : ∀ c ∈ chsA A, ∃ i, i < A.length ∧ c = (((i + 1 : Nat) : Int), [(xat A i, xat A i)]) := by
    intro c hc
    unfold chsA at hc
    obtain ⟨i, hi, rfl⟩ := List.mem_map.1 hc
    exact ⟨i, List.mem_range.1 hi, rfl⟩
  refine ⟨by rw [chsA_len]; omega, fun c hc => ?_, fun c hc => ?_, fun c hc q hq => ?_⟩
  · obtain ⟨i, hi, rfl⟩ := hm c hc; simp
  · obtain ⟨i, hi, rfl⟩ := hm c hc; simp only; omega
  · obtain ⟨i, hi, rfl⟩ := hm c hc
    simp only [List.mem_singleton] at hq
    subst hq
    have := h (xat A i) (List.mem_of_getElem? (xat_get hi))
    unfold InR
    simp only
    omega
theorem mid_at {X : List Int} {k : Nat} (h : k < X.length - 2) : xat ((X.take (X.length - 1)).drop 1) k = xat X (1 + k) := by
  unfold xat
  rw [List.getElem?_drop, List.getElem?_take, if_pos (by omega)]
theorem mid_len {X : List Int} (h : 3 ≤ X.length) : ((X.take (X.length - 1)).drop 1).length = X.length - 2 := by rw [List.length_drop, List.length_take]; omega
theorem chsX_mem {X : List Int} {D : List (List Rg)} (h3 : 3 ≤ X.length) : ∀ c ∈ chsX D ((X.take (X.length - 1)).drop 1), ∃ i, i < X.length - 2 ∧ c = (((i + 1 : Nat) : Int), rowOf D (xat X (1 + i))) := by
  intro c hc
  unfold chsX at hc
  obtain ⟨i, hi, rfl⟩ := List.mem_map.1 hc
  rw [List.mem_range, mid_len h3] at hi
  exact ⟨i, hi, by rw [mid_at hi]⟩
theorem chsX_facts {X : List Int} {D : List (List Rg)} (h3 : 3 ≤ X.length) (h32 : X.length ≤ 32) (hI : InD D X) (hd : ∀ d ∈ D, domB d = true) :
    (chsX D ((X.take (X.length - 1)).drop 1)).length ≤ 500 ∧ (∀ c ∈ chsX D ((X.take (X.length - 1)).drop 1), c.2.length ≤ 2000000) ∧ (∀ c ∈ chsX D ((X.take (X.length - 1)).drop 1), -1048576 ≤ c.1 ∧ c.1 ≤ 1048576) ∧ ∀ c ∈ chsX D ((X.take (X.length - 1)).drop 1), ∀ q ∈ c.2, q.1 ≤ q.2 ∧ InR q := by
  have hm := chsX_mem (D := D) h3
  refine ⟨by rw [chsX_len, mid_len h3]; omega, fun c hc => ?_, fun c hc => ?_, fun c hc => ?_⟩
  · obtain ⟨i, hi, rfl⟩ := hm c hc
    have := dom_len (hd _ (row_mem (hI (1 + i) (by omega))))
    simp only; omega
  · obtain ⟨i, hi, rfl⟩ := hm c hc; simp only; omega
  · obtain ⟨i, hi, rfl⟩ := hm c hc
    exact row_good (dom_right (hd _ (row_mem (hI (1 + i) (by omega))))).1
theorem choE_right {X : List Int} {i r : Int} {D : List (List Rg)} (hd : ∀ d ∈ D, rightB d = true) : ∀ d ∈ choE X i r D, rightB d = true := by
  intro d hdm
  unfold choE at hdm
  split at hdm
  · have hm := (meetS_facts (right_row hd (xat X (endsV (rowOf D i)).1.toNat)) (right_row hd r)).1
    rcases List.mem_or_eq_of_mem_set hdm with h | h
    · rcases List.mem_or_eq_of_mem_set h with h | h
      · exact hd d h
      · rw [h]; exact hm
    · rw [h]; exact hm
  · exact hd d hdm
theorem nar_row {i r : Int} {K : List Ch} {D : List (List Rg)} (hi : 0 ≤ i ∧ i < D.length) (hr : 0 ≤ r ∧ r < D.length) (z : Int) (hz : 0 ≤ z) :
    rowOf (narE i r K D) z = if r = z then meetS (if i = r then idxE K else rowOf D r) (allE K) else if i = z then idxE K else rowOf D z := by
  unfold narE
  rw [row_set hr.1 (by rw [List.length_set]; exact hr.2) hz, row_set hi.1 hi.2 hr.1, row_set hi.1 hi.2 hz]
/-- the index that is left names a choice -/
theorem var_one {X : List Int} {D : List (List Rg)} (h3 : 3 ≤ X.length) (h32 : X.length ≤ 32) (hI : InD D X) (hi : 0 ≤ xat X 0 ∧ xat X 0 < D.length) (hr : 0 ≤ lastV0 X ∧ lastV0 X < D.length) (hd : ∀ d ∈ D, domB d = true) {p : Ch → Bool} :
    endsB (rowOf (narE (xat X 0) (lastV0 X) ((chsX D ((X.take (X.length - 1)).drop 1)).filter p) D) (xat X 0)) = true →
    (endsV (rowOf (narE (xat X 0) (lastV0 X) ((chsX D ((X.take (X.length - 1)).drop 1)).filter p) D) (xat X 0))).1 = (endsV (rowOf (narE (xat X 0) (lastV0 X) ((chsX D ((X.take (X.length - 1)).drop 1)).filter p) D) (xat X 0))).2 →
    (0 ≤ (endsV (rowOf (narE (xat X 0) (lastV0 X) ((chsX D ((X.take (X.length - 1)).drop 1)).filter p) D) (xat X 0))).1 ∧ (endsV (rowOf (narE (xat X 0) (lastV0 X) ((chsX D ((X.take (X.length - 1)).drop 1)).filter p) D) (xat X 0))).1 < X.length) ∧
    0 ≤ xat X (endsV (rowOf (narE (xat X 0) (lastV0 X) ((chsX D ((X.take (X.length - 1)).drop 1)).filter p) D) (xat X 0))).1.toNat ∧ xat X (endsV (rowOf (narE (xat X 0) (lastV0 X) ((chsX D ((X.take (X.length - 1)).drop 1)).filter p) D) (xat X 0))).1.toNat < D.length := by
  obtain ⟨q1, q2, q3, q4⟩ := chsX_facts h3 h32 hI hd
  have hm := chsX_mem (D := D) h3
  have hkm : ∀ c ∈ (chsX D ((X.take (X.length - 1)).drop 1)).filter p, c ∈ chsX D ((X.take (X.length - 1)).drop 1) := fun c h => (List.mem_filter.1 h).1
  generalize (chsX D ((X.take (X.length - 1)).drop 1)).filter p = K at hkm ⊢
  obtain ⟨i1, i2⟩ := idx_mem (K := K) fun c h => q3 c (hkm c h)
  obtain ⟨a1, a2⟩ := all_mem (K := K) fun c h => q4 c (hkm c h)
  have hrow := nar_row (K := K) hi hr (xat X 0) hi.1
  have hsub : ∀ v, Mem (rowOf (narE (xat X 0) (lastV0 X) K D) (xat X 0)) v → Mem (idxE K) v := by
    intro v hv
    rw [hrow] at hv
    by_cases e : lastV0 X = xat X 0
    · rw [if_pos e, if_pos e.symm] at hv
      exact ((meetS_facts i1 a1).2 v).1 hv |>.1
    · rw [if_neg e, if_pos rfl] at hv
      exact hv
  intro hb _
  have hdom : domB (rowOf (narE (xat X 0) (lastV0 X) K D) (xat X 0)) = true := by
    unfold endsB at hb
    unfold domB
    rw [Bool.and_eq_true] at hb ⊢
    refine ⟨hb.1, ?_⟩
    have := hb.2
    simp only [List.isEmpty_iff, Bool.not_eq_true', decide_eq_true_eq] at this ⊢
    cases hq : rowOf (narE (xat X 0) (lastV0 X) K D) (xat X 0) with
    | nil => rw [hq] at this; simp at this
    | cons a b => simp
  obtain ⟨e1, -⟩ := ends_facts hdom
  obtain ⟨c, hc, hcv⟩ := (i2 _).1 (hsub _ e1)
  obtain ⟨k, hk, hce⟩ := hm c (hkm c hc)
  rw [← hcv, hce]
  simp only
  have hx := hI (k + 1) (by omega)
  refine ⟨by omega, ?_⟩
  rw [Int.toNat_natCast]
  exact hx
end Go.Proofs.Ytnhedjpghpdbdaa
