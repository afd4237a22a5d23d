/- Plain laws of layer 11: kin, turned, moved, few, order. -/
import Derived.Test.YtnhedjpghpdbdaaPlSense
namespace Go.Proofs.Ytnhedjpghpdbdaa
open Av
attribute [local irreducible] awp awpOpers
set_option linter.unusedSimpArgs false
set_option linter.unusedVariables false
theorem sumN_congr {A V W : List Int} : ∀ n, (∀ k, k < n → xat V k = xat W k) → sumN A V n = sumN A W n
  | 0, _ => rfl
  | n + 1, h => by
    unfold sumN
    rw [sumN_congr n fun k hk => h k (by omega), h n (by omega)]
theorem xat_take {V : List Int} {n k : Nat} (h : k < n) : xat (V.take n) k = xat V k := by unfold xat; rw [List.getElem?_take, if_pos h]
theorem vals_take (X a : List Int) (n : Nat) : valsOf (X.take n) a = (valsOf X a).take n := by unfold valsOf; rw [List.map_take]
theorem one_row {V : List Int} {i : Nat} (h : i < V.length) : rowOf (oneD V) (i : Int) = [(xat V i, xat V i)] := by
  unfold rowOf
  rw [Int.toNat_natCast, one_get (xat_get h)]
  rfl
theorem truth_one (v : Int) : truthB [(v, v)] = (decide (0 ≤ v) && decide (v ≤ 1)) := rfl
theorem xOk_one {V : List Int} {bt : Int} {i : Nat} (h : i < V.length) : xOk (oneD V) (upN V.length) bt i = if bt = 2 ∨ bt = 1 ∧ i + 1 = V.length then (decide (0 ≤ xat V i) && decide (xat V i ≤ 1)) else true := by
  unfold xOk
  rw [up_get h]
  simp only [up_len, oneD_len, one_row h, truth_one]
  have h1 : decide (0 ≤ (i : Int)) = true := by simp
  have h2 : decide ((i : Int) < (V.length : Int)) = true := by simp; omega
  rw [h1, h2, Bool.true_and, Bool.true_and]
theorem xsOk_zero (V : List Int) : xsOk (oneD V) (upN V.length) 0 = true := by
  unfold xsOk
  refine all_yes fun k hk => ?_
  rw [up_len] at hk
  rw [xOk_one hk, if_neg (by omega)]
theorem kin_facts {c : Con} {a : List Int} (hK : 4 ≤ c.1 ∧ c.1 ≤ 6) (h : askdB c a = true) :
    c.2.1.length = c.2.2.1.length + 1 ∧ (lastV (valsOf c.2.1 a) = 0 ∨ lastV (valsOf c.2.1 a) = 1) ∧ ∀ K', K' = 1 ∨ K' = 2 → askdB (K', c.2.1.take (c.2.1.length - 1), c.2.2.1, c.2.2.2) a = true := by
  obtain ⟨K, X, A, C⟩ := c
  simp only at hK ⊢
  have hs : shp K = (1, 1, 0, true, 1) := by unfold shp; rw [if_neg (by omega), if_pos (by omega)]
  unfold askdB at h
  simp only [Bool.and_eq_true, decide_eq_true_eq] at h
  obtain ⟨⟨⟨h1, h2⟩, h3⟩, h4⟩ := h
  simp only [mayB, formedB, hs, Bool.and_eq_true, decide_eq_true_eq, up_len] at h4
  obtain ⟨⟨⟨⟨⟨⟨⟨g1, g2⟩, -⟩, g3⟩, g4⟩, -⟩, g5⟩, g6⟩ := h4
  have hl : X.length = A.length + 1 := by simp [countsB] at g2; omega
  refine ⟨hl, ?_, fun K' hK' => ?_⟩
  · have hV : (valsOf X a).length = X.length := vals_len X a
    rw [← hV] at g5
    have h5 : xOk (oneD (valsOf X a)) (upN (valsOf X a).length) 1 ((valsOf X a).length - 1) = true := by
      unfold xsOk at g5
      rw [List.all_eq_true] at g5
      exact g5 _ (by rw [List.mem_range, up_len]; omega)
    rw [xOk_one (by omega), if_pos (by omega), Bool.and_eq_true, decide_eq_true_eq, decide_eq_true_eq] at h5
    unfold lastV
    omega
  · have hs' : shp K' = (1, 0, 0, true, 0) := by unfold shp; rw [if_pos (by omega)]
    have hk1 : kindB K' = true := by rcases hK' with rfl | rfl <;> decide
    have hX : (X.take (X.length - 1)).length = A.length := by rw [List.length_take]; omega
    have hc : countsB ((1, 0, 0, true, 0) : Shp) (A.length : Int) (A.length : Int) = true := by simp [countsB]
    have hx := xsOk_zero (valsOf (X.take (X.length - 1)) a)
    rw [vals_len, hX] at hx
    have n11 : ¬ K' = 11 := by omega
    have n19 : ¬ K' = 19 := by omega
    have hall : (X.take (X.length - 1)).all (idxB a) = true := by
      rw [List.all_eq_true] at h3 ⊢
      exact fun x hx => h3 x (List.mem_of_mem_take hx)
    unfold askdB mayB formedB
    simp only [hs', hk1, hX, up_len, hc, hx, n11, n19, if_false, hall, g3, g6, Bool.and_self, Bool.true_and, Bool.and_true, Bool.or_true]
    simp [h1]
    exact ⟨by omega, g4⟩
theorem kin_holds {K : Int} {X A : List Int} {C : Int} {V : List Int} (hK : 4 ≤ K ∧ K ≤ 6) (hl : V.length = A.length + 1) (hf : lastV V = 0 ∨ lastV V = 1) :
    holdsB (K, X, A, C) V = if lastV V = 1 then holdsB (if K = 4 then 1 else 2, X.take (X.length - 1), A, C) (V.take (V.length - 1)) else if K = 6 then true else !holdsB (if K = 4 then 1 else 2, X.take (X.length - 1), A, C) (V.take (V.length - 1)) := by
  have hs : sumN A (V.take (V.length - 1)) A.length = sumN A V A.length := sumN_congr _ fun k hk => xat_take (by omega)
  have e1 : holdsB (K, X, A, C) V = linB K C (sumN A V A.length) (lastV V) := by unfold holdsB; simp only; rw [if_pos (by omega)]
  have e2 : ∀ K', K' = 1 ∨ K' = 2 → ∀ f, holdsB (K', X.take (X.length - 1), A, C) (V.take (V.length - 1)) = linB K' C (sumN A V A.length) f := by
    intro K' hK' f
    unfold holdsB
    simp only
    rw [if_pos (by omega), hs]
    rcases hK' with rfl | rfl <;> rfl
  rw [e1, e2 _ (by split <;> omega) 0]
  generalize sumN A V A.length = n
  have h3 : K = 4 ∨ K = 5 ∨ K = 6 := by omega
  rcases h3 with rfl | rfl | rfl <;> rcases hf with hf | hf <;> rw [hf] <;> simp [linB]
/-! few: a value that a constraint does not have -/
theorem few_ask {c : Con} {a : List Int} {at_ : Nat} (v : Int) (hx : ∀ x ∈ c.2.1, x ≠ (at_ : Int)) :
    askdB c (a.set at_ v) = askdB c a ∧ (askdB c a = true → valsOf c.2.1 (a.set at_ v) = valsOf c.2.1 a) := by
  have hv : ∀ x ∈ c.2.1, 0 ≤ x → xat (a.set at_ v) x.toNat = xat a x.toNat := by
    intro x h h0
    have := hx x h
    unfold xat
    rw [List.getElem?_set_ne (by omega)]
  have hi : c.2.1.all (idxB (a.set at_ v)) = c.2.1.all (idxB a) := by
    rw [Bool.eq_iff_iff, List.all_eq_true, List.all_eq_true]
    refine ⟨fun h x hxm => ?_, fun h x hxm => ?_⟩
    · have := h x hxm
      unfold idxB at this ⊢
      rw [List.length_set] at this
      simp only [Bool.and_eq_true, decide_eq_true_eq] at this ⊢
      rwa [hv x hxm this.1.1] at this
    · have := h x hxm
      unfold idxB at this ⊢
      rw [List.length_set]
      simp only [Bool.and_eq_true, decide_eq_true_eq] at this ⊢
      rwa [hv x hxm this.1.1]
  have hvals : c.2.1.all (idxB a) = true → valsOf c.2.1 (a.set at_ v) = valsOf c.2.1 a := by
    intro h
    unfold valsOf
    refine List.map_congr_left fun x hxm => ?_
    have := List.all_eq_true.1 h x hxm
    unfold idxB at this
    simp only [Bool.and_eq_true, decide_eq_true_eq] at this
    exact hv x hxm this.1.1
  refine ⟨?_, fun h => hvals ?_⟩
  · unfold askdB
    rw [hi]
    cases h : c.2.1.all (idxB a)
    · simp
    · rw [hvals h]
  · unfold askdB at h
    simp only [Bool.and_eq_true] at h
    exact h.1.2
/-! sums turned -/
theorem xat_neg (A : List Int) (k : Nat) : xat (A.map fun x => -x) k = -(xat A k) := by
  unfold xat
  rw [List.getElem?_map]
  cases A[k]? <;> simp
theorem sumN_neg (A V : List Int) : ∀ n, sumN (A.map fun x => -x) V n = -(sumN A V n)
  | 0 => rfl
  | n + 1 => by
    unfold sumN
    rw [sumN_neg A V n, xat_neg, Int.neg_mul]
    omega
theorem within_neg (x : Int) : withinB (-x) = withinB x := by
  unfold withinB
  rw [Bool.eq_iff_iff]
  simp only [Bool.and_eq_true, decide_eq_true_eq]
  omega
theorem turn_lin {K : Int} {X A : List Int} {C : Int} {a : List Int} (hK : K = 1 ∨ K = 3) :
    (askdB (K, X, A.map (fun x => -x), -C) a && holdsB (K, X, A.map (fun x => -x), -C) (valsOf X a)) = (askdB (K, X, A, C) a && holdsB (K, X, A, C) (valsOf X a)) := by
  have hw : (A.map fun x => -x).all withinB = A.all withinB := by
    rw [List.all_map]
    congr 1
    funext x
    exact within_neg x
  have hs : shp K = (1, 0, 0, true, 0) := by unfold shp; rw [if_pos (by omega)]
  have n11 : ¬ K = 11 := by omega
  have n19 : ¬ K = 19 := by omega
  have h1 : askdB (K, X, A.map (fun x => -x), -C) a = askdB (K, X, A, C) a := by
    unfold askdB mayB formedB
    simp only [List.length_map, hw, within_neg, hs, n11, n19, if_false, Bool.or_true]
  rw [h1]
  congr 1
  unfold holdsB
  simp only [List.length_map, sumN_neg]
  rw [if_pos (by omega), if_pos (by omega)]
  unfold linB
  rcases hK with rfl | rfl
  · simp <;> omega
  · simp <;> omega
/-! moved -/
theorem cnt_move (V : List Int) (by_ v : Int) : cntI (V.map fun x => x + by_) (v + by_) = cntI V v := by
  unfold cntI
  rw [List.filter_map, List.length_map]
  congr 2
  funext x
  simp only [Function.comp_apply]
  congr 1
  exact propext ⟨fun h => by omega, fun h => by omega⟩
theorem unlike_move (V : List Int) (by_ : Int) : unlikeB (V.map fun x => x + by_) = unlikeB V := by
  unfold unlikeB
  rw [List.all_map]
  congr 1
  funext v
  simp only [Function.comp_apply, cnt_move]
theorem xat_move {V : List Int} {by_ : Int} {k : Nat} (h : k < V.length) : xat (V.map fun x => x + by_) k = xat V k + by_ := by
  unfold xat
  rw [List.getElem?_map, List.getElem?_eq_getElem h]
  rfl
theorem load_move (A V : List Int) (by_ t : Int) : ∀ n, n ≤ V.length → loadN A (V.map fun x => x + by_) (t + by_) n = loadN A V t n
  | 0, _ => rfl
  | n + 1, h => by
    unfold loadN
    rw [load_move A V by_ t n (by omega), xat_move (by omega), List.length_map]
    congr 1
    have e : (xat V n + by_ ≤ t + by_ ∧ t + by_ < xat V n + by_ + xat A n) ↔ (xat V n ≤ t ∧ t < xat V n + xat A n) := by omega
    simp only [e]
theorem tasks_move (A : List Int) (C : Int) (V : List Int) (by_ : Int) : tasksB A C (V.map fun x => x + by_) = tasksB A C V := by
  unfold tasksB
  rw [List.length_map, Bool.eq_iff_iff, List.all_eq_true, List.all_eq_true]
  refine ⟨fun h k hk => ?_, fun h k hk => ?_⟩
  · have := h k hk
    rw [xat_move (List.mem_range.1 hk), load_move _ _ _ _ _ (Nat.le_refl _)] at this
    exact this
  · rw [xat_move (List.mem_range.1 hk), load_move _ _ _ _ _ (Nat.le_refl _)]
    exact h k hk
def moveV (by_ x : Int) : Int := if -1048576 ≤ x ∧ x ≤ 1048576 then x + by_ else x
theorem vals_move {X a : List Int} {by_ : Int} (hi : Idx X a) (hs : Sm (valsOf X a)) : valsOf X (a.map (moveV by_)) = (valsOf X a).map fun x => x + by_ := by
  unfold valsOf at hs ⊢
  rw [List.map_map]
  refine List.map_congr_left fun x hx => ?_
  have h1 := hs _ (List.mem_map.2 ⟨x, hx, rfl⟩)
  have h2 := idx_get hi (List.mem_iff_getElem?.1 hx).choose_spec
  simp only [Function.comp_apply]
  unfold xat at h1 ⊢
  rw [List.getElem?_map]
  have h3 : a[x.toNat]? = some (xat a x.toNat) := h2
  rw [h3] at h1 ⊢
  simp only [Option.map_some, Option.getD_some] at h1 ⊢
  unfold moveV
  rw [if_pos h1]
theorem move_holds {c : Con} {a : List Int} {by_ : Int} (hK : c.1 = 18 ∨ c.1 = 19) (h : askdB c a = true) : holdsB c (valsOf c.2.1 (a.map (moveV by_))) = holdsB c (valsOf c.2.1 a) := by
  obtain ⟨f1, f2, f3, f4, -⟩ := askd_facts h
  rw [vals_move f3 f4]
  obtain ⟨K, X, A, C⟩ := c
  simp only at hK
  unfold holdsB
  rcases hK with rfl | rfl
  · simp [unlike_move]
  · simp [tasks_move]
end Go.Proofs.Ytnhedjpghpdbdaa
