/- Plain laws of constraints on truth values: values for which they hold are not lost. -/
import Derived.Test.YtclpkkbamgmooaaPlLogic4
import Derived.Test.YtclpkkbamgmooaaPlKeep
namespace Go.Proofs.Ytclpkkbamgmooaa
open Av
set_option linter.unusedSimpArgs false
set_option linter.unusedVariables false
/-! domains that keep values -/
def Pos (E : List (List Rg)) : Prop := ∀ r ∈ E, 0 < r.length
theorem pos_set {D E : List (List Rg)} {x v : Int} (hD : Pos D) (h : setO D x v = some E) : Pos E := by
  unfold setO at h
  split at h
  · injection h with h
    subst h
    intro r hr
    rcases List.mem_or_eq_of_mem_set hr with h1 | h1
    · exact hD r h1
    · subst h1; simp
  · split at h
    · injection h with h; subst h; exact hD
    · cases h
theorem pos_clause {D E : List (List Rg)} {X A : List Int} (hD : Pos D) (h : clauseO D X A = some E) : Pos E := by
  unfold clauseO at h
  split at h
  · injection h with h; subst h; exact hD
  · split at h
    · cases h
    · split at h
      · exact pos_set hD h
      · injection h with h; subst h; exact hD
theorem pos_first {D E : List (List Rg)} {X : List Int} {yes : Int} (hD : Pos D) (h : firstO D X yes = some E) : Pos E := by
  unfold firstO at h
  split at h
  · exact pos_set hD h
  · split at h
    · exact pos_set hD h
    · injection h with h; subst h; exact hD
theorem pos_ev {D : List (List Rg)} {X : List Int} {v : Int} (hD : Pos D) : ∀ {n : Nat} {E : List (List Rg)}, evO D X v n = some E → Pos E
  | 0, E, h => by injection h with h; subst h; exact hD
  | n + 1, E, h => by
    unfold evO at h
    cases h1 : evO D X v n with
    | none => rw [h1] at h; cases h
    | some E1 => rw [h1] at h; exact pos_set (pos_ev hD h1) h
theorem pos_rest {D E : List (List Rg)} {X : List Int} {yes : Int} (hD : Pos D) (h : restO D X yes = some E) : Pos E := by
  unfold restO at h
  split at h
  · exact pos_ev hD h
  · split at h
    · split at h
      · cases h
      · split at h
        · exact pos_set hD h
        · injection h with h; subst h; exact hD
    · injection h with h; subst h; exact hD
theorem pos_both {D E : List (List Rg)} {X : List Int} {yes : Int} (hD : Pos D) (h : bothO D X yes = some E) : Pos E := by
  unfold bothO at h
  split at h
  · cases h
  · rename_i E1 h1
    exact pos_rest (pos_first hD h1) h
theorem pos_xor {D E : List (List Rg)} {X : List Int} (hD : Pos D) (h : xorO D X = some E) : Pos E := by
  unfold xorO at h
  split at h
  · injection h with h; subst h; exact hD
  · split at h
    · split at h
      · injection h with h; subst h; exact hD
      · cases h
    · exact pos_set hD h
/-! one value each -/
theorem lv_one {v : Int} (h : v = 0 ∨ v = 1) : lv [(v, v)] = v := by rcases h with rfl | rfl <;> decide
theorem set_one {a : List Int} {x v : Int} (h : lv (rowOf (oneD a) x) = v) (hv : v = 0 ∨ v = 1) : setO (oneD a) x v = some (oneD a) := by
  unfold setO
  rw [if_neg (by omega), if_pos h]
theorem cnt_all {l : List Int} {x : Int} : cntI l x = l.length ↔ ∀ y ∈ l, y = x := by
  unfold cntI
  rw [List.length_filter_eq_length_iff]
  simp
theorem cnt_pos {l : List Int} {x : Int} : 0 < cntI l x ↔ x ∈ l := by
  unfold cntI
  rw [List.length_pos_iff_exists_mem]
  constructor
  · rintro ⟨y, hy⟩
    rw [List.mem_filter, decide_eq_true_eq] at hy
    rw [← hy.2]; exact hy.1
  · intro h
    exact ⟨x, by rw [List.mem_filter, decide_eq_true_eq]; exact ⟨h, rfl⟩⟩
theorem mem_take_at {V : List Int} {n : Nat} {y : Int} (hn : n ≤ V.length) : y ∈ V.take n ↔ ∃ i, i < n ∧ xat V i = y := by
  constructor
  · intro h
    obtain ⟨i, hi, rfl⟩ := List.getElem_of_mem h
    rw [List.length_take] at hi
    refine ⟨i, by omega, ?_⟩
    rw [List.getElem_take]
    unfold xat
    rw [List.getElem?_eq_getElem (by omega)]; rfl
  · rintro ⟨i, hi, rfl⟩
    have h1 : (V.take n)[i]? = some (xat V i) := by rw [List.getElem?_take, if_pos hi]; exact xat_get (by omega)
    exact List.mem_of_getElem? h1
theorem ev_one {a X : List Int} {v : Int} (hv : v = 0 ∨ v = 1) : ∀ {n : Nat}, (∀ i, i < n → atV (oneD a) X i = v) → evO (oneD a) X v n = some (oneD a)
  | 0, _ => rfl
  | n + 1, h => by
    unfold evO
    rw [ev_one hv (n := n) fun i hi => h i (by omega)]
    exact set_one (h n (by omega)) hv
theorem both_one {a X : List Int} {yes : Int} (hy : yes = 0 ∨ yes = 1) (hX : 0 < X.length) (hb : ∀ i, i < X.length → atV (oneD a) X i = 0 ∨ atV (oneD a) X i = 1)
    (h : atV (oneD a) X (X.length - 1) = yes ↔ ∀ i, i < X.length - 1 → atV (oneD a) X i = yes) : bothO (oneD a) X yes = some (oneD a) := by
  have hl := hb (X.length - 1) (by omega)
  have f1 : firstO (oneD a) X yes = some (oneD a) := by
    unfold firstO
    split
    · rename_i hp
      obtain ⟨j, hj, -, hs⟩ := cl_last _ hp
      unfold so at hs
      rw [decide_eq_true_eq] at hs
      refine set_one ?_ (by omega)
      have : ¬ atV (oneD a) X (X.length - 1) = yes := fun e => by have := h.1 e j hj; omega
      change atV (oneD a) X (X.length - 1) = 1 - yes
      omega
    · split
      · rename_i hf
        have hf' := cl_full.1 hf
        refine set_one (h.2 fun i hi => ?_) hy
        have := hf' i hi
        unfold so at this
        rw [decide_eq_true_eq] at this
        exact this
      · rfl
  unfold bothO
  rw [f1]
  simp only
  unfold restO
  split
  · rename_i hf
    exact ev_one hy (h.1 hf)
  · rename_i hf
    rw [if_pos (by omega)]
    split
    · rename_i hz
      exfalso
      apply hf
      refine h.2 fun i hi => ?_
      have := cl_zero _ hz i hi
      unfold so at this
      simp at this
      exact this
    · split
      · rename_i hz hc
        exfalso
        obtain ⟨j, hj, hje, hs⟩ := cl_last (fun i => !so (oneD a) X yes i) (n := X.length - 1) (by omega)
        have hb' := hb j (by omega)
        unfold so at hs
        simp at hs
        rw [hje, Int.toNat_natCast] at hc
        omega
      · rfl
theorem clause_one {a X A : List Int} (hb : ∀ i, i < X.length → atV (oneD a) X i = 0 ∨ atV (oneD a) X i = 1) (h : ∃ i, i < A.length ∧ atV (oneD a) X i = (if 0 < xat A i then 1 else 0)) : clauseO (oneD a) X A = some (oneD a) := by
  rw [clause_eq, if_pos h]
theorem xor_one {a X : List Int} (hT : Tri (oneD a) X) (hX : X.length = 3) (hb : ∀ i, i < 3 → atV (oneD a) X i = 0 ∨ atV (oneD a) X i = 1)
    (h : atV (oneD a) X 2 = 1 ↔ ¬ atV (oneD a) X 0 = atV (oneD a) X 1) : xorO (oneD a) X = some (oneD a) := by
  have t0 := hb 0 (by omega)
  have t1 := hb 1 (by omega)
  have t2 := hb 2 (by omega)
  have l0 := tri_lo (hT 0 (by omega))
  have l1 := tri_lo (hT 1 (by omega))
  have l2 := tri_lo (hT 2 (by omega))
  change atV (oneD a) X 0 ≠ 2 → _ = atV (oneD a) X 0 at l0
  change atV (oneD a) X 1 ≠ 2 → _ = atV (oneD a) X 1 at l1
  change atV (oneD a) X 2 ≠ 2 → _ = atV (oneD a) X 2 at l2
  unfold xorO otherV
  rcases t0 with p | p <;> rcases t1 with q | q <;> rcases t2 with r | r <;> simp only [p, q, r] at l0 l1 l2 h <;>
    first
    | (exfalso; revert h; decide)
    | simp (config := { decide := true }) [cl, so, p, q, r, sumB, l0, l1, l2]
theorem shrink_both {D E : List (List Rg)} {X : List Int} {yes : Int} (hy : yes = 0 ∨ yes = 1) (hX : 0 < X.length) (hs : LeD D D) (hI : InD D X) (hT : Tri D X) (h : bothO D X yes = some E) : LeD E D := by
  unfold bothO at h
  cases h1 : firstO D X yes with
  | none => rw [h1] at h; cases h
  | some E1 =>
    rw [h1] at h
    have hle := le_first_shrink hy hX hs hI hT h1
    obtain ⟨g1, g2⟩ := tri_first hy hX hI hT h1
    exact (shrink_rest hy hX hle.self g2 g1 h).trans hle
theorem shrink_xor {D E : List (List Rg)} {X : List Int} (hX : X.length = 3) (hs : LeD D D) (hI : InD D X) (hT : Tri D X) (h : xorO D X = some E) : LeD E D := by
  have t0 := tri_lv (hT 0 (by omega))
  have t1 := tri_lv (hT 1 (by omega))
  have t2 := tri_lv (hT 2 (by omega))
  have l0 := tri_lo (hT 0 (by omega))
  have l1 := tri_lo (hT 1 (by omega))
  have l2 := tri_lo (hT 2 (by omega))
  have key : ∀ j, j < 3 → ∀ v, (v = 0 ∨ v = 1) → setO D (xat X j) v = some E → LeD E D := fun j hj v hv h => shrink_set hs (hI j (by omega)) hv (hT j (by omega)) h
  have same : some D = some E → LeD E D := fun h => by injection h with h; subst h; exact hs
  revert h
  unfold xorO otherV
  rcases t0 with a | a | a <;> rcases t1 with b | b | b <;> rcases t2 with c | c | c <;>
    rw [a] at l0 <;> rw [b] at l1 <;> rw [c] at l2 <;>
    simp (config := { decide := true }) only [not_true_eq_false, not_false_eq_true, true_implies, false_implies] at l0 l1 l2 <;>
    simp (config := { decide := true }) only [cl, so, atV, a, b, c, sumB, l0, l1, l2, if_true, if_false, decide_true, decide_false] <;>
    intro h <;>
    first
    | exact same h
    | exact key 0 (by omega) _ (by decide) h
    | exact key 1 (by omega) _ (by decide) h
    | exact key 2 (by omega) _ (by decide) h
    | cases h
theorem logic_kept {c : Con} {D : List (List Rg)} (hK : 11 ≤ c.1 ∧ c.1 ≤ 14) (hm : modB (D, [c], 0, 0) = true) :
    KeptP (fun a => askdB c a && holdsB c (valsOf c.2.1 a)) D (logicL c D).1 (logicL c D).2 := by
  obtain ⟨g1, g2, g3⟩ := one_facts hm
  have hF := full_dom g2
  obtain ⟨m1, m2, m3⟩ := may_len g3
  obtain ⟨-, -, hI, -⟩ := may_facts g3
  have tD : Tri D c.2.1 := by
    have hc : c.1 = 11 ∨ c.1 = 12 ∨ c.1 = 13 ∨ c.1 = 14 := by omega
    refine may_tri g3 g2 ?_
    rcases hc with h | h | h | h <;> rw [h] <;> rfl
  have hP : Pos D := fun r hr => (hF r hr).2
  have hself : LeD D D := le_refl_of (fun x h0 h1 => g2 _ (row_mem ⟨h0, h1⟩))
  refine kept_of (fun a ha => ?_) (fun a ha hh => ?_) ?_
  · obtain ⟨o1, o2⟩ := one_le hF ha
    exact order_logic hK hm (mod_sub o1 o2 hm) o1
  · obtain ⟨o1, o2⟩ := one_le hF ha
    have hmS := mod_sub o1 o2 hm
    obtain ⟨s1, s2, s3⟩ := one_facts hmS
    rw [Bool.and_eq_true] at hh
    have hh2 := hh.2
    have tS : Tri (oneD a) c.2.1 := by
      have hc : c.1 = 11 ∨ c.1 = 12 ∨ c.1 = 13 ∨ c.1 = 14 := by omega
      refine may_tri s3 s2 ?_
      rcases hc with h | h | h | h <;> rw [h] <;> rfl
    have hrow : ∀ i, i < c.2.1.length → rowOf (oneD a) (xat c.2.1 i) = [(xat (valsOf c.2.1 a) i, xat (valsOf c.2.1 a) i)] := by
      intro i hi
      have hx := hI i hi
      rw [row_one ⟨hx.1, by rw [ha.1]; exact hx.2⟩]
      have he : xat (valsOf c.2.1 a) i = xat a (xat c.2.1 i).toNat := by
        conv => lhs; unfold xat
        rw [vals_get (xat_get hi)]; rfl
      rw [he]
    have hv01 : ∀ i, i < c.2.1.length → xat (valsOf c.2.1 a) i = 0 ∨ xat (valsOf c.2.1 a) i = 1 := by
      intro i hi
      have := tS i hi
      rw [hrow i hi] at this
      rcases this with h | h | h <;> simp at h <;> omega
    have hat : ∀ i, i < c.2.1.length → atV (oneD a) c.2.1 i = xat (valsOf c.2.1 a) i := fun i hi => by
      unfold atV
      rw [hrow i hi]
      exact lv_one (hv01 i hi)
    have hb : ∀ i, i < c.2.1.length → atV (oneD a) c.2.1 i = 0 ∨ atV (oneD a) c.2.1 i = 1 := fun i hi => by rw [hat i hi]; exact hv01 i hi
    have hVl : (valsOf c.2.1 a).length = c.2.1.length := by unfold valsOf; rw [List.length_map]
    rw [logic_same]
    unfold logicR
    rw [if_pos hmS]
    unfold holdsB at hh2
    have hc : c.1 = 11 ∨ c.1 = 12 ∨ c.1 = 13 ∨ c.1 = 14 := by omega
    rcases hc with h | h | h | h <;> rw [h] at hh2 ⊢ <;> simp only [show ¬ (11 : Int) ≤ 6 by decide, show ¬ (12 : Int) ≤ 6 by decide, show ¬ (13 : Int) ≤ 6 by decide, show ¬ (14 : Int) ≤ 6 by decide, if_false, if_true, Int.reduceEq] at hh2 ⊢
    · have hcl : clauseO (oneD a) c.2.1 c.2.2.1 = some (oneD a) := by
        refine clause_one hb ?_
        unfold clB at hh2
        rw [List.any_eq_true] at hh2
        obtain ⟨i, hi, hc⟩ := hh2
        rw [List.mem_range, hVl] at hi
        refine ⟨i, by rw [← (m1 h).1]; exact hi, ?_⟩
        rw [hat i hi]
        unfold clAt at hc
        simp only [Bool.or_eq_true, Bool.and_eq_true, decide_eq_true_eq] at hc
        rcases hc with ⟨h1, h2⟩ | ⟨h1, h2⟩
        · rw [h1, h2]; rfl
        · rw [h1, h2]; rfl
      rw [hcl]; rfl
    · have hX := m2 (.inl h)
      have hbo : bothO (oneD a) c.2.1 1 = some (oneD a) := by
        refine both_one (.inr rfl) hX hb ?_
        rw [hat _ (by omega)]
        rw [beq_iff_eq, decide_eq_decide] at hh2
        unfold lastV at hh2
        rw [hVl] at hh2
        rw [hh2]
        have e : (((cntI ((valsOf c.2.1 a).take (c.2.1.length - 1)) 1 : Nat) : Int) = ((c.2.1.length - 1 : Nat) : Int)) ↔ ∀ i, i < c.2.1.length - 1 → atV (oneD a) c.2.1 i = 1 := by
          have hl : ((valsOf c.2.1 a).take (c.2.1.length - 1)).length = c.2.1.length - 1 := by rw [List.length_take]; omega
          have : ((cntI ((valsOf c.2.1 a).take (c.2.1.length - 1)) 1 : Nat) : Int) = ((c.2.1.length - 1 : Nat) : Int) ↔ cntI ((valsOf c.2.1 a).take (c.2.1.length - 1)) 1 = ((valsOf c.2.1 a).take (c.2.1.length - 1)).length := by rw [hl]; omega
          rw [this, cnt_all]
          constructor
          · intro hq i hi
            rw [hat i (by omega)]
            exact hq _ ((mem_take_at (by omega)).2 ⟨i, hi, rfl⟩)
          · intro hq y hy
            obtain ⟨i, hi, rfl⟩ := (mem_take_at (by omega)).1 hy
            rw [← hat i (by omega)]
            exact hq i hi
        exact e
      rw [hbo]; rfl
    · have hX := m2 (.inr h)
      have hbo : bothO (oneD a) c.2.1 0 = some (oneD a) := by
        refine both_one (.inl rfl) hX hb ?_
        rw [hat _ (by omega)]
        rw [beq_iff_eq, decide_eq_decide] at hh2
        unfold lastV at hh2
        rw [hVl] at hh2
        have h01 := hv01 (c.2.1.length - 1) (by omega)
        have e : (0 < ((cntI ((valsOf c.2.1 a).take (c.2.1.length - 1)) 1 : Nat) : Int)) ↔ ∃ i, i < c.2.1.length - 1 ∧ xat (valsOf c.2.1 a) i = 1 := by
          have : (0 < ((cntI ((valsOf c.2.1 a).take (c.2.1.length - 1)) 1 : Nat) : Int)) ↔ 0 < cntI ((valsOf c.2.1 a).take (c.2.1.length - 1)) 1 := by omega
          rw [this, cnt_pos, mem_take_at (by omega)]
        rw [e] at hh2
        constructor
        · intro h0 i hi
          rw [hat i (by omega)]
          rcases hv01 i (by omega) with h1 | h1
          · exact h1
          · have := hh2.2 ⟨i, hi, h1⟩; omega
        · intro hq
          rcases h01 with h1 | h1
          · exact h1
          · obtain ⟨i, hi, h2⟩ := hh2.1 h1
            have := hq i hi
            rw [hat i (by omega)] at this
            omega
      rw [hbo]; rfl
    · have hX := m3 h
      have hxo : xorO (oneD a) c.2.1 = some (oneD a) := by
        refine xor_one tS hX (fun i hi => hb i (by omega)) ?_
        rw [hat 0 (by omega), hat 1 (by omega), hat 2 (by omega)]
        rw [beq_iff_eq] at hh2
        by_cases e1 : xat (valsOf c.2.1 a) 2 = 1 <;> by_cases e2 : xat (valsOf c.2.1 a) 0 = xat (valsOf c.2.1 a) 1 <;> simp [e1, e2] at hh2 ⊢
      rw [hxo]; rfl
  · rw [logic_same]
    unfold logicR
    rw [if_pos hm]
    have hfin : ∀ o : Option (List (List Rg)), (∀ E, o = some E → LeD E D ∧ Pos E) → finO o = ([], 12) ∨ ∃ E, finO o = (E, 0) ∧ LeD E D ∧ ∀ r ∈ E, 0 < r.length := by
      intro o ho
      cases o with
      | none => exact .inl rfl
      | some E => exact .inr ⟨E, rfl, (ho E rfl).1, (ho E rfl).2⟩
    have hc : c.1 = 11 ∨ c.1 = 12 ∨ c.1 = 13 ∨ c.1 = 14 := by omega
    rcases hc with h | h | h | h <;> rw [h] <;> simp only [if_false, if_true, Int.reduceEq]
    · refine hfin _ fun E hE => ⟨shrink_clause hself hI tD (fun i hi => ?_) (m1 h).1.symm hE, pos_clause hP hE⟩
      exact (m1 h).2 _ (List.mem_of_getElem? (xat_get hi))
    · exact hfin _ fun E hE => ⟨shrink_both (.inr rfl) (m2 (.inl h)) hself hI tD hE, pos_both hP hE⟩
    · exact hfin _ fun E hE => ⟨shrink_both (.inl rfl) (m2 (.inr h)) hself hI tD hE, pos_both hP hE⟩
    · exact hfin _ fun E hE => ⟨shrink_xor (m3 h) hself hI tD hE, pos_xor hP hE⟩
end Go.Proofs.Ytclpkkbamgmooaa
