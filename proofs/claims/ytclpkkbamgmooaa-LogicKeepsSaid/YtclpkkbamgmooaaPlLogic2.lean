/- Plain laws of constraints on truth values, continued: smaller domains lead to smaller ones. -/
import Derived.Test.YtclpkkbamgmooaaPlLogic
namespace Go.Proofs.Ytclpkkbamgmooaa
open Av
set_option linter.unusedSimpArgs false
set_option linter.unusedVariables false
theorem mem_one (v u : Int) : Mem [(v, v)] u ↔ u = v := by
  rw [mem_cons]
  constructor
  · rintro (⟨h1, h2⟩ | h)
    · simp only at h1 h2; omega
    · exact absurd h (mem_nil u)
  · rintro rfl; exact .inl ⟨Int.le_refl _, Int.le_refl _⟩
theorem lv_le {r r' : List Rg} (h : tri r) (h' : tri r') (hs : Sub r r') : lv r = lv r' ∨ lv r' = 2 := by
  have k := hs.2.2
  have m0 : ∀ v : Int, v = 0 → Mem [((0 : Int), (1 : Int))] v := fun v hv => ⟨(0, 1), by simp, by simp only; omega, by simp only; omega⟩
  have m1 : ∀ v : Int, v = 1 → Mem [((0 : Int), (1 : Int))] v := fun v hv => ⟨(0, 1), by simp, by simp only; omega, by simp only; omega⟩
  rcases h with rfl | rfl | rfl <;> rcases h' with rfl | rfl | rfl
  · exact .inl rfl
  · exact absurd ((mem_one 1 0).1 (k 0 ((mem_one 0 0).2 rfl))) (by decide)
  · exact .inr rfl
  · exact absurd ((mem_one 0 1).1 (k 1 ((mem_one 1 1).2 rfl))) (by decide)
  · exact .inl rfl
  · exact .inr rfl
  · exact absurd ((mem_one 0 1).1 (k 1 (m1 1 rfl))) (by decide)
  · exact absurd ((mem_one 1 0).1 (k 0 (m0 0 rfl))) (by decide)
  · exact .inr rfl
theorem right_one {v : Int} (hv : v = 0 ∨ v = 1) : rightB [(v, v)] = true := by rcases hv with rfl | rfl <;> decide
theorem sub_one {r : List Rg} (h : tri r) {v : Int} (hv : v = 0 ∨ v = 1) (hl : lv r = 2 ∨ lv r = v) : Sub [(v, v)] r := by
  have ht : rightB r = true := by rcases h with rfl | rfl | rfl <;> decide
  refine ⟨right_one hv, ht, fun u hu => ?_⟩
  rw [mem_one] at hu
  subst hu
  have hh := tri_has h hv
  have : rhasB r u = true := by
    rw [hh, Bool.or_eq_true, decide_eq_true_eq, decide_eq_true_eq]
    exact hl
  exact (rhas_iff.1 this).2
theorem le_set {s d : List (List Rg)} {x v : Int} (hle : LeD s d) (hx : 0 ≤ x ∧ x < d.length) (hv : v = 0 ∨ v = 1) (hr : rowOf s x = [(v, v)]) : LeD s (d.set x.toNat [(v, v)]) := by
  refine ⟨by rw [List.length_set]; exact hle.1, fun y h0 h1 => ?_⟩
  rw [List.length_set] at h1
  rw [row_set hx.1 hx.2 h0]
  split
  · rename_i h; subst h; rw [hr]; exact ⟨right_one hv, right_one hv, fun v hv => hv⟩
  · exact hle.2 y h0 h1
theorem set_le {s d : List (List Rg)} {x v : Int} (hle : LeD s d) (hx : 0 ≤ x ∧ x < d.length) (hv : v = 0 ∨ v = 1) (ht : tri (rowOf d x)) (hl : lv (rowOf d x) = 2 ∨ lv (rowOf d x) = v) : LeD (s.set x.toNat [(v, v)]) d := by
  refine ⟨by rw [List.length_set]; exact hle.1, fun y h0 h1 => ?_⟩
  rw [row_set hx.1 (by rw [hle.1]; exact hx.2) h0]
  split
  · rename_i h; subst h; exact sub_one ht hv hl
  · exact hle.2 y h0 h1
theorem shrink_set {s E : List (List Rg)} {x v : Int} (hs : LeD s s) (hx : 0 ≤ x ∧ x < s.length) (hv : v = 0 ∨ v = 1) (ht : tri (rowOf s x)) (h : setO s x v = some E) : LeD E s := by
  unfold setO at h
  split at h
  · rename_i h2; injection h with h; subst h; exact set_le hs hx hv ht (.inl h2)
  · split at h
    · injection h with h; subst h; exact hs
    · cases h
/-- what is told of smaller domains -/
def Mono (o' o : Option (List (List Rg))) : Prop := ∀ E', o' = some E' → ∃ E, o = some E ∧ LeD E' E
theorem mono_same {s d : List (List Rg)} {o' : Option (List (List Rg))} (h : ∀ E', o' = some E' → LeD E' s) (hle : LeD s d) : Mono o' (some d) := fun E' h' => ⟨d, rfl, (h E' h').trans hle⟩
theorem mono_set {s d : List (List Rg)} {x v : Int} (hle : LeD s d) (hx : 0 ≤ x ∧ x < d.length) (hv : v = 0 ∨ v = 1) (hs : tri (rowOf s x)) (hd : tri (rowOf d x)) : Mono (setO s x v) (setO d x v) := by
  have hxs : 0 ≤ x ∧ x < s.length := by rw [hle.1]; exact hx
  have hl := lv_le hs hd (hle.2 x hx.1 hx.2)
  intro E' h
  unfold setO at h ⊢
  by_cases h2 : lv (rowOf d x) = 2
  · rw [if_pos h2]
    refine ⟨_, rfl, ?_⟩
    split at h
    · injection h with h
      subst h
      refine le_set (set_le hle hx hv hd (.inl h2)) hx hv ?_
      rw [row_set hxs.1 hxs.2 hx.1, if_pos rfl]
    · split at h
      · rename_i h3 h4
        injection h with h; subst h
        exact le_set hle hx hv (tri_row hs hv h4)
      · cases h
  · rw [if_neg h2]
    have hq : lv (rowOf s x) = lv (rowOf d x) := hl.resolve_right h2
    rw [hq, if_neg h2] at h
    split at h
    · rename_i h4
      injection h with h; subst h
      rw [if_pos h4]
      exact ⟨d, rfl, hle⟩
    · cases h
/-! the places of smaller domains -/
section
variable {s d : List (List Rg)} {X : List Int}
theorem at_le (hle : LeD s d) (hI : InD d X) (hs : Tri s X) (hd : Tri d X) {i : Nat} (hi : i < X.length) : atV s X i = atV d X i ∨ atV d X i = 2 := lv_le (hs i hi) (hd i hi) (hle.2 _ (hI i hi).1 (hI i hi).2)
theorem in_le (hle : LeD s d) (hI : InD d X) : InD s X := fun i hi => by rw [hle.1]; exact hI i hi
theorem cg_char {A : List Int} : ∀ n : Nat, (cg d X A n = none ↔ ∃ i, i < n ∧ atV d X i = (if 0 < xat A i then 1 else 0)) ∧ ∀ p, cg d X A n = some p → p = cl (so d X 2) n
  | 0 => ⟨by simp [cg], fun p h => by simp [cg] at h; exact h.symm⟩
  | n + 1 => by
    obtain ⟨h1, h2⟩ := cg_char (A := A) n
    have hu : cg d X A (n + 1) = match cg d X A n with
      | none => none
      | some s => if atV d X n = (if 0 < xat A n then 1 else 0) then none else if atV d X n = 2 then some (s.1 + 1, (n : Int)) else some s := by
      conv => lhs; unfold cg
      cases cg d X A n <;> rfl
    rw [hu]
    cases hc : cg d X A n with
    | none =>
      obtain ⟨i, hi, hv⟩ := h1.1 hc
      exact ⟨⟨fun _ => ⟨i, by omega, hv⟩, fun _ => rfl⟩, fun p h => by cases h⟩
    | some q =>
      have hq := h2 q hc
      have hno : ¬ ∃ i, i < n ∧ atV d X i = (if 0 < xat A i then 1 else 0) := fun h => by rw [h1.2 h] at hc; cases hc
      simp only
      by_cases g : atV d X n = (if 0 < xat A n then 1 else 0)
      · rw [if_pos g]
        exact ⟨⟨fun _ => ⟨n, by omega, g⟩, fun _ => rfl⟩, fun p h => by cases h⟩
      · rw [if_neg g]
        refine ⟨⟨fun h => ?_, ?_⟩, fun p h => ?_⟩
        · split at h <;> cases h
        · rintro ⟨i, hi, hv⟩
          rcases Nat.lt_succ_iff_lt_or_eq.1 hi with h' | rfl
          · exact absurd ⟨i, h', hv⟩ hno
          · exact absurd hv g
        · unfold cl
          by_cases g2 : atV d X n = 2
          · rw [if_pos g2] at h
            injection h with h
            rw [if_pos (by simp [so, g2]), ← hq, ← h]
          · rw [if_neg g2] at h
            injection h with h
            rw [if_neg (by simp [so, g2]), ← hq, ← h]
theorem clause_eq {A : List Int} : clauseO d X A = if ∃ i, i < A.length ∧ atV d X i = (if 0 < xat A i then 1 else 0) then some d else if (cl (so d X 2) A.length).1 = 0 then none else if (cl (so d X 2) A.length).1 = 1 then setO d (xat X (cl (so d X 2) A.length).2.toNat) (max (xat A (cl (so d X 2) A.length).2.toNat) 0) else some d := by
  obtain ⟨h1, h2⟩ := cg_char (d := d) (X := X) (A := A) A.length
  unfold clauseO
  cases hc : cg d X A A.length with
  | none => rw [if_pos (h1.1 hc)]
  | some q =>
    rw [if_neg (fun h => by rw [h1.2 h] at hc; cases hc), ← h2 q hc]
theorem shrink_clause {A E : _} (hs : LeD s s) (hI : InD s X) (hT : Tri s X) (hA : ∀ i, i < A.length → xat A i = 1 ∨ xat A i = -1) (hl : A.length = X.length) (h : clauseO s X A = some E) : LeD E s := by
  rw [clause_eq] at h
  split at h
  · injection h with h; subst h; exact hs
  · split at h
    · cases h
    · split at h
      · rename_i h3 h4 h5
        obtain ⟨j, hj, hjl, -⟩ := cl_last (so s X 2) (n := A.length) (by omega)
        rw [hjl, Int.toNat_natCast] at h
        refine shrink_set hs (hI j (by omega)) ?_ (hT j (by omega)) h
        rcases hA j hj with h | h <;> rw [h] <;> decide
      · injection h with h; subst h; exact hs
theorem mono_clause {A : List Int} (hle : LeD s d) (hI : InD d X) (hs : Tri s X) (hd : Tri d X) (hA : ∀ i, i < A.length → xat A i = 1 ∨ xat A i = -1) (hl : A.length = X.length) : Mono (clauseO s X A) (clauseO d X A) := by
  have hIs := in_le hle hI
  have shr : ∀ E', clauseO s X A = some E' → LeD E' s := fun E' h => shrink_clause hle.self hIs hs hA hl h
  have hat : ∀ i, i < A.length → atV s X i = atV d X i ∨ atV d X i = 2 := fun i hi => at_le hle hI hs hd (by omega)
  intro E' h
  rw [clause_eq (d := d)]
  by_cases g1 : ∃ i, i < A.length ∧ atV d X i = (if 0 < xat A i then 1 else 0)
  · rw [if_pos g1]; exact mono_same shr hle E' h
  rw [if_neg g1]
  by_cases g2 : (cl (so d X 2) A.length).1 = 0
  · exfalso
    have hz := cl_zero _ g2
    have hsame : ∀ i, i < A.length → atV s X i = atV d X i := fun i hi => (hat i hi).resolve_right (by simpa [so] using hz i hi)
    rw [clause_eq, if_neg, cl_congr (q := so d X 2) (fun i hi => by simp only [so, hsame i hi]), if_pos g2] at h
    · cases h
    · rintro ⟨i, hi, hv⟩; rw [hsame i hi] at hv; exact g1 ⟨i, hi, hv⟩
  rw [if_neg g2]
  by_cases g3 : (cl (so d X 2) A.length).1 = 1
  · rw [if_pos g3]
    obtain ⟨j, hj, hjl, hp⟩ := cl_last (so d X 2) (n := A.length) (by omega)
    have hu := cl_one _ g3
    rw [hjl, Int.toNat_natCast]
    have hv : max (xat A j) 0 = 0 ∨ max (xat A j) 0 = 1 := by rcases hA j hj with h | h <;> rw [h] <;> decide
    have hv2 : max (xat A j) 0 = if 0 < xat A j then 1 else 0 := by rcases hA j hj with h | h <;> rw [h] <;> decide
    have hdj : atV d X j = 2 := by simpa [so] using hp
    have hother : ∀ i, i < A.length → i ≠ j → atV s X i = atV d X i := fun i hi hne => (hat i hi).resolve_right fun h2 => hne (hu i j hi hj (by simp [so, h2]) hp)
    have hdset : setO d (xat X j) (max (xat A j) 0) = some (d.set (xat X j).toNat [(max (xat A j) 0, max (xat A j) 0)]) := by unfold setO; exact if_pos hdj
    by_cases k1 : atV s X j = 2
    · have hno : ¬ ∃ i, i < A.length ∧ atV s X i = (if 0 < xat A i then 1 else 0) := by
        rintro ⟨i, hi, hvi⟩
        by_cases hij : i = j
        · subst hij; rw [k1] at hvi; split at hvi <;> omega
        · rw [hother i hi hij] at hvi; exact g1 ⟨i, hi, hvi⟩
      have hcs : cl (so s X 2) A.length = (1, (j : Int)) := cl_single _ hj (by simp [so, k1]) fun i hi hsi => by
        by_cases hij : i = j
        · exact hij
        · exfalso
          simp only [so, hother i hi hij, decide_eq_true_eq] at hsi
          exact hij (hu i j hi hj (by simp [so, hsi]) hp)
      rw [clause_eq, if_neg hno, hcs] at h
      simp only [Int.toNat_natCast, if_neg (show ¬ (1 : Int) = 0 by decide), if_true] at h
      exact mono_set hle (hI j (by omega)) hv (hs j (by omega)) (hd j (by omega)) E' h
    · by_cases k2 : atV s X j = (if 0 < xat A j then 1 else 0)
      · rw [clause_eq, if_pos ⟨j, hj, k2⟩] at h
        injection h with h; subst h
        refine ⟨_, hdset, le_set hle (hI j (by omega)) hv (tri_row (hs j (by omega)) hv (by rw [hv2]; exact k2))⟩
      · exfalso
        have hno : ¬ ∃ i, i < A.length ∧ atV s X i = (if 0 < xat A i then 1 else 0) := by
          rintro ⟨i, hi, hvi⟩
          by_cases hij : i = j
          · subst hij; exact k2 hvi
          · rw [hother i hi hij] at hvi; exact g1 ⟨i, hi, hvi⟩
        have hcs : cl (so s X 2) A.length = (0, 0) := cl_none _ fun i hi => by
          by_cases hij : i = j
          · subst hij; simp [so, k1]
          · simp only [so, hother i hi hij, decide_eq_false_iff_not]
            intro h2
            exact hij (hu i j hi hj (by simp [so, h2]) hp)
        rw [clause_eq, if_neg hno, hcs] at h
        simp at h
  · rw [if_neg g3]; exact mono_same shr hle E' h
end
section
variable {s d : List (List Rg)} {X : List Int}
theorem le_first_shrink {yes : Int} {E : _} (hy : yes = 0 ∨ yes = 1) (hX : 0 < X.length) (hs : LeD s s) (hI : InD s X) (hT : Tri s X) (h : firstO s X yes = some E) : LeD E s := by
  have hy2 : 1 - yes = 0 ∨ 1 - yes = 1 := by omega
  unfold firstO at h
  split at h
  · exact shrink_set hs (hI _ (by omega)) hy2 (hT _ (by omega)) h
  · split at h
    · exact shrink_set hs (hI _ (by omega)) hy (hT _ (by omega)) h
    · injection h with h; subst h; exact hs
theorem cl_pos {p : Nat → Bool} {n j : Nat} (hj : j < n) (hp : p j = true) : 0 < (cl p n).1 := by
  have hb := cl_bounds p n
  by_cases h : (cl p n).1 = 0
  · rw [cl_zero p h j hj] at hp; cases hp
  · omega
theorem cl_full {p : Nat → Bool} {n : Nat} : (cl p n).1 = (n : Int) ↔ ∀ i, i < n → p i = true := by
  have hc := cl_compl p n
  constructor
  · intro h i hi
    have := cl_zero (fun i => !p i) (n := n) (by omega) i hi
    simpa using this
  · intro h
    have := cl_none (fun i => !p i) (n := n) (fun i hi => by simp [h i hi])
    rw [this] at hc
    simpa using hc
theorem mono_first {yes : Int} (hy : yes = 0 ∨ yes = 1) (hX : 0 < X.length) (hle : LeD s d) (hI : InD d X) (hs : Tri s X) (hd : Tri d X) : Mono (firstO s X yes) (firstO d X yes) := by
  have hy2 : 1 - yes = 0 ∨ 1 - yes = 1 := by omega
  have hIs := in_le hle hI
  have hat : ∀ i, i < X.length → atV s X i = atV d X i ∨ atV d X i = 2 := fun i hi => at_le hle hI hs hd hi
  have hl : X.length - 1 < X.length := by omega
  intro E' h
  by_cases g1 : 0 < (cl (so d X (1 - yes)) (X.length - 1)).1
  · obtain ⟨j, hj, -, hp⟩ := cl_last _ g1
    have hdj : atV d X j = 1 - yes := by simpa [so] using hp
    have hsj : atV s X j = 1 - yes := by rw [(hat j (by omega)).resolve_right (by omega)]; exact hdj
    have g1' : 0 < (cl (so s X (1 - yes)) (X.length - 1)).1 := cl_pos hj (by simp [so, hsj])
    unfold firstO at h ⊢
    rw [if_pos g1'] at h
    rw [if_pos g1]
    exact mono_set hle (hI _ hl) hy2 (hs _ hl) (hd _ hl) E' h
  · by_cases g2 : (cl (so d X yes) (X.length - 1)).1 = ((X.length - 1 : Nat) : Int)
    · have hall := cl_full.1 g2
      have hs2 : ∀ i, i < X.length - 1 → atV s X i = yes := fun i hi => by
        have : atV d X i = yes := by simpa [so] using hall i hi
        rw [(hat i (by omega)).resolve_right (by omega)]; exact this
      have g1' : ¬ 0 < (cl (so s X (1 - yes)) (X.length - 1)).1 := by
        rw [cl_none _ fun i hi => by simp only [so, hs2 i hi, decide_eq_false_iff_not]; omega]
        simp
      have g2' : (cl (so s X yes) (X.length - 1)).1 = ((X.length - 1 : Nat) : Int) := cl_full.2 fun i hi => by simp [so, hs2 i hi]
      unfold firstO at h ⊢
      rw [if_neg g1', if_pos g2'] at h
      rw [if_neg g1, if_pos g2]
      exact mono_set hle (hI _ hl) hy (hs _ hl) (hd _ hl) E' h
    · have hf : firstO d X yes = some d := by unfold firstO; rw [if_neg g1, if_neg g2]
      rw [hf]
      exact ⟨d, rfl, (le_first_shrink hy hX hle.self hIs hs h).trans hle⟩
theorem tri_ev {v : Int} (hv : v = 0 ∨ v = 1) (hI : InD d X) (hT : Tri d X) : ∀ {n : Nat} {E : _}, n ≤ X.length → evO d X v n = some E → Tri E X ∧ InD E X
  | 0, E, _, h => by unfold evO at h; injection h with h; subst h; exact ⟨hT, hI⟩
  | n + 1, E, hn, h => by
    unfold evO at h
    cases hc : evO d X v n with
    | none => rw [hc] at h; cases h
    | some F =>
      rw [hc] at h
      obtain ⟨h1, h2⟩ := tri_ev hv hI hT (n := n) (by omega) hc
      exact tri_set hv (by omega) h2 h1 h
theorem mono_ev {v : Int} (hv : v = 0 ∨ v = 1) (hle : LeD s d) (hI : InD d X) (hs : Tri s X) (hd : Tri d X) : ∀ {n : Nat}, n ≤ X.length → Mono (evO s X v n) (evO d X v n)
  | 0, _ => fun E' h => by unfold evO at h; injection h with h; subst h; exact ⟨d, rfl, hle⟩
  | n + 1, hn => fun E' h => by
    unfold evO at h ⊢
    cases hc : evO s X v n with
    | none => rw [hc] at h; cases h
    | some F' =>
      rw [hc] at h
      obtain ⟨F, hF, hFF⟩ := mono_ev hv hle hI hs hd (n := n) (by omega) F' hc
      rw [hF]
      obtain ⟨h1, h2⟩ := tri_ev hv hI hd (n := n) (by omega) hF
      obtain ⟨h3, h4⟩ := tri_ev hv (in_le hle hI) hs (n := n) (by omega) hc
      exact mono_set hFF (h2 n (by omega)) hv (h3 n (by omega)) (h1 n (by omega)) E' h
theorem shrink_ev {v : Int} (hv : v = 0 ∨ v = 1) (hs : LeD s s) (hI : InD s X) (hT : Tri s X) : ∀ {n : Nat} {E : _}, n ≤ X.length → evO s X v n = some E → LeD E s
  | 0, E, _, h => by unfold evO at h; injection h with h; subst h; exact hs
  | n + 1, E, hn, h => by
    unfold evO at h
    cases hc : evO s X v n with
    | none => rw [hc] at h; cases h
    | some F =>
      rw [hc] at h
      have h1 := shrink_ev hv hs hI hT (n := n) (by omega) hc
      obtain ⟨h3, h4⟩ := tri_ev hv hI hT (n := n) (by omega) hc
      exact (shrink_set h1.self (h4 n (by omega)) hv (h3 n (by omega)) h).trans h1
theorem shrink_rest {yes : Int} {E : _} (hy : yes = 0 ∨ yes = 1) (hX : 0 < X.length) (hs : LeD s s) (hI : InD s X) (hT : Tri s X) (h : restO s X yes = some E) : LeD E s := by
  have hy2 : 1 - yes = 0 ∨ 1 - yes = 1 := by omega
  unfold restO at h
  split at h
  · exact shrink_ev hy hs hI hT (by omega) h
  · split at h
    · split at h
      · cases h
      · split at h
        · rename_i g
          obtain ⟨j, hj, hjl, -⟩ := cl_last (fun i => !so s X yes i) (n := X.length - 1) (by have := g.1; omega)
          rw [hjl, Int.toNat_natCast] at h
          exact shrink_set hs (hI j (by omega)) hy2 (hT j (by omega)) h
        · injection h with h; subst h; exact hs
    · injection h with h; subst h; exact hs
theorem mono_rest {yes : Int} (hy : yes = 0 ∨ yes = 1) (hX : 0 < X.length) (hle : LeD s d) (hI : InD d X) (hs : Tri s X) (hd : Tri d X) : Mono (restO s X yes) (restO d X yes) := by
  have hy2 : 1 - yes = 0 ∨ 1 - yes = 1 := by omega
  have hIs := in_le hle hI
  have hat : ∀ i, i < X.length → atV s X i = atV d X i ∨ atV d X i = 2 := fun i hi => at_le hle hI hs hd hi
  have hl : X.length - 1 < X.length := by omega
  have shr : ∀ E', restO s X yes = some E' → LeD E' s := fun E' h => shrink_rest hy hX hle.self hIs hs h
  intro E' h
  by_cases g1 : atV d X (X.length - 1) = yes
  · have g1' : atV s X (X.length - 1) = yes := by rw [(hat _ hl).resolve_right (by omega)]; exact g1
    unfold restO at h ⊢
    rw [if_pos g1'] at h
    rw [if_pos g1]
    exact mono_ev hy hle hI hs hd (by omega) E' h
  by_cases g2 : atV d X (X.length - 1) = 1 - yes
  · have g2' : atV s X (X.length - 1) = 1 - yes := by rw [(hat _ hl).resolve_right (by omega)]; exact g2
    have hr : ∀ t : List (List Rg), atV t X (X.length - 1) = 1 - yes → restO t X yes = (if (cl (fun i => !so t X yes i) (X.length - 1)).1 = 0 then none else if (cl (fun i => !so t X yes i) (X.length - 1)).1 = 1 ∧ ¬ atV t X (cl (fun i => !so t X yes i) (X.length - 1)).2.toNat = 1 - yes then setO t (xat X (cl (fun i => !so t X yes i) (X.length - 1)).2.toNat) (1 - yes) else some t) := fun t ht => by
      unfold restO
      rw [if_neg (by rw [ht]; omega), if_pos ht]
    by_cases k0 : (cl (fun i => !so d X yes i) (X.length - 1)).1 = 0
    · exfalso
      have hz := cl_zero _ k0
      have : (cl (fun i => !so s X yes i) (X.length - 1)) = (0, 0) := cl_none _ fun i hi => by
        have hdi : atV d X i = yes := by simpa [so] using hz i hi
        have hsi : atV s X i = yes := by rw [(hat i (by omega)).resolve_right (by omega)]; exact hdi
        simp [so, hsi]
      rw [hr s g2', this] at h
      simp at h
    by_cases k1 : (cl (fun i => !so d X yes i) (X.length - 1)).1 = 1 ∧ ¬ atV d X (cl (fun i => !so d X yes i) (X.length - 1)).2.toNat = 1 - yes
    · obtain ⟨j, hj, hjl, hp⟩ := cl_last (fun i => !so d X yes i) (n := X.length - 1) (by have := k1.1; omega)
      have hu := cl_one _ k1.1
      have hrd := hr d g2
      rw [if_neg k0, if_pos k1, hjl, Int.toNat_natCast] at hrd
      have k2 := k1.2
      rw [hjl, Int.toNat_natCast] at k2
      have hne : ¬ atV d X j = yes := by simpa [so] using hp
      have hdj : atV d X j = 2 := by have := tri_lv (hd j (by omega)); unfold atV at *; omega
      have hdset : setO d (xat X j) (1 - yes) = some (d.set (xat X j).toNat [(1 - yes, 1 - yes)]) := by unfold setO; exact if_pos hdj
      have hoth : ∀ i, i < X.length - 1 → i ≠ j → atV s X i = yes := fun i hi hij => by
        have hdi : atV d X i = yes := by
          cases hq : so d X yes i with
          | true => simpa [so] using hq
          | false => exact absurd (hu i j hi hj (by simp [hq]) hp) hij
        rw [(hat i (by omega)).resolve_right (by omega)]; exact hdi
      have hrs := hr s g2'
      rw [hrd]
      by_cases m1 : atV s X j = yes
      · exfalso
        have : (cl (fun i => !so s X yes i) (X.length - 1)) = (0, 0) := cl_none _ fun i hi => by
          by_cases hij : i = j
          · subst hij; simp [so, m1]
          · simp [so, hoth i hi hij]
        rw [hrs, this] at h
        simp at h
      · have hcs : cl (fun i => !so s X yes i) (X.length - 1) = (1, (j : Int)) := cl_single _ hj (by simp [so, m1]) fun i hi hsi => by
          by_cases hij : i = j
          · exact hij
          · simp [so, hoth i hi hij] at hsi
        rw [hrs, hcs] at h
        simp only [Int.toNat_natCast, if_neg (show ¬ (1 : Int) = 0 by decide), true_and] at h
        by_cases m2 : atV s X j = 1 - yes
        · rw [if_neg (by simp [m2])] at h
          injection h with h; subst h
          exact ⟨_, hdset, le_set hle (hI j (by omega)) hy2 (tri_row (hs j (by omega)) hy2 m2)⟩
        · rw [if_pos m2] at h
          exact mono_set hle (hI j (by omega)) hy2 (hs j (by omega)) (hd j (by omega)) E' h
    · rw [hr d g2, if_neg k0, if_neg k1]
      exact mono_same shr hle E' h
  · have hf : restO d X yes = some d := by unfold restO; rw [if_neg g1, if_neg g2]
    rw [hf]
    exact mono_same shr hle E' h
theorem mono_both {yes : Int} (hy : yes = 0 ∨ yes = 1) (hX : 0 < X.length) (hle : LeD s d) (hI : InD d X) (hs : Tri s X) (hd : Tri d X) : Mono (bothO s X yes) (bothO d X yes) := by
  intro E' h
  unfold bothO at h ⊢
  cases hc : firstO s X yes with
  | none => rw [hc] at h; cases h
  | some F' =>
    rw [hc] at h
    obtain ⟨F, hF, hFF⟩ := mono_first hy hX hle hI hs hd F' hc
    rw [hF]
    obtain ⟨h1, h2⟩ := tri_first hy hX hI hd hF
    obtain ⟨h3, h4⟩ := tri_first hy hX (in_le hle hI) hs hc
    exact mono_rest hy hX hFF h2 h3 h1 E' h
end
end Go.Proofs.Ytclpkkbamgmooaa
