/- Plain laws of constraints on truth values, continued: smaller domains lead to smaller ones. -/
import Derived.Test.YtbhigfllanblpaaPlLogic
namespace Go.Proofs.Ytbhigfllanblpaa
open Av
set_option linter.unusedSimpArgs false
set_option linter.unusedVariables false
theorem mem_one (v u : Int) : Mem [(v, v)] u ↔ u = v := by
  rw [mem_cons]
  constructor
  · rintro (⟨h1, h2⟩ | h)
    · simp only at h1 h2; omega
    · exact absurd h (mem_nil u)
  · rintro rfl; exact .inl ⟨Int.le_refl _, Int.le_refl _⟩
theorem right_one {v : Int} (hv : v = 0 ∨ v = 1) : rightB [(v, v)] = true := by rcases hv with rfl | rfl <;> decide
theorem sub_one {r : List Rg} (h : tri r) {v : Int} (hv : v = 0 ∨ v = 1) (hl : lv r = 2 ∨ lv r = v) : Sub [(v, v)] r := by
  have ht : rightB r = true := by rcases h with rfl | rfl | rfl <;> decide
  refine ⟨right_one hv, ht, fun u hu => ?_⟩
  rw [mem_one] at hu
  subst hu
  have hh := tri_has h hv
  have : rhasB r u = true := by
    rw [hh, Bool.or_eq_true, decide_eq_true_eq, decide_eq_true_eq]
    exact hl
  exact (rhas_iff.1 this).2
theorem set_le {s d : List (List Rg)} {x v : Int} (hle : LeD s d) (hx : 0 ≤ x ∧ x < d.length) (hv : v = 0 ∨ v = 1) (ht : tri (rowOf d x)) (hl : lv (rowOf d x) = 2 ∨ lv (rowOf d x) = v) : LeD (s.set x.toNat [(v, v)]) d := by
  refine ⟨by rw [List.length_set]; exact hle.1, fun y h0 h1 => ?_⟩
  rw [row_set hx.1 (by rw [hle.1]; exact hx.2) h0]
  split
  · rename_i h; subst h; exact sub_one ht hv hl
  · exact hle.2 y h0 h1
theorem shrink_set {s E : List (List Rg)} {x v : Int} (hs : LeD s s) (hx : 0 ≤ x ∧ x < s.length) (hv : v = 0 ∨ v = 1) (ht : tri (rowOf s x)) (h : setO s x v = some E) : LeD E s := by
  unfold setO at h
  split at h
  · rename_i h2; injection h with h; subst h; exact set_le hs hx hv ht (.inl h2)
  · split at h
    · injection h with h; subst h; exact hs
    · cases h
/-! the places of smaller domains -/
section
variable {s d : List (List Rg)} {X : List Int}
theorem cg_char {A : List Int} : ∀ n : Nat, (cg d X A n = none ↔ ∃ i, i < n ∧ atV d X i = (if 0 < xat A i then 1 else 0)) ∧ ∀ p, cg d X A n = some p → p = cl (so d X 2) n
  | 0 => ⟨by simp [cg], fun p h => by simp [cg] at h; exact h.symm⟩
  | n + 1 => by
    obtain ⟨h1, h2⟩ := cg_char (A := A) n
    have hu : cg d X A (n + 1) = match cg d X A n with
      | none => none
      | some s => if atV d X n = (if 0 < xat A n then 1 else 0) then none else if atV d X n = 2 then some (s.1 + 1, (n : Int)) else some s := by
      conv => lhs; unfold cg
      cases cg d X A n <;> rfl
    rw [hu]
    cases hc : cg d X A n with
    | none =>
      obtain ⟨i, hi, hv⟩ := h1.1 hc
      exact ⟨⟨fun _ => ⟨i, by omega, hv⟩, fun _ => rfl⟩, fun p h => by cases h⟩
    | some q =>
      have hq := h2 q hc
      have hno : ¬ ∃ i, i < n ∧ atV d X i = (if 0 < xat A i then 1 else 0) := fun h => by rw [h1.2 h] at hc; cases hc
      simp only
      by_cases g : atV d X n = (if 0 < xat A n then 1 else 0)
      · rw [if_pos g]
        exact ⟨⟨fun _ => ⟨n, by omega, g⟩, fun _ => rfl⟩, fun p h => by cases h⟩
      · rw [if_neg g]
        refine ⟨⟨fun h => ?_, ?_⟩, fun p h => ?_⟩
        · split at h <;> cases h
        · rintro ⟨i, hi, hv⟩
          rcases Nat.lt_succ_iff_lt_or_eq.1 hi with h' | rfl
          · exact absurd ⟨i, h', hv⟩ hno
          · exact absurd hv g
        · unfold cl
          by_cases g2 : atV d X n = 2
          · rw [if_pos g2] at h
            injection h with h
            rw [if_pos (by simp [so, g2]), ← hq, ← h]
          · rw [if_neg g2] at h
            injection h with h
            rw [if_neg (by simp [so, g2]), ← hq, ← h]
theorem clause_eq {A : List Int} : clauseO d X A = if ∃ i, i < A.length ∧ atV d X i = (if 0 < xat A i then 1 else 0) then some d else if (cl (so d X 2) A.length).1 = 0 then none else if (cl (so d X 2) A.length).1 = 1 then setO d (xat X (cl (so d X 2) A.length).2.toNat) (max (xat A (cl (so d X 2) A.length).2.toNat) 0) else some d := by
  obtain ⟨h1, h2⟩ := cg_char (d := d) (X := X) (A := A) A.length
  unfold clauseO
  cases hc : cg d X A A.length with
  | none => rw [if_pos (h1.1 hc)]
  | some q =>
    rw [if_neg (fun h => by rw [h1.2 h] at hc; cases hc), ← h2 q hc]
theorem shrink_clause {A E : _} (hs : LeD s s) (hI : InD s X) (hT : Tri s X) (hA : ∀ i, i < A.length → xat A i = 1 ∨ xat A i = -1) (hl : A.length = X.length) (h : clauseO s X A = some E) : LeD E s := by
  rw [clause_eq] at h
  split at h
  · injection h with h; subst h; exact hs
  · split at h
    · cases h
    · split at h
      · rename_i h3 h4 h5
        obtain ⟨j, hj, hjl, -⟩ := cl_last (so s X 2) (n := A.length) (by omega)
        rw [hjl, Int.toNat_natCast] at h
        refine shrink_set hs (hI j (by omega)) ?_ (hT j (by omega)) h
        rcases hA j hj with h | h <;> rw [h] <;> decide
      · injection h with h; subst h; exact hs
end
section
variable {s d : List (List Rg)} {X : List Int}
theorem cl_pos {p : Nat → Bool} {n j : Nat} (hj : j < n) (hp : p j = true) : 0 < (cl p n).1 := by
  have hb := cl_bounds p n
  by_cases h : (cl p n).1 = 0
  · rw [cl_zero p h j hj] at hp; cases hp
  · omega
end
end Go.Proofs.Ytbhigfllanblpaa
