/- slices.Compact over numbers, as a function of theirs. -/
import Derived.Test.YtnhedjpghpdbdaaWCompact
import Derived.Test.YtnhedjpghpdbdaaPlTask2
namespace Go.Proofs.Ytnhedjpghpdbdaa
open Av
attribute [local irreducible] awp awpOpers
set_option linter.unusedSimpArgs false
set_option linter.unusedVariables false
set_option maxRecDepth 100000
set_option maxHeartbeats 4000000
theorem compGo_snoc : ∀ (m : List Int) (p v : Int), compGo p (m ++ [v]) = compGo p m ++ if xat (p :: m) m.length = v then [] else [v]
  | [], p, v => by
    simp only [List.nil_append, compGo]
    by_cases h : v = p
    · subst h; simp [xat]
    · rw [if_neg h, if_neg (by simp [xat]; exact fun e => h e.symm)]
      try rfl
  | y :: m, p, v => by
    have ih := compGo_snoc m
    have e : xat (p :: y :: m) (y :: m).length = xat (y :: m) m.length := by unfold xat; rw [List.length_cons, List.getElem?_cons_succ]
    rw [List.cons_append, e]
    by_cases h : y = p
    · conv => lhs; unfold compGo; rw [if_pos h]
      conv => rhs; unfold compGo; rw [if_pos h]
      rw [ih p v, h]
    · conv => lhs; unfold compGo; rw [if_neg h]
      conv => rhs; unfold compGo; rw [if_neg h]
      rw [ih y v, List.cons_append]
theorem compL_snoc {m : List Int} (h : 0 < m.length) (v : Int) : compL (m ++ [v]) = compL m ++ if xat m (m.length - 1) = v then [] else [v] := by
  cases m with
  | nil => simp at h
  | cons p m =>
    have e1 : compL (p :: m ++ [v]) = p :: compGo p (m ++ [v]) := rfl
    have e2 : compL (p :: m) = p :: compGo p m := rfl
    rw [e1, e2, compGo_snoc, List.length_cons, Nat.add_sub_cancel, List.cons_append]
theorem comp_take {l : List Int} {k : Nat} (h0 : 0 < k) (hk : k < l.length) : compL (l.take (k + 1)) = compL (l.take k) ++ if xat l (k - 1) = xat l k then [] else [xat l k] := by
  have hs := take_snoc (xat_get hk)
  have hl : (l.take k).length = k := by rw [List.length_take]; omega
  rw [← hs, compL_snoc (by omega), hl]
  congr 2
  unfold xat
  rw [List.getElem?_take, if_pos (by omega)]
theorem comp_id {l : List Int} (hno : ∀ k, ¬ adj l k) : ∀ k, k ≤ l.length → compL (l.take k) = l.take k
  | 0, _ => by simp [compL]
  | k + 1, h => by
    have ih := comp_id hno k (by omega)
    have hs := take_snoc (xat_get (X := l) (i := k) (by omega))
    rcases Nat.eq_zero_or_pos k with rfl | h0
    · rw [← hs]; simp [compL, compGo]
    · rw [comp_take h0 (by omega), ih, if_neg (fun e => hno k ⟨h0, by omega, e.symm⟩), hs]
theorem comp_up {l : List Int} {k0 : Nat} (hno : ∀ j, j < k0 → ¬ adj l j) : ∀ k, k ≤ k0 → k ≤ l.length → compL (l.take k) = l.take k
  | 0, _, _ => by simp [compL]
  | k + 1, h, hl => by
    have ih := comp_up hno k (by omega) (by omega)
    have hs := take_snoc (xat_get (X := l) (i := k) (by omega))
    rcases Nat.eq_zero_or_pos k with rfl | h0
    · rw [← hs]; simp [compL, compGo]
    · rw [comp_take h0 (by omega), ih, if_neg (fun e => hno k (by omega) ⟨h0, by omega, e.symm⟩), hs]
theorem cpS_inv {l : List Int} {k0 : Nat} (ha : adj l k0) (hno : ∀ j, j < k0 → ¬ adj l j) : ∀ i, k0 + i + 1 ≤ l.length → (cpS l k0 i).2.take (cpS l k0 i).1 = compL (l.take (k0 + i + 1)) ∧ ∀ j, k0 + i ≤ j → (cpS l k0 i).2[j]? = l[j]?
  | 0, h => by
    obtain ⟨a1, a2, a3⟩ := ha
    refine ⟨?_, fun _ _ => rfl⟩
    show l.take k0 = _
    rw [Nat.add_zero, comp_take a1 a2, if_pos a3.symm, List.append_nil, comp_up hno k0 (Nat.le_refl _) (by omega)]
  | i + 1, h => by
    obtain ⟨h1, h2⟩ := cpS_inv ha hno i (by omega)
    have hk := cpS_k l k0 i
    have hL := cpS_len l k0 i
    have e1 : xat (cpS l k0 i).2 (k0 + (i + 1)) = xat l (k0 + (i + 1)) := by unfold xat; rw [h2 _ (by omega)]
    have e0 : xat (cpS l k0 i).2 (k0 + i) = xat l (k0 + i) := by unfold xat; rw [h2 _ (by omega)]
    have hc := comp_take (l := l) (k := k0 + i + 1) (by omega) (by omega)
    rw [show k0 + i + 1 - 1 = k0 + i by omega] at hc
    rw [show k0 + (i + 1) + 1 = k0 + i + 1 + 1 by omega, hc, ← h1]
    have hst : cpS l k0 (i + 1) = if xat (cpS l k0 i).2 (k0 + (i + 1)) = xat (cpS l k0 i).2 (k0 + i) then cpS l k0 i else ((cpS l k0 i).1 + 1, (cpS l k0 i).2.set (cpS l k0 i).1 (xat (cpS l k0 i).2 (k0 + (i + 1)))) := rfl
    rw [e1, e0] at hst
    rw [hst]
    by_cases he : xat l (k0 + (i + 1)) = xat l (k0 + i)
    · rw [if_pos he, if_pos (by rw [show k0 + i + 1 = k0 + (i + 1) by omega]; exact he.symm), List.append_nil]
      exact ⟨rfl, fun j hj => h2 j (by omega)⟩
    · rw [if_neg he, if_neg (by rw [show k0 + i + 1 = k0 + (i + 1) by omega]; exact fun e => he e.symm)]
      refine ⟨?_, fun j hj => ?_⟩
      · simp only
        rw [List.take_set]
        have hlt : (cpS l k0 i).1 < (cpS l k0 i).2.length := by omega
        rw [List.take_add_one, List.getElem?_eq_getElem hlt]
        rw [List.set_append_right _ _ (by rw [List.length_take]; omega), List.length_take, Nat.min_eq_left (by omega), Nat.sub_self]
        rfl
      · simp only
        rw [List.getElem?_set_ne (by omega)]
        exact h2 j (by omega)
theorem compact_def (l : List Int) (hl : l.length ≤ 1000000000000) : Ctr Try.prog 106 [.sl 1 0 0 l.length] [some (1, l.map eI)] (.sl 1 0 0 (compL l).length) [some (1, (compL l).map eI)] := by
  by_cases hx : ∃ k, adj l k
  · obtain ⟨k0, ha, hno⟩ := least_of hx
    have hc := compact_some l hl k0 ha hno
    have hk0 := ha.2.1
    obtain ⟨h1, -⟩ := cpS_inv ha hno (l.length - k0 - 1) (by omega)
    rw [show k0 + (l.length - k0 - 1) + 1 = l.length by omega, List.take_length] at h1
    have hk := cpS_k l k0 (l.length - k0 - 1)
    have hL := cpS_len l k0 (l.length - k0 - 1)
    have e : (cpS l k0 (l.length - k0 - 1)).1 = (compL l).length := by rw [← h1, List.length_take]; omega
    rw [h1, e] at hc
    exact hc
  · have hno : ∀ k, ¬ adj l k := fun k h => hx ⟨k, h⟩
    have hc := compact_all l hl hno
    have e := comp_id hno l.length (Nat.le_refl _)
    rw [List.take_length] at e
    rw [e]
    exact hc
end Go.Proofs.Ytnhedjpghpdbdaa
