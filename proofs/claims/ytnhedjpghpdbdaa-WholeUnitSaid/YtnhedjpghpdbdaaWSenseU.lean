/- What sense.asked.unlike computes. -/
import Derived.Test.YtnhedjpghpdbdaaWSense3
import Derived.Test.YtnhedjpghpdbdaaWSortI
import Derived.Test.YtnhedjpghpdbdaaWCompact
import Derived.Test.YtnhedjpghpdbdaaCSenseU
namespace Go.Proofs.Ytnhedjpghpdbdaa
open Av
attribute [local irreducible] awp awpOpers
set_option linter.unusedSimpArgs false
set_option linter.unusedVariables false
set_option maxRecDepth 100000
set_option maxHeartbeats 4000000
theorem clone_ints (l : List Int) (hl : l.length ≤ 1000000000000) : Ctr Try.prog 104 [.list 1 (l.map eI)] [] (.sl 1 0 0 l.length) [some (1, l.map eI)] := by
  refine call_box Try.func104 Try.call104 e_slices_Clone_sint64_int64 ?_
  by_cases h0 : l = []
  · subst h0
    simp +contextual -implicitDefEqProofs (maxSteps := 1000000) only [c_slices_Clone_sint64_int64, sm, sn, sxx, seval, Nat.zero_le]
    refine ⟨⟨[], [0], by decide, ?_⟩, [1], [0], by decide, ?_⟩
    · simp +contextual -implicitDefEqProofs (maxSteps := 1000000) only [sm, sn, sxx, seval]
    · simp +contextual -implicitDefEqProofs (maxSteps := 1000000) only [sm, sn, sxx, seval]
  · have hnn : (AV.list 1 (l.map eI)).nonNil = true := by
      cases l with
      | nil => exact absurd rfl h0
      | cons a b => rfl
    have c1 : l.length * 8 ≤ 140737488355328 := by omega
    have c2 : l.length ≤ maxLen := by unfold maxLen; omega
    simp +contextual -implicitDefEqProofs (maxSteps := 1000000) only [c_slices_Clone_sint64_int64, sm, sn, sxx, seval, hnn, c1, c2, Nat.le_refl]
    refine ⟨[], [0], by decide, ?_⟩
    simp +contextual -implicitDefEqProofs (maxSteps := 1000000) only [sm, sn, sxx, seval]
theorem nodup_of {V : List Int} : unlikeB V = true ↔ V.Nodup := by
  unfold unlikeB
  rw [List.all_eq_true, List.nodup_iff_count]
  have hc : ∀ a, cntI V a = V.count a := by
    intro a
    unfold cntI
    rw [List.count_eq_length_filter]
    congr 1
  constructor
  · intro h a
    by_cases ha : a ∈ V
    · have := of_decide_eq_true (h a ha)
      rwa [hc] at this
    · rw [List.count_eq_zero_of_not_mem ha]; omega
  · intro h a _
    rw [hc]
    exact decide_eq_true (h a)
theorem adj_nodup {l : List Int} (hs : l.Pairwise fun x y => x ≤ y) : (∀ k, ¬ adj l k) ↔ l.Nodup := by
  have hx : ∀ (k : Nat) (h : k < l.length), xat l k = l[k] := fun k h => by unfold xat; rw [List.getElem?_eq_getElem h]; rfl
  rw [List.pairwise_iff_getElem] at hs
  show _ ↔ l.Pairwise (· ≠ ·)
  rw [List.pairwise_iff_getElem]
  constructor
  · intro h i j hi hj hij
    have h1 := h j
    have h2 : ¬ l[j] = l[j - 1] := fun e => h1 ⟨by omega, hj, by rw [hx j hj, hx (j - 1) (by omega)]; exact e⟩
    have h3 : l[j - 1] ≤ l[j] := hs (j - 1) j (by omega) hj (by omega)
    by_cases e : i = j - 1
    · subst e; omega
    · have h4 : l[i] ≤ l[j - 1] := hs i (j - 1) hi (by omega) (by omega)
      omega
  · rintro h k ⟨a1, a2, a3⟩
    have := h (k - 1) k (by omega) a2 (by omega)
    rw [hx k a2, hx (k - 1) (by omega)] at a3
    exact this a3.symm
theorem sense_unlike (c : Con) (V : List Int) (hV : V.length ≤ 32) : Ctr Try.prog 74 [askP c V] [] (.bool (unlikeB V)) [] := by
  obtain ⟨K, X, A, C⟩ := c
  refine call_pure Try.func74 Try.call74 e_sense_asked_unlike ?_
  have hsl : (sortI V).length = V.length := (sortI_perm V).length_eq
  obtain ⟨L, hL, hiff⟩ := compact_ctr (sortI V) (by omega)
  rw [hsl] at hL hiff
  have hu : unlikeB V = decide (L.length = V.length) := by
    rw [Bool.eq_iff_iff, decide_eq_true_eq, nodup_of, hiff, adj_nodup (sortI_asc V)]
    exact (sortI_perm V).nodup_iff.symm
  have hu' : unlikeB V = decide ((L.length : Int) = (V.length : Int)) := by
    rw [hu, Bool.eq_iff_iff, decide_eq_true_eq, decide_eq_true_eq]; omega
  rw [hu']
  simp +contextual -implicitDefEqProofs (maxSteps := 1000000) only [c_sense_asked_unlike, askP, sm, sn, sxx, seval]
  refine callO_rule (clone_ints V (by omega)) rfl (wkL_refl _) rfl ?_ ?_
  · simp +contextual -implicitDefEqProofs (maxSteps := 1000000) only [sm, sn, sxx, seval]
  simp +contextual -implicitDefEqProofs (maxSteps := 1000000) only [sm, sn, sxx, seval]
  refine callM_rule [0] (sorti_ctr V (by omega)) (by decide) ?_ ?_ ?_ ?_ ?_ ?_
  · simp +contextual -implicitDefEqProofs (maxSteps := 1000000) only [sm, sn, sxx, seval]
  · simp +contextual -implicitDefEqProofs (maxSteps := 1000000) only [sm, sn, sxx, seval]
  · simp +contextual -implicitDefEqProofs (maxSteps := 1000000) only [sm, sn, sxx, seval]
  · simp +contextual -implicitDefEqProofs (maxSteps := 1000000) only [sm, sn, sxx, seval]
  · simp +contextual -implicitDefEqProofs (maxSteps := 1000000) only [sm, sn, sxx, seval]
  simp +contextual -implicitDefEqProofs (maxSteps := 1000000) only [sm, sn, sxx, seval]
  refine callM_rule [0] hL (by decide) ?_ ?_ ?_ ?_ ?_ ?_
  · simp +contextual -implicitDefEqProofs (maxSteps := 1000000) only [sm, sn, sxx, seval]
  · simp +contextual -implicitDefEqProofs (maxSteps := 1000000) only [sm, sn, sxx, seval]
  · simp +contextual -implicitDefEqProofs (maxSteps := 1000000) only [sm, sn, sxx, seval]
  · simp +contextual -implicitDefEqProofs (maxSteps := 1000000) only [sm, sn, sxx, seval]
  · simp +contextual -implicitDefEqProofs (maxSteps := 1000000) only [sm, sn, sxx, seval]
  simp +contextual -implicitDefEqProofs (maxSteps := 1000000) only [sm, sn, sxx, seval]
theorem sense_Holds (c : Con) (a : List Int) (hA : c.2.2.1.length ≤ 1000000000000) (hX : c.2.1.length ≤ 1000000000000) (ha : a.length ≤ 1000000000000) :
    Ctr Try.prog 12 [eCon c, eIs a] [] (.bool (askdB c a && holdsB c (valsOf c.2.1 a))) [] := sense_Holds0 c a hA hX ha fun _ V hV => sense_unlike c V hV
end Go.Proofs.Ytnhedjpghpdbdaa
