/- Plain laws: what is known of a constraint that is asked rightly. -/
import Derived.Test.YtnhedjpghpdbdaaPlSense2
namespace Go.Proofs.Ytnhedjpghpdbdaa
open Av
attribute [local irreducible] awp awpOpers
set_option linter.unusedSimpArgs false
set_option linter.unusedVariables false
theorem truth_facts {c : Con} {a : List Int} (hK : 11 ≤ c.1 ∧ c.1 ≤ 14) (h : askdB c a = true) : ∀ k, k < (valsOf c.2.1 a).length → xat (valsOf c.2.1 a) k = 0 ∨ xat (valsOf c.2.1 a) k = 1 := by
  obtain ⟨K, X, A, C⟩ := c
  simp only at hK ⊢
  have hs : (shp K).2.2.2.2 = 2 := by
    have : K = 11 ∨ K = 12 ∨ K = 13 ∨ K = 14 := by omega
    rcases this with rfl | rfl | rfl | rfl <;> decide
  unfold askdB at h
  simp only [Bool.and_eq_true, decide_eq_true_eq] at h
  obtain ⟨-, h4⟩ := h
  simp only [mayB, Bool.and_eq_true, hs] at h4
  obtain ⟨⟨-, g5⟩, -⟩ := h4
  have hV : (valsOf X a).length = X.length := vals_len X a
  rw [← hV] at g5
  intro k hk
  have h5 : xOk (oneD (valsOf X a)) (upN (valsOf X a).length) 2 k = true := by
    unfold xsOk at g5
    rw [List.all_eq_true] at g5
    exact g5 _ (by rw [List.mem_range, up_len]; omega)
  rw [xOk_one (by omega), if_pos (by omega), Bool.and_eq_true, decide_eq_true_eq, decide_eq_true_eq] at h5
  omega
theorem sign_facts {c : Con} {a : List Int} (hK : c.1 = 11) (h : askdB c a = true) : ∀ v ∈ c.2.2.1, v = 1 ∨ v = -1 := by
  obtain ⟨K, X, A, C⟩ := c
  simp only at hK ⊢
  subst hK
  unfold askdB at h
  simp only [Bool.and_eq_true, decide_eq_true_eq] at h
  obtain ⟨-, h4⟩ := h
  simp only [mayB, formedB, Bool.and_eq_true, if_true] at h4
  obtain ⟨⟨⟨⟨⟨⟨-, g⟩, -⟩, -⟩, -⟩, -⟩, -⟩ := h4
  intro v hv
  rw [Bool.not_eq_true', List.any_eq_false] at g
  have := g v hv
  simp only [Bool.and_eq_true, decide_eq_true_eq] at this
  omega
theorem pos_facts {c : Con} {a : List Int} (hK : c.1 = 19) (h : askdB c a = true) : ∀ v ∈ c.2.2.1, 0 ≤ v := by
  obtain ⟨K, X, A, C⟩ := c
  simp only at hK ⊢
  subst hK
  unfold askdB at h
  simp only [Bool.and_eq_true, decide_eq_true_eq] at h
  obtain ⟨-, h4⟩ := h
  simp only [mayB, formedB, Bool.and_eq_true, show ¬ ((19 : Int) = 11) by decide, if_false, if_true] at h4
  obtain ⟨⟨⟨⟨⟨⟨-, -, g⟩, -⟩, -⟩, -⟩, -⟩, -⟩ := h4
  intro v hv
  rw [Bool.not_eq_true', List.any_eq_false] at g
  have := g v hv
  simp only [decide_eq_true_eq] at this
  omega
theorem cnt_rest {V : List Int} (h : ∀ k, k < V.length → xat V k = 0 ∨ xat V k = 1) : (decide ((cntI V 1 : Int) = (V.length : Int))) = !(V.any fun v => decide (v = 0)) := by
  have key : ∀ V : List Int, (∀ v ∈ V, v = 0 ∨ v = 1) → ((cntI V 1 = V.length) ↔ (V.any fun v => decide (v = 0)) = false) := by
    intro V
    induction V with
    | nil => intro _; simp [cntI]
    | cons x V ih =>
      intro hV
      have h1 := ih fun v hv => hV v (List.mem_cons_of_mem _ hv)
      have hle := cnt_le V 1
      rcases hV x List.mem_cons_self with rfl | rfl
      · have e : cntI (0 :: V) 1 = cntI V 1 := by unfold cntI; simp
        rw [e]
        simp
        omega
      · have e : cntI (1 :: V) 1 = cntI V 1 + 1 := by unfold cntI; simp
        rw [e]
        simp only [List.length_cons, List.any_cons]
        rw [show decide ((1 : Int) = 0) = false by decide, Bool.false_or, ← h1]
        omega
  have hV : ∀ v ∈ V, v = 0 ∨ v = 1 := by
    intro v hv
    obtain ⟨k, hk⟩ := List.getElem?_of_mem hv
    have hkl := (List.getElem?_eq_some_iff.1 hk).1
    have := h k hkl
    rwa [show xat V k = v by unfold xat; rw [hk]; rfl] at this
  have h2 := key V hV
  cases hb : V.any fun v => decide (v = 0)
  · have := h2.2 hb
    simp; omega
  · have : ¬ cntI V 1 = V.length := fun e => by rw [h2.1 e] at hb; cases hb
    simp; omega
theorem cnt_any {V : List Int} : decide (0 < (cntI V 1 : Int)) = V.any fun v => decide (v = 1) := by
  induction V with
  | nil => rfl
  | cons x V ih =>
    by_cases hx : x = 1
    · subst hx
      have e : cntI (1 :: V) 1 = cntI V 1 + 1 := by unfold cntI; simp
      rw [e]
      simp <;> omega
    · have e : cntI (x :: V) 1 = cntI V 1 := by unfold cntI; simp [hx]
      rw [e, ih]
      simp [hx]
end Go.Proofs.Ytnhedjpghpdbdaa
