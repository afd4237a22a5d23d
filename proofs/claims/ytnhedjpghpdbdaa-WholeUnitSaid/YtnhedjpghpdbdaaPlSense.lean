/- Plain laws: a constraint with values, asked. -/
import Derived.Test.YtnhedjpghpdbdaaGRef11
namespace Go.Proofs.Ytnhedjpghpdbdaa
open Av
attribute [local irreducible] awp awpOpers
set_option linter.unusedSimpArgs false
set_option linter.unusedVariables false
def idx0 (a : List Int) (x : Int) : Bool := decide (0 ≤ x) && decide (x < a.length)
/-- the model of one constraint with its values -/
def oneM (c : Con) (V : List Int) : Mod := (oneD V, [(c.1, upN V.length, c.2.2.1, c.2.2.2)], 0, 0)
theorem dom_oneB (v : Int) : domB [(v, v)] = withinB v := by
  unfold domB rightB
  simp [okAt]
theorem one_domB (V : List Int) : (oneD V).all domB = V.all withinB := by
  unfold oneD
  rw [List.all_map]
  congr 1
  funext v
  exact dom_oneB v
theorem vals_len (X a : List Int) : (valsOf X a).length = X.length := by unfold valsOf; rw [List.length_map]
theorem oneD_len (V : List Int) : (oneD V).length = V.length := by unfold oneD; rw [List.length_map]
theorem shp_a (K : Int) : (shp K).2.2.1 = 0 := by
  unfold shp
  repeat' split
  all_goals rfl
theorem may_a {c : Con} {D : List (List Rg)} (h : mayB D c = true) (h32 : c.2.1.length ≤ 32) : c.2.2.1.length ≤ 128 := by
  obtain ⟨g1, -⟩ := may_facts h
  unfold formedB at g1
  simp only [Bool.and_eq_true] at g1
  have g := g1.1.2
  unfold countsB at g
  split at g
  · simp only [Bool.and_eq_true, decide_eq_true_eq] at g
    have := shp_a c.1; omega
  · split at g
    · simp only [decide_eq_true_eq] at g
      have := shp_x c.1; omega
    · split at g
      · simp only [Bool.and_eq_true, decide_eq_true_eq] at g
        have := shp_a c.1; omega
      · split at g
        · simp only [Bool.and_eq_true, decide_eq_true_eq] at g; omega
        · simp only [decide_eq_true_eq] at g; omega
theorem ask_eq (c : Con) (a : List Int) : (decide (c.2.1.length ≤ 32) && c.2.1.all (idx0 a) && modB (oneM c (valsOf c.2.1 a))) = askdB c a := by
  obtain ⟨K, X, A, C⟩ := c
  unfold askdB oneM
  simp only [vals_len]
  have hall : X.all (idxB a) = (X.all (idx0 a) && (valsOf X a).all withinB) := by
    unfold valsOf idxB idx0
    induction X with
    | nil => rfl
    | cons x X ih =>
      simp only [List.all_cons, List.map_cons, ih]
      cases decide (0 ≤ x) <;> cases decide (x < (a.length : Int)) <;> cases withinB (xat a x.toNat) <;> simp
  rw [hall]
  by_cases h32 : X.length ≤ 32
  · have hm : modB (oneD (valsOf X a), [(K, upN X.length, A, C)], 0, 0) = ((valsOf X a).all withinB && mayB (oneD (valsOf X a)) (K, upN X.length, A, C)) := by
      unfold modB
      simp only [oneD_len, vals_len, one_domB, List.length_cons, List.length_nil, List.all_cons, List.all_nil, Bool.and_true, askB]
      have : X.length ≤ 64 := by omega
      simp [this]
    rw [hm]
    have ha : mayB (oneD (valsOf X a)) (K, upN X.length, A, C) = true → A.length ≤ 128 := fun h => may_a h (by simp only [up_len]; exact h32)
    cases hmay : mayB (oneD (valsOf X a)) (K, upN X.length, A, C)
    · simp
    · have := ha hmay
      simp [h32, this, Bool.and_assoc]
  · simp [h32]
end Go.Proofs.Ytnhedjpghpdbdaa
