/- SenseOrder. -/
import Derived.Test.YtfcphijidcfboaaWLaw11
import Derived.Test.YtfcphijidcfboaaGRef08
import Derived.Test.YtfcphijidcfboaaTyV
namespace Go.Proofs.Ytfcphijidcfboaa
open Av
attribute [local irreducible] awp awpOpers
set_option linter.unusedSimpArgs false
set_option linter.unusedVariables false
set_option maxRecDepth 100000
set_option maxHeartbeats 4000000
theorem small_facts {m : Mod} (h : smallB m = true) : m.1.length ≤ 1000000000000 ∧ (∀ d ∈ m.1, d.length ≤ 1000000000000) ∧ m.2.1.length ≤ 1000000000000 ∧ ∀ c ∈ m.2.1, conFits c := by
  simp only [smallB, con200, len400, Bool.and_eq_true, decide_eq_true_eq, List.all_eq_true] at h
  obtain ⟨⟨⟨h1, h2⟩, h3⟩, h4⟩ := h
  refine ⟨by omega, fun d hd => by have := h3 d hd; omega, by omega, fun c hc => ?_⟩
  have := h4 c hc
  exact ⟨by omega, by omega⟩
theorem better_self (m : Mod) (a : List Int) : betterB m a a = false := by
  unfold betterB
  split
  · simp
  · split <;> simp
theorem better_asym {m : Mod} {a b : List Int} (h : betterB m a b = true) : betterB m b a = false := by
  unfold betterB at h ⊢
  split at h
  · rename_i h1
    rw [if_pos h1]
    simp only [Bool.and_eq_true, decide_eq_true_eq] at h
    have : ¬ (xat b m.2.2.2.toNat < xat a m.2.2.2.toNat) := by omega
    simp [this]
  · rename_i h1
    rw [if_neg h1]
    split at h
    · rename_i h2
      rw [if_pos h2]
      simp only [Bool.and_eq_true, decide_eq_true_eq] at h
      have : ¬ (xat a m.2.2.2.toNat < xat b m.2.2.2.toNat) := by omega
      simp [this]
    · simp at h
theorem better_trans {m : Mod} {a b c : List Int} (h : betterB m a b = true) (h2 : betterB m b c = true) : betterB m a c = true := by
  unfold betterB at h h2 ⊢
  split at h
  · rename_i h1
    rw [if_pos h1] at h2
    rw [if_pos h1]
    simp only [Bool.and_eq_true, decide_eq_true_eq] at h h2 ⊢
    refine ⟨⟨h.1.1, h2.1.2⟩, by omega⟩
  · rename_i h1
    rw [if_neg h1] at h2
    rw [if_neg h1]
    split at h
    · rename_i h3
      rw [if_pos h3] at h2
      rw [if_pos h3]
      simp only [Bool.and_eq_true, decide_eq_true_eq] at h h2 ⊢
      refine ⟨⟨h.1.1, h2.1.2⟩, by omega⟩
    · simp at h
theorem law_SenseOrder (m : Mod) (l : List (List Int)) (hl : l.length = 3) : Ctr Try.prog 14 [eMod m, .agg (l.map eIs)] [] (.bool true) [] := by
  obtain ⟨a, b, c, rfl⟩ : ∃ a b c, l = [a, b, c] := by
    match l, hl with
    | [a, b, c], _ => exact ⟨a, b, c, rfl⟩
  refine call_pure Try.func14 Try.call14 e_law11_SenseOrder ?_
  have hS := law08_Small m
  have hB := fun x y (h : smallB m = true) => sense_Better m x y (small_facts h).1 (small_facts h).2.1 (small_facts h).2.2.1 (small_facts h).2.2.2
  have t1 := better_self m a
  have t2 := @better_asym m a b
  have t3 := @better_trans m a b c
  generalize smallB m = sm0 at hS hB
  generalize hbf : betterB m = bf at hB t1 t2 t3
  clear hbf
  obtain ⟨D, cs, ask, goal⟩ := m
  simp +contextual -implicitDefEqProofs (maxSteps := 1000000) only [c_law11_SenseOrder, eMod, eCons, eDoms, eIs, sm, sn, sxx, seval]
  refine callA_rule law11_alive (wkL_refl _) rfl ?_
  simp +contextual -implicitDefEqProofs (maxSteps := 1000000) only [sm, sn, sxx, seval]
  refine callA_rule hS (by simp +contextual -implicitDefEqProofs (maxSteps := 1000000) only [sm, sn, sxx, seval, eMod, eCons, eDoms]) rfl ?_
  cases sm0
  · simp +contextual -implicitDefEqProofs (maxSteps := 1000000) only [sm, sn, sxx, seval]
  by_cases l1 : 200 < (a.length : Int)
  · simp +contextual -implicitDefEqProofs (maxSteps := 1000000) only [sm, sn, sxx, seval, l1]
  by_cases l2 : 200 < (b.length : Int)
  · simp +contextual -implicitDefEqProofs (maxSteps := 1000000) only [sm, sn, sxx, seval, l1, l2]
  by_cases l3 : 200 < (c.length : Int)
  · simp +contextual -implicitDefEqProofs (maxSteps := 1000000) only [sm, sn, sxx, seval, l1, l2, l3]
  simp +contextual -implicitDefEqProofs (maxSteps := 1000000) only [sm, sn, sxx, seval, l1, l2, l3]
  refine callA_rule (hB a b rfl) (by simp +contextual -implicitDefEqProofs (maxSteps := 1000000) only [sm, sn, sxx, seval, eMod, eCons, eDoms, eIs]) rfl ?_
  simp +contextual -implicitDefEqProofs (maxSteps := 1000000) only [sm, sn, sxx, seval]
  refine callA_rule (hB b c rfl) (by simp +contextual -implicitDefEqProofs (maxSteps := 1000000) only [sm, sn, sxx, seval, eMod, eCons, eDoms, eIs]) rfl ?_
  simp +contextual -implicitDefEqProofs (maxSteps := 1000000) only [sm, sn, sxx, seval]
  refine callA_rule (hB a c rfl) (by simp +contextual -implicitDefEqProofs (maxSteps := 1000000) only [sm, sn, sxx, seval, eMod, eCons, eDoms, eIs]) rfl ?_
  simp +contextual -implicitDefEqProofs (maxSteps := 1000000) only [sm, sn, sxx, seval]
  refine callA_rule (hB a a rfl) (by simp +contextual -implicitDefEqProofs (maxSteps := 1000000) only [sm, sn, sxx, seval, eMod, eCons, eDoms, eIs]) rfl ?_
  rw [t1]
  cases hab : bf a b
  · simp +contextual -implicitDefEqProofs (maxSteps := 1000000) only [sm, sn, sxx, seval]
  · simp +contextual -implicitDefEqProofs (maxSteps := 1000000) only [sm, sn, sxx, seval]
    refine callA_rule (hB b a rfl) (by simp +contextual -implicitDefEqProofs (maxSteps := 1000000) only [sm, sn, sxx, seval, eMod, eCons, eDoms, eIs]) rfl ?_
    rw [t2 hab]
    cases hbc : bf b c
    · simp +contextual -implicitDefEqProofs (maxSteps := 1000000) only [sm, sn, sxx, seval]
    · rw [t3 hab hbc]
      simp +contextual -implicitDefEqProofs (maxSteps := 1000000) only [sm, sn, sxx, seval]
end Go.Proofs.Ytfcphijidcfboaa
