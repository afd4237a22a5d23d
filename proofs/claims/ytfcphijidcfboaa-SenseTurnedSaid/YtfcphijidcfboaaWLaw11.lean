/- alive, Fits of package touchstonelaw11. -/
import Derived.Test.YtfcphijidcfboaaWSense3
import Derived.Test.YtfcphijidcfboaaCLaw11
namespace Go.Proofs.Ytfcphijidcfboaa
open Av
attribute [local irreducible] awp awpOpers
set_option linter.unusedSimpArgs false
set_option linter.unusedVariables false
set_option maxRecDepth 100000
set_option maxHeartbeats 4000000
theorem alive11_s : (askdB ((2, [0, 1], [2, -1], 3) : Con) [2, 0] && decide (1 ≤ (2 : Int)) && decide ((2 : Int) ≤ 6)) = true ∧ sumN [2, -1] (valsOf [0, 1] [2, 0]) 2 = 4 := by decide +kernel
theorem alive11_h1 : (askdB ((2, [0, 1], [2, -1], 3) : Con) [2, 1] && holdsB ((2, [0, 1], [2, -1], 3) : Con) (valsOf [0, 1] [2, 1])) = true := by decide +kernel
theorem alive11_h2 : (askdB ((2, [0, 1], [2, -1], 3) : Con) [2, 0] && holdsB ((2, [0, 1], [2, -1], 3) : Con) (valsOf [0, 1] [2, 0])) = false := by decide +kernel
theorem alive11_a1 : allB (([[(0, 3)], [(0, 3)]], [(2, [0, 1], [2, -1], 3)], 1, 0) : Mod) [2, 1] = true := by decide +kernel
theorem alive11_a2 : allB (([[(0, 3)], [(0, 3)]], [(2, [0, 1], [2, -1], 3)], 1, 0) : Mod) [2, 4] = false := by decide +kernel
theorem alive11_b1 : betterB (([[(0, 3)], [(0, 3)]], [(2, [0, 1], [2, -1], 3)], 1, 0) : Mod) [1, 0] [2, 0] = true := by decide +kernel
theorem alive11_b2 : betterB (([[(0, 3)], [(0, 3)]], [(2, [0, 1], [2, -1], 3)], 1, 0) : Mod) [2, 0] [2, 1] = false := by decide +kernel
theorem law11_alive : Ctr Try.prog 27 [] [] (.bool true) [] := by
  refine call_pure Try.func27 Try.call27 e_law11_alive ?_
  simp +contextual -implicitDefEqProofs (maxSteps := 1000000) only [c_law11_alive, sm, sn, sxx, seval]
  refine callA_rule (sense_Sum ((2, [0, 1], [2, -1], 3) : Con) [2, 0] (by decide) (by decide) (by decide)) ?_ ?_ ?_
  · simp +contextual -implicitDefEqProofs (maxSteps := 1000000) only [sm, sn, sxx, seval, eMod, eCons, eCon, eIs, eI, eDoms, eRgs, eRg]
  · rfl
  rw [if_pos alive11_s.1]
  simp only [List.length_cons, List.length_nil, Nat.zero_add, Nat.reduceAdd]
  rw [alive11_s.2]
  simp +contextual -implicitDefEqProofs (maxSteps := 1000000) only [sm, sn, sxx, seval, eMod, eCons, eCon, eIs, eI, eDoms, eRgs, eRg]
  refine callV_rule (sense_Holds0 ((2, [0, 1], [2, -1], 3) : Con) [2, 1] (by decide) (by decide) (by decide) (fun h => absurd h (by decide))) ?_ ?_ ?_
  · simp +contextual -implicitDefEqProofs (maxSteps := 1000000) only [sm, sn, sxx, seval, eMod, eCons, eCon, eIs, eI, eDoms, eRgs, eRg]
  · rfl
  rw [alive11_h1]
  simp +contextual -implicitDefEqProofs (maxSteps := 1000000) only [sm, sn, sxx, seval, eMod, eCons, eCon, eIs, eI, eDoms, eRgs, eRg]
  refine callV_rule (sense_Holds0 ((2, [0, 1], [2, -1], 3) : Con) [2, 0] (by decide) (by decide) (by decide) (fun h => absurd h (by decide))) ?_ ?_ ?_
  · simp +contextual -implicitDefEqProofs (maxSteps := 1000000) only [sm, sn, sxx, seval, eMod, eCons, eCon, eIs, eI, eDoms, eRgs, eRg]
  · rfl
  rw [alive11_h2]
  simp +contextual -implicitDefEqProofs (maxSteps := 1000000) only [sm, sn, sxx, seval, eMod, eCons, eCon, eIs, eI, eDoms, eRgs, eRg]
  refine callA_rule (sense_All (([[(0, 3)], [(0, 3)]], [(2, [0, 1], [2, -1], 3)], 1, 0) : Mod) [2, 1] (by decide) (by decide) (by decide) (by intro c hc; rw [List.mem_singleton] at hc; subst hc; exact ⟨by decide, by decide⟩) (by decide) (by intro c hc h; rw [List.mem_singleton] at hc; subst hc; exact absurd h (by decide))) ?_ ?_ ?_
  · simp +contextual -implicitDefEqProofs (maxSteps := 1000000) only [sm, sn, sxx, seval, eMod, eCons, eCon, eIs, eI, eDoms, eRgs, eRg]
  · rfl
  rw [alive11_a1]
  simp +contextual -implicitDefEqProofs (maxSteps := 1000000) only [sm, sn, sxx, seval, eMod, eCons, eCon, eIs, eI, eDoms, eRgs, eRg]
  refine callA_rule (sense_All (([[(0, 3)], [(0, 3)]], [(2, [0, 1], [2, -1], 3)], 1, 0) : Mod) [2, 4] (by decide) (by decide) (by decide) (by intro c hc; rw [List.mem_singleton] at hc; subst hc; exact ⟨by decide, by decide⟩) (by decide) (by intro c hc h; rw [List.mem_singleton] at hc; subst hc; exact absurd h (by decide))) ?_ ?_ ?_
  · simp +contextual -implicitDefEqProofs (maxSteps := 1000000) only [sm, sn, sxx, seval, eMod, eCons, eCon, eIs, eI, eDoms, eRgs, eRg]
  · rfl
  rw [alive11_a2]
  simp +contextual -implicitDefEqProofs (maxSteps := 1000000) only [sm, sn, sxx, seval, eMod, eCons, eCon, eIs, eI, eDoms, eRgs, eRg]
  refine callA_rule (sense_Better (([[(0, 3)], [(0, 3)]], [(2, [0, 1], [2, -1], 3)], 1, 0) : Mod) [1, 0] [2, 0] (by decide) (by decide) (by decide) (by intro c hc; rw [List.mem_singleton] at hc; subst hc; exact ⟨by decide, by decide⟩)) ?_ ?_ ?_
  · simp +contextual -implicitDefEqProofs (maxSteps := 1000000) only [sm, sn, sxx, seval, eMod, eCons, eCon, eIs, eI, eDoms, eRgs, eRg]
  · rfl
  rw [alive11_b1]
  simp +contextual -implicitDefEqProofs (maxSteps := 1000000) only [sm, sn, sxx, seval, eMod, eCons, eCon, eIs, eI, eDoms, eRgs, eRg]
  refine callA_rule (sense_Better (([[(0, 3)], [(0, 3)]], [(2, [0, 1], [2, -1], 3)], 1, 0) : Mod) [2, 0] [2, 1] (by decide) (by decide) (by decide) (by intro c hc; rw [List.mem_singleton] at hc; subst hc; exact ⟨by decide, by decide⟩)) ?_ ?_ ?_
  · simp +contextual -implicitDefEqProofs (maxSteps := 1000000) only [sm, sn, sxx, seval, eMod, eCons, eCon, eIs, eI, eDoms, eRgs, eRg]
  · rfl
  rw [alive11_b2]
  simp +contextual -implicitDefEqProofs (maxSteps := 1000000) only [sm, sn, sxx, seval, eMod, eCons, eCon, eIs, eI, eDoms, eRgs, eRg]
def fits11 (c : Con) (a : List Int) : Bool := decide (c.2.1.length ≤ 200) && decide (c.2.2.1.length ≤ 200) && decide (a.length ≤ 200)
theorem fits11_facts {c : Con} {a : List Int} (h : fits11 c a = true) : c.2.1.length ≤ 200 ∧ c.2.2.1.length ≤ 200 ∧ a.length ≤ 200 := by
  simp only [fits11, Bool.and_eq_true, decide_eq_true_eq] at h
  exact ⟨h.1.1, h.1.2, h.2⟩
theorem law11_Fits (c : Con) (a : List Int) : Ctr Try.prog 28 [eCon c, eIs a] [] (.bool (fits11 c a)) [] := by
  obtain ⟨K, X, A, C⟩ := c
  refine call_pure Try.func28 Try.call28 e_law11_Fits ?_
  unfold fits11
  simp only
  by_cases h1 : X.length ≤ 200
  · have h1' : (X.length : Int) ≤ 200 := by omega
    rw [decide_eq_true h1]
    by_cases h2 : A.length ≤ 200
    · have h2' : (A.length : Int) ≤ 200 := by omega
      rw [decide_eq_true h2]
      by_cases h3 : a.length ≤ 200
      · have h3' : (a.length : Int) ≤ 200 := by omega
        rw [decide_eq_true h3]
        simp +contextual -implicitDefEqProofs (maxSteps := 1000000) only [c_law11_Fits, eCon, eIs, sm, sn, sxx, seval, h1', h2', h3']
        try rfl
      · have h3' : ¬ (a.length : Int) ≤ 200 := by omega
        rw [decide_eq_false h3]
        simp +contextual -implicitDefEqProofs (maxSteps := 1000000) only [c_law11_Fits, eCon, eIs, sm, sn, sxx, seval, h1', h2', h3']
        try rfl
    · have h2' : ¬ (A.length : Int) ≤ 200 := by omega
      rw [decide_eq_false h2]
      simp +contextual -implicitDefEqProofs (maxSteps := 1000000) only [c_law11_Fits, eCon, eIs, sm, sn, sxx, seval, h1', h2']
      try rfl
  · have h1' : ¬ (X.length : Int) ≤ 200 := by omega
    rw [decide_eq_false h1]
    simp +contextual -implicitDefEqProofs (maxSteps := 1000000) only [c_law11_Fits, eCon, eIs, sm, sn, sxx, seval, h1']
    try rfl
end Go.Proofs.Ytfcphijidcfboaa
