/- alive, mine of package touchstonelaw16. -/
import Derived.Test.YtfcphijidcfboaaWElem5
import Derived.Test.YtfcphijidcfboaaGSet
import Derived.Test.YtfcphijidcfboaaGRef08
import Derived.Test.YtfcphijidcfboaaGRef12
import Derived.Test.YtfcphijidcfboaaCLaw16
namespace Go.Proofs.Ytfcphijidcfboaa
open Av
attribute [local irreducible] awp awpOpers
set_option linter.unusedSimpArgs false
set_option linter.unusedVariables false
set_option maxRecDepth 100000
set_option maxHeartbeats 4000000
theorem alive16_i : idxE [((1 : Int), [((5 : Int), (5 : Int))]), (3, [(5, 5)])] = [(1, 1), (3, 3)] := by
  have h := idx_mem (K := [((1 : Int), [((5 : Int), (5 : Int))]), (3, [(5, 5)])]) (by intro c hc; simp at hc; rcases hc with rfl | rfl <;> simp)
  refine right_ext h.1 (by decide) fun v => (h.2 v).trans ?_
  simp only [Mem, List.mem_cons, List.not_mem_nil, or_false, exists_eq_or_imp, exists_eq_left]
  omega
theorem alive16_a : allE [((1 : Int), [((5 : Int), (5 : Int))]), (3, [(5, 5)])] = [(5, 5)] := by
  have h := all_mem (K := [((1 : Int), [((5 : Int), (5 : Int))]), (3, [(5, 5)])]) (by intro c hc q hq; simp at hc; rcases hc with rfl | rfl <;> simp at hq <;> subst hq <;> (unfold InR; simp))
  refine right_ext h.1 (by decide) fun v => (h.2 v).trans ?_
  simp only [Mem, List.mem_cons, List.not_mem_nil, or_false, exists_eq_or_imp, exists_eq_left]
  omega
theorem alive16_1 : elemL (16, [0, 1], [5, 7, 5], 0) [[(0, 9)], [(5, 6)]] = ([[(1, 1), (3, 3)], [(5, 5)]], 0) := by
  have hm : modB ([[(0, 9)], [(5, 6)]], [(16, [0, 1], [5, 7, 5], 0)], 0, 0) = true := by decide +kernel
  have hf : (chsA [5, 7, 5]).filter (keepC (rowOf [[(0, 9)], [(5, 6)]] (xat [0, 1] 0)) (rowOf [[(0, 9)], [(5, 6)]] (lastV0 [0, 1]))) = [((1 : Int), [((5 : Int), (5 : Int))]), (3, [(5, 5)])] := by decide +kernel
  unfold elemL
  rw [if_pos hm, if_pos rfl]
  simp only
  rw [hf]
  unfold narE
  rw [alive16_i, alive16_a]
  decide +kernel
theorem alive16_2 : elemL (18, [], [], 0) [[(0, 9)], [(5, 6)]] = ([], 10) := by
  have hm : modB ([[(0, 9)], [(5, 6)]], [(18, [], [], 0)], 0, 0) = true := by decide +kernel
  unfold elemL
  rw [if_pos hm, if_neg (by decide), if_neg (by decide)]
theorem law16_alive : Ctr Try.prog 20 [] [] (.bool true) [] := by
  refine call_pure Try.func20 Try.call20 e_law16_alive ?_
  simp +contextual -implicitDefEqProofs (maxSteps := 1000000) only [c_law16_alive, sm, sn, sxx, seval]
  refine callA_rule (elem_Narrow (16, [0, 1], [5, 7, 5], 0) [[(0, 9)], [(5, 6)]] (by decide) (by decide) ⟨by decide, by decide⟩) ?_ ?_ ?_
  · simp +contextual -implicitDefEqProofs (maxSteps := 1000000) only [sm, sn, sxx, seval, eCon, eIs, eI, eDoms, eRgs, eRg]
  · rfl
  rw [alive16_1]
  simp +contextual -implicitDefEqProofs (maxSteps := 1000000) only [sm, sn, sxx, seval, eDoms]
  refine callA_rule (elem_Narrow (18, [], [], 0) [[(0, 9)], [(5, 6)]] (by decide) (by decide) ⟨by decide, by decide⟩) ?_ ?_ ?_
  · simp +contextual -implicitDefEqProofs (maxSteps := 1000000) only [sm, sn, sxx, seval, eCon, eIs, eI, eDoms, eRgs, eRg]
  · rfl
  rw [alive16_2]
  simp +contextual -implicitDefEqProofs (maxSteps := 1000000) only [sm, sn, sxx, seval, eDoms, eRgs, eRg]
  refine callA_rule (law08_Ranges [(1, 1), (3, 3)] [(1, 1), (3, 3)] (by decide)) ?_ ?_ ?_
  · simp +contextual -implicitDefEqProofs (maxSteps := 1000000) only [sm, sn, sxx, seval, eRgs, eRg]
  · rfl
  simp +contextual -implicitDefEqProofs (maxSteps := 1000000) only [sm, sn, sxx, seval, eRgs, eRg]
  refine callA_rule (law08_Ranges [(5, 5)] [(5, 5)] (by decide)) ?_ ?_ ?_
  · simp +contextual -implicitDefEqProofs (maxSteps := 1000000) only [sm, sn, sxx, seval, eRgs, eRg]
  · rfl
  simp +contextual -implicitDefEqProofs (maxSteps := 1000000) only [sm, sn, sxx, seval]
def kind16B (K : Int) : Bool := decide (K = 16) || decide (K = 17)
def mine16B (c : Con) (D : List (List Rg)) : Bool := kind16B c.1 && fitsB c D && fitB c D
theorem law16_mine (c : Con) (D : List (List Rg)) : Ctr Try.prog 23 [eCon c, eDoms D] [] (.bool (mine16B c D)) [] := by
  obtain ⟨K, X, A, C⟩ := c
  refine call_pure Try.func23 Try.call23 e_law16_mine ?_
  by_cases k1 : K = 16
  · subst k1
    have hk : kind16B 16 = true := by decide
    simp +contextual -implicitDefEqProofs (maxSteps := 1000000) only [c_law16_mine, eCon, eIs, eDoms, sm, sn, sxx, seval, Int.reduceLE]
    refine callA_rule (law12_Fits (16, X, A, C) D) (by simp +contextual -implicitDefEqProofs (maxSteps := 1000000) only [sm, sn, sxx, seval, eCon, eIs, eDoms]) rfl ?_
    cases hF : fitsB (16, X, A, C) D
    · simp +contextual -implicitDefEqProofs (maxSteps := 1000000) only [sm, sn, sxx, seval]
      simp [mine16B, hF]
    obtain ⟨s1, s2, s3, s4⟩ := fits_facts hF
    simp only at s3 s4
    simp +contextual -implicitDefEqProofs (maxSteps := 1000000) only [sm, sn, sxx, seval, eCon, eIs]
    refine callA_rule (ref12_Fit (16, X, A, C) D (by omega) (fun d h => by have := s2 d h; omega) ⟨by simp only; omega, by simp only; omega⟩) (by simp +contextual -implicitDefEqProofs (maxSteps := 1000000) only [sm, sn, sxx, seval, eCon, eIs, eDoms]) rfl ?_
    simp +contextual -implicitDefEqProofs (maxSteps := 1000000) only [sm, sn, sxx, seval]
    simp [mine16B, hF, hk]
  · by_cases k2 : K = 17
    · subst k2
      have hk : kind16B 17 = true := by decide
      simp +contextual -implicitDefEqProofs (maxSteps := 1000000) only [c_law16_mine, eCon, eIs, eDoms, sm, sn, sxx, seval, k1, Int.reduceLE]
      refine callA_rule (law12_Fits (17, X, A, C) D) (by simp +contextual -implicitDefEqProofs (maxSteps := 1000000) only [sm, sn, sxx, seval, eCon, eIs, eDoms, k1]) rfl ?_
      cases hF : fitsB (17, X, A, C) D
      · simp +contextual -implicitDefEqProofs (maxSteps := 1000000) only [sm, sn, sxx, seval]
        simp [mine16B, hF]
      obtain ⟨s1, s2, s3, s4⟩ := fits_facts hF
      simp only at s3 s4
      simp +contextual -implicitDefEqProofs (maxSteps := 1000000) only [sm, sn, sxx, seval, eCon, eIs, k1]
      refine callA_rule (ref12_Fit (17, X, A, C) D (by omega) (fun d h => by have := s2 d h; omega) ⟨by simp only; omega, by simp only; omega⟩) (by simp +contextual -implicitDefEqProofs (maxSteps := 1000000) only [sm, sn, sxx, seval, eCon, eIs, eDoms, k1]) rfl ?_
      simp +contextual -implicitDefEqProofs (maxSteps := 1000000) only [sm, sn, sxx, seval]
      simp [mine16B, hF, hk]
    · have hk : kind16B K = false := by simp only [kind16B, Bool.and_eq_false_iff, Bool.or_eq_false_iff, decide_eq_false_iff_not]; omega
      simp +contextual -implicitDefEqProofs (maxSteps := 1000000) only [c_law16_mine, eCon, eIs, eDoms, sm, sn, sxx, seval, k1, k2]
      simp [mine16B, hk]
theorem mine16_facts {c : Con} {D : List (List Rg)} (h : mine16B c D = true) : (c.1 = 16 ∨ c.1 = 17) ∧ fitsB c D = true ∧ modB (D, [c], 0, 0) = true := by
  simp only [mine16B, kind16B, Bool.and_eq_true, Bool.or_eq_true, decide_eq_true_eq] at h
  exact ⟨by omega, h.1.2, h.2⟩
end Go.Proofs.Ytfcphijidcfboaa
