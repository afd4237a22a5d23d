/- ArithNarrows. -/
import Derived.Test.YtbhigfllanblpaaWLaw14
import Derived.Test.YtbhigfllanblpaaWRef14d
import Derived.Test.YtbhigfllanblpaaPlArith4
import Derived.Test.YtbhigfllanblpaaCArithNarrows
namespace Go.Proofs.Ytbhigfllanblpaa
open Av
attribute [local irreducible] awp awpOpers
set_option linter.unusedSimpArgs false
set_option linter.unusedVariables false
set_option maxRecDepth 100000
set_option maxHeartbeats 4000000
theorem arith_same_as (c : Con) (D : List (List Rg)) : arithL c D = rarithL c D := by
  unfold arithL rarithL
  by_cases hm : modB (D, [c], 0, 0) = true
  · rw [if_pos hm, if_pos hm]
    by_cases hK : c.1 = 7 ∨ c.1 = 8 ∨ c.1 = 9 ∨ c.1 = 10 ∨ c.1 = 15
    · rw [if_pos hK, if_pos hK]
      obtain ⟨f1, hD, h0, h1, h2, -, -⟩ := arith_idx hK hm
      refine eqs_tell ?_
      unfold arithS rarithS
      split
      · exact eq_times _ _ _ _
      · split
        · exact eq_lesser _ _ _ _
        · split
          · exact eq_greater _ _ _ _
          · split
            · exact eq_size _ _ _ hD h0 h1
            · exact eq_same _ _ _
    · rw [if_neg hK, if_neg hK]
  · rw [if_neg hm, if_neg hm]
theorem arith_small {c : Con} {D : List (List Rg)} (hD : D.length ≤ 1000000000000) (hd : ∀ d ∈ D, d.length ≤ 1000000000000) : (arithL c D).1.length ≤ 1000000000000 ∧ ∀ d ∈ (arithL c D).1, d.length ≤ 1000000000000 := by
  by_cases hm : modB (D, [c], 0, 0) = true
  · by_cases hK : c.1 = 7 ∨ c.1 = 8 ∨ c.1 = 9 ∨ c.1 = 10 ∨ c.1 = 15
    · rcases arith_res hK hm with h | ⟨E, h, hle, -⟩
      · rw [h]; simp
      · rw [h]
        refine ⟨by have := hle.1; simp only; omega, fun d hd => ?_⟩
        obtain ⟨i, hi, rfl⟩ := List.getElem_of_mem hd
        simp only at hi
        have hx : 0 ≤ (i : Int) ∧ (i : Int) < E.length := by omega
        have h3 := (hle.2 i hx.1 (by have := hle.1; omega)).1
        have e : rowOf E (i : Int) = E[i] := by
          have := row_get hx
          rw [Int.toNat_natCast, List.getElem?_eq_getElem hi] at this
          injection this with this
          exact this.symm
        rw [e] at h3
        have := right_length h3
        show (E[i]).length ≤ _
        omega
    · unfold arithL
      rw [if_pos hm, if_neg hK]
      simp
  · unfold arithL
    rw [if_neg hm]
    simp
theorem law_ArithNarrows (c : Con) (D : List (List Rg)) : Ctr Try.prog 10 [eCon c, eDoms D] [] (.bool true) [] := by
  refine call_pure Try.func10 Try.call10 e_law14_ArithNarrows ?_
  have hcon : ∃ K X A G, c = (K, X, A, G) := ⟨c.1, c.2.1, c.2.2.1, c.2.2.2, rfl⟩
  obtain ⟨K, X, A, G, rfl⟩ := hcon
  simp +contextual -implicitDefEqProofs (maxSteps := 1000000) only [c_law14_ArithNarrows, eCon, eIs, eDoms, sm, sn, seval]
  refine callA_rule law14_alive (wkL_refl _) rfl ?_
  simp +contextual -implicitDefEqProofs (maxSteps := 1000000) only [sm, sn, seval, eCon, eIs]
  refine callA_rule (law12_Fits (K, X, A, G) D) (wkL_refl _) rfl ?_
  cases hFt : fitsB (K, X, A, G) D
  · simp +contextual -implicitDefEqProofs (maxSteps := 1000000) only [sm, sn, seval]
  obtain ⟨s1, s2, s3, s4⟩ := fits_facts hFt
  simp only at s3 s4
  have hd : ∀ d ∈ D, d.length ≤ 1000000000000 := fun d h => by have := s2 d h; omega
  simp +contextual -implicitDefEqProofs (maxSteps := 1000000) only [sm, sn, seval, eCon, eIs]
  refine callA_rule (arith_Narrow (K, X, A, G) D (by omega) hd ⟨by simp only; omega, by simp only; omega⟩) (wkL_refl _) rfl ?_
  simp +contextual -implicitDefEqProofs (maxSteps := 1000000) only [sm, sn, seval, eCon, eIs, eDoms]
  refine callA_rule (ref14_Narrow (K, X, A, G) D (by omega) hd ⟨by simp only; omega, by simp only; omega⟩) (by simp +contextual -implicitDefEqProofs (maxSteps := 1000000) only [sm, sn, seval, eCon, eIs, eDoms]) rfl ?_
  have hsz := arith_small (c := (K, X, A, G)) (D := D) (by omega) hd
  rw [← arith_same_as (K, X, A, G) D]
  generalize arithL (K, X, A, G) D = r1 at hsz ⊢
  obtain ⟨x1, e1⟩ := r1
  simp only at hsz
  simp +contextual -implicitDefEqProofs (maxSteps := 1000000) only [sm, sn, seval, eDoms]
  refine callA_rule (law08_Doms x1 x1 (by omega) (fun d h => by have := hsz.2 d h; omega)) (by simp +contextual -implicitDefEqProofs (maxSteps := 1000000) only [sm, sn, seval, eDoms]) rfl ?_
  simp +contextual -implicitDefEqProofs (maxSteps := 1000000) only [sm, sn, seval]
end Go.Proofs.Ytbhigfllanblpaa
