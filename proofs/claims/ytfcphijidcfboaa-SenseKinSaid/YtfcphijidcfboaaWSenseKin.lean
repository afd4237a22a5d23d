/- SenseKin. -/
import Derived.Test.YtfcphijidcfboaaWLaw11
namespace Go.Proofs.Ytfcphijidcfboaa
open Av
attribute [local irreducible] awp awpOpers
set_option linter.unusedSimpArgs false
set_option linter.unusedVariables false
set_option maxRecDepth 100000
set_option maxHeartbeats 4000000
theorem law_SenseKin (c : Con) (a : List Int) : Ctr Try.prog 10 [eCon c, eIs a] [] (.bool true) [] := by
  refine call_pure Try.func10 Try.call10 e_law11_SenseKin ?_
  have hcon : ∃ K X A G, c = (K, X, A, G) := ⟨c.1, c.2.1, c.2.2.1, c.2.2.2, rfl⟩
  obtain ⟨K, X, A, C, rfl⟩ := hcon
  simp +contextual -implicitDefEqProofs (maxSteps := 1000000) only [c_law11_SenseKin, eCon, eIs, sm, sn, sxx, seval]
  refine callA_rule law11_alive (wkL_refl _) rfl ?_
  simp +contextual -implicitDefEqProofs (maxSteps := 1000000) only [sm, sn, sxx, seval, eCon, eIs]
  refine callA_rule (law11_Fits (K, X, A, C) a) (by simp +contextual -implicitDefEqProofs (maxSteps := 1000000) only [sm, sn, sxx, seval, eCon, eIs]) rfl ?_
  cases hFt : fits11 (K, X, A, C) a
  · simp +contextual -implicitDefEqProofs (maxSteps := 1000000) only [sm, sn, sxx, seval]
  obtain ⟨s1, s2, s3⟩ := fits11_facts hFt
  simp only at s1 s2
  by_cases k1 : K < 4
  · simp +contextual -implicitDefEqProofs (maxSteps := 1000000) only [sm, sn, sxx, seval, k1]
  by_cases k2 : 6 < K
  · simp +contextual -implicitDefEqProofs (maxSteps := 1000000) only [sm, sn, sxx, seval, k1, k2]
  simp +contextual -implicitDefEqProofs (maxSteps := 1000000) only [sm, sn, sxx, seval, k1, k2]
  refine callV_rule (ref11_Asked (K, X, A, C) a (by simp only; omega) (by simp only; omega) (by omega)) (by simp +contextual -implicitDefEqProofs (maxSteps := 1000000) only [sm, sn, sxx, seval, eCon, eIs]) rfl ?_
  cases hask : askdB (K, X, A, C) a
  · simp +contextual -implicitDefEqProofs (maxSteps := 1000000) only [sm, sn, sxx, seval]
  have hK : 4 ≤ K ∧ K ≤ 6 := by omega
  obtain ⟨q1, q2, q3⟩ := kin_facts (c := (K, X, A, C)) hK hask
  obtain ⟨f1, f2, f3, f4, f5, f6, f7, f8⟩ := askd_facts hask
  simp only at q1 q2 q3 f3
  have hVl : (valsOf X a).length = X.length := vals_len X a
  have hH := kin_holds (X := X) (C := C) hK (show (valsOf X a).length = A.length + 1 by omega) q2
  have hx0 : ¬ ((X.length : Int) = 0) := by omega
  have w1 : IntKind.i64.wrap ((X.length : Int) - 1) = ((X.length - 1 : Nat) : Int) := by rw [wrap_i64] <;> omega
  have hle1 : X.length - 1 ≤ X.length := by omega
  have ht : List.take (X.length - 1) (X.map eI) = (X.take (X.length - 1)).map eI := by rw [List.map_take]
  have hlx := xat_get (X := X) (i := X.length - 1) (by omega)
  obtain ⟨p0, p1⟩ := f3 _ (List.mem_of_getElem? hlx)
  have hav : a[(xat X (X.length - 1)).toNat]? = some (lastV (valsOf X a)) := by
    have h1 := vals_get (a := a) hlx
    have h2 : lastV (valsOf X a) = xat a (xat X (X.length - 1)).toNat := by
      unfold lastV
      rw [hVl]
      unfold xat at h1 ⊢
      rw [h1]
      rfl
    rw [h2]
    exact xat_get (by omega)
  have hV' : (valsOf X a).take ((valsOf X a).length - 1) = valsOf (X.take (X.length - 1)) a := by rw [vals_take, hVl]
  rw [hV'] at hH
  have hA1 := q3 (if K = 4 then 1 else 2) (by split <;> simp)
  have hP := sense_Holds0 (if K = 4 then 1 else 2, X.take (X.length - 1), A, C) a (by simp only; omega) (by simp only [List.length_take]; omega) (by omega) (fun h => absurd h (by simp only; split <;> decide))
  have hQ := sense_Holds0 (K, X, A, C) a (by simp only; omega) (by simp only; omega) (by omega) (fun h => absurd h (by simp only; omega))
  rw [hask, Bool.true_and, hH] at hQ
  simp only at hP
  rw [hA1, Bool.true_and] at hP
  generalize holdsB (if K = 4 then 1 else 2, X.take (X.length - 1), A, C) (valsOf (X.take (X.length - 1)) a) = pl at hP hQ
  generalize lastV (valsOf X a) = f at q2 hav hQ
  generalize xat X (X.length - 1) = x at hlx p0 p1 hav
  by_cases k4 : K = 4
  · subst k4
    rw [if_pos rfl] at hP
    simp only [show ¬ ((4 : Int) = 6) by decide, if_false] at hQ
    simp +contextual -implicitDefEqProofs (maxSteps := 1000000) only [sm, sn, sxx, seval, eCon, eIs, hx0, w1, hle1, ht, Nat.zero_le]
    refine callV_rule hP (by simp +contextual -implicitDefEqProofs (maxSteps := 1000000) only [sm, sn, sxx, seval, eCon, eIs]) rfl ?_
    simp +contextual -implicitDefEqProofs (maxSteps := 1000000) only [sm, sn, sxx, seval, eCon, eIs]
    refine callV_rule hQ (by simp +contextual -implicitDefEqProofs (maxSteps := 1000000) only [sm, sn, sxx, seval, eCon, eIs]) rfl ?_
    rcases q2 with hf | hf <;> rw [hf] at hav ⊢
    · rw [if_neg (by decide)]
      simp +contextual -implicitDefEqProofs (maxSteps := 1000000) only [sm, sn, sxx, seval, hlx, p0, p1, hav]
      cases pl <;> rfl
    · rw [if_pos rfl]
      simp +contextual -implicitDefEqProofs (maxSteps := 1000000) only [sm, sn, sxx, seval, hlx, p0, p1, hav]
      cases pl <;> rfl
  · rw [if_neg k4] at hP
    simp +contextual -implicitDefEqProofs (maxSteps := 1000000) only [sm, sn, sxx, seval, eCon, eIs, hx0, w1, hle1, ht, Nat.zero_le, k4]
    refine callV_rule hP (by simp +contextual -implicitDefEqProofs (maxSteps := 1000000) only [sm, sn, sxx, seval, eCon, eIs]) rfl ?_
    simp +contextual -implicitDefEqProofs (maxSteps := 1000000) only [sm, sn, sxx, seval, eCon, eIs]
    refine callV_rule hQ (by simp +contextual -implicitDefEqProofs (maxSteps := 1000000) only [sm, sn, sxx, seval, eCon, eIs]) rfl ?_
    rcases q2 with hf | hf <;> rw [hf] at hav ⊢
    · rw [if_neg (by decide)]
      by_cases k6 : K = 6
      · rw [if_pos k6]
        simp +contextual -implicitDefEqProofs (maxSteps := 1000000) only [sm, sn, sxx, seval, hlx, p0, p1, hav, k6]
        try (cases pl <;> rfl)
      · rw [if_neg k6]
        simp +contextual -implicitDefEqProofs (maxSteps := 1000000) only [sm, sn, sxx, seval, hlx, p0, p1, hav, k6]
        cases pl <;> rfl
    · rw [if_pos rfl]
      simp +contextual -implicitDefEqProofs (maxSteps := 1000000) only [sm, sn, sxx, seval, hlx, p0, p1, hav]
      cases pl <;> rfl
end Go.Proofs.Ytfcphijidcfboaa
