/- SenseHolds. -/
import Derived.Test.YtfcphijidcfboaaWLaw11
import Derived.Test.YtfcphijidcfboaaWSenseU
import Derived.Test.YtfcphijidcfboaaWSenseR
namespace Go.Proofs.Ytfcphijidcfboaa
open Av
attribute [local irreducible] awp awpOpers
set_option linter.unusedSimpArgs false
set_option linter.unusedVariables false
set_option maxRecDepth 100000
set_option maxHeartbeats 4000000
theorem law_SenseHolds (c : Con) (a : List Int) : Ctr Try.prog 8 [eCon c, eIs a] [] (.bool true) [] := by
  refine call_pure Try.func8 Try.call8 e_law11_SenseHolds ?_
  have hcon : ∃ K X A G, c = (K, X, A, G) := ⟨c.1, c.2.1, c.2.2.1, c.2.2.2, rfl⟩
  obtain ⟨K, X, A, C, rfl⟩ := hcon
  simp +contextual -implicitDefEqProofs (maxSteps := 1000000) only [c_law11_SenseHolds, eCon, eIs, sm, sn, sxx, seval]
  refine callA_rule law11_alive (wkL_refl _) rfl ?_
  simp +contextual -implicitDefEqProofs (maxSteps := 1000000) only [sm, sn, sxx, seval, eCon, eIs]
  refine callA_rule (law11_Fits (K, X, A, C) a) (by simp +contextual -implicitDefEqProofs (maxSteps := 1000000) only [sm, sn, sxx, seval, eCon, eIs]) rfl ?_
  cases hFt : fits11 (K, X, A, C) a
  · simp +contextual -implicitDefEqProofs (maxSteps := 1000000) only [sm, sn, sxx, seval]
  obtain ⟨s1, s2, s3⟩ := fits11_facts hFt
  simp only at s1 s2
  have h1 := sense_Sum (K, X, A, C) a (by simp only; omega) (by simp only; omega) (by omega)
  have h2 := ref11_Sum (K, X, A, C) a (by simp only; omega) (by simp only; omega) (by omega)
  have h3 := sense_Holds (K, X, A, C) a (by simp only; omega) (by simp only; omega) (by omega)
  have h4 := ref11_HoldsA (K, X, A, C) a (by simp only; omega) (by simp only; omega) (by omega)
  generalize (askdB (K, X, A, C) a && holdsB (K, X, A, C) (valsOf (K, X, A, C).2.1 a)) = hb at h3 h4
  obtain ⟨n, p, hnp⟩ : ∃ n p, (if askdB (K, X, A, C) a && decide (1 ≤ (K, X, A, C).1) && decide ((K, X, A, C).1 ≤ 6) then AV.tuple [.int .i64 (sumN (K, X, A, C).2.2.1 (valsOf (K, X, A, C).2.1 a) (K, X, A, C).2.2.1.length), .bool true] else .tuple [.int .i64 0, .bool false]) = .tuple [.int .i64 n, .bool p] := by
    split
    · exact ⟨_, _, rfl⟩
    · exact ⟨_, _, rfl⟩
  rw [hnp] at h1 h2
  simp +contextual -implicitDefEqProofs (maxSteps := 1000000) only [sm, sn, sxx, seval]
  refine callA_rule h1 (by simp +contextual -implicitDefEqProofs (maxSteps := 1000000) only [sm, sn, sxx, seval, eCon, eIs]) rfl ?_
  simp +contextual -implicitDefEqProofs (maxSteps := 1000000) only [sm, sn, sxx, seval]
  refine callA_rule h2 (by simp +contextual -implicitDefEqProofs (maxSteps := 1000000) only [sm, sn, sxx, seval, eCon, eIs]) rfl ?_
  simp +contextual -implicitDefEqProofs (maxSteps := 1000000) only [sm, sn, sxx, seval]
  refine callV_rule h3 (by simp +contextual -implicitDefEqProofs (maxSteps := 1000000) only [sm, sn, sxx, seval, eCon, eIs]) rfl ?_
  simp +contextual -implicitDefEqProofs (maxSteps := 1000000) only [sm, sn, sxx, seval]
  refine callA_rule h4 (by simp +contextual -implicitDefEqProofs (maxSteps := 1000000) only [sm, sn, sxx, seval, eCon, eIs]) rfl ?_
  cases hb <;> cases p <;> simp +contextual -implicitDefEqProofs (maxSteps := 1000000) only [sm, sn, sxx, seval, beq_tt, beq_ff]
end Go.Proofs.Ytfcphijidcfboaa
