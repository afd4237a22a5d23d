/- ref11: Sum, All, Better. -/
import Derived.Test.YtfcphijidcfboaaWSense3
import Derived.Test.YtfcphijidcfboaaGRef11
import Derived.Test.YtfcphijidcfboaaGRef09
import Derived.Test.YtfcphijidcfboaaCRef11S
namespace Go.Proofs.Ytfcphijidcfboaa
open Av
attribute [local irreducible] awp awpOpers
set_option linter.unusedSimpArgs false
set_option linter.unusedVariables false
set_option maxRecDepth 100000
set_option maxHeartbeats 4000000
theorem ref11_Sum (c : Con) (a : List Int) (hA : c.2.2.1.length ≤ 1000000000000) (hX : c.2.1.length ≤ 1000000000000) (ha : a.length ≤ 1000000000000) :
    Ctr Try.prog 30 [eCon c, eIs a] [] (if askdB c a && decide (1 ≤ c.1) && decide (c.1 ≤ 6) then .tuple [.int .i64 (sumN c.2.2.1 (valsOf c.2.1 a) c.2.2.1.length), .bool true] else .tuple [.int .i64 0, .bool false]) [] := by
  refine call_pure Try.func30 Try.call30 e_ref11_Sum ?_
  obtain ⟨K, X, A, C⟩ := c
  simp only at hA hX
  simp +contextual -implicitDefEqProofs (maxSteps := 1000000) only [c_ref11_Sum, eCon, eIs, sm, sn, sxx, seval]
  refine callA_rule (ref11_linear K) (wkL_refl _) rfl ?_
  by_cases k1 : 1 ≤ K
  rotate_left
  · rw [decide_eq_false k1]
    simp only [Bool.false_and, Bool.and_false, Bool.false_eq_true, if_false]
    simp +contextual -implicitDefEqProofs (maxSteps := 1000000) only [sm, sn, sxx, seval]
  by_cases k2 : K ≤ 6
  rotate_left
  · rw [decide_eq_false k2]
    simp only [Bool.false_and, Bool.and_false, Bool.false_eq_true, if_false]
    simp +contextual -implicitDefEqProofs (maxSteps := 1000000) only [sm, sn, sxx, seval]
  rw [decide_eq_true k1, decide_eq_true k2]
  simp +contextual -implicitDefEqProofs (maxSteps := 1000000) only [sm, sn, sxx, seval]
  refine callA_rule (ref11_Asked (K, X, A, C) a hA hX ha) (by simp +contextual -implicitDefEqProofs (maxSteps := 1000000) only [sm, sn, sxx, seval, eCon, eIs]) rfl ?_
  cases hask : askdB (K, X, A, C) a
  · simp +contextual -implicitDefEqProofs (maxSteps := 1000000) only [sm, sn, sxx, seval]
  obtain ⟨f1, f2, f3, f4, f5, f6, f7, f8⟩ := askd_facts hask
  simp only at f1 f2 f3 f4 f5 f6 f7 f8
  have hVl : (valsOf X a).length = X.length := vals_len X a
  have hAV : A.length ≤ X.length := by
    have : K = 1 ∨ K = 2 ∨ K = 3 ∨ K = 4 ∨ K = 5 ∨ K = 6 := by omega
    rcases this with rfl | rfl | rfl | rfl | rfl | rfl <;> (simp [countsB, shp] at f7; omega)
  simp +contextual -implicitDefEqProofs (maxSteps := 1000000) only [sm, sn, sxx, seval]
  refine callA_rule (ref11_values (K, X, A, C) a hX f3) (by simp +contextual -implicitDefEqProofs (maxSteps := 1000000) only [sm, sn, sxx, seval, eCon, eIs]) rfl ?_
  simp +contextual -implicitDefEqProofs (maxSteps := 1000000) only [sm, sn, sxx, seval, eIs]
  refine callA_rule (ref11_sum (K, X, A, C) (valsOf X a) f1 (by simp only; omega) f5 f4) (by simp +contextual -implicitDefEqProofs (maxSteps := 1000000) only [sm, sn, sxx, seval, eCon, eIs]) rfl ?_
  simp +contextual -implicitDefEqProofs (maxSteps := 1000000) only [sm, sn, sxx, seval]
end Go.Proofs.Ytfcphijidcfboaa
