/- What Floor, Ceil of package touchstoneref01 and Keep, KeepIs, KeepNot, Empty of package touchstoneref12 compute. -/
import Derived.Test.YtbhigfllanblpaaGLinLaw
import Derived.Test.YtbhigfllanblpaaPlArith
import Derived.Test.YtbhigfllanblpaaCRef01
import Derived.Test.YtbhigfllanblpaaCRef12k
namespace Go.Proofs.Ytbhigfllanblpaa
open Av
attribute [local irreducible] awp awpOpers
set_option linter.unusedSimpArgs false
set_option linter.unusedVariables false
set_option maxRecDepth 100000
set_option maxHeartbeats 4000000
theorem ref01_Floor (a b : Int) (ha : -1000000000000000 ≤ a ∧ a ≤ 1000000000000000) (hb : ¬ b = 0) : Ctr Try.prog 147 [.int .i64 a, .int .i64 b] [] (.tuple [.int .i64 (flr a b), .int .i64 0]) [] := by
  refine call_pure Try.func147 Try.call147 e_ref01_Floor ?_
  have hm : ¬ a = -9223372036854775808 := by omega
  have hq := tdiv_small (a := b) ha
  have w1 : IntKind.i64.wrap (a.tdiv b) = a.tdiv b := by rw [wrap_i64] <;> omega
  have w2 : IntKind.i64.wrap (a.tdiv b - 1) = a.tdiv b - 1 := by rw [wrap_i64] <;> omega
  by_cases h1 : a.tmod b = 0
  · have hv : flr a b = a.tdiv b := by unfold flr; rw [if_neg (by simp [h1])]
    rw [hv]
    simp +contextual -implicitDefEqProofs (maxSteps := 1000000) only [c_ref01_Floor, sm, sn, seval, hb, hm, w1, h1]
  · by_cases h2 : a < 0 <;> by_cases h3 : b < 0
    · have hv : flr a b = a.tdiv b := by unfold flr; simp [h1, h2, h3]
      rw [hv]
      simp +contextual -implicitDefEqProofs (maxSteps := 1000000) only [c_ref01_Floor, sm, sn, seval, hb, hm, w1, w2, h1, h2, h3]
      try simp
    · have hv : flr a b = a.tdiv b - 1 := by unfold flr; simp [h1, h2, h3]
      rw [hv]
      simp +contextual -implicitDefEqProofs (maxSteps := 1000000) only [c_ref01_Floor, sm, sn, seval, hb, hm, w1, w2, h1, h2, h3]
      try simp
    · have hv : flr a b = a.tdiv b - 1 := by unfold flr; simp [h1, h2, h3]
      rw [hv]
      simp +contextual -implicitDefEqProofs (maxSteps := 1000000) only [c_ref01_Floor, sm, sn, seval, hb, hm, w1, w2, h1, h2, h3]
      try simp
    · have hv : flr a b = a.tdiv b := by unfold flr; simp [h1, h2, h3]
      rw [hv]
      simp +contextual -implicitDefEqProofs (maxSteps := 1000000) only [c_ref01_Floor, sm, sn, seval, hb, hm, w1, w2, h1, h2, h3]
      try simp
theorem ref01_Ceil (a b : Int) (ha : -1000000000000000 ≤ a ∧ a ≤ 1000000000000000) (hb : ¬ b = 0) : Ctr Try.prog 157 [.int .i64 a, .int .i64 b] [] (.tuple [.int .i64 (cel a b), .int .i64 0]) [] := by
  refine call_pure Try.func157 Try.call157 e_ref01_Ceil ?_
  have hm : ¬ a = -9223372036854775808 := by omega
  have hq := tdiv_small (a := b) ha
  have w1 : IntKind.i64.wrap (a.tdiv b) = a.tdiv b := by rw [wrap_i64] <;> omega
  have w2 : IntKind.i64.wrap (a.tdiv b + 1) = a.tdiv b + 1 := by rw [wrap_i64] <;> omega
  by_cases h1 : a.tmod b = 0
  · have hv : cel a b = a.tdiv b := by unfold cel; rw [if_neg (by simp [h1])]
    rw [hv]
    simp +contextual -implicitDefEqProofs (maxSteps := 1000000) only [c_ref01_Ceil, sm, sn, seval, hb, hm, w1, h1]
  · by_cases h2 : a < 0 <;> by_cases h3 : b < 0
    · have hv : cel a b = a.tdiv b + 1 := by unfold cel; simp [h1, h2, h3]
      rw [hv]
      simp +contextual -implicitDefEqProofs (maxSteps := 1000000) only [c_ref01_Ceil, sm, sn, seval, hb, hm, w1, w2, h1, h2, h3]
      try simp
    · have hv : cel a b = a.tdiv b := by unfold cel; simp [h1, h2, h3]
      rw [hv]
      simp +contextual -implicitDefEqProofs (maxSteps := 1000000) only [c_ref01_Ceil, sm, sn, seval, hb, hm, w1, w2, h1, h2, h3]
      try simp
    · have hv : cel a b = a.tdiv b := by unfold cel; simp [h1, h2, h3]
      rw [hv]
      simp +contextual -implicitDefEqProofs (maxSteps := 1000000) only [c_ref01_Ceil, sm, sn, seval, hb, hm, w1, w2, h1, h2, h3]
      try simp
    · have hv : cel a b = a.tdiv b + 1 := by unfold cel; simp [h1, h2, h3]
      rw [hv]
      simp +contextual -implicitDefEqProofs (maxSteps := 1000000) only [c_ref01_Ceil, sm, sn, seval, hb, hm, w1, w2, h1, h2, h3]
      try simp
end Go.Proofs.Ytbhigfllanblpaa
