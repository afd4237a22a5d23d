/- What the steps of package touchstoneref14 compute, continued: times, lesser, greater, size, same. -/
import Derived.Test.YtbhigfllanblpaaWRef14
namespace Go.Proofs.Ytbhigfllanblpaa
open Av
attribute [local irreducible] awp awpOpers
set_option linter.unusedSimpArgs false
set_option linter.unusedVariables false
set_option maxRecDepth 100000
set_option maxHeartbeats 4000000
theorem ref14_lesser (n : Nat) (s : Sd) (x y z : Int) (hs : RS n s) (hx : 0 ≤ x ∧ x < n) (hy : 0 ≤ y ∧ y < n) (hz : 0 ≤ z ∧ z < n) : Ctr Try.prog 70 [eSt s, .int .i64 x, .int .i64 y, .int .i64 z] [] (eSt (rlesser s x y z)) [] := by
  refine call_pure Try.func70 Try.call70 e_ref14_lesser ?_
  have c1 : Ctr Try.prog 123 [eSt s, .int .i64 z, .int .i64 (min (rlo s x) (rlo s y)), .int .i64 (min (rhi s x) (rhi s y))] [] (eSt (rl1 s x y z)) [] := ref14_cut n s z _ _ hs hz
  have hs1 : RS n (rl1 s x y z) := rs_cut _ _ hs hz
  unfold rlesser
  generalize rl1 s x y z = s1 at c1 hs1 ⊢
  have c2 : Ctr Try.prog 123 [eSt s1, .int .i64 x, .int .i64 (rlo s1 z), .int .i64 (1099511627776)] [] (eSt (rl2 s1 x z)) [] := ref14_cut n s1 x _ _ hs1 hx
  have hs2 : RS n (rl2 s1 x z) := rs_cut _ _ hs1 hx
  generalize rl2 s1 x z = s2 at c2 hs2 ⊢
  have c3 : Ctr Try.prog 123 [eSt s2, .int .i64 y, .int .i64 (rlo s2 z), .int .i64 (1099511627776)] [] (eSt (rl2 s2 y z)) [] := ref14_cut n s2 y _ _ hs2 hy
  have hs3 : RS n (rl2 s2 y z) := rs_cut _ _ hs2 hy
  generalize rl2 s2 y z = s3 at c3 hs3 ⊢
  simp +contextual -implicitDefEqProofs (maxSteps := 1000000) only [c_ref14_lesser, eSt, eDoms, eRgs, sm, sn, seval]
  refine callA_rule (ref14_lo n s x hs hx) (by simp +contextual -implicitDefEqProofs (maxSteps := 1000000) only [sm, sn, seval, eSt, eDoms, eRgs]) rfl ?_
  simp +contextual -implicitDefEqProofs (maxSteps := 1000000) only [sm, sn, seval, eSt, eDoms, eRgs]
  refine callA_rule (ref14_lo n s y hs hy) (by simp +contextual -implicitDefEqProofs (maxSteps := 1000000) only [sm, sn, seval, eSt, eDoms, eRgs]) rfl ?_
  simp +contextual -implicitDefEqProofs (maxSteps := 1000000) only [sm, sn, seval, eSt, eDoms, eRgs]
  refine callA_rule (ref14_hi n s x hs hx) (by simp +contextual -implicitDefEqProofs (maxSteps := 1000000) only [sm, sn, seval, eSt, eDoms, eRgs]) rfl ?_
  simp +contextual -implicitDefEqProofs (maxSteps := 1000000) only [sm, sn, seval, eSt, eDoms, eRgs]
  refine callA_rule (ref14_hi n s y hs hy) (by simp +contextual -implicitDefEqProofs (maxSteps := 1000000) only [sm, sn, seval, eSt, eDoms, eRgs]) rfl ?_
  simp +contextual -implicitDefEqProofs (maxSteps := 1000000) only [sm, sn, seval, eSt, eDoms, eRgs]
  refine callA_rule (c1) (by simp +contextual -implicitDefEqProofs (maxSteps := 1000000) only [sm, sn, seval, eSt, eDoms, eRgs]) rfl ?_
  simp +contextual -implicitDefEqProofs (maxSteps := 1000000) only [sm, sn, seval, eSt, eDoms, eRgs]
  refine callA_rule (ref14_lo n s1 z hs1 hz) (by simp +contextual -implicitDefEqProofs (maxSteps := 1000000) only [sm, sn, seval, eSt, eDoms, eRgs]) rfl ?_
  simp +contextual -implicitDefEqProofs (maxSteps := 1000000) only [sm, sn, seval, eSt, eDoms, eRgs]
  refine callA_rule (c2) (by simp +contextual -implicitDefEqProofs (maxSteps := 1000000) only [sm, sn, seval, eSt, eDoms, eRgs]) rfl ?_
  simp +contextual -implicitDefEqProofs (maxSteps := 1000000) only [sm, sn, seval, eSt, eDoms, eRgs]
  refine callA_rule (ref14_lo n s2 z hs2 hz) (by simp +contextual -implicitDefEqProofs (maxSteps := 1000000) only [sm, sn, seval, eSt, eDoms, eRgs]) rfl ?_
  simp +contextual -implicitDefEqProofs (maxSteps := 1000000) only [sm, sn, seval, eSt, eDoms, eRgs]
  refine callA_rule (c3) (by simp +contextual -implicitDefEqProofs (maxSteps := 1000000) only [sm, sn, seval, eSt, eDoms, eRgs]) rfl ?_
  simp +contextual -implicitDefEqProofs (maxSteps := 1000000) only [sm, sn, seval, eSt, eDoms, eRgs]
  refine callA_rule (ref14_lo n s3 x hs3 hx) (by simp +contextual -implicitDefEqProofs (maxSteps := 1000000) only [sm, sn, seval, eSt, eDoms, eRgs]) rfl ?_
  simp +contextual -implicitDefEqProofs (maxSteps := 1000000) only [sm, sn, seval, eSt, eDoms, eRgs]
  refine callA_rule (ref14_hi n s3 z hs3 hz) (by simp +contextual -implicitDefEqProofs (maxSteps := 1000000) only [sm, sn, seval, eSt, eDoms, eRgs]) rfl ?_
  simp +contextual -implicitDefEqProofs (maxSteps := 1000000) only [sm, sn, seval, eSt, eDoms, eRgs]
  by_cases k_s4 : rhi s3 z < rlo s3 x
  · have e : rcap s3 x y z = rcut s3 y (-1099511627776) (rhi s3 z) := if_pos k_s4
    rw [e]
    have c_s4 : Ctr Try.prog 123 [eSt s3, .int .i64 y, .int .i64 (-1099511627776), .int .i64 (rhi s3 z)] [] (eSt (rcut s3 y (-1099511627776) (rhi s3 z))) [] := ref14_cut n s3 y _ _ hs3 hy
    have hs4 : RS n (rcut s3 y (-1099511627776) (rhi s3 z)) := rs_cut _ _ hs3 hy
    generalize rcut s3 y (-1099511627776) (rhi s3 z) = s4 at c_s4 hs4 e ⊢
    simp +contextual -implicitDefEqProofs (maxSteps := 1000000) only [sm, sn, seval, eSt, eDoms, eRgs, k_s4]
    refine callA_rule (ref14_hi n s3 z hs3 hz) (by simp +contextual -implicitDefEqProofs (maxSteps := 1000000) only [sm, sn, seval, eSt, eDoms, eRgs]) rfl ?_
    simp +contextual -implicitDefEqProofs (maxSteps := 1000000) only [sm, sn, seval, eSt, eDoms, eRgs]
    refine callA_rule (c_s4) (by simp +contextual -implicitDefEqProofs (maxSteps := 1000000) only [sm, sn, seval, eSt, eDoms, eRgs]) rfl ?_
    simp +contextual -implicitDefEqProofs (maxSteps := 1000000) only [sm, sn, seval, eSt, eDoms, eRgs]
    refine callA_rule (ref14_lo n s4 y hs4 hy) (by simp +contextual -implicitDefEqProofs (maxSteps := 1000000) only [sm, sn, seval, eSt, eDoms, eRgs]) rfl ?_
    simp +contextual -implicitDefEqProofs (maxSteps := 1000000) only [sm, sn, seval, eSt, eDoms, eRgs]
    refine callA_rule (ref14_hi n s4 z hs4 hz) (by simp +contextual -implicitDefEqProofs (maxSteps := 1000000) only [sm, sn, seval, eSt, eDoms, eRgs]) rfl ?_
    simp +contextual -implicitDefEqProofs (maxSteps := 1000000) only [sm, sn, seval, eSt, eDoms, eRgs]
    by_cases k_s5 : rhi s4 z < rlo s4 y
    · have e : rcap s4 y x z = rcut s4 x (-1099511627776) (rhi s4 z) := if_pos k_s5
      rw [e]
      have c_s5 : Ctr Try.prog 123 [eSt s4, .int .i64 x, .int .i64 (-1099511627776), .int .i64 (rhi s4 z)] [] (eSt (rcut s4 x (-1099511627776) (rhi s4 z))) [] := ref14_cut n s4 x _ _ hs4 hx
      have hs5 : RS n (rcut s4 x (-1099511627776) (rhi s4 z)) := rs_cut _ _ hs4 hx
      generalize rcut s4 x (-1099511627776) (rhi s4 z) = s5 at c_s5 hs5 e ⊢
      simp +contextual -implicitDefEqProofs (maxSteps := 1000000) only [sm, sn, seval, eSt, eDoms, eRgs, k_s5]
      refine callA_rule (ref14_hi n s4 z hs4 hz) (by simp +contextual -implicitDefEqProofs (maxSteps := 1000000) only [sm, sn, seval, eSt, eDoms, eRgs]) rfl ?_
      simp +contextual -implicitDefEqProofs (maxSteps := 1000000) only [sm, sn, seval, eSt, eDoms, eRgs]
      refine callA_rule (c_s5) (by simp +contextual -implicitDefEqProofs (maxSteps := 1000000) only [sm, sn, seval, eSt, eDoms, eRgs]) rfl ?_
      simp +contextual -implicitDefEqProofs (maxSteps := 1000000) only [sm, sn, seval, eSt, eDoms, eRgs]
    · have e : rcap s4 y x z = s4 := if_neg k_s5
      rw [e]
      simp +contextual -implicitDefEqProofs (maxSteps := 1000000) only [sm, sn, seval, eSt, eDoms, eRgs, k_s5]
  · have e : rcap s3 x y z = s3 := if_neg k_s4
    rw [e]
    simp +contextual -implicitDefEqProofs (maxSteps := 1000000) only [sm, sn, seval, eSt, eDoms, eRgs, k_s4]
    refine callA_rule (ref14_lo n s3 y hs3 hy) (by simp +contextual -implicitDefEqProofs (maxSteps := 1000000) only [sm, sn, seval, eSt, eDoms, eRgs]) rfl ?_
    simp +contextual -implicitDefEqProofs (maxSteps := 1000000) only [sm, sn, seval, eSt, eDoms, eRgs]
    refine callA_rule (ref14_hi n s3 z hs3 hz) (by simp +contextual -implicitDefEqProofs (maxSteps := 1000000) only [sm, sn, seval, eSt, eDoms, eRgs]) rfl ?_
    simp +contextual -implicitDefEqProofs (maxSteps := 1000000) only [sm, sn, seval, eSt, eDoms, eRgs]
    by_cases k_s5 : rhi s3 z < rlo s3 y
    · have e : rcap s3 y x z = rcut s3 x (-1099511627776) (rhi s3 z) := if_pos k_s5
      rw [e]
      have c_s5 : Ctr Try.prog 123 [eSt s3, .int .i64 x, .int .i64 (-1099511627776), .int .i64 (rhi s3 z)] [] (eSt (rcut s3 x (-1099511627776) (rhi s3 z))) [] := ref14_cut n s3 x _ _ hs3 hx
      have hs5 : RS n (rcut s3 x (-1099511627776) (rhi s3 z)) := rs_cut _ _ hs3 hx
      generalize rcut s3 x (-1099511627776) (rhi s3 z) = s5 at c_s5 hs5 e ⊢
      simp +contextual -implicitDefEqProofs (maxSteps := 1000000) only [sm, sn, seval, eSt, eDoms, eRgs, k_s5]
      refine callA_rule (ref14_hi n s3 z hs3 hz) (by simp +contextual -implicitDefEqProofs (maxSteps := 1000000) only [sm, sn, seval, eSt, eDoms, eRgs]) rfl ?_
      simp +contextual -implicitDefEqProofs (maxSteps := 1000000) only [sm, sn, seval, eSt, eDoms, eRgs]
      refine callA_rule (c_s5) (by simp +contextual -implicitDefEqProofs (maxSteps := 1000000) only [sm, sn, seval, eSt, eDoms, eRgs]) rfl ?_
      simp +contextual -implicitDefEqProofs (maxSteps := 1000000) only [sm, sn, seval, eSt, eDoms, eRgs]
    · have e : rcap s3 y x z = s3 := if_neg k_s5
      rw [e]
      simp +contextual -implicitDefEqProofs (maxSteps := 1000000) only [sm, sn, seval, eSt, eDoms, eRgs, k_s5]
theorem ref14_greater (n : Nat) (s : Sd) (x y z : Int) (hs : RS n s) (hx : 0 ≤ x ∧ x < n) (hy : 0 ≤ y ∧ y < n) (hz : 0 ≤ z ∧ z < n) : Ctr Try.prog 71 [eSt s, .int .i64 x, .int .i64 y, .int .i64 z] [] (eSt (rgreater s x y z)) [] := by
  refine call_pure Try.func71 Try.call71 e_ref14_greater ?_
  have c1 : Ctr Try.prog 123 [eSt s, .int .i64 z, .int .i64 (max (rlo s x) (rlo s y)), .int .i64 (max (rhi s x) (rhi s y))] [] (eSt (rg1 s x y z)) [] := ref14_cut n s z _ _ hs hz
  have hs1 : RS n (rg1 s x y z) := rs_cut _ _ hs hz
  unfold rgreater
  generalize rg1 s x y z = s1 at c1 hs1 ⊢
  have c2 : Ctr Try.prog 123 [eSt s1, .int .i64 x, .int .i64 (-1099511627776), .int .i64 (rhi s1 z)] [] (eSt (rg2 s1 x z)) [] := ref14_cut n s1 x _ _ hs1 hx
  have hs2 : RS n (rg2 s1 x z) := rs_cut _ _ hs1 hx
  generalize rg2 s1 x z = s2 at c2 hs2 ⊢
  have c3 : Ctr Try.prog 123 [eSt s2, .int .i64 y, .int .i64 (-1099511627776), .int .i64 (rhi s2 z)] [] (eSt (rg2 s2 y z)) [] := ref14_cut n s2 y _ _ hs2 hy
  have hs3 : RS n (rg2 s2 y z) := rs_cut _ _ hs2 hy
  generalize rg2 s2 y z = s3 at c3 hs3 ⊢
  simp +contextual -implicitDefEqProofs (maxSteps := 1000000) only [c_ref14_greater, eSt, eDoms, eRgs, sm, sn, seval]
  refine callA_rule (ref14_lo n s x hs hx) (by simp +contextual -implicitDefEqProofs (maxSteps := 1000000) only [sm, sn, seval, eSt, eDoms, eRgs]) rfl ?_
  simp +contextual -implicitDefEqProofs (maxSteps := 1000000) only [sm, sn, seval, eSt, eDoms, eRgs]
  refine callA_rule (ref14_lo n s y hs hy) (by simp +contextual -implicitDefEqProofs (maxSteps := 1000000) only [sm, sn, seval, eSt, eDoms, eRgs]) rfl ?_
  simp +contextual -implicitDefEqProofs (maxSteps := 1000000) only [sm, sn, seval, eSt, eDoms, eRgs]
  refine callA_rule (ref14_hi n s x hs hx) (by simp +contextual -implicitDefEqProofs (maxSteps := 1000000) only [sm, sn, seval, eSt, eDoms, eRgs]) rfl ?_
  simp +contextual -implicitDefEqProofs (maxSteps := 1000000) only [sm, sn, seval, eSt, eDoms, eRgs]
  refine callA_rule (ref14_hi n s y hs hy) (by simp +contextual -implicitDefEqProofs (maxSteps := 1000000) only [sm, sn, seval, eSt, eDoms, eRgs]) rfl ?_
  simp +contextual -implicitDefEqProofs (maxSteps := 1000000) only [sm, sn, seval, eSt, eDoms, eRgs]
  refine callA_rule (c1) (by simp +contextual -implicitDefEqProofs (maxSteps := 1000000) only [sm, sn, seval, eSt, eDoms, eRgs]) rfl ?_
  simp +contextual -implicitDefEqProofs (maxSteps := 1000000) only [sm, sn, seval, eSt, eDoms, eRgs]
  refine callA_rule (ref14_hi n s1 z hs1 hz) (by simp +contextual -implicitDefEqProofs (maxSteps := 1000000) only [sm, sn, seval, eSt, eDoms, eRgs]) rfl ?_
  simp +contextual -implicitDefEqProofs (maxSteps := 1000000) only [sm, sn, seval, eSt, eDoms, eRgs]
  refine callA_rule (c2) (by simp +contextual -implicitDefEqProofs (maxSteps := 1000000) only [sm, sn, seval, eSt, eDoms, eRgs]) rfl ?_
  simp +contextual -implicitDefEqProofs (maxSteps := 1000000) only [sm, sn, seval, eSt, eDoms, eRgs]
  refine callA_rule (ref14_hi n s2 z hs2 hz) (by simp +contextual -implicitDefEqProofs (maxSteps := 1000000) only [sm, sn, seval, eSt, eDoms, eRgs]) rfl ?_
  simp +contextual -implicitDefEqProofs (maxSteps := 1000000) only [sm, sn, seval, eSt, eDoms, eRgs]
  refine callA_rule (c3) (by simp +contextual -implicitDefEqProofs (maxSteps := 1000000) only [sm, sn, seval, eSt, eDoms, eRgs]) rfl ?_
  simp +contextual -implicitDefEqProofs (maxSteps := 1000000) only [sm, sn, seval, eSt, eDoms, eRgs]
  refine callA_rule (ref14_hi n s3 x hs3 hx) (by simp +contextual -implicitDefEqProofs (maxSteps := 1000000) only [sm, sn, seval, eSt, eDoms, eRgs]) rfl ?_
  simp +contextual -implicitDefEqProofs (maxSteps := 1000000) only [sm, sn, seval, eSt, eDoms, eRgs]
  refine callA_rule (ref14_lo n s3 z hs3 hz) (by simp +contextual -implicitDefEqProofs (maxSteps := 1000000) only [sm, sn, seval, eSt, eDoms, eRgs]) rfl ?_
  simp +contextual -implicitDefEqProofs (maxSteps := 1000000) only [sm, sn, seval, eSt, eDoms, eRgs]
  by_cases k_s4 : rhi s3 x < rlo s3 z
  · have e : rcup s3 x y z = rcut s3 y (rlo s3 z) 1099511627776 := if_pos k_s4
    rw [e]
    have c_s4 : Ctr Try.prog 123 [eSt s3, .int .i64 y, .int .i64 (rlo s3 z), .int .i64 (1099511627776)] [] (eSt (rcut s3 y (rlo s3 z) 1099511627776)) [] := ref14_cut n s3 y _ _ hs3 hy
    have hs4 : RS n (rcut s3 y (rlo s3 z) 1099511627776) := rs_cut _ _ hs3 hy
    generalize rcut s3 y (rlo s3 z) 1099511627776 = s4 at c_s4 hs4 e ⊢
    simp +contextual -implicitDefEqProofs (maxSteps := 1000000) only [sm, sn, seval, eSt, eDoms, eRgs, k_s4]
    refine callA_rule (ref14_lo n s3 z hs3 hz) (by simp +contextual -implicitDefEqProofs (maxSteps := 1000000) only [sm, sn, seval, eSt, eDoms, eRgs]) rfl ?_
    simp +contextual -implicitDefEqProofs (maxSteps := 1000000) only [sm, sn, seval, eSt, eDoms, eRgs]
    refine callA_rule (c_s4) (by simp +contextual -implicitDefEqProofs (maxSteps := 1000000) only [sm, sn, seval, eSt, eDoms, eRgs]) rfl ?_
    simp +contextual -implicitDefEqProofs (maxSteps := 1000000) only [sm, sn, seval, eSt, eDoms, eRgs]
    refine callA_rule (ref14_hi n s4 y hs4 hy) (by simp +contextual -implicitDefEqProofs (maxSteps := 1000000) only [sm, sn, seval, eSt, eDoms, eRgs]) rfl ?_
    simp +contextual -implicitDefEqProofs (maxSteps := 1000000) only [sm, sn, seval, eSt, eDoms, eRgs]
    refine callA_rule (ref14_lo n s4 z hs4 hz) (by simp +contextual -implicitDefEqProofs (maxSteps := 1000000) only [sm, sn, seval, eSt, eDoms, eRgs]) rfl ?_
    simp +contextual -implicitDefEqProofs (maxSteps := 1000000) only [sm, sn, seval, eSt, eDoms, eRgs]
    by_cases k_s5 : rhi s4 y < rlo s4 z
    · have e : rcup s4 y x z = rcut s4 x (rlo s4 z) 1099511627776 := if_pos k_s5
      rw [e]
      have c_s5 : Ctr Try.prog 123 [eSt s4, .int .i64 x, .int .i64 (rlo s4 z), .int .i64 (1099511627776)] [] (eSt (rcut s4 x (rlo s4 z) 1099511627776)) [] := ref14_cut n s4 x _ _ hs4 hx
      have hs5 : RS n (rcut s4 x (rlo s4 z) 1099511627776) := rs_cut _ _ hs4 hx
      generalize rcut s4 x (rlo s4 z) 1099511627776 = s5 at c_s5 hs5 e ⊢
      simp +contextual -implicitDefEqProofs (maxSteps := 1000000) only [sm, sn, seval, eSt, eDoms, eRgs, k_s5]
      refine callA_rule (ref14_lo n s4 z hs4 hz) (by simp +contextual -implicitDefEqProofs (maxSteps := 1000000) only [sm, sn, seval, eSt, eDoms, eRgs]) rfl ?_
      simp +contextual -implicitDefEqProofs (maxSteps := 1000000) only [sm, sn, seval, eSt, eDoms, eRgs]
      refine callA_rule (c_s5) (by simp +contextual -implicitDefEqProofs (maxSteps := 1000000) only [sm, sn, seval, eSt, eDoms, eRgs]) rfl ?_
      simp +contextual -implicitDefEqProofs (maxSteps := 1000000) only [sm, sn, seval, eSt, eDoms, eRgs]
    · have e : rcup s4 y x z = s4 := if_neg k_s5
      rw [e]
      simp +contextual -implicitDefEqProofs (maxSteps := 1000000) only [sm, sn, seval, eSt, eDoms, eRgs, k_s5]
  · have e : rcup s3 x y z = s3 := if_neg k_s4
    rw [e]
    simp +contextual -implicitDefEqProofs (maxSteps := 1000000) only [sm, sn, seval, eSt, eDoms, eRgs, k_s4]
    refine callA_rule (ref14_hi n s3 y hs3 hy) (by simp +contextual -implicitDefEqProofs (maxSteps := 1000000) only [sm, sn, seval, eSt, eDoms, eRgs]) rfl ?_
    simp +contextual -implicitDefEqProofs (maxSteps := 1000000) only [sm, sn, seval, eSt, eDoms, eRgs]
    refine callA_rule (ref14_lo n s3 z hs3 hz) (by simp +contextual -implicitDefEqProofs (maxSteps := 1000000) only [sm, sn, seval, eSt, eDoms, eRgs]) rfl ?_
    simp +contextual -implicitDefEqProofs (maxSteps := 1000000) only [sm, sn, seval, eSt, eDoms, eRgs]
    by_cases k_s5 : rhi s3 y < rlo s3 z
    · have e : rcup s3 y x z = rcut s3 x (rlo s3 z) 1099511627776 := if_pos k_s5
      rw [e]
      have c_s5 : Ctr Try.prog 123 [eSt s3, .int .i64 x, .int .i64 (rlo s3 z), .int .i64 (1099511627776)] [] (eSt (rcut s3 x (rlo s3 z) 1099511627776)) [] := ref14_cut n s3 x _ _ hs3 hx
      have hs5 : RS n (rcut s3 x (rlo s3 z) 1099511627776) := rs_cut _ _ hs3 hx
      generalize rcut s3 x (rlo s3 z) 1099511627776 = s5 at c_s5 hs5 e ⊢
      simp +contextual -implicitDefEqProofs (maxSteps := 1000000) only [sm, sn, seval, eSt, eDoms, eRgs, k_s5]
      refine callA_rule (ref14_lo n s3 z hs3 hz) (by simp +contextual -implicitDefEqProofs (maxSteps := 1000000) only [sm, sn, seval, eSt, eDoms, eRgs]) rfl ?_
      simp +contextual -implicitDefEqProofs (maxSteps := 1000000) only [sm, sn, seval, eSt, eDoms, eRgs]
      refine callA_rule (c_s5) (by simp +contextual -implicitDefEqProofs (maxSteps := 1000000) only [sm, sn, seval, eSt, eDoms, eRgs]) rfl ?_
      simp +contextual -implicitDefEqProofs (maxSteps := 1000000) only [sm, sn, seval, eSt, eDoms, eRgs]
    · have e : rcup s3 y x z = s3 := if_neg k_s5
      rw [e]
      simp +contextual -implicitDefEqProofs (maxSteps := 1000000) only [sm, sn, seval, eSt, eDoms, eRgs, k_s5]
theorem ref14_times (n : Nat) (s : Sd) (x y z : Int) (hs : RS n s) (hx : 0 ≤ x ∧ x < n) (hy : 0 ≤ y ∧ y < n) (hz : 0 ≤ z ∧ z < n) : Ctr Try.prog 69 [eSt s, .int .i64 x, .int .i64 y, .int .i64 z] [] (eSt (rtimes s x y z)) [] := by
  refine call_pure Try.func69 Try.call69 e_ref14_times ?_
  obtain ⟨x1, x2, x3⟩ := rl_facts hs hx
  obtain ⟨y1, y2, y3⟩ := rl_facts hs hy
  have w0 : IntKind.i64.wrap (rlo s x * rlo s y) = rlo s x * rlo s y := by
    have := mul_bound (a := rlo s x) (b := rlo s y) (by omega) (by omega)
    rw [wrap_i64] <;> omega
  have w1 : IntKind.i64.wrap (rlo s x * rhi s y) = rlo s x * rhi s y := by
    have := mul_bound (a := rlo s x) (b := rhi s y) (by omega) (by omega)
    rw [wrap_i64] <;> omega
  have w2 : IntKind.i64.wrap (rhi s x * rlo s y) = rhi s x * rlo s y := by
    have := mul_bound (a := rhi s x) (b := rlo s y) (by omega) (by omega)
    rw [wrap_i64] <;> omega
  have w3 : IntKind.i64.wrap (rhi s x * rhi s y) = rhi s x * rhi s y := by
    have := mul_bound (a := rhi s x) (b := rhi s y) (by omega) (by omega)
    rw [wrap_i64] <;> omega
  have c1 : Ctr Try.prog 123 [eSt s, .int .i64 z, .int .i64 (min (min (rlo s x * rlo s y) (rlo s x * rhi s y)) (min (rhi s x * rlo s y) (rhi s x * rhi s y))), .int .i64 (max (max (rlo s x * rlo s y) (rlo s x * rhi s y)) (max (rhi s x * rlo s y) (rhi s x * rhi s y)))] [] (eSt (rt1 s x y z)) [] := ref14_cut n s z _ _ hs hz
  have hs1 : RS n (rt1 s x y z) := rs_cut _ _ hs hz
  unfold rtimes
  generalize rt1 s x y z = s1 at c1 hs1 ⊢
  simp +contextual -implicitDefEqProofs (maxSteps := 1000000) only [c_ref14_times, eSt, eDoms, eRgs, sm, sn, seval]
  refine callA_rule (ref14_lo n s x hs hx) (by simp +contextual -implicitDefEqProofs (maxSteps := 1000000) only [sm, sn, seval, eSt, eDoms, eRgs]) rfl ?_
  simp +contextual -implicitDefEqProofs (maxSteps := 1000000) only [sm, sn, seval, eSt, eDoms, eRgs]
  refine callA_rule (ref14_lo n s y hs hy) (by simp +contextual -implicitDefEqProofs (maxSteps := 1000000) only [sm, sn, seval, eSt, eDoms, eRgs]) rfl ?_
  simp +contextual -implicitDefEqProofs (maxSteps := 1000000) only [sm, sn, seval, eSt, eDoms, eRgs, w0]
  refine callA_rule (ref14_lo n s x hs hx) (by simp +contextual -implicitDefEqProofs (maxSteps := 1000000) only [sm, sn, seval, eSt, eDoms, eRgs]) rfl ?_
  simp +contextual -implicitDefEqProofs (maxSteps := 1000000) only [sm, sn, seval, eSt, eDoms, eRgs]
  refine callA_rule (ref14_hi n s y hs hy) (by simp +contextual -implicitDefEqProofs (maxSteps := 1000000) only [sm, sn, seval, eSt, eDoms, eRgs]) rfl ?_
  simp +contextual -implicitDefEqProofs (maxSteps := 1000000) only [sm, sn, seval, eSt, eDoms, eRgs, w1]
  refine callA_rule (ref14_hi n s x hs hx) (by simp +contextual -implicitDefEqProofs (maxSteps := 1000000) only [sm, sn, seval, eSt, eDoms, eRgs]) rfl ?_
  simp +contextual -implicitDefEqProofs (maxSteps := 1000000) only [sm, sn, seval, eSt, eDoms, eRgs]
  refine callA_rule (ref14_lo n s y hs hy) (by simp +contextual -implicitDefEqProofs (maxSteps := 1000000) only [sm, sn, seval, eSt, eDoms, eRgs]) rfl ?_
  simp +contextual -implicitDefEqProofs (maxSteps := 1000000) only [sm, sn, seval, eSt, eDoms, eRgs, w2]
  refine callA_rule (ref14_hi n s x hs hx) (by simp +contextual -implicitDefEqProofs (maxSteps := 1000000) only [sm, sn, seval, eSt, eDoms, eRgs]) rfl ?_
  simp +contextual -implicitDefEqProofs (maxSteps := 1000000) only [sm, sn, seval, eSt, eDoms, eRgs]
  refine callA_rule (ref14_hi n s y hs hy) (by simp +contextual -implicitDefEqProofs (maxSteps := 1000000) only [sm, sn, seval, eSt, eDoms, eRgs]) rfl ?_
  simp +contextual -implicitDefEqProofs (maxSteps := 1000000) only [sm, sn, seval, eSt, eDoms, eRgs, w3]
  refine callA_rule (c1) (by simp +contextual -implicitDefEqProofs (maxSteps := 1000000) only [sm, sn, seval, eSt, eDoms, eRgs, w0, w1, w2, w3]) rfl ?_
  cases hb : s1.2
  · have hrow := rs_row hs1 hz hb
    have hin : 0 ≤ z ∧ z < s1.1.length := by have := hs1.2.1; omega
    have hr := row_get hin
    have h0 := hin.1
    have hzn : z.toNat < s1.1.length := by omega
    have hrl := dom_len hrow
    have hH := ref09_Has (rowOf s1.1 z) 0 (by omega)
    rw [← has_eq] at hH
    simp +contextual -implicitDefEqProofs (maxSteps := 1000000) only [sm, sn, seval, eSt, eDoms, eRgs, hb, hr, h0, hzn]
    refine callA_rule (hH) (by simp +contextual -implicitDefEqProofs (maxSteps := 1000000) only [sm, sn, seval, eSt, eDoms, eRgs]) rfl ?_
    cases hh : hasB (rowOf s1.1 z) 0
    · have e : rt2 s1 x y z = rlose (rlose s1 x) y := by unfold rt2; rw [if_pos ⟨hb, hh⟩]
      rw [e]
      have hl1 := ref14_lose n s1 x hs1 hx
      have hl2 : RS n (rlose s1 x) := rs_lose hs1 hx
      generalize rlose s1 x = a at hl1 hl2 ⊢
      have hl3 := ref14_lose n a y hl2 hy
      have hs2 : RS n (rlose a y) := rs_lose hl2 hy
      generalize rlose a y = s2 at hl3 hs2 ⊢
      simp +contextual -implicitDefEqProofs (maxSteps := 1000000) only [sm, sn, seval, eSt, eDoms, eRgs, hb]
      refine callA_rule (hl1) (by simp +contextual -implicitDefEqProofs (maxSteps := 1000000) only [sm, sn, seval, eSt, eDoms, eRgs, hb]) rfl ?_
      simp +contextual -implicitDefEqProofs (maxSteps := 1000000) only [sm, sn, seval, eSt, eDoms, eRgs]
      refine callA_rule (hl3) (by simp +contextual -implicitDefEqProofs (maxSteps := 1000000) only [sm, sn, seval, eSt, eDoms, eRgs]) rfl ?_
      simp +contextual -implicitDefEqProofs (maxSteps := 1000000) only [sm, sn, seval, eSt, eDoms, eRgs]
      have q1 := ref14_quotient n s2 x y z hs2 hx hy hz
      have hq : RS n (rquo s2 x y z) := rs_quo hs2 hx
      generalize rquo s2 x y z = u at q1 hq ⊢
      have q2 := ref14_quotient n u y x z hq hy hx hz
      generalize rquo u y x z = v at q2 ⊢
      refine callA_rule (q1) (by simp +contextual -implicitDefEqProofs (maxSteps := 1000000) only [sm, sn, seval, eSt, eDoms, eRgs]) rfl ?_
      simp +contextual -implicitDefEqProofs (maxSteps := 1000000) only [sm, sn, seval, eSt, eDoms, eRgs]
      refine callA_rule (q2) (by simp +contextual -implicitDefEqProofs (maxSteps := 1000000) only [sm, sn, seval, eSt, eDoms, eRgs]) rfl ?_
      simp +contextual -implicitDefEqProofs (maxSteps := 1000000) only [sm, sn, seval, eSt, eDoms, eRgs]
    · have e : rt2 s1 x y z = s1 := by unfold rt2; rw [if_neg (by rintro ⟨-, h⟩; rw [hh] at h; cases h)]
      rw [e]
      simp +contextual -implicitDefEqProofs (maxSteps := 1000000) only [sm, sn, seval, eSt, eDoms, eRgs, hb]
      have q1 := ref14_quotient n s1 x y z hs1 hx hy hz
      have hq : RS n (rquo s1 x y z) := rs_quo hs1 hx
      generalize rquo s1 x y z = u at q1 hq ⊢
      have q2 := ref14_quotient n u y x z hq hy hx hz
      generalize rquo u y x z = v at q2 ⊢
      refine callA_rule (q1) (by simp +contextual -implicitDefEqProofs (maxSteps := 1000000) only [sm, sn, seval, eSt, eDoms, eRgs, hb]) rfl ?_
      simp +contextual -implicitDefEqProofs (maxSteps := 1000000) only [sm, sn, seval, eSt, eDoms, eRgs]
      refine callA_rule (q2) (by simp +contextual -implicitDefEqProofs (maxSteps := 1000000) only [sm, sn, seval, eSt, eDoms, eRgs]) rfl ?_
      simp +contextual -implicitDefEqProofs (maxSteps := 1000000) only [sm, sn, seval, eSt, eDoms, eRgs]
  · have e : rt2 s1 x y z = s1 := by unfold rt2; rw [if_neg (by rintro ⟨h, -⟩; rw [hb] at h; cases h)]
    rw [e]
    simp +contextual -implicitDefEqProofs (maxSteps := 1000000) only [sm, sn, seval, eSt, eDoms, eRgs, hb]
    have q1 := ref14_quotient n s1 x y z hs1 hx hy hz
    have hq : RS n (rquo s1 x y z) := rs_quo hs1 hx
    generalize rquo s1 x y z = u at q1 hq ⊢
    have q2 := ref14_quotient n u y x z hq hy hx hz
    generalize rquo u y x z = v at q2 ⊢
    refine callA_rule (q1) (by simp +contextual -implicitDefEqProofs (maxSteps := 1000000) only [sm, sn, seval, eSt, eDoms, eRgs, hb]) rfl ?_
    simp +contextual -implicitDefEqProofs (maxSteps := 1000000) only [sm, sn, seval, eSt, eDoms, eRgs]
    refine callA_rule (q2) (by simp +contextual -implicitDefEqProofs (maxSteps := 1000000) only [sm, sn, seval, eSt, eDoms, eRgs]) rfl ?_
    simp +contextual -implicitDefEqProofs (maxSteps := 1000000) only [sm, sn, seval, eSt, eDoms, eRgs]
theorem ref14_same (n : Nat) (s : Sd) (x y : Int) (hs : RS n s) (hb : s.2 = false) (hx : 0 ≤ x ∧ x < n) (hy : 0 ≤ y ∧ y < n) : Ctr Try.prog 73 [eSt s, .int .i64 x, .int .i64 y] [] (eSt (rsame s x y)) [] := by
  refine call_pure Try.func73 Try.call73 e_ref14_same ?_
  have h0 := hx.1
  have h1 := hy.1
  have hlen := hs.2.1
  have hn := hs.1
  have hbf := hb
  have rx := rs_row hs hx hb
  have ry := rs_row hs hy hb
  have hix : 0 ≤ x ∧ x < s.1.length := by omega
  have hiy : 0 ≤ y ∧ y < s.1.length := by omega
  have gx := row_get hix
  have gy := row_get hiy
  have nx : x.toNat < s.1.length := by omega
  have ny : y.toNat < s.1.length := by omega
  have lx := dom_len rx
  have ly := dom_len ry
  have hM := ref09_Meet (rowOf s.1 x) (rowOf s.1 y) (by omega) (by omega)
  rw [← meet_eq] at hM
  have hP : Ctr Try.prog 126 [eSt s, .int .i64 x, eRgs (meetS (rowOf s.1 x) (rowOf s.1 y))] [] (eSt (rsm1 s x y)) [] := ref14_put s x _ h0 (by omega)
  have hS : RS n (rsm1 s x y) := rs_put hs hx fun _ => (meetS_facts (dom_right rx).1 (dom_right ry).1).1
  unfold rsame
  generalize meetS (rowOf s.1 x) (rowOf s.1 y) = l at hM hP
  generalize rsm1 s x y = t at hP hS ⊢
  simp +contextual -implicitDefEqProofs (maxSteps := 1000000) only [c_ref14_same, eSt, eDoms, eRgs, hb, gx, gy, h0, h1, nx, ny, sm, sn, seval]
  refine callA_rule (hM) (by simp +contextual -implicitDefEqProofs (maxSteps := 1000000) only [sm, sn, seval, eSt, eDoms, eRgs]) rfl ?_
  simp +contextual -implicitDefEqProofs (maxSteps := 1000000) only [sm, sn, seval, eSt, eDoms, eRgs, hb]
  refine callA_rule (hP) (by simp +contextual -implicitDefEqProofs (maxSteps := 1000000) only [sm, sn, seval, eSt, eDoms, eRgs, hb]) rfl ?_
  simp +contextual -implicitDefEqProofs (maxSteps := 1000000) only [sm, sn, seval, eSt, eDoms, eRgs]
  cases ht : t.2
  · have rt := rs_row hS hx ht
    have hlt := hS.2.1
    have hit : 0 ≤ x ∧ x < t.1.length := by omega
    have gt := row_get hit
    have nt : x.toNat < t.1.length := by omega
    have hP2 := ref14_put t y (rowOf t.1 x) h1 (by omega)
    rw [if_neg (by simp)]
    generalize rput t y (rowOf t.1 x) = u at hP2 ⊢
    simp +contextual -implicitDefEqProofs (maxSteps := 1000000) only [sm, sn, seval, eSt, eDoms, eRgs, ht, gt, h0, nt]
    refine callA_rule (hP2) (by simp +contextual -implicitDefEqProofs (maxSteps := 1000000) only [sm, sn, seval, eSt, eDoms, eRgs, ht]) rfl ?_
    simp +contextual -implicitDefEqProofs (maxSteps := 1000000) only [sm, sn, seval, eSt, eDoms, eRgs]
  · rw [if_pos rfl]
    simp +contextual -implicitDefEqProofs (maxSteps := 1000000) only [sm, sn, seval, eSt, eDoms, eRgs, ht]
end Go.Proofs.Ytbhigfllanblpaa
