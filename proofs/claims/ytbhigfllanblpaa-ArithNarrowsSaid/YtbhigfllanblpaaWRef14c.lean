/- What the steps of package touchstoneref14 compute, continued: size. -/
import Derived.Test.YtbhigfllanblpaaWRef14
import Derived.Test.YtbhigfllanblpaaCRef14b
import Derived.Test.YtbhigfllanblpaaWArith2
namespace Go.Proofs.Ytbhigfllanblpaa
open Av
attribute [local irreducible] awp awpOpers
set_option linter.unusedSimpArgs false
set_option linter.unusedVariables false
set_option maxRecDepth 100000
set_option maxHeartbeats 4000000
theorem ctr_more {P : Program} {f : FuncId} {args : List AV} {bs : Bx} {r : AV} (hc : Ctr P f args [] r []) (hA : flatL args = true) (hr : r.flat = true) : Ctr P f args bs r bs := by
  refine ⟨hc.1, ?_⟩
  intro w0 pr fz pl w cs hS hl hR
  have S1 : Sim w0 (hold pr pl bs w []) fz [] [] w := ⟨hS.os, hS.tape, hS.output, hS.size, hS.frz, hold_prt hS [], hold_dis hS [], rfl, (fun k sz es h => by rw [bxGet_nil] at h; cases h), fun k k' x y b n n' h => by rw [bxGet_nil] at h; cases h⟩
  refine (hc.2 w0 _ fz [] w cs S1 hl ?_).mono ?_
  · intro i v c hv hc
    exact (hR i v c hv hc).anyPl (flatL_mem hA v (List.mem_of_getElem? hv))
  · rintro e w' ⟨cv, fz', pl', h1, h2, h3, h4, h5⟩
    have hp : pl' = [] := List.length_eq_zero_iff.1 h5.len
    subst hp
    exact ⟨cv, fz', pl, h1, h2, List.prefix_refl _, h4.anyPl hr, hS.back h2 h5⟩
theorem ref14_putO (s : Sd) (x : Int) (l : List Rg) (hx : 0 ≤ x) (hn : s.1.length ≤ 1000000000000) : Ctr Try.prog 126 [eSt s, .int .i64 x, .sl 2 0 0 l.length] [some (2, l.map eRg)] (eSt (rput s x l)) [none] := by
  have c3 : List.take l.length (List.map eRg l) = List.map eRg l := take_map _ _
  have c4 : List.take l.length (List.drop 0 (List.map eRg l)) = List.map eRg l := take_map _ _
  refine ctr_frz [] [0] (ctr_more (bs := [none]) (ref14_put s x l hx hn) rfl rfl) rfl ?_ ?_
  · intro k hk
    have : k = 0 := by simp at hk; omega
    subst this; simp
  · intro j v v' hv hv'
    have hj : j < 3 := by
      rcases Nat.lt_or_ge j 3 with h | h
      · exact h
      · rw [List.getElem?_eq_none (by simpa using h)] at hv; cases hv
    have hcs : j = 0 ∨ j = 1 ∨ j = 2 := by omega
    rcases hcs with rfl | rfl | rfl
    · injection hv with hv; injection hv' with hv'; subst hv; subst hv'
      left; exact wk_refl _
    · injection hv with hv; injection hv' with hv'; subst hv; subst hv'
      left; exact wk_refl _
    · injection hv with hv; injection hv' with hv'; subst hv; subst hv'
      right
      simp +contextual -implicitDefEqProofs (maxSteps := 1000000) only [sm, sn, seval, eRgs, killL, c3, c4]
theorem ref14_size (n : Nat) (s : Sd) (x y : Int) (hs : RS n s) (hx : 0 ≤ x ∧ x < n) (hy : 0 ≤ y ∧ y < n) : Ctr Try.prog 72 [eSt s, .int .i64 x, .int .i64 y] [] (eSt (rsize s x y)) [] := by
  refine call_pure Try.func72 Try.call72 e_ref14_size ?_
  obtain ⟨x1, x2, x3⟩ := rl_facts hs hx
  have w1 : IntKind.i64.wrap (0 - rlo s x) = -rlo s x := by rw [wrap_i64] <;> omega
  have c1 : Ctr Try.prog 123 [eSt s, .int .i64 y, .int .i64 (0), .int .i64 (max (rhi s x) (-rlo s x))] [] (eSt (rs1 s x y)) [] := ref14_cut n s y _ _ hs hy
  have hs1 : RS n (rs1 s x y) := rs_cut _ _ hs hy
  unfold rsize
  generalize rs1 s x y = s1 at c1 hs1 ⊢
  simp +contextual -implicitDefEqProofs (maxSteps := 1000000) only [c_ref14_size, eSt, eDoms, eRgs, sm, sn, seval]
  refine callA_rule (ref14_hi n s x hs hx) (by simp +contextual -implicitDefEqProofs (maxSteps := 1000000) only [sm, sn, seval, eSt, eDoms, eRgs]) rfl ?_
  simp +contextual -implicitDefEqProofs (maxSteps := 1000000) only [sm, sn, seval, eSt, eDoms, eRgs]
  refine callA_rule (ref14_lo n s x hs hx) (by simp +contextual -implicitDefEqProofs (maxSteps := 1000000) only [sm, sn, seval, eSt, eDoms, eRgs]) rfl ?_
  simp +contextual -implicitDefEqProofs (maxSteps := 1000000) only [sm, sn, seval, eSt, eDoms, eRgs, w1]
  refine callA_rule (c1) (by simp +contextual -implicitDefEqProofs (maxSteps := 1000000) only [sm, sn, seval, eSt, eDoms, eRgs, w1]) rfl ?_
  simp +contextual -implicitDefEqProofs (maxSteps := 1000000) only [sm, sn, seval, eSt, eDoms, eRgs]
  refine callA_rule (ref14_lo n s1 x hs1 hx) (by simp +contextual -implicitDefEqProofs (maxSteps := 1000000) only [sm, sn, seval, eSt, eDoms, eRgs]) rfl ?_
  simp +contextual -implicitDefEqProofs (maxSteps := 1000000) only [sm, sn, seval, eSt, eDoms, eRgs]
  by_cases k2 : 0 < rlo s1 x
  · have e : rs2 s1 x y = rcut s1 y (rlo s1 x) 1099511627776 := if_pos k2
    rw [e]
    have c2 : Ctr Try.prog 123 [eSt s1, .int .i64 y, .int .i64 (rlo s1 x), .int .i64 (1099511627776)] [] (eSt (rcut s1 y (rlo s1 x) 1099511627776)) [] := ref14_cut n s1 y _ _ hs1 hy
    have hs2 : RS n (rcut s1 y (rlo s1 x) 1099511627776) := rs_cut _ _ hs1 hy
    generalize rcut s1 y (rlo s1 x) 1099511627776 = s2 at c2 hs2 e ⊢
    simp +contextual -implicitDefEqProofs (maxSteps := 1000000) only [sm, sn, seval, eSt, eDoms, eRgs, k2]
    refine callA_rule (ref14_lo n s1 x hs1 hx) (by simp +contextual -implicitDefEqProofs (maxSteps := 1000000) only [sm, sn, seval, eSt, eDoms, eRgs]) rfl ?_
    simp +contextual -implicitDefEqProofs (maxSteps := 1000000) only [sm, sn, seval, eSt, eDoms, eRgs]
    refine callA_rule (c2) (by simp +contextual -implicitDefEqProofs (maxSteps := 1000000) only [sm, sn, seval, eSt, eDoms, eRgs]) rfl ?_
    simp +contextual -implicitDefEqProofs (maxSteps := 1000000) only [sm, sn, seval, eSt, eDoms, eRgs]
    obtain ⟨t1, t2, t3⟩ := rl_facts hs2 hx
    have w2 : IntKind.i64.wrap (0 - rhi s2 x) = -rhi s2 x := by rw [wrap_i64] <;> omega
    refine callA_rule (ref14_hi n s2 x hs2 hx) (by simp +contextual -implicitDefEqProofs (maxSteps := 1000000) only [sm, sn, seval, eSt, eDoms, eRgs]) rfl ?_
    simp +contextual -implicitDefEqProofs (maxSteps := 1000000) only [sm, sn, seval, eSt, eDoms, eRgs]
    by_cases k3 : rhi s2 x < 0
    · have e : rs3 s2 x y = rcut s2 y (-rhi s2 x) 1099511627776 := if_pos k3
      rw [e]
      have c3 : Ctr Try.prog 123 [eSt s2, .int .i64 y, .int .i64 (-rhi s2 x), .int .i64 (1099511627776)] [] (eSt (rcut s2 y (-rhi s2 x) 1099511627776)) [] := ref14_cut n s2 y _ _ hs2 hy
      have hs3 : RS n (rcut s2 y (-rhi s2 x) 1099511627776) := rs_cut _ _ hs2 hy
      generalize rcut s2 y (-rhi s2 x) 1099511627776 = s3 at c3 hs3 e ⊢
      simp +contextual -implicitDefEqProofs (maxSteps := 1000000) only [sm, sn, seval, eSt, eDoms, eRgs, k3]
      refine callA_rule (ref14_hi n s2 x hs2 hx) (by simp +contextual -implicitDefEqProofs (maxSteps := 1000000) only [sm, sn, seval, eSt, eDoms, eRgs]) rfl ?_
      simp +contextual -implicitDefEqProofs (maxSteps := 1000000) only [sm, sn, seval, eSt, eDoms, eRgs, w2]
      refine callA_rule (c3) (by simp +contextual -implicitDefEqProofs (maxSteps := 1000000) only [sm, sn, seval, eSt, eDoms, eRgs, w2]) rfl ?_
      simp +contextual -implicitDefEqProofs (maxSteps := 1000000) only [sm, sn, seval, eSt, eDoms, eRgs]
      obtain ⟨u1, u2, u3⟩ := rl_facts hs3 hy
      have w3 : IntKind.i64.wrap (0 - rhi s3 y) = -rhi s3 y := by rw [wrap_i64] <;> omega
      have c4 : Ctr Try.prog 123 [eSt s3, .int .i64 x, .int .i64 (-rhi s3 y), .int .i64 (rhi s3 y)] [] (eSt (rs4 s3 x y)) [] := ref14_cut n s3 x _ _ hs3 hx
      have hs4 : RS n (rs4 s3 x y) := rs_cut _ _ hs3 hx
      generalize rs4 s3 x y = s4 at c4 hs4 ⊢
      refine callA_rule (ref14_hi n s3 y hs3 hy) (by simp +contextual -implicitDefEqProofs (maxSteps := 1000000) only [sm, sn, seval, eSt, eDoms, eRgs]) rfl ?_
      simp +contextual -implicitDefEqProofs (maxSteps := 1000000) only [sm, sn, seval, eSt, eDoms, eRgs, w3]
      refine callA_rule (ref14_hi n s3 y hs3 hy) (by simp +contextual -implicitDefEqProofs (maxSteps := 1000000) only [sm, sn, seval, eSt, eDoms, eRgs]) rfl ?_
      simp +contextual -implicitDefEqProofs (maxSteps := 1000000) only [sm, sn, seval, eSt, eDoms, eRgs]
      refine callA_rule (c4) (by simp +contextual -implicitDefEqProofs (maxSteps := 1000000) only [sm, sn, seval, eSt, eDoms, eRgs, w3]) rfl ?_
      simp +contextual -implicitDefEqProofs (maxSteps := 1000000) only [sm, sn, seval, eSt, eDoms, eRgs]
      cases hb : s4.2
      · have b : (0 : Int) ≤ 0 := Int.le_refl _
        obtain ⟨v1, v2, v3⟩ := rl_facts hs4 hy
        have w4 : IntKind.i64.wrap (0 - rlo s4 y) = -rlo s4 y := by rw [wrap_i64] <;> omega
        simp +contextual -implicitDefEqProofs (maxSteps := 1000000) only [sm, sn, seval, eSt, eDoms, eRgs, hb]
        refine callA_rule (ref14_lo n s4 y hs4 hy) (by simp +contextual -implicitDefEqProofs (maxSteps := 1000000) only [sm, sn, seval, eSt, eDoms, eRgs, hb]) rfl ?_
        by_cases k5 : rlo s4 y ≤ 0
        · have e : rs5 s4 x y = s4 := by unfold rs5; rw [if_pos (.inr k5)]
          rw [e]
          simp +contextual -implicitDefEqProofs (maxSteps := 1000000) only [sm, sn, seval, eSt, eDoms, eRgs, hb, k5]
        · have e : rs5 s4 x y = rput s4 x (cutS (-1099511627776) (-rlo s4 y) (rowOf s4.1 x) ++ cutS (rlo s4 y) 1099511627776 (rowOf s4.1 x)) := by
            unfold rs5
            rw [if_neg (by rintro (h | h); rw [hb] at h; cases h; exact k5 h)]
          rw [e]
          have rx := rs_row hs4 hx hb
          have hlen := hs4.2.1
          have hn := hs4.1
          have hix : 0 ≤ x ∧ x < s4.1.length := by omega
          have gx := row_get hix
          have g0 := hix.1
          have nx : x.toNat < s4.1.length := by omega
          have lx := dom_len rx
          have rr := (dom_right rx).1
          have l1 := right_length (cutS_facts (-1099511627776) (-rlo s4 y) rr).1
          have l2 := right_length (cutS_facts (rlo s4 y) 1099511627776 rr).1
          have hA := ref09_Cut (rowOf s4.1 x) (-1099511627776) (-rlo s4 y) (by omega)
          have hB := ref09_Cut (rowOf s4.1 x) (rlo s4 y) 1099511627776 (by omega)
          rw [← cut_eq] at hA hB
          have hP := ref14_putO s4 x (cutS (-1099511627776) (-rlo s4 y) (rowOf s4.1 x) ++ cutS (rlo s4 y) 1099511627776 (rowOf s4.1 x)) g0 (by omega)
          generalize cutS (-1099511627776) (-rlo s4 y) (rowOf s4.1 x) = A at l1 hA hP ⊢
          generalize cutS (rlo s4 y) 1099511627776 (rowOf s4.1 x) = B at l2 hB hP ⊢
          generalize rput s4 x (A ++ B) = u at hP ⊢
          rw [List.length_append] at hP
          have d1 : A.length * 16 ≤ 140737488355328 := by omega
          have d2 : A.length ≤ maxLen := by unfold maxLen; omega
          have d3 : List.take A.length (List.map eRg A) = List.map eRg A := take_map _ _
          have d4 : (A.length + B.length) * 16 ≤ 140737488355328 := by omega
          have d5 : A.length + B.length ≤ maxLen := by unfold maxLen; omega
          simp +contextual -implicitDefEqProofs (maxSteps := 1000000) only [sm, sn, seval, eSt, eDoms, eRgs, hb, k5, gx, g0, nx]
          refine callA_rule (ref14_lo n s4 y hs4 hy) (by simp +contextual -implicitDefEqProofs (maxSteps := 1000000) only [sm, sn, seval, eSt, eDoms, eRgs, hb]) rfl ?_
          simp +contextual -implicitDefEqProofs (maxSteps := 1000000) only [sm, sn, seval, eSt, eDoms, eRgs, hb, w4]
          refine callA_rule (hA) (by simp +contextual -implicitDefEqProofs (maxSteps := 1000000) only [sm, sn, seval, eSt, eDoms, eRgs]) rfl ?_
          simp +contextual -implicitDefEqProofs (maxSteps := 1000000) only [sm, sn, seval, eSt, eDoms, eRgs, hb, gx, g0, nx]
          refine callA_rule (ref14_lo n s4 y hs4 hy) (by simp +contextual -implicitDefEqProofs (maxSteps := 1000000) only [sm, sn, seval, eSt, eDoms, eRgs, hb]) rfl ?_
          simp +contextual -implicitDefEqProofs (maxSteps := 1000000) only [sm, sn, seval, eSt, eDoms, eRgs, hb]
          refine callA_rule (hB) (by simp +contextual -implicitDefEqProofs (maxSteps := 1000000) only [sm, sn, seval, eSt, eDoms, eRgs]) rfl ?_
          simp +contextual -implicitDefEqProofs (maxSteps := 1000000) only [sm, sn, seval, eSt, eDoms, eRgs, hb, d1, d2, d3, d4, d5, Nat.le_refl, Nat.zero_add]
          refine callM_rule [3] hP (by decide) ?_ ?_ ?_ ?_ ?_ ?_
          · simp +contextual -implicitDefEqProofs (maxSteps := 1000000) only [sm, sn, seval, eSt, eDoms, eRgs, hb]
            try rfl
          · simp +contextual -implicitDefEqProofs (maxSteps := 1000000) only [sm, sn, seval, eSt, eDoms, eRgs, hb]
          · simp +contextual -implicitDefEqProofs (maxSteps := 1000000) only [sm, sn, seval, eSt, eDoms, eRgs, hb]
            try rfl
          · simp +contextual -implicitDefEqProofs (maxSteps := 1000000) only [sm, sn, seval, eSt, eDoms, eRgs, hb]
          · simp +contextual -implicitDefEqProofs (maxSteps := 1000000) only [sm, sn, seval, eSt, eDoms, eRgs, hb]
          · simp +contextual -implicitDefEqProofs (maxSteps := 1000000) only [sm, sn, seval, eSt, eDoms, eRgs, hb]
      · have e : rs5 s4 x y = s4 := by unfold rs5; rw [if_pos (.inl hb)]
        rw [e]
        simp +contextual -implicitDefEqProofs (maxSteps := 1000000) only [sm, sn, seval, eSt, eDoms, eRgs, hb]
    · have e : rs3 s2 x y = s2 := if_neg k3
      rw [e]
      simp +contextual -implicitDefEqProofs (maxSteps := 1000000) only [sm, sn, seval, eSt, eDoms, eRgs, k3]
      obtain ⟨u1, u2, u3⟩ := rl_facts hs2 hy
      have w3 : IntKind.i64.wrap (0 - rhi s2 y) = -rhi s2 y := by rw [wrap_i64] <;> omega
      have c4 : Ctr Try.prog 123 [eSt s2, .int .i64 x, .int .i64 (-rhi s2 y), .int .i64 (rhi s2 y)] [] (eSt (rs4 s2 x y)) [] := ref14_cut n s2 x _ _ hs2 hx
      have hs4 : RS n (rs4 s2 x y) := rs_cut _ _ hs2 hx
      generalize rs4 s2 x y = s4 at c4 hs4 ⊢
      refine callA_rule (ref14_hi n s2 y hs2 hy) (by simp +contextual -implicitDefEqProofs (maxSteps := 1000000) only [sm, sn, seval, eSt, eDoms, eRgs]) rfl ?_
      simp +contextual -implicitDefEqProofs (maxSteps := 1000000) only [sm, sn, seval, eSt, eDoms, eRgs, w3]
      refine callA_rule (ref14_hi n s2 y hs2 hy) (by simp +contextual -implicitDefEqProofs (maxSteps := 1000000) only [sm, sn, seval, eSt, eDoms, eRgs]) rfl ?_
      simp +contextual -implicitDefEqProofs (maxSteps := 1000000) only [sm, sn, seval, eSt, eDoms, eRgs]
      refine callA_rule (c4) (by simp +contextual -implicitDefEqProofs (maxSteps := 1000000) only [sm, sn, seval, eSt, eDoms, eRgs, w3]) rfl ?_
      simp +contextual -implicitDefEqProofs (maxSteps := 1000000) only [sm, sn, seval, eSt, eDoms, eRgs]
      cases hb : s4.2
      · have b : (0 : Int) ≤ 0 := Int.le_refl _
        obtain ⟨v1, v2, v3⟩ := rl_facts hs4 hy
        have w4 : IntKind.i64.wrap (0 - rlo s4 y) = -rlo s4 y := by rw [wrap_i64] <;> omega
        simp +contextual -implicitDefEqProofs (maxSteps := 1000000) only [sm, sn, seval, eSt, eDoms, eRgs, hb]
        refine callA_rule (ref14_lo n s4 y hs4 hy) (by simp +contextual -implicitDefEqProofs (maxSteps := 1000000) only [sm, sn, seval, eSt, eDoms, eRgs, hb]) rfl ?_
        by_cases k5 : rlo s4 y ≤ 0
        · have e : rs5 s4 x y = s4 := by unfold rs5; rw [if_pos (.inr k5)]
          rw [e]
          simp +contextual -implicitDefEqProofs (maxSteps := 1000000) only [sm, sn, seval, eSt, eDoms, eRgs, hb, k5]
        · have e : rs5 s4 x y = rput s4 x (cutS (-1099511627776) (-rlo s4 y) (rowOf s4.1 x) ++ cutS (rlo s4 y) 1099511627776 (rowOf s4.1 x)) := by
            unfold rs5
            rw [if_neg (by rintro (h | h); rw [hb] at h; cases h; exact k5 h)]
          rw [e]
          have rx := rs_row hs4 hx hb
          have hlen := hs4.2.1
          have hn := hs4.1
          have hix : 0 ≤ x ∧ x < s4.1.length := by omega
          have gx := row_get hix
          have g0 := hix.1
          have nx : x.toNat < s4.1.length := by omega
          have lx := dom_len rx
          have rr := (dom_right rx).1
          have l1 := right_length (cutS_facts (-1099511627776) (-rlo s4 y) rr).1
          have l2 := right_length (cutS_facts (rlo s4 y) 1099511627776 rr).1
          have hA := ref09_Cut (rowOf s4.1 x) (-1099511627776) (-rlo s4 y) (by omega)
          have hB := ref09_Cut (rowOf s4.1 x) (rlo s4 y) 1099511627776 (by omega)
          rw [← cut_eq] at hA hB
          have hP := ref14_putO s4 x (cutS (-1099511627776) (-rlo s4 y) (rowOf s4.1 x) ++ cutS (rlo s4 y) 1099511627776 (rowOf s4.1 x)) g0 (by omega)
          generalize cutS (-1099511627776) (-rlo s4 y) (rowOf s4.1 x) = A at l1 hA hP ⊢
          generalize cutS (rlo s4 y) 1099511627776 (rowOf s4.1 x) = B at l2 hB hP ⊢
          generalize rput s4 x (A ++ B) = u at hP ⊢
          rw [List.length_append] at hP
          have d1 : A.length * 16 ≤ 140737488355328 := by omega
          have d2 : A.length ≤ maxLen := by unfold maxLen; omega
          have d3 : List.take A.length (List.map eRg A) = List.map eRg A := take_map _ _
          have d4 : (A.length + B.length) * 16 ≤ 140737488355328 := by omega
          have d5 : A.length + B.length ≤ maxLen := by unfold maxLen; omega
          simp +contextual -implicitDefEqProofs (maxSteps := 1000000) only [sm, sn, seval, eSt, eDoms, eRgs, hb, k5, gx, g0, nx]
          refine callA_rule (ref14_lo n s4 y hs4 hy) (by simp +contextual -implicitDefEqProofs (maxSteps := 1000000) only [sm, sn, seval, eSt, eDoms, eRgs, hb]) rfl ?_
          simp +contextual -implicitDefEqProofs (maxSteps := 1000000) only [sm, sn, seval, eSt, eDoms, eRgs, hb, w4]
          refine callA_rule (hA) (by simp +contextual -implicitDefEqProofs (maxSteps := 1000000) only [sm, sn, seval, eSt, eDoms, eRgs]) rfl ?_
          simp +contextual -implicitDefEqProofs (maxSteps := 1000000) only [sm, sn, seval, eSt, eDoms, eRgs, hb, gx, g0, nx]
          refine callA_rule (ref14_lo n s4 y hs4 hy) (by simp +contextual -implicitDefEqProofs (maxSteps := 1000000) only [sm, sn, seval, eSt, eDoms, eRgs, hb]) rfl ?_
          simp +contextual -implicitDefEqProofs (maxSteps := 1000000) only [sm, sn, seval, eSt, eDoms, eRgs, hb]
          refine callA_rule (hB) (by simp +contextual -implicitDefEqProofs (maxSteps := 1000000) only [sm, sn, seval, eSt, eDoms, eRgs]) rfl ?_
          simp +contextual -implicitDefEqProofs (maxSteps := 1000000) only [sm, sn, seval, eSt, eDoms, eRgs, hb, d1, d2, d3, d4, d5, Nat.le_refl, Nat.zero_add]
          refine callM_rule [3] hP (by decide) ?_ ?_ ?_ ?_ ?_ ?_
          · simp +contextual -implicitDefEqProofs (maxSteps := 1000000) only [sm, sn, seval, eSt, eDoms, eRgs, hb]
            try rfl
          · simp +contextual -implicitDefEqProofs (maxSteps := 1000000) only [sm, sn, seval, eSt, eDoms, eRgs, hb]
          · simp +contextual -implicitDefEqProofs (maxSteps := 1000000) only [sm, sn, seval, eSt, eDoms, eRgs, hb]
            try rfl
          · simp +contextual -implicitDefEqProofs (maxSteps := 1000000) only [sm, sn, seval, eSt, eDoms, eRgs, hb]
          · simp +contextual -implicitDefEqProofs (maxSteps := 1000000) only [sm, sn, seval, eSt, eDoms, eRgs, hb]
          · simp +contextual -implicitDefEqProofs (maxSteps := 1000000) only [sm, sn, seval, eSt, eDoms, eRgs, hb]
      · have e : rs5 s4 x y = s4 := by unfold rs5; rw [if_pos (.inl hb)]
        rw [e]
        simp +contextual -implicitDefEqProofs (maxSteps := 1000000) only [sm, sn, seval, eSt, eDoms, eRgs, hb]
  · have e : rs2 s1 x y = s1 := if_neg k2
    rw [e]
    simp +contextual -implicitDefEqProofs (maxSteps := 1000000) only [sm, sn, seval, eSt, eDoms, eRgs, k2]
    obtain ⟨t1, t2, t3⟩ := rl_facts hs1 hx
    have w2 : IntKind.i64.wrap (0 - rhi s1 x) = -rhi s1 x := by rw [wrap_i64] <;> omega
    refine callA_rule (ref14_hi n s1 x hs1 hx) (by simp +contextual -implicitDefEqProofs (maxSteps := 1000000) only [sm, sn, seval, eSt, eDoms, eRgs]) rfl ?_
    simp +contextual -implicitDefEqProofs (maxSteps := 1000000) only [sm, sn, seval, eSt, eDoms, eRgs]
    by_cases k3 : rhi s1 x < 0
    · have e : rs3 s1 x y = rcut s1 y (-rhi s1 x) 1099511627776 := if_pos k3
      rw [e]
      have c3 : Ctr Try.prog 123 [eSt s1, .int .i64 y, .int .i64 (-rhi s1 x), .int .i64 (1099511627776)] [] (eSt (rcut s1 y (-rhi s1 x) 1099511627776)) [] := ref14_cut n s1 y _ _ hs1 hy
      have hs3 : RS n (rcut s1 y (-rhi s1 x) 1099511627776) := rs_cut _ _ hs1 hy
      generalize rcut s1 y (-rhi s1 x) 1099511627776 = s3 at c3 hs3 e ⊢
      simp +contextual -implicitDefEqProofs (maxSteps := 1000000) only [sm, sn, seval, eSt, eDoms, eRgs, k3]
      refine callA_rule (ref14_hi n s1 x hs1 hx) (by simp +contextual -implicitDefEqProofs (maxSteps := 1000000) only [sm, sn, seval, eSt, eDoms, eRgs]) rfl ?_
      simp +contextual -implicitDefEqProofs (maxSteps := 1000000) only [sm, sn, seval, eSt, eDoms, eRgs, w2]
      refine callA_rule (c3) (by simp +contextual -implicitDefEqProofs (maxSteps := 1000000) only [sm, sn, seval, eSt, eDoms, eRgs, w2]) rfl ?_
      simp +contextual -implicitDefEqProofs (maxSteps := 1000000) only [sm, sn, seval, eSt, eDoms, eRgs]
      obtain ⟨u1, u2, u3⟩ := rl_facts hs3 hy
      have w3 : IntKind.i64.wrap (0 - rhi s3 y) = -rhi s3 y := by rw [wrap_i64] <;> omega
      have c4 : Ctr Try.prog 123 [eSt s3, .int .i64 x, .int .i64 (-rhi s3 y), .int .i64 (rhi s3 y)] [] (eSt (rs4 s3 x y)) [] := ref14_cut n s3 x _ _ hs3 hx
      have hs4 : RS n (rs4 s3 x y) := rs_cut _ _ hs3 hx
      generalize rs4 s3 x y = s4 at c4 hs4 ⊢
      refine callA_rule (ref14_hi n s3 y hs3 hy) (by simp +contextual -implicitDefEqProofs (maxSteps := 1000000) only [sm, sn, seval, eSt, eDoms, eRgs]) rfl ?_
      simp +contextual -implicitDefEqProofs (maxSteps := 1000000) only [sm, sn, seval, eSt, eDoms, eRgs, w3]
      refine callA_rule (ref14_hi n s3 y hs3 hy) (by simp +contextual -implicitDefEqProofs (maxSteps := 1000000) only [sm, sn, seval, eSt, eDoms, eRgs]) rfl ?_
      simp +contextual -implicitDefEqProofs (maxSteps := 1000000) only [sm, sn, seval, eSt, eDoms, eRgs]
      refine callA_rule (c4) (by simp +contextual -implicitDefEqProofs (maxSteps := 1000000) only [sm, sn, seval, eSt, eDoms, eRgs, w3]) rfl ?_
      simp +contextual -implicitDefEqProofs (maxSteps := 1000000) only [sm, sn, seval, eSt, eDoms, eRgs]
      cases hb : s4.2
      · have b : (0 : Int) ≤ 0 := Int.le_refl _
        obtain ⟨v1, v2, v3⟩ := rl_facts hs4 hy
        have w4 : IntKind.i64.wrap (0 - rlo s4 y) = -rlo s4 y := by rw [wrap_i64] <;> omega
        simp +contextual -implicitDefEqProofs (maxSteps := 1000000) only [sm, sn, seval, eSt, eDoms, eRgs, hb]
        refine callA_rule (ref14_lo n s4 y hs4 hy) (by simp +contextual -implicitDefEqProofs (maxSteps := 1000000) only [sm, sn, seval, eSt, eDoms, eRgs, hb]) rfl ?_
        by_cases k5 : rlo s4 y ≤ 0
        · have e : rs5 s4 x y = s4 := by unfold rs5; rw [if_pos (.inr k5)]
          rw [e]
          simp +contextual -implicitDefEqProofs (maxSteps := 1000000) only [sm, sn, seval, eSt, eDoms, eRgs, hb, k5]
        · have e : rs5 s4 x y = rput s4 x (cutS (-1099511627776) (-rlo s4 y) (rowOf s4.1 x) ++ cutS (rlo s4 y) 1099511627776 (rowOf s4.1 x)) := by
            unfold rs5
            rw [if_neg (by rintro (h | h); rw [hb] at h; cases h; exact k5 h)]
          rw [e]
          have rx := rs_row hs4 hx hb
          have hlen := hs4.2.1
          have hn := hs4.1
          have hix : 0 ≤ x ∧ x < s4.1.length := by omega
          have gx := row_get hix
          have g0 := hix.1
          have nx : x.toNat < s4.1.length := by omega
          have lx := dom_len rx
          have rr := (dom_right rx).1
          have l1 := right_length (cutS_facts (-1099511627776) (-rlo s4 y) rr).1
          have l2 := right_length (cutS_facts (rlo s4 y) 1099511627776 rr).1
          have hA := ref09_Cut (rowOf s4.1 x) (-1099511627776) (-rlo s4 y) (by omega)
          have hB := ref09_Cut (rowOf s4.1 x) (rlo s4 y) 1099511627776 (by omega)
          rw [← cut_eq] at hA hB
          have hP := ref14_putO s4 x (cutS (-1099511627776) (-rlo s4 y) (rowOf s4.1 x) ++ cutS (rlo s4 y) 1099511627776 (rowOf s4.1 x)) g0 (by omega)
          generalize cutS (-1099511627776) (-rlo s4 y) (rowOf s4.1 x) = A at l1 hA hP ⊢
          generalize cutS (rlo s4 y) 1099511627776 (rowOf s4.1 x) = B at l2 hB hP ⊢
          generalize rput s4 x (A ++ B) = u at hP ⊢
          rw [List.length_append] at hP
          have d1 : A.length * 16 ≤ 140737488355328 := by omega
          have d2 : A.length ≤ maxLen := by unfold maxLen; omega
          have d3 : List.take A.length (List.map eRg A) = List.map eRg A := take_map _ _
          have d4 : (A.length + B.length) * 16 ≤ 140737488355328 := by omega
          have d5 : A.length + B.length ≤ maxLen := by unfold maxLen; omega
          simp +contextual -implicitDefEqProofs (maxSteps := 1000000) only [sm, sn, seval, eSt, eDoms, eRgs, hb, k5, gx, g0, nx]
          refine callA_rule (ref14_lo n s4 y hs4 hy) (by simp +contextual -implicitDefEqProofs (maxSteps := 1000000) only [sm, sn, seval, eSt, eDoms, eRgs, hb]) rfl ?_
          simp +contextual -implicitDefEqProofs (maxSteps := 1000000) only [sm, sn, seval, eSt, eDoms, eRgs, hb, w4]
          refine callA_rule (hA) (by simp +contextual -implicitDefEqProofs (maxSteps := 1000000) only [sm, sn, seval, eSt, eDoms, eRgs]) rfl ?_
          simp +contextual -implicitDefEqProofs (maxSteps := 1000000) only [sm, sn, seval, eSt, eDoms, eRgs, hb, gx, g0, nx]
          refine callA_rule (ref14_lo n s4 y hs4 hy) (by simp +contextual -implicitDefEqProofs (maxSteps := 1000000) only [sm, sn, seval, eSt, eDoms, eRgs, hb]) rfl ?_
          simp +contextual -implicitDefEqProofs (maxSteps := 1000000) only [sm, sn, seval, eSt, eDoms, eRgs, hb]
          refine callA_rule (hB) (by simp +contextual -implicitDefEqProofs (maxSteps := 1000000) only [sm, sn, seval, eSt, eDoms, eRgs]) rfl ?_
          simp +contextual -implicitDefEqProofs (maxSteps := 1000000) only [sm, sn, seval, eSt, eDoms, eRgs, hb, d1, d2, d3, d4, d5, Nat.le_refl, Nat.zero_add]
          refine callM_rule [3] hP (by decide) ?_ ?_ ?_ ?_ ?_ ?_
          · simp +contextual -implicitDefEqProofs (maxSteps := 1000000) only [sm, sn, seval, eSt, eDoms, eRgs, hb]
            try rfl
          · simp +contextual -implicitDefEqProofs (maxSteps := 1000000) only [sm, sn, seval, eSt, eDoms, eRgs, hb]
          · simp +contextual -implicitDefEqProofs (maxSteps := 1000000) only [sm, sn, seval, eSt, eDoms, eRgs, hb]
            try rfl
          · simp +contextual -implicitDefEqProofs (maxSteps := 1000000) only [sm, sn, seval, eSt, eDoms, eRgs, hb]
          · simp +contextual -implicitDefEqProofs (maxSteps := 1000000) only [sm, sn, seval, eSt, eDoms, eRgs, hb]
          · simp +contextual -implicitDefEqProofs (maxSteps := 1000000) only [sm, sn, seval, eSt, eDoms, eRgs, hb]
      · have e : rs5 s4 x y = s4 := by unfold rs5; rw [if_pos (.inl hb)]
        rw [e]
        simp +contextual -implicitDefEqProofs (maxSteps := 1000000) only [sm, sn, seval, eSt, eDoms, eRgs, hb]
    · have e : rs3 s1 x y = s1 := if_neg k3
      rw [e]
      simp +contextual -implicitDefEqProofs (maxSteps := 1000000) only [sm, sn, seval, eSt, eDoms, eRgs, k3]
      obtain ⟨u1, u2, u3⟩ := rl_facts hs1 hy
      have w3 : IntKind.i64.wrap (0 - rhi s1 y) = -rhi s1 y := by rw [wrap_i64] <;> omega
      have c4 : Ctr Try.prog 123 [eSt s1, .int .i64 x, .int .i64 (-rhi s1 y), .int .i64 (rhi s1 y)] [] (eSt (rs4 s1 x y)) [] := ref14_cut n s1 x _ _ hs1 hx
      have hs4 : RS n (rs4 s1 x y) := rs_cut _ _ hs1 hx
      generalize rs4 s1 x y = s4 at c4 hs4 ⊢
      refine callA_rule (ref14_hi n s1 y hs1 hy) (by simp +contextual -implicitDefEqProofs (maxSteps := 1000000) only [sm, sn, seval, eSt, eDoms, eRgs]) rfl ?_
      simp +contextual -implicitDefEqProofs (maxSteps := 1000000) only [sm, sn, seval, eSt, eDoms, eRgs, w3]
      refine callA_rule (ref14_hi n s1 y hs1 hy) (by simp +contextual -implicitDefEqProofs (maxSteps := 1000000) only [sm, sn, seval, eSt, eDoms, eRgs]) rfl ?_
      simp +contextual -implicitDefEqProofs (maxSteps := 1000000) only [sm, sn, seval, eSt, eDoms, eRgs]
      refine callA_rule (c4) (by simp +contextual -implicitDefEqProofs (maxSteps := 1000000) only [sm, sn, seval, eSt, eDoms, eRgs, w3]) rfl ?_
      simp +contextual -implicitDefEqProofs (maxSteps := 1000000) only [sm, sn, seval, eSt, eDoms, eRgs]
      cases hb : s4.2
      · have b : (0 : Int) ≤ 0 := Int.le_refl _
        obtain ⟨v1, v2, v3⟩ := rl_facts hs4 hy
        have w4 : IntKind.i64.wrap (0 - rlo s4 y) = -rlo s4 y := by rw [wrap_i64] <;> omega
        simp +contextual -implicitDefEqProofs (maxSteps := 1000000) only [sm, sn, seval, eSt, eDoms, eRgs, hb]
        refine callA_rule (ref14_lo n s4 y hs4 hy) (by simp +contextual -implicitDefEqProofs (maxSteps := 1000000) only [sm, sn, seval, eSt, eDoms, eRgs, hb]) rfl ?_
        by_cases k5 : rlo s4 y ≤ 0
        · have e : rs5 s4 x y = s4 := by unfold rs5; rw [if_pos (.inr k5)]
          rw [e]
          simp +contextual -implicitDefEqProofs (maxSteps := 1000000) only [sm, sn, seval, eSt, eDoms, eRgs, hb, k5]
        · have e : rs5 s4 x y = rput s4 x (cutS (-1099511627776) (-rlo s4 y) (rowOf s4.1 x) ++ cutS (rlo s4 y) 1099511627776 (rowOf s4.1 x)) := by
            unfold rs5
            rw [if_neg (by rintro (h | h); rw [hb] at h; cases h; exact k5 h)]
          rw [e]
          have rx := rs_row hs4 hx hb
          have hlen := hs4.2.1
          have hn := hs4.1
          have hix : 0 ≤ x ∧ x < s4.1.length := by omega
          have gx := row_get hix
          have g0 := hix.1
          have nx : x.toNat < s4.1.length := by omega
          have lx := dom_len rx
          have rr := (dom_right rx).1
          have l1 := right_length (cutS_facts (-1099511627776) (-rlo s4 y) rr).1
          have l2 := right_length (cutS_facts (rlo s4 y) 1099511627776 rr).1
          have hA := ref09_Cut (rowOf s4.1 x) (-1099511627776) (-rlo s4 y) (by omega)
          have hB := ref09_Cut (rowOf s4.1 x) (rlo s4 y) 1099511627776 (by omega)
          rw [← cut_eq] at hA hB
          have hP := ref14_putO s4 x (cutS (-1099511627776) (-rlo s4 y) (rowOf s4.1 x) ++ cutS (rlo s4 y) 1099511627776 (rowOf s4.1 x)) g0 (by omega)
          generalize cutS (-1099511627776) (-rlo s4 y) (rowOf s4.1 x) = A at l1 hA hP ⊢
          generalize cutS (rlo s4 y) 1099511627776 (rowOf s4.1 x) = B at l2 hB hP ⊢
          generalize rput s4 x (A ++ B) = u at hP ⊢
          rw [List.length_append] at hP
          have d1 : A.length * 16 ≤ 140737488355328 := by omega
          have d2 : A.length ≤ maxLen := by unfold maxLen; omega
          have d3 : List.take A.length (List.map eRg A) = List.map eRg A := take_map _ _
          have d4 : (A.length + B.length) * 16 ≤ 140737488355328 := by omega
          have d5 : A.length + B.length ≤ maxLen := by unfold maxLen; omega
          simp +contextual -implicitDefEqProofs (maxSteps := 1000000) only [sm, sn, seval, eSt, eDoms, eRgs, hb, k5, gx, g0, nx]
          refine callA_rule (ref14_lo n s4 y hs4 hy) (by simp +contextual -implicitDefEqProofs (maxSteps := 1000000) only [sm, sn, seval, eSt, eDoms, eRgs, hb]) rfl ?_
          simp +contextual -implicitDefEqProofs (maxSteps := 1000000) only [sm, sn, seval, eSt, eDoms, eRgs, hb, w4]
          refine callA_rule (hA) (by simp +contextual -implicitDefEqProofs (maxSteps := 1000000) only [sm, sn, seval, eSt, eDoms, eRgs]) rfl ?_
          simp +contextual -implicitDefEqProofs (maxSteps := 1000000) only [sm, sn, seval, eSt, eDoms, eRgs, hb, gx, g0, nx]
          refine callA_rule (ref14_lo n s4 y hs4 hy) (by simp +contextual -implicitDefEqProofs (maxSteps := 1000000) only [sm, sn, seval, eSt, eDoms, eRgs, hb]) rfl ?_
          simp +contextual -implicitDefEqProofs (maxSteps := 1000000) only [sm, sn, seval, eSt, eDoms, eRgs, hb]
          refine callA_rule (hB) (by simp +contextual -implicitDefEqProofs (maxSteps := 1000000) only [sm, sn, seval, eSt, eDoms, eRgs]) rfl ?_
          simp +contextual -implicitDefEqProofs (maxSteps := 1000000) only [sm, sn, seval, eSt, eDoms, eRgs, hb, d1, d2, d3, d4, d5, Nat.le_refl, Nat.zero_add]
          refine callM_rule [3] hP (by decide) ?_ ?_ ?_ ?_ ?_ ?_
          · simp +contextual -implicitDefEqProofs (maxSteps := 1000000) only [sm, sn, seval, eSt, eDoms, eRgs, hb]
            try rfl
          · simp +contextual -implicitDefEqProofs (maxSteps := 1000000) only [sm, sn, seval, eSt, eDoms, eRgs, hb]
          · simp +contextual -implicitDefEqProofs (maxSteps := 1000000) only [sm, sn, seval, eSt, eDoms, eRgs, hb]
            try rfl
          · simp +contextual -implicitDefEqProofs (maxSteps := 1000000) only [sm, sn, seval, eSt, eDoms, eRgs, hb]
          · simp +contextual -implicitDefEqProofs (maxSteps := 1000000) only [sm, sn, seval, eSt, eDoms, eRgs, hb]
          · simp +contextual -implicitDefEqProofs (maxSteps := 1000000) only [sm, sn, seval, eSt, eDoms, eRgs, hb]
      · have e : rs5 s4 x y = s4 := by unfold rs5; rw [if_pos (.inl hb)]
        rw [e]
        simp +contextual -implicitDefEqProofs (maxSteps := 1000000) only [sm, sn, seval, eSt, eDoms, eRgs, hb]
end Go.Proofs.Ytbhigfllanblpaa
