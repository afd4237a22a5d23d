/- What the functions of package linear compute, continued: is, not, fit, Narrow, Ends. -/
import Derived.Test.YtclpkkbamgmooaaWLin2
import Derived.Test.YtclpkkbamgmooaaWModel4
namespace Go.Proofs.Ytclpkkbamgmooaa
open Av
attribute [local irreducible] awp awpOpers
set_option linter.unusedSimpArgs false
set_option linter.unusedVariables false
set_option maxRecDepth 100000
set_option maxHeartbeats 4000000
theorem most_len {D E : List (List Rg)} {T : List Tm} {n : Int} {b : Bool} (hD : DOk D) (hT : TOk T D) (hs : mostS D T n = (E, b)) : LeD E D := by
  unfold mostS at hs
  split at hs
  · simp only [Prod.mk.injEq] at hs; obtain ⟨rfl, -⟩ := hs; exact le_refl_of hD
  · simp only [Prod.mk.injEq] at hs; obtain ⟨rfl, -⟩ := hs; exact most_le hD hT (Nat.le_refl _)
theorem most_true {D E : List (List Rg)} {T : List Tm} {n : Int} (hs : mostS D T n = (E, true)) : wholeB E = true := by
  unfold mostS at hs
  split at hs
  · simp at hs
  · simp only [Prod.mk.injEq] at hs; obtain ⟨rfl, h⟩ := hs; exact h
theorem linear_is (D : List (List Rg)) (T : List Tm) (n : Int) {E : List (List Rg)} {b : Bool} (hD : DOk D) (hDl : D.length ≤ 64) (hT : TOk T D) (hn : -1048576 ≤ n ∧ n ≤ 1048576) (hs : isS D T n = (E, b)) :
    ∃ T', Ctr Try.prog 50 [.ptr 2 0 0 0, .int .i64 n] (sumX T D) (.bool b) (sumX T' E) := by
  obtain ⟨E1, b1, h1⟩ : ∃ E1 b1, mostS D T n = (E1, b1) := ⟨_, _, rfl⟩
  unfold isS at hs
  rw [h1] at hs
  have hle := most_len hD hT h1
  cases b1
  · simp only [Prod.mk.injEq] at hs
    obtain ⟨rfl, rfl⟩ := hs
    refine ⟨T, ?_⟩
    refine call_box Try.func50 Try.call50 e_linear_sum_is ?_
    simp +contextual -implicitDefEqProofs (maxSteps := 1000000) only [c_linear_sum_is, sm, awpOper, awpDo, evP, evBin, evUn, eqInts, fillA, setCells, cutCells, okElems, AV.natOf, natO, maxA, minA, AV.isInt, evSlc, evLoad, setE, evW, AV.cells, AV.okSt, elemsOf, appBase, AV.isSl, resV, tupV, viewN, embB, embT, okR, okC, okL, okEs, ren, renC, renL, renEs, seval]
    refine callM_rule [0, 1, 2] (linear_most D T n hD hDl hT hn h1) (by decide) ?_ ?_ ?_ ?_ ?_ ?_
    · simp +contextual -implicitDefEqProofs (maxSteps := 1000000) only [sm, awpOper, awpDo, evP, evBin, evUn, eqInts, fillA, setCells, cutCells, okElems, AV.natOf, natO, maxA, minA, AV.isInt, evSlc, evLoad, setE, evW, AV.cells, AV.okSt, elemsOf, appBase, AV.isSl, resV, tupV, viewN, embB, embT, okR, okC, okL, okEs, ren, renC, renL, renEs, seval, sumX_eq]
      try rfl
    · simp +contextual -implicitDefEqProofs (maxSteps := 1000000) only [sm, awpOper, awpDo, evP, evBin, evUn, eqInts, fillA, setCells, cutCells, okElems, AV.natOf, natO, maxA, minA, AV.isInt, evSlc, evLoad, setE, evW, AV.cells, AV.okSt, elemsOf, appBase, AV.isSl, resV, tupV, viewN, embB, embT, okR, okC, okL, okEs, ren, renC, renL, renEs, seval, sumX_eq]
    · simp +contextual -implicitDefEqProofs (maxSteps := 1000000) only [sm, awpOper, awpDo, evP, evBin, evUn, eqInts, fillA, setCells, cutCells, okElems, AV.natOf, natO, maxA, minA, AV.isInt, evSlc, evLoad, setE, evW, AV.cells, AV.okSt, elemsOf, appBase, AV.isSl, resV, tupV, viewN, embB, embT, okR, okC, okL, okEs, ren, renC, renL, renEs, seval, sumX_eq]
      try rfl
    · simp +contextual -implicitDefEqProofs (maxSteps := 1000000) only [sm, awpOper, awpDo, evP, evBin, evUn, eqInts, fillA, setCells, cutCells, okElems, AV.natOf, natO, maxA, minA, AV.isInt, evSlc, evLoad, setE, evW, AV.cells, AV.okSt, elemsOf, appBase, AV.isSl, resV, tupV, viewN, embB, embT, okR, okC, okL, okEs, ren, renC, renL, renEs, seval, sumX_eq]
    · simp +contextual -implicitDefEqProofs (maxSteps := 1000000) only [sm, awpOper, awpDo, evP, evBin, evUn, eqInts, fillA, setCells, cutCells, okElems, AV.natOf, natO, maxA, minA, AV.isInt, evSlc, evLoad, setE, evW, AV.cells, AV.okSt, elemsOf, appBase, AV.isSl, resV, tupV, viewN, embB, embT, okR, okC, okL, okEs, ren, renC, renL, renEs, seval, sumX_eq]
    · simp +contextual -implicitDefEqProofs (maxSteps := 1000000) only [sm, awpOper, awpDo, evP, evBin, evUn, eqInts, fillA, setCells, cutCells, okElems, AV.natOf, natO, maxA, minA, AV.isInt, evSlc, evLoad, setE, evW, AV.cells, AV.okSt, elemsOf, appBase, AV.isSl, resV, tupV, viewN, embB, embT, okR, okC, okL, okEs, ren, renC, renL, renEs, seval, sumX_eq]
      refine ⟨[], [0, 1, 2], by decide, ?_⟩
      simp +contextual -implicitDefEqProofs (maxSteps := 1000000) only [sm, awpOper, awpDo, evP, evBin, evUn, eqInts, fillA, setCells, cutCells, okElems, AV.natOf, natO, maxA, minA, AV.isInt, evSlc, evLoad, setE, evW, AV.cells, AV.okSt, elemsOf, appBase, AV.isSl, resV, tupV, viewN, embB, embT, okR, okC, okL, okEs, ren, renC, renL, renEs, seval, sumX_eq]
      try rfl
  · simp only at hs
    have hD1 := whole_ok hle (most_true h1)
    have hT1 := opp_ok hT hle.1
    have w1 : IntKind.i64.wrap (0 - n) = -n := by rw [wrap_i64] <;> omega
    have hT0 : TOk T E1 := ⟨hT.1, fun k hk => by have := hT.2 k hk; have := hle.1; omega⟩
    refine ⟨opp T, ?_⟩
    refine call_box Try.func50 Try.call50 e_linear_sum_is ?_
    simp +contextual -implicitDefEqProofs (maxSteps := 1000000) only [c_linear_sum_is, sm, awpOper, awpDo, evP, evBin, evUn, eqInts, fillA, setCells, cutCells, okElems, AV.natOf, natO, maxA, minA, AV.isInt, evSlc, evLoad, setE, evW, AV.cells, AV.okSt, elemsOf, appBase, AV.isSl, resV, tupV, viewN, embB, embT, okR, okC, okL, okEs, ren, renC, renL, renEs, seval]
    refine callM_rule [0, 1, 2] (linear_most D T n hD hDl hT hn h1) (by decide) ?_ ?_ ?_ ?_ ?_ ?_
    · simp +contextual -implicitDefEqProofs (maxSteps := 1000000) only [sm, awpOper, awpDo, evP, evBin, evUn, eqInts, fillA, setCells, cutCells, okElems, AV.natOf, natO, maxA, minA, AV.isInt, evSlc, evLoad, setE, evW, AV.cells, AV.okSt, elemsOf, appBase, AV.isSl, resV, tupV, viewN, embB, embT, okR, okC, okL, okEs, ren, renC, renL, renEs, seval, sumX_eq]
      try rfl
    · simp +contextual -implicitDefEqProofs (maxSteps := 1000000) only [sm, awpOper, awpDo, evP, evBin, evUn, eqInts, fillA, setCells, cutCells, okElems, AV.natOf, natO, maxA, minA, AV.isInt, evSlc, evLoad, setE, evW, AV.cells, AV.okSt, elemsOf, appBase, AV.isSl, resV, tupV, viewN, embB, embT, okR, okC, okL, okEs, ren, renC, renL, renEs, seval, sumX_eq]
    · simp +contextual -implicitDefEqProofs (maxSteps := 1000000) only [sm, awpOper, awpDo, evP, evBin, evUn, eqInts, fillA, setCells, cutCells, okElems, AV.natOf, natO, maxA, minA, AV.isInt, evSlc, evLoad, setE, evW, AV.cells, AV.okSt, elemsOf, appBase, AV.isSl, resV, tupV, viewN, embB, embT, okR, okC, okL, okEs, ren, renC, renL, renEs, seval, sumX_eq]
      try rfl
    · simp +contextual -implicitDefEqProofs (maxSteps := 1000000) only [sm, awpOper, awpDo, evP, evBin, evUn, eqInts, fillA, setCells, cutCells, okElems, AV.natOf, natO, maxA, minA, AV.isInt, evSlc, evLoad, setE, evW, AV.cells, AV.okSt, elemsOf, appBase, AV.isSl, resV, tupV, viewN, embB, embT, okR, okC, okL, okEs, ren, renC, renL, renEs, seval, sumX_eq]
    · simp +contextual -implicitDefEqProofs (maxSteps := 1000000) only [sm, awpOper, awpDo, evP, evBin, evUn, eqInts, fillA, setCells, cutCells, okElems, AV.natOf, natO, maxA, minA, AV.isInt, evSlc, evLoad, setE, evW, AV.cells, AV.okSt, elemsOf, appBase, AV.isSl, resV, tupV, viewN, embB, embT, okR, okC, okL, okEs, ren, renC, renL, renEs, seval, sumX_eq]
    · simp +contextual -implicitDefEqProofs (maxSteps := 1000000) only [sm, awpOper, awpDo, evP, evBin, evUn, eqInts, fillA, setCells, cutCells, okElems, AV.natOf, natO, maxA, minA, AV.isInt, evSlc, evLoad, setE, evW, AV.cells, AV.okSt, elemsOf, appBase, AV.isSl, resV, tupV, viewN, embB, embT, okR, okC, okL, okEs, ren, renC, renL, renEs, seval, sumX_eq]
      refine callM_rule [0, 1, 2] (linear_opposite E1 T hT0) (by decide) ?_ ?_ ?_ ?_ ?_ ?_
      · simp +contextual -implicitDefEqProofs (maxSteps := 1000000) only [sm, awpOper, awpDo, evP, evBin, evUn, eqInts, fillA, setCells, cutCells, okElems, AV.natOf, natO, maxA, minA, AV.isInt, evSlc, evLoad, setE, evW, AV.cells, AV.okSt, elemsOf, appBase, AV.isSl, resV, tupV, viewN, embB, embT, okR, okC, okL, okEs, ren, renC, renL, renEs, seval, sumX_eq]
        try rfl
      · simp +contextual -implicitDefEqProofs (maxSteps := 1000000) only [sm, awpOper, awpDo, evP, evBin, evUn, eqInts, fillA, setCells, cutCells, okElems, AV.natOf, natO, maxA, minA, AV.isInt, evSlc, evLoad, setE, evW, AV.cells, AV.okSt, elemsOf, appBase, AV.isSl, resV, tupV, viewN, embB, embT, okR, okC, okL, okEs, ren, renC, renL, renEs, seval, sumX_eq]
      · simp +contextual -implicitDefEqProofs (maxSteps := 1000000) only [sm, awpOper, awpDo, evP, evBin, evUn, eqInts, fillA, setCells, cutCells, okElems, AV.natOf, natO, maxA, minA, AV.isInt, evSlc, evLoad, setE, evW, AV.cells, AV.okSt, elemsOf, appBase, AV.isSl, resV, tupV, viewN, embB, embT, okR, okC, okL, okEs, ren, renC, renL, renEs, seval, sumX_eq]
        try rfl
      · simp +contextual -implicitDefEqProofs (maxSteps := 1000000) only [sm, awpOper, awpDo, evP, evBin, evUn, eqInts, fillA, setCells, cutCells, okElems, AV.natOf, natO, maxA, minA, AV.isInt, evSlc, evLoad, setE, evW, AV.cells, AV.okSt, elemsOf, appBase, AV.isSl, resV, tupV, viewN, embB, embT, okR, okC, okL, okEs, ren, renC, renL, renEs, seval, sumX_eq]
      · simp +contextual -implicitDefEqProofs (maxSteps := 1000000) only [sm, awpOper, awpDo, evP, evBin, evUn, eqInts, fillA, setCells, cutCells, okElems, AV.natOf, natO, maxA, minA, AV.isInt, evSlc, evLoad, setE, evW, AV.cells, AV.okSt, elemsOf, appBase, AV.isSl, resV, tupV, viewN, embB, embT, okR, okC, okL, okEs, ren, renC, renL, renEs, seval, sumX_eq]
      · simp +contextual -implicitDefEqProofs (maxSteps := 1000000) only [sm, awpOper, awpDo, evP, evBin, evUn, eqInts, fillA, setCells, cutCells, okElems, AV.natOf, natO, maxA, minA, AV.isInt, evSlc, evLoad, setE, evW, AV.cells, AV.okSt, elemsOf, appBase, AV.isSl, resV, tupV, viewN, embB, embT, okR, okC, okL, okEs, ren, renC, renL, renEs, seval, sumX_eq, w1]
        refine callM_rule [0, 1, 2] (linear_most E1 (opp T) (-n) hD1 (by have := hle.1; omega) hT1 (by omega) hs) (by decide) ?_ ?_ ?_ ?_ ?_ ?_
        · simp +contextual -implicitDefEqProofs (maxSteps := 1000000) only [sm, awpOper, awpDo, evP, evBin, evUn, eqInts, fillA, setCells, cutCells, okElems, AV.natOf, natO, maxA, minA, AV.isInt, evSlc, evLoad, setE, evW, AV.cells, AV.okSt, elemsOf, appBase, AV.isSl, resV, tupV, viewN, embB, embT, okR, okC, okL, okEs, ren, renC, renL, renEs, seval, sumX_eq]
          try rfl
        · simp +contextual -implicitDefEqProofs (maxSteps := 1000000) only [sm, awpOper, awpDo, evP, evBin, evUn, eqInts, fillA, setCells, cutCells, okElems, AV.natOf, natO, maxA, minA, AV.isInt, evSlc, evLoad, setE, evW, AV.cells, AV.okSt, elemsOf, appBase, AV.isSl, resV, tupV, viewN, embB, embT, okR, okC, okL, okEs, ren, renC, renL, renEs, seval, sumX_eq]
        · simp +contextual -implicitDefEqProofs (maxSteps := 1000000) only [sm, awpOper, awpDo, evP, evBin, evUn, eqInts, fillA, setCells, cutCells, okElems, AV.natOf, natO, maxA, minA, AV.isInt, evSlc, evLoad, setE, evW, AV.cells, AV.okSt, elemsOf, appBase, AV.isSl, resV, tupV, viewN, embB, embT, okR, okC, okL, okEs, ren, renC, renL, renEs, seval, sumX_eq]
          try rfl
        · simp +contextual -implicitDefEqProofs (maxSteps := 1000000) only [sm, awpOper, awpDo, evP, evBin, evUn, eqInts, fillA, setCells, cutCells, okElems, AV.natOf, natO, maxA, minA, AV.isInt, evSlc, evLoad, setE, evW, AV.cells, AV.okSt, elemsOf, appBase, AV.isSl, resV, tupV, viewN, embB, embT, okR, okC, okL, okEs, ren, renC, renL, renEs, seval, sumX_eq]
        · simp +contextual -implicitDefEqProofs (maxSteps := 1000000) only [sm, awpOper, awpDo, evP, evBin, evUn, eqInts, fillA, setCells, cutCells, okElems, AV.natOf, natO, maxA, minA, AV.isInt, evSlc, evLoad, setE, evW, AV.cells, AV.okSt, elemsOf, appBase, AV.isSl, resV, tupV, viewN, embB, embT, okR, okC, okL, okEs, ren, renC, renL, renEs, seval, sumX_eq]
        · simp +contextual -implicitDefEqProofs (maxSteps := 1000000) only [sm, awpOper, awpDo, evP, evBin, evUn, eqInts, fillA, setCells, cutCells, okElems, AV.natOf, natO, maxA, minA, AV.isInt, evSlc, evLoad, setE, evW, AV.cells, AV.okSt, elemsOf, appBase, AV.isSl, resV, tupV, viewN, embB, embT, okR, okC, okL, okEs, ren, renC, renL, renEs, seval, sumX_eq]
          refine ⟨[], [0, 1, 2], by decide, ?_⟩
          simp +contextual -implicitDefEqProofs (maxSteps := 1000000) only [sm, awpOper, awpDo, evP, evBin, evUn, eqInts, fillA, setCells, cutCells, okElems, AV.natOf, natO, maxA, minA, AV.isInt, evSlc, evLoad, setE, evW, AV.cells, AV.okSt, elemsOf, appBase, AV.isSl, resV, tupV, viewN, embB, embT, okR, okC, okL, okEs, ren, renC, renL, renEs, seval, sumX_eq]
          try rfl
theorem tdiv_small {r a : Int} (hr : -1000000000000000 ≤ r ∧ r ≤ 1000000000000000) : -1000000000000000 ≤ r.tdiv a ∧ r.tdiv a ≤ 1000000000000000 := by
  have h : (r.tdiv a).natAbs ≤ r.natAbs := by
    rw [Int.natAbs_tdiv]
    exact Nat.div_le_self _ _
  omega
theorem linear_not (D : List (List Rg)) (T : List Tm) (n : Int) {E : List (List Rg)} {b : Bool} (hD : DOk D) (hDl : D.length ≤ 64) (hT : TOk T D) (hn : -1048576 ≤ n ∧ n ≤ 1048576) (hs : notS D T n = (E, b)) :
    Ctr Try.prog 52 [.ptr 2 0 0 0, .int .i64 n] (sumX T D) (.bool b) (sumX T E) := by
  refine call_box Try.func52 Try.call52 e_linear_sum_not ?_
  have hT32 := hT.1
  simp +contextual -implicitDefEqProofs (maxSteps := 1000000) only [c_linear_sum_not, sumX_eq, sm, awpOper, awpDo, evP, evBin, evUn, eqInts, fillA, setCells, cutCells, okElems, AV.natOf, natO, maxA, minA, AV.isInt, evSlc, evLoad, setE, evW, AV.cells, AV.okSt, elemsOf, appBase, AV.isSl, resV, tupV, viewN, embB, embT, okR, okC, okL, okEs, ren, renC, renL, renEs, seval]
  refine loop_ruleV [(5, 2)] (fun k : Nat => k ≤ T.length) (fun k => tm 98 [(0, .ptr 2 0 0 0), (1, .int .i64 (n - (openK D T k).2)), (5, .sl 2 3 0 (openK D T k).1.length), (14, .sl 2 1 0 T.length), (15, .int .i64 T.length), (16, .int .i64 k)])
    (fun k => [some (2, [.agg [.sl 2 1 0 T.length, .sl 1 2 0 D.length]]), some (2, T.map eRg), some (1, D.map eRgs), some (2, (openK D T k).1.map eRg)]) (fun k => T.length - k) 0 (by simp +contextual -implicitDefEqProofs (maxSteps := 1000000) only [sm, awpOper, awpDo, evP, evBin, evUn, eqInts, fillA, setCells, cutCells, okElems, AV.natOf, natO, maxA, minA, AV.isInt, evSlc, evLoad, setE, evW, AV.cells, AV.okSt, elemsOf, appBase, AV.isSl, resV, tupV, viewN, embB, embT, okR, okC, okL, okEs, ren, renC, renL, renEs, seval]) (Nat.zero_le _) ⟨[0, 1, 2, 3], by decide, rfl, ?_, ?_⟩ ?_
  · simp +contextual -implicitDefEqProofs (maxSteps := 1000000) only [sm, awpOper, awpDo, evP, evBin, evUn, eqInts, fillA, setCells, cutCells, okElems, AV.natOf, natO, maxA, minA, AV.isInt, evSlc, evLoad, setE, evW, AV.cells, AV.okSt, elemsOf, appBase, AV.isSl, resV, tupV, viewN, embB, embT, okR, okC, okL, okEs, ren, renC, renL, renEs, seval, openK]
  · simp +contextual -implicitDefEqProofs (maxSteps := 1000000) only [sm, awpOper, awpDo, evP, evBin, evUn, eqInts, fillA, setCells, cutCells, okElems, AV.natOf, natO, maxA, minA, AV.isInt, evSlc, evLoad, setE, evW, AV.cells, AV.okSt, elemsOf, appBase, AV.isSl, resV, tupV, viewN, embB, embT, okR, okC, okL, okEs, ren, renC, renL, renEs, seval, Int.natCast_zero, openK, Int.sub_zero]
  · intro k hk
    obtain ⟨of1, of2, of3⟩ := open_facts hD hT hk
    by_cases hlt : k < T.length
    · have hlt' : (k : Int) < (T.length : Int) := by omega
      have e2 : IntKind.i64.wrap ((k : Int) + 1) = ((k + 1 : Nat) : Int) := by rw [wrap_i64] <;> omega
      have ht := tX_pair hlt
      obtain ⟨b1, b2⟩ := hT.2 k hlt
      have hO : openK D T (k + 1) = if (tX T k).1 = 0 ∨ (eAt D (tX T k).2).1 = (eAt D (tX T k).2).2 then ((openK D T k).1, (openK D T k).2 + (tX T k).1 * (eAt D (tX T k).2).1) else ((openK D T k).1 ++ [tX T k], (openK D T k).2) := rfl
      rw [show tX T k = ((tX T k).1, (tX T k).2) from rfl] at hO
      have hr := row_get b2
      obtain ⟨_, e3, e4, e5⟩ := eAt_facts hD b2
      have hdr := dom_right (hD _ b2.1 b2.2)
      have hl1 := right_length hdr.1
      have h0 := b2.1
      have hxn2 : (tX T k).2.toNat < D.length := by omega
      have he : endsV (rowOf D (tX T k).2) = ((eAt D (tX T k).2).1, (eAt D (tX T k).2).2) := rfl
      have hm := mul_bound (a := (tX T k).1) (b := (eAt D (tX T k).2).1) b1 (by omega)
      generalize (tX T k).1 = a at ht b1 hO hm ⊢
      generalize (tX T k).2 = x at ht b2 hO hr e3 e4 e5 hdr hl1 h0 hxn2 he hm ⊢
      generalize (eAt D x).1 = lo at e3 e4 hO he hm ⊢
      generalize (eAt D x).2 = hi at e4 e5 hO he ⊢
      generalize rowOf D x = r at hr hl1 hdr he ⊢
      generalize hol : (openK D T k).1 = ol at hO of1 of3 ⊢
      generalize hos : (openK D T k).2 = os at hO of2 ⊢
      have w1 : IntKind.i64.wrap (a * lo) = a * lo := by rw [wrap_i64] <;> omega
      have w2 : IntKind.i64.wrap (n - os - a * lo) = n - (os + a * lo) := by rw [wrap_i64] <;> omega
      have c1 : (ol.length + 1) * 16 ≤ 140737488355328 := by omega
      have c2 : ol.length + 1 ≤ maxLen := by unfold maxLen; omega
      simp +contextual -implicitDefEqProofs (maxSteps := 1000000) only [sm, awpOper, awpDo, evP, evBin, evUn, eqInts, fillA, setCells, cutCells, okElems, AV.natOf, natO, maxA, minA, AV.isInt, evSlc, evLoad, setE, evW, AV.cells, AV.okSt, elemsOf, appBase, AV.isSl, resV, tupV, viewN, embB, embT, okR, okC, okL, okEs, ren, renC, renL, renEs, seval, hlt', hlt, ht, h0, hxn2, hr, hol, hos]
      refine callA_rule (set_Ends r (by omega)) (wkL_refl _) rfl ?_
      rw [he]
      by_cases ha : a = 0
      · rw [if_pos (.inl ha)] at hO
        have ha' : (a = 0) = True := eq_true ha
        simp +contextual -implicitDefEqProofs (maxSteps := 1000000) only [sm, awpOper, awpDo, evP, evBin, evUn, eqInts, fillA, setCells, cutCells, okElems, AV.natOf, natO, maxA, minA, AV.isInt, evSlc, evLoad, setE, evW, AV.cells, AV.okSt, elemsOf, appBase, AV.isSl, resV, tupV, viewN, embB, embT, okR, okC, okL, okEs, ren, renC, renL, renEs, seval, eRg, ha', w1, w2, e2]
        refine ⟨k + 1, by omega, by omega, [0, 1, 2, 3], by decide, rfl, ?_, ?_⟩
        · simp +contextual -implicitDefEqProofs (maxSteps := 1000000) only [sm, awpOper, awpDo, evP, evBin, evUn, eqInts, fillA, setCells, cutCells, okElems, AV.natOf, natO, maxA, minA, AV.isInt, evSlc, evLoad, setE, evW, AV.cells, AV.okSt, elemsOf, appBase, AV.isSl, resV, tupV, viewN, embB, embT, okR, okC, okL, okEs, ren, renC, renL, renEs, seval, hO]
        · simp +contextual -implicitDefEqProofs (maxSteps := 1000000) only [sm, awpOper, awpDo, evP, evBin, evUn, eqInts, fillA, setCells, cutCells, okElems, AV.natOf, natO, maxA, minA, AV.isInt, evSlc, evLoad, setE, evW, AV.cells, AV.okSt, elemsOf, appBase, AV.isSl, resV, tupV, viewN, embB, embT, okR, okC, okL, okEs, ren, renC, renL, renEs, seval, hO]
      · have ha' : (a = 0) = False := eq_false ha
        by_cases hl : lo = hi
        · rw [if_pos (.inr hl)] at hO
          have hl' : (lo = hi) = True := eq_true hl
          simp +contextual -implicitDefEqProofs (maxSteps := 1000000) only [sm, awpOper, awpDo, evP, evBin, evUn, eqInts, fillA, setCells, cutCells, okElems, AV.natOf, natO, maxA, minA, AV.isInt, evSlc, evLoad, setE, evW, AV.cells, AV.okSt, elemsOf, appBase, AV.isSl, resV, tupV, viewN, embB, embT, okR, okC, okL, okEs, ren, renC, renL, renEs, seval, eRg, ha', hl', w1, w2, e2]
          refine ⟨k + 1, by omega, by omega, [0, 1, 2, 3], by decide, rfl, ?_, ?_⟩
          · simp +contextual -implicitDefEqProofs (maxSteps := 1000000) only [sm, awpOper, awpDo, evP, evBin, evUn, eqInts, fillA, setCells, cutCells, okElems, AV.natOf, natO, maxA, minA, AV.isInt, evSlc, evLoad, setE, evW, AV.cells, AV.okSt, elemsOf, appBase, AV.isSl, resV, tupV, viewN, embB, embT, okR, okC, okL, okEs, ren, renC, renL, renEs, seval, hO]
          · simp +contextual -implicitDefEqProofs (maxSteps := 1000000) only [sm, awpOper, awpDo, evP, evBin, evUn, eqInts, fillA, setCells, cutCells, okElems, AV.natOf, natO, maxA, minA, AV.isInt, evSlc, evLoad, setE, evW, AV.cells, AV.okSt, elemsOf, appBase, AV.isSl, resV, tupV, viewN, embB, embT, okR, okC, okL, okEs, ren, renC, renL, renEs, seval, hO]
        · rw [if_neg (by rintro (h | h); exact ha h; exact hl h)] at hO
          have hl' : (lo = hi) = False := eq_false hl
          simp +contextual -implicitDefEqProofs (maxSteps := 1000000) only [sm, awpOper, awpDo, evP, evBin, evUn, eqInts, fillA, setCells, cutCells, okElems, AV.natOf, natO, maxA, minA, AV.isInt, evSlc, evLoad, setE, evW, AV.cells, AV.okSt, elemsOf, appBase, AV.isSl, resV, tupV, viewN, embB, embT, okR, okC, okL, okEs, ren, renC, renL, renEs, seval, eRg, ha', hl', c1, c2, e2]
          refine ⟨k + 1, by omega, by omega, [0, 1, 2, 6], by decide, rfl, ?_, ?_⟩
          · simp +contextual -implicitDefEqProofs (maxSteps := 1000000) only [sm, awpOper, awpDo, evP, evBin, evUn, eqInts, fillA, setCells, cutCells, okElems, AV.natOf, natO, maxA, minA, AV.isInt, evSlc, evLoad, setE, evW, AV.cells, AV.okSt, elemsOf, appBase, AV.isSl, resV, tupV, viewN, embB, embT, okR, okC, okL, okEs, ren, renC, renL, renEs, seval, hO]
          · simp +contextual -implicitDefEqProofs (maxSteps := 1000000) only [sm, awpOper, awpDo, evP, evBin, evUn, eqInts, fillA, setCells, cutCells, okElems, AV.natOf, natO, maxA, minA, AV.isInt, evSlc, evLoad, setE, evW, AV.cells, AV.okSt, elemsOf, appBase, AV.isSl, resV, tupV, viewN, embB, embT, okR, okC, okL, okEs, ren, renC, renL, renEs, seval, hO]
    · have hkn : k = T.length := by omega
      subst hkn
      unfold notS at hs
      generalize hol : (openK D T T.length).1 = ol at hs of1 of3 ⊢
      generalize hos : (openK D T T.length).2 = os at hs of2 ⊢
      by_cases g1 : 1 < ol.length
      · rw [if_pos g1] at hs
        simp only [Prod.mk.injEq] at hs
        obtain ⟨rfl, rfl⟩ := hs
        have g1' : (1 : Int) < (ol.length : Int) := by omega
        simp +contextual -implicitDefEqProofs (maxSteps := 1000000) only [sm, awpOper, awpDo, evP, evBin, evUn, eqInts, fillA, setCells, cutCells, okElems, AV.natOf, natO, maxA, minA, AV.isInt, evSlc, evLoad, setE, evW, AV.cells, AV.okSt, elemsOf, appBase, AV.isSl, resV, tupV, viewN, embB, embT, okR, okC, okL, okEs, ren, renC, renL, renEs, seval, Int.lt_irrefl, hol, hos, g1']
        refine ⟨[], [0, 1, 2], by decide, ?_⟩
        simp +contextual -implicitDefEqProofs (maxSteps := 1000000) only [sm, awpOper, awpDo, evP, evBin, evUn, eqInts, fillA, setCells, cutCells, okElems, AV.natOf, natO, maxA, minA, AV.isInt, evSlc, evLoad, setE, evW, AV.cells, AV.okSt, elemsOf, appBase, AV.isSl, resV, tupV, viewN, embB, embT, okR, okC, okL, okEs, ren, renC, renL, renEs, seval]
        try rfl
      rw [if_neg g1] at hs
      have g1' : ¬ (1 : Int) < (ol.length : Int) := by omega
      by_cases g0 : ol.length = 0
      · rw [if_pos g0] at hs
        simp only [Prod.mk.injEq] at hs
        obtain ⟨rfl, rfl⟩ := hs
        have g0' : ((ol.length : Int) = 0) = True := by simp only [eq_iff_iff, iff_true]; omega
        simp +contextual -implicitDefEqProofs (maxSteps := 1000000) only [sm, awpOper, awpDo, evP, evBin, evUn, eqInts, fillA, setCells, cutCells, okElems, AV.natOf, natO, maxA, minA, AV.isInt, evSlc, evLoad, setE, evW, AV.cells, AV.okSt, elemsOf, appBase, AV.isSl, resV, tupV, viewN, embB, embT, okR, okC, okL, okEs, ren, renC, renL, renEs, seval, Int.lt_irrefl, hol, hos, g1', g0']
        refine ⟨[], [0, 1, 2], by decide, ?_⟩
        simp +contextual -implicitDefEqProofs (maxSteps := 1000000) only [sm, awpOper, awpDo, evP, evBin, evUn, eqInts, fillA, setCells, cutCells, okElems, AV.natOf, natO, maxA, minA, AV.isInt, evSlc, evLoad, setE, evW, AV.cells, AV.okSt, elemsOf, appBase, AV.isSl, resV, tupV, viewN, embB, embT, okR, okC, okL, okEs, ren, renC, renL, renEs, seval]
        try rfl
      rw [if_neg g0] at hs
      have g0' : ((ol.length : Int) = 0) = False := by simp only [eq_iff_iff, iff_false]; omega
      have g2 : 0 < ol.length := by omega
      have ht := tX_pair g2
      obtain ⟨u1, u2, u3⟩ := of3 _ (List.mem_of_getElem? (tX_get g2))
      have hr := row_get u3
      have hdr := dom_right (hD _ u3.1 u3.2)
      have hl1 := right_length hdr.1
      have h0 := u3.1
      have hxn2 : (tX ol 0).2.toNat < D.length := by omega
      generalize (tX ol 0).1 = a at ht u1 u2 hs ⊢
      generalize (tX ol 0).2 = x at ht u3 hs hr hdr hl1 h0 hxn2 ⊢
      generalize rowOf D x = r at hr hl1 hdr hs ⊢
      have u1' : (a = 0) = False := eq_false u1
      by_cases g3 : (n - os).tmod a = 0
      · rw [if_neg (by simp [g3])] at hs
        simp only [Prod.mk.injEq] at hs
        obtain ⟨hE, hb⟩ := hs
        have hq := tdiv_small (r := n - os) (a := a) (by omega)
        have w3 : IntKind.i64.wrap ((n - os).tdiv a) = (n - os).tdiv a := by rw [wrap_i64] <;> omega
        have g3' : ((n - os).tmod a = 0) = True := eq_true g3
        simp +contextual -implicitDefEqProofs (maxSteps := 1000000) only [sm, awpOper, awpDo, evP, evBin, evUn, eqInts, fillA, setCells, cutCells, okElems, AV.natOf, natO, maxA, minA, AV.isInt, evSlc, evLoad, setE, evW, AV.cells, AV.okSt, elemsOf, appBase, AV.isSl, resV, tupV, viewN, embB, embT, okR, okC, okL, okEs, ren, renC, renL, renEs, seval, Int.lt_irrefl, hol, hos, g1', g0', g2, ht, u1', g3', w3, h0, hxn2, hr]
        refine callA_rule (set_Without r ((n - os).tdiv a) (by omega) (by omega)) (wkL_refl _) rfl ?_
        have hEl : E.length = D.length := by rw [← hE, List.length_set]
        simp +contextual -implicitDefEqProofs (maxSteps := 1000000) only [sm, awpOper, awpDo, evP, evBin, evUn, eqInts, fillA, setCells, cutCells, okElems, AV.natOf, natO, maxA, minA, AV.isInt, evSlc, evLoad, setE, evW, AV.cells, AV.okSt, elemsOf, appBase, AV.isSl, resV, tupV, viewN, embB, embT, okR, okC, okL, okEs, ren, renC, renL, renEs, seval, eRgs, h0, hxn2, hr, set_rows2, hE]
        refine callV_rule (linear_whole E (.list 2 (T.map eRg)) (by omega)) ?_ rfl ?_
        · simp +contextual -implicitDefEqProofs (maxSteps := 1000000) only [sm, awpOper, awpDo, evP, evBin, evUn, eqInts, fillA, setCells, cutCells, okElems, AV.natOf, natO, maxA, minA, AV.isInt, evSlc, evLoad, setE, evW, AV.cells, AV.okSt, elemsOf, appBase, AV.isSl, resV, tupV, viewN, embB, embT, okR, okC, okL, okEs, ren, renC, renL, renEs, seval, ← hEl]
        rw [hE] at hb
        rw [hb]
        simp +contextual -implicitDefEqProofs (maxSteps := 1000000) only [sm, awpOper, awpDo, evP, evBin, evUn, eqInts, fillA, setCells, cutCells, okElems, AV.natOf, natO, maxA, minA, AV.isInt, evSlc, evLoad, setE, evW, AV.cells, AV.okSt, elemsOf, appBase, AV.isSl, resV, tupV, viewN, embB, embT, okR, okC, okL, okEs, ren, renC, renL, renEs, seval]
        refine ⟨[], [0, 1, 2], by decide, ?_⟩
        simp +contextual -implicitDefEqProofs (maxSteps := 1000000) only [sm, awpOper, awpDo, evP, evBin, evUn, eqInts, fillA, setCells, cutCells, okElems, AV.natOf, natO, maxA, minA, AV.isInt, evSlc, evLoad, setE, evW, AV.cells, AV.okSt, elemsOf, appBase, AV.isSl, resV, tupV, viewN, embB, embT, okR, okC, okL, okEs, ren, renC, renL, renEs, seval, hEl]
        try rfl
      · rw [if_pos g3] at hs
        simp only [Prod.mk.injEq] at hs
        obtain ⟨rfl, rfl⟩ := hs
        have g3' : ((n - os).tmod a = 0) = False := eq_false g3
        simp +contextual -implicitDefEqProofs (maxSteps := 1000000) only [sm, awpOper, awpDo, evP, evBin, evUn, eqInts, fillA, setCells, cutCells, okElems, AV.natOf, natO, maxA, minA, AV.isInt, evSlc, evLoad, setE, evW, AV.cells, AV.okSt, elemsOf, appBase, AV.isSl, resV, tupV, viewN, embB, embT, okR, okC, okL, okEs, ren, renC, renL, renEs, seval, Int.lt_irrefl, hol, hos, g1', g0', g2, ht, u1', g3']
        refine ⟨[], [0, 1, 2], by decide, ?_⟩
        simp +contextual -implicitDefEqProofs (maxSteps := 1000000) only [sm, awpOper, awpDo, evP, evBin, evUn, eqInts, fillA, setCells, cutCells, okElems, AV.natOf, natO, maxA, minA, AV.isInt, evSlc, evLoad, setE, evW, AV.cells, AV.okSt, elemsOf, appBase, AV.isSl, resV, tupV, viewN, embB, embT, okR, okC, okL, okEs, ren, renC, renL, renEs, seval]
        try rfl
theorem linear_fit (c : Con) (D : List (List Rg)) (hD : D.length ≤ 1000000000000) (hd : ∀ d ∈ D, d.length ≤ 1000000000000) (hc : conFits c) : Ctr Try.prog 48 [eCon c, eDoms D] [] (.bool (modB (D, [c], 0, 0))) [] := by
  refine call_pure Try.func48 Try.call48 e_linear_fit ?_
  obtain ⟨K, X, A, C⟩ := c
  simp +contextual -implicitDefEqProofs (maxSteps := 1000000) only [c_linear_fit, eCon, eIs, eDoms, sm, awpOper, awpDo, evP, evBin, evUn, eqInts, fillA, setCells, cutCells, okElems, AV.natOf, natO, maxA, minA, AV.isInt, evSlc, evLoad, setE, evW, AV.cells, AV.okSt, elemsOf, appBase, AV.isSl, resV, tupV, viewN, embB, embT, okR, okC, okL, okEs, ren, renC, renL, renEs, seval]
  refine callA_rule (model_Right (D, [(K, X, A, C)], 0, 0) hD hd (by simp) (by simpa using hc)) (wkL_refl _) rfl ?_
  simp +contextual -implicitDefEqProofs (maxSteps := 1000000) only [sm, awpOper, awpDo, evP, evBin, evUn, eqInts, fillA, setCells, cutCells, okElems, AV.natOf, natO, maxA, minA, AV.isInt, evSlc, evLoad, setE, evW, AV.cells, AV.okSt, elemsOf, appBase, AV.isSl, resV, tupV, viewN, embB, embT, okR, okC, okL, okEs, ren, renC, renL, renEs, seval]
end Go.Proofs.Ytclpkkbamgmooaa
