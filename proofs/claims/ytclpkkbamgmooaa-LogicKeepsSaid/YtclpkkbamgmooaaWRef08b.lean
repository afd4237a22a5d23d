/- What the functions of package touchstoneref08 compute: shape. -/
import Derived.Test.YtclpkkbamgmooaaWRef08
namespace Go.Proofs.Ytclpkkbamgmooaa
open Av
attribute [local irreducible] awp awpOpers
set_option linter.unusedSimpArgs false
set_option linter.unusedVariables false
set_option maxRecDepth 100000
set_option maxHeartbeats 4000000
theorem signs_any (l : List Int) : (l.any fun a => decide (a ≠ 1) && decide (a ≠ -1)) = !l.all signB := by
  rw [← any_not]
  congr 1
  funext a
  simp [signB]
theorem none_any (l : List Int) : (l.any fun a => decide (a < 0)) = !l.all nonegB := by
  rw [← any_not]
  congr 1
  funext a
  simp [nonegB]
theorem ref08_shape (c : Con) (hX : c.2.1.length ≤ 1000000000000) (hA : c.2.2.1.length ≤ 1000000000000) : Ctr Try.prog 115 [eCon c] [] (.bool (formedB c)) [] := by
  obtain ⟨K, X, A, C⟩ := c
  simp only at hX hA
  refine call_pure Try.func115 Try.call115 e_ref08_shape ?_
  have w1 : IntKind.i64.wrap ((A.length : Int) + 1) = (A.length : Int) + 1 := by rw [wrap_i64] <;> omega
  have w2 : IntKind.i64.wrap (2 * (X.length : Int)) = 2 * (X.length : Int) := by rw [wrap_i64] <;> omega
  by_cases h11 : K = 11
  · subst h11
    by_cases hn : (X.length : Int) = (A.length : Int)
    · simp +contextual -implicitDefEqProofs (maxSteps := 1000000) only [c_ref08_shape, eCon, eIs, sm, awpOper, awpDo, evP, evBin, evUn, eqInts, fillA, setCells, cutCells, okElems, AV.natOf, natO, maxA, minA, AV.isInt, evSlc, evLoad, setE, evW, AV.cells, AV.okSt, elemsOf, appBase, AV.isSl, resV, tupV, viewN, embB, embT, okR, okC, okL, okEs, ren, renC, renL, renEs, seval, hn, or_true, true_or, or_false, false_or]
      refine callA_rule (ref08_signs A hA) (wkL_refl _) rfl ?_
      simp +contextual -implicitDefEqProofs (maxSteps := 1000000) only [sm, awpOper, awpDo, evP, evBin, evUn, eqInts, fillA, setCells, cutCells, okElems, AV.natOf, natO, maxA, minA, AV.isInt, evSlc, evLoad, setE, evW, AV.cells, AV.okSt, elemsOf, appBase, AV.isSl, resV, tupV, viewN, embB, embT, okR, okC, okL, okEs, ren, renC, renL, renEs, seval]
      have hs := signs_any A
      simp at hs
      simp [formedB, kindB, countsB, shp, hs, hn]
    · simp +contextual -implicitDefEqProofs (maxSteps := 1000000) only [c_ref08_shape, eCon, eIs, sm, awpOper, awpDo, evP, evBin, evUn, eqInts, fillA, setCells, cutCells, okElems, AV.natOf, natO, maxA, minA, AV.isInt, evSlc, evLoad, setE, evW, AV.cells, AV.okSt, elemsOf, appBase, AV.isSl, resV, tupV, viewN, embB, embT, okR, okC, okL, okEs, ren, renC, renL, renEs, seval, hn, or_true, true_or, or_false, false_or]
      simp [formedB, kindB, countsB, shp, hn]
  by_cases h19 : K = 19
  · subst h19
    by_cases hn : (A.length : Int) = 2 * (X.length : Int)
    · simp +contextual -implicitDefEqProofs (maxSteps := 1000000) only [c_ref08_shape, eCon, eIs, sm, awpOper, awpDo, evP, evBin, evUn, eqInts, fillA, setCells, cutCells, okElems, AV.natOf, natO, maxA, minA, AV.isInt, evSlc, evLoad, setE, evW, AV.cells, AV.okSt, elemsOf, appBase, AV.isSl, resV, tupV, viewN, embB, embT, okR, okC, okL, okEs, ren, renC, renL, renEs, seval, hn, w2, or_true, true_or, or_false, false_or]
      refine callA_rule (ref08_none A hA) (wkL_refl _) rfl ?_
      cases h0 : A.all nonegB
      · simp +contextual -implicitDefEqProofs (maxSteps := 1000000) only [sm, awpOper, awpDo, evP, evBin, evUn, eqInts, fillA, setCells, cutCells, okElems, AV.natOf, natO, maxA, minA, AV.isInt, evSlc, evLoad, setE, evW, AV.cells, AV.okSt, elemsOf, appBase, AV.isSl, resV, tupV, viewN, embB, embT, okR, okC, okL, okEs, ren, renC, renL, renEs, seval]
        simp [formedB, kindB, countsB, shp, none_any, hn, h0]
      · simp +contextual -implicitDefEqProofs (maxSteps := 1000000) only [sm, awpOper, awpDo, evP, evBin, evUn, eqInts, fillA, setCells, cutCells, okElems, AV.natOf, natO, maxA, minA, AV.isInt, evSlc, evLoad, setE, evW, AV.cells, AV.okSt, elemsOf, appBase, AV.isSl, resV, tupV, viewN, embB, embT, okR, okC, okL, okEs, ren, renC, renL, renEs, seval]
        simp [formedB, kindB, countsB, shp, none_any, hn, h0]
    · simp +contextual -implicitDefEqProofs (maxSteps := 1000000) only [c_ref08_shape, eCon, eIs, sm, awpOper, awpDo, evP, evBin, evUn, eqInts, fillA, setCells, cutCells, okElems, AV.natOf, natO, maxA, minA, AV.isInt, evSlc, evLoad, setE, evW, AV.cells, AV.okSt, elemsOf, appBase, AV.isSl, resV, tupV, viewN, embB, embT, okR, okC, okL, okEs, ren, renC, renL, renEs, seval, hn, w2, or_true, true_or, or_false, false_or]
      simp [formedB, kindB, countsB, shp, hn]
  by_cases hK : 1 ≤ K ∧ K ≤ 19
  · have : K = 1 ∨ K = 2 ∨ K = 3 ∨ K = 4 ∨ K = 5 ∨ K = 6 ∨ K = 7 ∨ K = 8 ∨ K = 9 ∨ K = 10 ∨ K = 12 ∨ K = 13 ∨ K = 14 ∨ K = 15 ∨ K = 16 ∨ K = 17 ∨ K = 18 := by omega
    clear h11 h19 hK
    rcases this with rfl | rfl | rfl | rfl | rfl | rfl | rfl | rfl | rfl | rfl | rfl | rfl | rfl | rfl | rfl | rfl | rfl
    all_goals
      simp +contextual -implicitDefEqProofs (maxSteps := 1000000) only [c_ref08_shape, eCon, eIs, sm, awpOper, awpDo, evP, evBin, evUn, eqInts, fillA, setCells, cutCells, okElems, AV.natOf, natO, maxA, minA, AV.isInt, evSlc, evLoad, setE, evW, AV.cells, AV.okSt, elemsOf, appBase, AV.isSl, resV, tupV, viewN, embB, embT, okR, okC, okL, okEs, ren, renC, renL, renEs, seval, w1, w2, or_true, true_or, or_false, false_or]
      simp [formedB, kindB, countsB, shp]
      try (repeat' split)
      all_goals (try simp_all)
      all_goals (try omega)
  · have h1 : ∀ n : Int, 1 ≤ n → n ≤ 19 → (K = n) = False := fun n a b => by simp only [eq_iff_iff, iff_false]; omega
    have h2 : kindB K = false := by simp only [kindB, Bool.and_eq_false_iff, decide_eq_false_iff_not]; omega
    simp +contextual -implicitDefEqProofs (maxSteps := 1000000) only [c_ref08_shape, eCon, eIs, h2, sm, awpOper, awpDo, evP, evBin, evUn, eqInts, fillA, setCells, cutCells, okElems, AV.natOf, natO, maxA, minA, AV.isInt, evSlc, evLoad, setE, evW, AV.cells, AV.okSt, elemsOf, appBase, AV.isSl, resV, tupV, viewN, embB, embT, okR, okC, okL, okEs, ren, renC, renL, renEs, seval, or_true, true_or, or_false, false_or, h1 1, h1 2, h1 3, h1 4, h1 5, h1 6, h1 7, h1 8, h1 9, h1 10, h1 11, h1 12, h1 13, h1 14, h1 15, h1 16, h1 17, h1 18, h1 19]
    simp [formedB, h2]
end Go.Proofs.Ytclpkkbamgmooaa
