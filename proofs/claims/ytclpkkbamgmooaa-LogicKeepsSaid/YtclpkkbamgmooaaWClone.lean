/- What slices.Clone makes of domains. -/
import Derived.Test.YtclpkkbamgmooaaPlS
import Derived.Test.YtclpkkbamgmooaaCClone
namespace Go.Proofs.Ytclpkkbamgmooaa
open Av
attribute [local irreducible] awp awpOpers
set_option linter.unusedSimpArgs false
set_option linter.unusedVariables false
set_option maxRecDepth 100000
set_option maxHeartbeats 4000000
theorem clone_doms (D : List (List Rg)) (hl : D.length ≤ 1000000000000) : Ctr Try.prog 35 [eDoms D] [] (.sl 1 0 0 D.length) [some (1, D.map eRgs)] := by
  refine call_box Try.func35 Try.call35 e_slices_Clone_ssRange_sRange ?_
  by_cases h0 : D = []
  · subst h0
    simp +contextual -implicitDefEqProofs (maxSteps := 1000000) only [c_slices_Clone_ssRange_sRange, eDoms, sm, awpOper, awpDo, evP, evBin, evUn, eqInts, fillA, setCells, cutCells, okElems, AV.natOf, natO, maxA, minA, AV.isInt, evSlc, evLoad, setE, evW, AV.cells, AV.okSt, elemsOf, appBase, AV.isSl, resV, tupV, viewN, embB, embT, okR, okC, okL, okEs, ren, renC, renL, renEs, Nat.reduceAdd, Nat.reduceSub, Nat.reduceLeDiff, Nat.reduceLT, Nat.reduceEqDiff, Int.reduceLE, Int.reduceLT, Int.reduceEq, Int.reduceToNat, Int.reduceAdd, Int.reduceSub, Int.reduceMul, Int.reduceNeg, Int.reduceNe, reduceCtorEq, ↓reduceIte, Nat.zero_le]
    refine ⟨⟨by omega, [], [0], by decide, ?_⟩, [1], [0], by decide, ?_⟩
    · simp +contextual -implicitDefEqProofs (maxSteps := 1000000) only [sm, awpOper, awpDo, evP, evBin, evUn, eqInts, fillA, setCells, cutCells, okElems, AV.natOf, natO, maxA, minA, AV.isInt, evSlc, evLoad, setE, evW, AV.cells, AV.okSt, elemsOf, appBase, AV.isSl, resV, tupV, viewN, embB, embT, okR, okC, okL, okEs, ren, renC, renL, renEs, Nat.reduceAdd, Nat.reduceSub, Nat.reduceLeDiff, Nat.reduceLT, Nat.reduceEqDiff, Int.reduceLE, Int.reduceLT, Int.reduceEq, Int.reduceToNat, Int.reduceAdd, Int.reduceSub, Int.reduceMul, Int.reduceNeg, Int.reduceNe, reduceCtorEq, ↓reduceIte]
    · simp +contextual -implicitDefEqProofs (maxSteps := 1000000) only [sm, awpOper, awpDo, evP, evBin, evUn, eqInts, fillA, setCells, cutCells, okElems, AV.natOf, natO, maxA, minA, AV.isInt, evSlc, evLoad, setE, evW, AV.cells, AV.okSt, elemsOf, appBase, AV.isSl, resV, tupV, viewN, embB, embT, okR, okC, okL, okEs, ren, renC, renL, renEs, Nat.reduceAdd, Nat.reduceSub, Nat.reduceLeDiff, Nat.reduceLT, Nat.reduceEqDiff, Int.reduceLE, Int.reduceLT, Int.reduceEq, Int.reduceToNat, Int.reduceAdd, Int.reduceSub, Int.reduceMul, Int.reduceNeg, Int.reduceNe, reduceCtorEq, ↓reduceIte]
  · have hnn : (AV.list 1 (D.map eRgs)).nonNil = true := by
      cases D with
      | nil => exact absurd rfl h0
      | cons a b => rfl
    have c1 : D.length * 24 ≤ 140737488355328 := by omega
    have c2 : D.length ≤ maxLen := by unfold maxLen; omega
    simp +contextual -implicitDefEqProofs (maxSteps := 1000000) only [c_slices_Clone_ssRange_sRange, eDoms, sm, awpOper, awpDo, evP, evBin, evUn, eqInts, fillA, setCells, cutCells, okElems, AV.natOf, natO, maxA, minA, AV.isInt, evSlc, evLoad, setE, evW, AV.cells, AV.okSt, elemsOf, appBase, AV.isSl, resV, tupV, viewN, embB, embT, okR, okC, okL, okEs, ren, renC, renL, renEs, Nat.reduceAdd, Nat.reduceSub, Nat.reduceLeDiff, Nat.reduceLT, Nat.reduceEqDiff, Int.reduceLE, Int.reduceLT, Int.reduceEq, Int.reduceToNat, Int.reduceAdd, Int.reduceSub, Int.reduceMul, Int.reduceNeg, Int.reduceNe, reduceCtorEq, ↓reduceIte, hnn, c1, c2, Nat.le_refl]
    refine ⟨[], [0], by decide, ?_⟩
    simp +contextual -implicitDefEqProofs (maxSteps := 1000000) only [sm, awpOper, awpDo, evP, evBin, evUn, eqInts, fillA, setCells, cutCells, okElems, AV.natOf, natO, maxA, minA, AV.isInt, evSlc, evLoad, setE, evW, AV.cells, AV.okSt, elemsOf, appBase, AV.isSl, resV, tupV, viewN, embB, embT, okR, okC, okL, okEs, ren, renC, renL, renEs, Nat.reduceAdd, Nat.reduceSub, Nat.reduceLeDiff, Nat.reduceLT, Nat.reduceEqDiff, Int.reduceLE, Int.reduceLT, Int.reduceEq, Int.reduceToNat, Int.reduceAdd, Int.reduceSub, Int.reduceMul, Int.reduceNeg, Int.reduceNe, reduceCtorEq, ↓reduceIte]
theorem clone_sl (D : List (List Rg)) (hl : D.length ≤ 1000000000000) : Ctr Try.prog 35 [.sl 1 0 0 D.length] [some (1, D.map eRgs)] (.sl 1 1 0 D.length) [some (1, D.map eRgs), some (1, D.map eRgs)] := by
  refine call_box Try.func35 Try.call35 e_slices_Clone_ssRange_sRange ?_
  by_cases h0 : D = []
  · subst h0
    simp +contextual -implicitDefEqProofs (maxSteps := 1000000) only [c_slices_Clone_ssRange_sRange, sm, awpOper, awpDo, evP, evBin, evUn, eqInts, fillA, setCells, cutCells, okElems, AV.natOf, natO, maxA, minA, AV.isInt, evSlc, evLoad, setE, evW, AV.cells, AV.okSt, elemsOf, appBase, AV.isSl, resV, tupV, viewN, embB, embT, okR, okC, okL, okEs, ren, renC, renL, renEs, Nat.reduceAdd, Nat.reduceSub, Nat.reduceLeDiff, Nat.reduceLT, Nat.reduceEqDiff, Int.reduceLE, Int.reduceLT, Int.reduceEq, Int.reduceToNat, Int.reduceAdd, Int.reduceSub, Int.reduceMul, Int.reduceNeg, Int.reduceNe, reduceCtorEq, ↓reduceIte, Nat.zero_le]
    refine ⟨⟨by omega, [], [0, 1], by decide, rfl, ?_⟩, [1], [0, 1], by decide, rfl, ?_⟩
    · simp +contextual -implicitDefEqProofs (maxSteps := 1000000) only [sm, awpOper, awpDo, evP, evBin, evUn, eqInts, fillA, setCells, cutCells, okElems, AV.natOf, natO, maxA, minA, AV.isInt, evSlc, evLoad, setE, evW, AV.cells, AV.okSt, elemsOf, appBase, AV.isSl, resV, tupV, viewN, embB, embT, okR, okC, okL, okEs, ren, renC, renL, renEs, Nat.reduceAdd, Nat.reduceSub, Nat.reduceLeDiff, Nat.reduceLT, Nat.reduceEqDiff, Int.reduceLE, Int.reduceLT, Int.reduceEq, Int.reduceToNat, Int.reduceAdd, Int.reduceSub, Int.reduceMul, Int.reduceNeg, Int.reduceNe, reduceCtorEq, ↓reduceIte]
    · simp +contextual -implicitDefEqProofs (maxSteps := 1000000) only [sm, awpOper, awpDo, evP, evBin, evUn, eqInts, fillA, setCells, cutCells, okElems, AV.natOf, natO, maxA, minA, AV.isInt, evSlc, evLoad, setE, evW, AV.cells, AV.okSt, elemsOf, appBase, AV.isSl, resV, tupV, viewN, embB, embT, okR, okC, okL, okEs, ren, renC, renL, renEs, Nat.reduceAdd, Nat.reduceSub, Nat.reduceLeDiff, Nat.reduceLT, Nat.reduceEqDiff, Int.reduceLE, Int.reduceLT, Int.reduceEq, Int.reduceToNat, Int.reduceAdd, Int.reduceSub, Int.reduceMul, Int.reduceNeg, Int.reduceNe, reduceCtorEq, ↓reduceIte]
  · have hnn : (AV.sl 1 0 0 D.length).nonNil = true := by
      cases D with
      | nil => exact absurd rfl h0
      | cons a b => rfl
    have c1 : D.length * 24 ≤ 140737488355328 := by omega
    have c2 : D.length ≤ maxLen := by unfold maxLen; omega
    simp +contextual -implicitDefEqProofs (maxSteps := 1000000) only [c_slices_Clone_ssRange_sRange, sm, awpOper, awpDo, evP, evBin, evUn, eqInts, fillA, setCells, cutCells, okElems, AV.natOf, natO, maxA, minA, AV.isInt, evSlc, evLoad, setE, evW, AV.cells, AV.okSt, elemsOf, appBase, AV.isSl, resV, tupV, viewN, embB, embT, okR, okC, okL, okEs, ren, renC, renL, renEs, Nat.reduceAdd, Nat.reduceSub, Nat.reduceLeDiff, Nat.reduceLT, Nat.reduceEqDiff, Int.reduceLE, Int.reduceLT, Int.reduceEq, Int.reduceToNat, Int.reduceAdd, Int.reduceSub, Int.reduceMul, Int.reduceNeg, Int.reduceNe, reduceCtorEq, ↓reduceIte, hnn, c1, c2, Nat.le_refl]
    refine ⟨[], [0, 1], by decide, ?_⟩
    simp +contextual -implicitDefEqProofs (maxSteps := 1000000) only [sm, awpOper, awpDo, evP, evBin, evUn, eqInts, fillA, setCells, cutCells, okElems, AV.natOf, natO, maxA, minA, AV.isInt, evSlc, evLoad, setE, evW, AV.cells, AV.okSt, elemsOf, appBase, AV.isSl, resV, tupV, viewN, embB, embT, okR, okC, okL, okEs, ren, renC, renL, renEs, Nat.reduceAdd, Nat.reduceSub, Nat.reduceLeDiff, Nat.reduceLT, Nat.reduceEqDiff, Int.reduceLE, Int.reduceLT, Int.reduceEq, Int.reduceToNat, Int.reduceAdd, Int.reduceSub, Int.reduceMul, Int.reduceNeg, Int.reduceNe, reduceCtorEq, ↓reduceIte]
    try rfl
end Go.Proofs.Ytclpkkbamgmooaa
