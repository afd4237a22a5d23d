/- alive, mine of package touchstonelaw15. -/
import Derived.Test.YtclpkkbamgmooaaWLogic4
import Derived.Test.YtclpkkbamgmooaaWLaw08
import Derived.Test.YtclpkkbamgmooaaCLaw15
namespace Go.Proofs.Ytclpkkbamgmooaa
open Av
attribute [local irreducible] awp awpOpers
set_option linter.unusedSimpArgs false
set_option linter.unusedVariables false
set_option maxRecDepth 100000
set_option maxHeartbeats 4000000
theorem alive_1 : logicL (11, [0, 1], [1, -1], 0) [[(0, 0)], [(0, 1)]] = ([[(0, 0)], [(0, 0)]], 0) := by decide
theorem alive_2 : logicL (18, [], [], 0) [[(0, 0)], [(0, 1)]] = ([], 10) := by decide
theorem law15_alive : Ctr Try.prog 14 [] [] (.bool true) [] := by
  refine call_pure Try.func14 Try.call14 e_law15_alive ?_
  simp +contextual -implicitDefEqProofs (maxSteps := 1000000) only [c_law15_alive, sm, awpOper, awpDo, evP, evBin, evUn, eqInts, fillA, setCells, cutCells, okElems, AV.natOf, natO, maxA, minA, AV.isInt, evSlc, evLoad, setE, evW, AV.cells, AV.okSt, elemsOf, appBase, AV.isSl, resV, tupV, viewN, embB, embT, okR, okC, okL, okEs, ren, renC, renL, renEs, seval]
  refine callA_rule (logic_Narrow (11, [0, 1], [1, -1], 0) [[(0, 0)], [(0, 1)]] (by decide) (by decide) ⟨by decide, by decide⟩) (wkL_refl _) rfl ?_
  rw [alive_1]
  simp +contextual -implicitDefEqProofs (maxSteps := 1000000) only [sm, awpOper, awpDo, evP, evBin, evUn, eqInts, fillA, setCells, cutCells, okElems, AV.natOf, natO, maxA, minA, AV.isInt, evSlc, evLoad, setE, evW, AV.cells, AV.okSt, elemsOf, appBase, AV.isSl, resV, tupV, viewN, embB, embT, okR, okC, okL, okEs, ren, renC, renL, renEs, seval, eDoms]
  refine callA_rule (logic_Narrow (18, [], [], 0) [[(0, 0)], [(0, 1)]] (by decide) (by decide) ⟨by decide, by decide⟩) ?_ ?_ ?_
  · simp +contextual -implicitDefEqProofs (maxSteps := 1000000) only [sm, awpOper, awpDo, evP, evBin, evUn, eqInts, fillA, setCells, cutCells, okElems, AV.natOf, natO, maxA, minA, AV.isInt, evSlc, evLoad, setE, evW, AV.cells, AV.okSt, elemsOf, appBase, AV.isSl, resV, tupV, viewN, embB, embT, okR, okC, okL, okEs, ren, renC, renL, renEs, seval, eCon, eIs, eDoms, eRgs, eRg]
  · rfl
  rw [alive_2]
  simp +contextual -implicitDefEqProofs (maxSteps := 1000000) only [sm, awpOper, awpDo, evP, evBin, evUn, eqInts, fillA, setCells, cutCells, okElems, AV.natOf, natO, maxA, minA, AV.isInt, evSlc, evLoad, setE, evW, AV.cells, AV.okSt, elemsOf, appBase, AV.isSl, resV, tupV, viewN, embB, embT, okR, okC, okL, okEs, ren, renC, renL, renEs, seval, eDoms, eRgs, eRg]
  refine callA_rule (law08_Ranges [(0, 0)] [(0, 0)] (by decide)) (wkL_refl _) rfl ?_
  simp +contextual -implicitDefEqProofs (maxSteps := 1000000) only [sm, awpOper, awpDo, evP, evBin, evUn, eqInts, fillA, setCells, cutCells, okElems, AV.natOf, natO, maxA, minA, AV.isInt, evSlc, evLoad, setE, evW, AV.cells, AV.okSt, elemsOf, appBase, AV.isSl, resV, tupV, viewN, embB, embT, okR, okC, okL, okEs, ren, renC, renL, renEs, seval]
def mineB (c : Con) (D : List (List Rg)) : Bool := decide (11 ≤ c.1) && decide (c.1 ≤ 14) && fitsB c D && fitB c D
theorem law15_mine (c : Con) (D : List (List Rg)) : Ctr Try.prog 20 [eCon c, eDoms D] [] (.bool (mineB c D)) [] := by
  obtain ⟨K, X, A, C⟩ := c
  refine call_pure Try.func20 Try.call20 e_law15_mine ?_
  by_cases k1 : 11 ≤ K
  · by_cases k2 : K ≤ 14
    · simp +contextual -implicitDefEqProofs (maxSteps := 1000000) only [c_law15_mine, eCon, eIs, eDoms, sm, awpOper, awpDo, evP, evBin, evUn, eqInts, fillA, setCells, cutCells, okElems, AV.natOf, natO, maxA, minA, AV.isInt, evSlc, evLoad, setE, evW, AV.cells, AV.okSt, elemsOf, appBase, AV.isSl, resV, tupV, viewN, embB, embT, okR, okC, okL, okEs, ren, renC, renL, renEs, seval, k1, k2]
      refine callA_rule (law12_Fits (K, X, A, C) D) (wkL_refl _) rfl ?_
      cases hF : fitsB (K, X, A, C) D
      · simp +contextual -implicitDefEqProofs (maxSteps := 1000000) only [sm, awpOper, awpDo, evP, evBin, evUn, eqInts, fillA, setCells, cutCells, okElems, AV.natOf, natO, maxA, minA, AV.isInt, evSlc, evLoad, setE, evW, AV.cells, AV.okSt, elemsOf, appBase, AV.isSl, resV, tupV, viewN, embB, embT, okR, okC, okL, okEs, ren, renC, renL, renEs, seval]
        simp [mineB, hF]
      obtain ⟨s1, s2, s3, s4⟩ := fits_facts hF
      simp only at s3 s4
      simp +contextual -implicitDefEqProofs (maxSteps := 1000000) only [sm, awpOper, awpDo, evP, evBin, evUn, eqInts, fillA, setCells, cutCells, okElems, AV.natOf, natO, maxA, minA, AV.isInt, evSlc, evLoad, setE, evW, AV.cells, AV.okSt, elemsOf, appBase, AV.isSl, resV, tupV, viewN, embB, embT, okR, okC, okL, okEs, ren, renC, renL, renEs, seval, eCon, eIs]
      refine callA_rule (ref12_Fit (K, X, A, C) D (by omega) (fun d h => by have := s2 d h; omega) ⟨by simp only; omega, by simp only; omega⟩) (wkL_refl _) rfl ?_
      simp +contextual -implicitDefEqProofs (maxSteps := 1000000) only [sm, awpOper, awpDo, evP, evBin, evUn, eqInts, fillA, setCells, cutCells, okElems, AV.natOf, natO, maxA, minA, AV.isInt, evSlc, evLoad, setE, evW, AV.cells, AV.okSt, elemsOf, appBase, AV.isSl, resV, tupV, viewN, embB, embT, okR, okC, okL, okEs, ren, renC, renL, renEs, seval]
      simp [mineB, hF, k1, k2]
    · simp +contextual -implicitDefEqProofs (maxSteps := 1000000) only [c_law15_mine, eCon, eIs, eDoms, sm, awpOper, awpDo, evP, evBin, evUn, eqInts, fillA, setCells, cutCells, okElems, AV.natOf, natO, maxA, minA, AV.isInt, evSlc, evLoad, setE, evW, AV.cells, AV.okSt, elemsOf, appBase, AV.isSl, resV, tupV, viewN, embB, embT, okR, okC, okL, okEs, ren, renC, renL, renEs, seval, k1, k2]
      simp [mineB, k2]
  · simp +contextual -implicitDefEqProofs (maxSteps := 1000000) only [c_law15_mine, eCon, eIs, eDoms, sm, awpOper, awpDo, evP, evBin, evUn, eqInts, fillA, setCells, cutCells, okElems, AV.natOf, natO, maxA, minA, AV.isInt, evSlc, evLoad, setE, evW, AV.cells, AV.okSt, elemsOf, appBase, AV.isSl, resV, tupV, viewN, embB, embT, okR, okC, okL, okEs, ren, renC, renL, renEs, seval, k1]
    simp [mineB, k1]
end Go.Proofs.Ytclpkkbamgmooaa
