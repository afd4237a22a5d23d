/- mine; LogicOrder. -/
import Derived.Test.YtclpkkbamgmooaaWLaw15
import Derived.Test.YtclpkkbamgmooaaWLaw12
import Derived.Test.YtclpkkbamgmooaaPlLogic4
namespace Go.Proofs.Ytclpkkbamgmooaa
open Av
attribute [local irreducible] awp awpOpers
set_option linter.unusedSimpArgs false
set_option linter.unusedVariables false
set_option maxRecDepth 100000
set_option maxHeartbeats 4000000
def mineB (c : Con) (D : List (List Rg)) : Bool := decide (11 ≤ c.1) && decide (c.1 ≤ 14) && fitsB c D && fitB c D
theorem law15_mine (c : Con) (D : List (List Rg)) : Ctr Try.prog 20 [eCon c, eDoms D] [] (.bool (mineB c D)) [] := by
  obtain ⟨K, X, A, C⟩ := c
  refine call_pure Try.func20 Try.call20 e_law15_mine ?_
  by_cases k1 : 11 ≤ K
  · by_cases k2 : K ≤ 14
    · simp +contextual -implicitDefEqProofs (maxSteps := 1000000) only [c_law15_mine, eCon, eIs, eDoms, sm, awpOper, awpDo, evP, evBin, evUn, eqInts, fillA, setCells, cutCells, okElems, AV.natOf, natO, maxA, minA, AV.isInt, evSlc, evLoad, setE, evW, AV.cells, AV.okSt, elemsOf, appBase, AV.isSl, resV, tupV, viewN, embB, embT, okR, okC, okL, okEs, ren, renC, renL, renEs, Nat.reduceAdd, Nat.reduceSub, Nat.reduceLeDiff, Nat.reduceLT, Nat.reduceEqDiff, Int.reduceLE, Int.reduceLT, Int.reduceEq, Int.reduceToNat, Int.reduceAdd, Int.reduceSub, Int.reduceMul, Int.reduceNeg, Int.reduceNe, reduceCtorEq, ↓reduceIte, k1, k2]
      refine callA_rule (law12_Fits (K, X, A, C) D) (wkL_refl _) rfl ?_
      cases hF : fitsB (K, X, A, C) D
      · simp +contextual -implicitDefEqProofs (maxSteps := 1000000) only [sm, awpOper, awpDo, evP, evBin, evUn, eqInts, fillA, setCells, cutCells, okElems, AV.natOf, natO, maxA, minA, AV.isInt, evSlc, evLoad, setE, evW, AV.cells, AV.okSt, elemsOf, appBase, AV.isSl, resV, tupV, viewN, embB, embT, okR, okC, okL, okEs, ren, renC, renL, renEs, Nat.reduceAdd, Nat.reduceSub, Nat.reduceLeDiff, Nat.reduceLT, Nat.reduceEqDiff, Int.reduceLE, Int.reduceLT, Int.reduceEq, Int.reduceToNat, Int.reduceAdd, Int.reduceSub, Int.reduceMul, Int.reduceNeg, Int.reduceNe, reduceCtorEq, ↓reduceIte]
        simp [mineB, hF]
      obtain ⟨s1, s2, s3, s4⟩ := fits_facts hF
      simp only at s3 s4
      simp +contextual -implicitDefEqProofs (maxSteps := 1000000) only [sm, awpOper, awpDo, evP, evBin, evUn, eqInts, fillA, setCells, cutCells, okElems, AV.natOf, natO, maxA, minA, AV.isInt, evSlc, evLoad, setE, evW, AV.cells, AV.okSt, elemsOf, appBase, AV.isSl, resV, tupV, viewN, embB, embT, okR, okC, okL, okEs, ren, renC, renL, renEs, Nat.reduceAdd, Nat.reduceSub, Nat.reduceLeDiff, Nat.reduceLT, Nat.reduceEqDiff, Int.reduceLE, Int.reduceLT, Int.reduceEq, Int.reduceToNat, Int.reduceAdd, Int.reduceSub, Int.reduceMul, Int.reduceNeg, Int.reduceNe, reduceCtorEq, ↓reduceIte, eCon, eIs]
      refine callA_rule (ref12_Fit (K, X, A, C) D (by omega) (fun d h => by have := s2 d h; omega) ⟨by simp only; omega, by simp only; omega⟩) (wkL_refl _) rfl ?_
      simp +contextual -implicitDefEqProofs (maxSteps := 1000000) only [sm, awpOper, awpDo, evP, evBin, evUn, eqInts, fillA, setCells, cutCells, okElems, AV.natOf, natO, maxA, minA, AV.isInt, evSlc, evLoad, setE, evW, AV.cells, AV.okSt, elemsOf, appBase, AV.isSl, resV, tupV, viewN, embB, embT, okR, okC, okL, okEs, ren, renC, renL, renEs, Nat.reduceAdd, Nat.reduceSub, Nat.reduceLeDiff, Nat.reduceLT, Nat.reduceEqDiff, Int.reduceLE, Int.reduceLT, Int.reduceEq, Int.reduceToNat, Int.reduceAdd, Int.reduceSub, Int.reduceMul, Int.reduceNeg, Int.reduceNe, reduceCtorEq, ↓reduceIte]
      simp [mineB, hF, k1, k2]
    · simp +contextual -implicitDefEqProofs (maxSteps := 1000000) only [c_law15_mine, eCon, eIs, eDoms, sm, awpOper, awpDo, evP, evBin, evUn, eqInts, fillA, setCells, cutCells, okElems, AV.natOf, natO, maxA, minA, AV.isInt, evSlc, evLoad, setE, evW, AV.cells, AV.okSt, elemsOf, appBase, AV.isSl, resV, tupV, viewN, embB, embT, okR, okC, okL, okEs, ren, renC, renL, renEs, Nat.reduceAdd, Nat.reduceSub, Nat.reduceLeDiff, Nat.reduceLT, Nat.reduceEqDiff, Int.reduceLE, Int.reduceLT, Int.reduceEq, Int.reduceToNat, Int.reduceAdd, Int.reduceSub, Int.reduceMul, Int.reduceNeg, Int.reduceNe, reduceCtorEq, ↓reduceIte, k1, k2]
      simp [mineB, k2]
  · simp +contextual -implicitDefEqProofs (maxSteps := 1000000) only [c_law15_mine, eCon, eIs, eDoms, sm, awpOper, awpDo, evP, evBin, evUn, eqInts, fillA, setCells, cutCells, okElems, AV.natOf, natO, maxA, minA, AV.isInt, evSlc, evLoad, setE, evW, AV.cells, AV.okSt, elemsOf, appBase, AV.isSl, resV, tupV, viewN, embB, embT, okR, okC, okL, okEs, ren, renC, renL, renEs, Nat.reduceAdd, Nat.reduceSub, Nat.reduceLeDiff, Nat.reduceLT, Nat.reduceEqDiff, Int.reduceLE, Int.reduceLT, Int.reduceEq, Int.reduceToNat, Int.reduceAdd, Int.reduceSub, Int.reduceMul, Int.reduceNeg, Int.reduceNe, reduceCtorEq, ↓reduceIte, k1]
    simp [mineB, k1]
theorem law_LogicOrder (c : Con) (D C : List (List Rg)) (hC : ∀ r ∈ C, r.length ≤ 9223372036854775807) : Ctr Try.prog 5 [eCon c, eDoms D, eDoms C] [] (.bool true) [] := by
  refine call_pure Try.func5 Try.call5 e_law15_LogicOrder ?_
  have hcon : ∃ K X A G, c = (K, X, A, G) := ⟨c.1, c.2.1, c.2.2.1, c.2.2.2, rfl⟩
  obtain ⟨K, X, A, G, rfl⟩ := hcon
  simp +contextual -implicitDefEqProofs (maxSteps := 1000000) only [c_law15_LogicOrder, eCon, eIs, eDoms, sm, awpOper, awpDo, evP, evBin, evUn, eqInts, fillA, setCells, cutCells, okElems, AV.natOf, natO, maxA, minA, AV.isInt, evSlc, evLoad, setE, evW, AV.cells, AV.okSt, elemsOf, appBase, AV.isSl, resV, tupV, viewN, embB, embT, okR, okC, okL, okEs, ren, renC, renL, renEs, Nat.reduceAdd, Nat.reduceSub, Nat.reduceLeDiff, Nat.reduceLT, Nat.reduceEqDiff, Int.reduceLE, Int.reduceLT, Int.reduceEq, Int.reduceToNat, Int.reduceAdd, Int.reduceSub, Int.reduceMul, Int.reduceNeg, Int.reduceNe, reduceCtorEq, ↓reduceIte]
  refine callA_rule law15_alive (wkL_refl _) rfl ?_
  simp +contextual -implicitDefEqProofs (maxSteps := 1000000) only [sm, awpOper, awpDo, evP, evBin, evUn, eqInts, fillA, setCells, cutCells, okElems, AV.natOf, natO, maxA, minA, AV.isInt, evSlc, evLoad, setE, evW, AV.cells, AV.okSt, elemsOf, appBase, AV.isSl, resV, tupV, viewN, embB, embT, okR, okC, okL, okEs, ren, renC, renL, renEs, Nat.reduceAdd, Nat.reduceSub, Nat.reduceLeDiff, Nat.reduceLT, Nat.reduceEqDiff, Int.reduceLE, Int.reduceLT, Int.reduceEq, Int.reduceToNat, Int.reduceAdd, Int.reduceSub, Int.reduceMul, Int.reduceNeg, Int.reduceNe, reduceCtorEq, ↓reduceIte, eCon, eIs]
  refine callA_rule (law15_mine (K, X, A, G) D) (wkL_refl _) rfl ?_
  cases hM : mineB (K, X, A, G) D
  · simp +contextual -implicitDefEqProofs (maxSteps := 1000000) only [sm, awpOper, awpDo, evP, evBin, evUn, eqInts, fillA, setCells, cutCells, okElems, AV.natOf, natO, maxA, minA, AV.isInt, evSlc, evLoad, setE, evW, AV.cells, AV.okSt, elemsOf, appBase, AV.isSl, resV, tupV, viewN, embB, embT, okR, okC, okL, okEs, ren, renC, renL, renEs, Nat.reduceAdd, Nat.reduceSub, Nat.reduceLeDiff, Nat.reduceLT, Nat.reduceEqDiff, Int.reduceLE, Int.reduceLT, Int.reduceEq, Int.reduceToNat, Int.reduceAdd, Int.reduceSub, Int.reduceMul, Int.reduceNeg, Int.reduceNe, reduceCtorEq, ↓reduceIte]
  by_cases hn : C.length = D.length
  · have hn' : (C.length : Int) = (D.length : Int) := by omega
    simp only [mineB, Bool.and_eq_true, decide_eq_true_eq] at hM
    obtain ⟨⟨⟨k1, k2⟩, hF⟩, hm⟩ := hM
    obtain ⟨s1, s2, s3, s4⟩ := fits_facts hF
    simp only at s3 s4 k1 k2
    have hd : ∀ d ∈ D, d.length ≤ 1000000000000 := fun d h => by have := s2 d h; omega
    obtain ⟨f1, f2, f3⟩ := one_facts hm
    have hrt : ∀ r ∈ D, rightB r = true := fun r h => by have := f2 r h; unfold domB at this; rw [Bool.and_eq_true] at this; exact this.1
    have hle := small_le (C := C) hn hrt
    have hsd := small_dom (C := C) hn f2
    have hmS := mod_sub hle hsd hm
    have hor := order_logic ⟨k1, k2⟩ hm hmS hle
    have hSl : (smallL D C).length = D.length := hle.1
    have hSd : ∀ d ∈ smallL D C, d.length ≤ 1000000000000 := fun d h => by have := dom_len (hsd d h); omega
    simp +contextual -implicitDefEqProofs (maxSteps := 1000000) only [sm, awpOper, awpDo, evP, evBin, evUn, eqInts, fillA, setCells, cutCells, okElems, AV.natOf, natO, maxA, minA, AV.isInt, evSlc, evLoad, setE, evW, AV.cells, AV.okSt, elemsOf, appBase, AV.isSl, resV, tupV, viewN, embB, embT, okR, okC, okL, okEs, ren, renC, renL, renEs, Nat.reduceAdd, Nat.reduceSub, Nat.reduceLeDiff, Nat.reduceLT, Nat.reduceEqDiff, Int.reduceLE, Int.reduceLT, Int.reduceEq, Int.reduceToNat, Int.reduceAdd, Int.reduceSub, Int.reduceMul, Int.reduceNeg, Int.reduceNe, reduceCtorEq, ↓reduceIte, hn']
    refine callA_rule (law12_Smaller D C hn (by omega) hd hC) (wkL_refl _) rfl ?_
    generalize smallL D C = S at hle hsd hmS hor hSl hSd ⊢
    simp +contextual -implicitDefEqProofs (maxSteps := 1000000) only [sm, awpOper, awpDo, evP, evBin, evUn, eqInts, fillA, setCells, cutCells, okElems, AV.natOf, natO, maxA, minA, AV.isInt, evSlc, evLoad, setE, evW, AV.cells, AV.okSt, elemsOf, appBase, AV.isSl, resV, tupV, viewN, embB, embT, okR, okC, okL, okEs, ren, renC, renL, renEs, Nat.reduceAdd, Nat.reduceSub, Nat.reduceLeDiff, Nat.reduceLT, Nat.reduceEqDiff, Int.reduceLE, Int.reduceLT, Int.reduceEq, Int.reduceToNat, Int.reduceAdd, Int.reduceSub, Int.reduceMul, Int.reduceNeg, Int.reduceNe, reduceCtorEq, ↓reduceIte, eCon, eIs, eDoms]
    refine callA_rule (logic_Narrow (K, X, A, G) D (by omega) hd ⟨by simp only; omega, by simp only; omega⟩) (wkL_refl _) rfl ?_
    obtain ⟨z1, z2⟩ := size_logic (c := (K, X, A, G)) hSd (by omega)
    generalize logicL (K, X, A, G) D = r1 at hor ⊢
    obtain ⟨x1, e1⟩ := r1
    simp +contextual -implicitDefEqProofs (maxSteps := 1000000) only [sm, awpOper, awpDo, evP, evBin, evUn, eqInts, fillA, setCells, cutCells, okElems, AV.natOf, natO, maxA, minA, AV.isInt, evSlc, evLoad, setE, evW, AV.cells, AV.okSt, elemsOf, appBase, AV.isSl, resV, tupV, viewN, embB, embT, okR, okC, okL, okEs, ren, renC, renL, renEs, Nat.reduceAdd, Nat.reduceSub, Nat.reduceLeDiff, Nat.reduceLT, Nat.reduceEqDiff, Int.reduceLE, Int.reduceLT, Int.reduceEq, Int.reduceToNat, Int.reduceAdd, Int.reduceSub, Int.reduceMul, Int.reduceNeg, Int.reduceNe, reduceCtorEq, ↓reduceIte, eCon, eIs, eDoms]
    refine callA_rule (logic_Narrow (K, X, A, G) S (by omega) hSd ⟨by simp only; omega, by simp only; omega⟩) (wkL_refl _) rfl ?_
    generalize logicL (K, X, A, G) S = r2 at hor z1 z2 ⊢
    obtain ⟨x2, e2⟩ := r2
    simp only [Prod.mk.injEq] at hor
    rcases hor with ⟨E, ⟨rfl, rfl⟩, ⟨rfl, rfl⟩ | ⟨E', ⟨rfl, rfl⟩, hEE⟩⟩ | ⟨⟨rfl, rfl⟩, ⟨rfl, rfl⟩⟩
    · simp +contextual -implicitDefEqProofs (maxSteps := 1000000) only [sm, awpOper, awpDo, evP, evBin, evUn, eqInts, fillA, setCells, cutCells, okElems, AV.natOf, natO, maxA, minA, AV.isInt, evSlc, evLoad, setE, evW, AV.cells, AV.okSt, elemsOf, appBase, AV.isSl, resV, tupV, viewN, embB, embT, okR, okC, okL, okEs, ren, renC, renL, renEs, Nat.reduceAdd, Nat.reduceSub, Nat.reduceLeDiff, Nat.reduceLT, Nat.reduceEqDiff, Int.reduceLE, Int.reduceLT, Int.reduceEq, Int.reduceToNat, Int.reduceAdd, Int.reduceSub, Int.reduceMul, Int.reduceNeg, Int.reduceNe, reduceCtorEq, ↓reduceIte, eDoms]
    · simp +contextual -implicitDefEqProofs (maxSteps := 1000000) only [sm, awpOper, awpDo, evP, evBin, evUn, eqInts, fillA, setCells, cutCells, okElems, AV.natOf, natO, maxA, minA, AV.isInt, evSlc, evLoad, setE, evW, AV.cells, AV.okSt, elemsOf, appBase, AV.isSl, resV, tupV, viewN, embB, embT, okR, okC, okL, okEs, ren, renC, renL, renEs, Nat.reduceAdd, Nat.reduceSub, Nat.reduceLeDiff, Nat.reduceLT, Nat.reduceEqDiff, Int.reduceLE, Int.reduceLT, Int.reduceEq, Int.reduceToNat, Int.reduceAdd, Int.reduceSub, Int.reduceMul, Int.reduceNeg, Int.reduceNe, reduceCtorEq, ↓reduceIte, eDoms]
      refine callA_rule (law12_Under _ _ hEE (by simpa using z1)) (wkL_refl _) rfl ?_
      simp +contextual -implicitDefEqProofs (maxSteps := 1000000) only [sm, awpOper, awpDo, evP, evBin, evUn, eqInts, fillA, setCells, cutCells, okElems, AV.natOf, natO, maxA, minA, AV.isInt, evSlc, evLoad, setE, evW, AV.cells, AV.okSt, elemsOf, appBase, AV.isSl, resV, tupV, viewN, embB, embT, okR, okC, okL, okEs, ren, renC, renL, renEs, Nat.reduceAdd, Nat.reduceSub, Nat.reduceLeDiff, Nat.reduceLT, Nat.reduceEqDiff, Int.reduceLE, Int.reduceLT, Int.reduceEq, Int.reduceToNat, Int.reduceAdd, Int.reduceSub, Int.reduceMul, Int.reduceNeg, Int.reduceNe, reduceCtorEq, ↓reduceIte]
    · simp +contextual -implicitDefEqProofs (maxSteps := 1000000) only [sm, awpOper, awpDo, evP, evBin, evUn, eqInts, fillA, setCells, cutCells, okElems, AV.natOf, natO, maxA, minA, AV.isInt, evSlc, evLoad, setE, evW, AV.cells, AV.okSt, elemsOf, appBase, AV.isSl, resV, tupV, viewN, embB, embT, okR, okC, okL, okEs, ren, renC, renL, renEs, Nat.reduceAdd, Nat.reduceSub, Nat.reduceLeDiff, Nat.reduceLT, Nat.reduceEqDiff, Int.reduceLE, Int.reduceLT, Int.reduceEq, Int.reduceToNat, Int.reduceAdd, Int.reduceSub, Int.reduceMul, Int.reduceNeg, Int.reduceNe, reduceCtorEq, ↓reduceIte, eDoms]
  · have hn' : ((C.length : Int) = (D.length : Int)) = False := by simp only [eq_iff_iff, iff_false]; omega
    simp +contextual -implicitDefEqProofs (maxSteps := 1000000) only [sm, awpOper, awpDo, evP, evBin, evUn, eqInts, fillA, setCells, cutCells, okElems, AV.natOf, natO, maxA, minA, AV.isInt, evSlc, evLoad, setE, evW, AV.cells, AV.okSt, elemsOf, appBase, AV.isSl, resV, tupV, viewN, embB, embT, okR, okC, okL, okEs, ren, renC, renL, renEs, Nat.reduceAdd, Nat.reduceSub, Nat.reduceLeDiff, Nat.reduceLT, Nat.reduceEqDiff, Int.reduceLE, Int.reduceLT, Int.reduceEq, Int.reduceToNat, Int.reduceAdd, Int.reduceSub, Int.reduceMul, Int.reduceNeg, Int.reduceNe, reduceCtorEq, ↓reduceIte, hn']
end Go.Proofs.Ytclpkkbamgmooaa
