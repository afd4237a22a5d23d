/- What some functions of packages touchstoneref12 and touchstoneref15 compute. -/
import Derived.Test.YtclpkkbamgmooaaPlLogic
import Derived.Test.YtclpkkbamgmooaaWRef09
import Derived.Test.YtclpkkbamgmooaaCRef15
namespace Go.Proofs.Ytclpkkbamgmooaa
open Av
attribute [local irreducible] awp awpOpers
set_option linter.unusedSimpArgs false
set_option linter.unusedVariables false
set_option maxRecDepth 100000
set_option maxHeartbeats 4000000
theorem ends_at {r : List Rg} (hr : rightB r = true) {x y p q : Int} (h0 : r[0]? = some (x, y)) (h1 : r[r.length - 1]? = some (p, q)) : endsV r = (x, q) := by
  have a1 : r.head? = some (x, y) := by rw [List.head?_eq_getElem?]; exact h0
  have a2 : r.getLast? = some (p, q) := by rw [List.getLast?_eq_getElem?]; exact h1
  simp [endsV, hr, a1, a2]
theorem ref12_Lo (r : List Rg) (hr : rightB r = true) (h0 : 0 < r.length) : Ctr Try.prog 32 [eRgs r] [] (.int .i64 (endsV r).1) [] := by
  refine call_pure Try.func32 Try.call32 e_ref12_Lo ?_
  obtain ⟨⟨x, y⟩, hx⟩ : ∃ a, r[0]? = some a := ⟨_, List.getElem?_eq_getElem h0⟩
  obtain ⟨⟨p, q⟩, hp⟩ : ∃ a, r[r.length - 1]? = some a := ⟨_, List.getElem?_eq_getElem (by omega)⟩
  rw [ends_at hr hx hp]
  simp +contextual -implicitDefEqProofs (maxSteps := 1000000) only [c_ref12_Lo, eRgs, sm, awpOper, awpDo, evP, evBin, evUn, eqInts, fillA, setCells, cutCells, okElems, AV.natOf, natO, maxA, minA, AV.isInt, evSlc, evLoad, setE, evW, AV.cells, AV.okSt, elemsOf, appBase, AV.isSl, resV, tupV, viewN, embB, embT, okR, okC, okL, okEs, ren, renC, renL, renEs, Nat.reduceAdd, Nat.reduceSub, Nat.reduceLeDiff, Nat.reduceLT, Nat.reduceEqDiff, Int.reduceLE, Int.reduceLT, Int.reduceEq, Int.reduceToNat, Int.reduceAdd, Int.reduceSub, Int.reduceMul, Int.reduceNeg, Int.reduceNe, reduceCtorEq, ↓reduceIte, hx]
theorem ref12_Hi (r : List Rg) (hr : rightB r = true) (h0 : 0 < r.length) (hl : r.length ≤ 1000000000000) : Ctr Try.prog 86 [eRgs r] [] (.int .i64 (endsV r).2) [] := by
  refine call_pure Try.func86 Try.call86 e_ref12_Hi ?_
  obtain ⟨⟨x, y⟩, hx⟩ : ∃ a, r[0]? = some a := ⟨_, List.getElem?_eq_getElem h0⟩
  obtain ⟨⟨p, q⟩, hp⟩ : ∃ a, r[r.length - 1]? = some a := ⟨_, List.getElem?_eq_getElem (by omega)⟩
  have e1 : IntKind.i64.wrap ((r.length : Int) - 1) = ((r.length - 1 : Nat) : Int) := by rw [wrap_i64] <;> omega
  rw [ends_at hr hx hp]
  simp +contextual -implicitDefEqProofs (maxSteps := 1000000) only [c_ref12_Hi, eRgs, sm, awpOper, awpDo, evP, evBin, evUn, eqInts, fillA, setCells, cutCells, okElems, AV.natOf, natO, maxA, minA, AV.isInt, evSlc, evLoad, setE, evW, AV.cells, AV.okSt, elemsOf, appBase, AV.isSl, resV, tupV, viewN, embB, embT, okR, okC, okL, okEs, ren, renC, renL, renEs, Nat.reduceAdd, Nat.reduceSub, Nat.reduceLeDiff, Nat.reduceLT, Nat.reduceEqDiff, Int.reduceLE, Int.reduceLT, Int.reduceEq, Int.reduceToNat, Int.reduceAdd, Int.reduceSub, Int.reduceMul, Int.reduceNeg, Int.reduceNe, reduceCtorEq, ↓reduceIte, hp, e1]
theorem ref12_Fixed (r : List Rg) (hr : rightB r = true) (h0 : 0 < r.length) (hl : r.length ≤ 1000000000000) : Ctr Try.prog 88 [eRgs r] [] (.bool (decide ((endsV r).1 = (endsV r).2))) [] := by
  refine call_pure Try.func88 Try.call88 e_ref12_Fixed ?_
  simp +contextual -implicitDefEqProofs (maxSteps := 1000000) only [c_ref12_Fixed, eRgs, sm, awpOper, awpDo, evP, evBin, evUn, eqInts, fillA, setCells, cutCells, okElems, AV.natOf, natO, maxA, minA, AV.isInt, evSlc, evLoad, setE, evW, AV.cells, AV.okSt, elemsOf, appBase, AV.isSl, resV, tupV, viewN, embB, embT, okR, okC, okL, okEs, ren, renC, renL, renEs, Nat.reduceAdd, Nat.reduceSub, Nat.reduceLeDiff, Nat.reduceLT, Nat.reduceEqDiff, Int.reduceLE, Int.reduceLT, Int.reduceEq, Int.reduceToNat, Int.reduceAdd, Int.reduceSub, Int.reduceMul, Int.reduceNeg, Int.reduceNe, reduceCtorEq, ↓reduceIte]
  refine callA_rule (ref12_Lo r hr h0) (wkL_refl _) rfl ?_
  simp +contextual -implicitDefEqProofs (maxSteps := 1000000) only [sm, awpOper, awpDo, evP, evBin, evUn, eqInts, fillA, setCells, cutCells, okElems, AV.natOf, natO, maxA, minA, AV.isInt, evSlc, evLoad, setE, evW, AV.cells, AV.okSt, elemsOf, appBase, AV.isSl, resV, tupV, viewN, embB, embT, okR, okC, okL, okEs, ren, renC, renL, renEs, Nat.reduceAdd, Nat.reduceSub, Nat.reduceLeDiff, Nat.reduceLT, Nat.reduceEqDiff, Int.reduceLE, Int.reduceLT, Int.reduceEq, Int.reduceToNat, Int.reduceAdd, Int.reduceSub, Int.reduceMul, Int.reduceNeg, Int.reduceNe, reduceCtorEq, ↓reduceIte]
  refine callA_rule (ref12_Hi r hr h0 hl) (wkL_refl _) rfl ?_
  simp +contextual -implicitDefEqProofs (maxSteps := 1000000) only [sm, awpOper, awpDo, evP, evBin, evUn, eqInts, fillA, setCells, cutCells, okElems, AV.natOf, natO, maxA, minA, AV.isInt, evSlc, evLoad, setE, evW, AV.cells, AV.okSt, elemsOf, appBase, AV.isSl, resV, tupV, viewN, embB, embT, okR, okC, okL, okEs, ren, renC, renL, renEs, Nat.reduceAdd, Nat.reduceSub, Nat.reduceLeDiff, Nat.reduceLT, Nat.reduceEqDiff, Int.reduceLE, Int.reduceLT, Int.reduceEq, Int.reduceToNat, Int.reduceAdd, Int.reduceSub, Int.reduceMul, Int.reduceNeg, Int.reduceNe, reduceCtorEq, ↓reduceIte]
theorem ref12_With (D : List (List Rg)) (n : Nat) (r : List Rg) (hD : D.length ≤ 1000000000000) : Ctr Try.prog 85 [eDoms D, .int .i64 n, eRgs r] [] (eDoms (D.set n r)) [] := by
  refine call_pure Try.func85 Try.call85 e_ref12_With ?_
  obtain ⟨T, hT⟩ : ∃ T, D.set n r = T := ⟨_, rfl⟩
  have hTl : T.length = D.length := by rw [← hT, List.length_set]
  rw [hT]
  simp +contextual -implicitDefEqProofs (maxSteps := 1000000) only [c_ref12_With, eDoms, eRgs, sm, awpOper, awpDo, evP, evBin, evUn, eqInts, fillA, setCells, cutCells, okElems, AV.natOf, natO, maxA, minA, AV.isInt, evSlc, evLoad, setE, evW, AV.cells, AV.okSt, elemsOf, appBase, AV.isSl, resV, tupV, viewN, embB, embT, okR, okC, okL, okEs, ren, renC, renL, renEs, Nat.reduceAdd, Nat.reduceSub, Nat.reduceLeDiff, Nat.reduceLT, Nat.reduceEqDiff, Int.reduceLE, Int.reduceLT, Int.reduceEq, Int.reduceToNat, Int.reduceAdd, Int.reduceSub, Int.reduceMul, Int.reduceNeg, Int.reduceNe, reduceCtorEq, ↓reduceIte]
  refine loop_ruleV [(7, 1)] (fun k : Nat => k ≤ D.length) (fun k => tm 30 [(0, .list 1 (D.map eRgs)), (1, .int .i64 n), (2, .list 2 (r.map eRg)), (7, .sl 1 0 0 k), (8, .int .i64 k)]) (fun k => [some (1, (T.take k).map eRgs)]) (fun k => D.length - k) 0 (by simp +contextual -implicitDefEqProofs (maxSteps := 1000000) only [sm, awpOper, awpDo, evP, evBin, evUn, eqInts, fillA, setCells, cutCells, okElems, AV.natOf, natO, maxA, minA, AV.isInt, evSlc, evLoad, setE, evW, AV.cells, AV.okSt, elemsOf, appBase, AV.isSl, resV, tupV, viewN, embB, embT, okR, okC, okL, okEs, ren, renC, renL, renEs, Nat.reduceAdd, Nat.reduceSub, Nat.reduceLeDiff, Nat.reduceLT, Nat.reduceEqDiff, Int.reduceLE, Int.reduceLT, Int.reduceEq, Int.reduceToNat, Int.reduceAdd, Int.reduceSub, Int.reduceMul, Int.reduceNeg, Int.reduceNe, reduceCtorEq, ↓reduceIte]) (Nat.zero_le _) ⟨[0], by decide, rfl, ?_, ?_⟩ ?_
  · simp +contextual -implicitDefEqProofs (maxSteps := 1000000) only [sm, awpOper, awpDo, evP, evBin, evUn, eqInts, fillA, setCells, cutCells, okElems, AV.natOf, natO, maxA, minA, AV.isInt, evSlc, evLoad, setE, evW, AV.cells, AV.okSt, elemsOf, appBase, AV.isSl, resV, tupV, viewN, embB, embT, okR, okC, okL, okEs, ren, renC, renL, renEs, Nat.reduceAdd, Nat.reduceSub, Nat.reduceLeDiff, Nat.reduceLT, Nat.reduceEqDiff, Int.reduceLE, Int.reduceLT, Int.reduceEq, Int.reduceToNat, Int.reduceAdd, Int.reduceSub, Int.reduceMul, Int.reduceNeg, Int.reduceNe, reduceCtorEq, ↓reduceIte]
  · simp +contextual -implicitDefEqProofs (maxSteps := 1000000) only [sm, awpOper, awpDo, evP, evBin, evUn, eqInts, fillA, setCells, cutCells, okElems, AV.natOf, natO, maxA, minA, AV.isInt, evSlc, evLoad, setE, evW, AV.cells, AV.okSt, elemsOf, appBase, AV.isSl, resV, tupV, viewN, embB, embT, okR, okC, okL, okEs, ren, renC, renL, renEs, Nat.reduceAdd, Nat.reduceSub, Nat.reduceLeDiff, Nat.reduceLT, Nat.reduceEqDiff, Int.reduceLE, Int.reduceLT, Int.reduceEq, Int.reduceToNat, Int.reduceAdd, Int.reduceSub, Int.reduceMul, Int.reduceNeg, Int.reduceNe, reduceCtorEq, ↓reduceIte, Int.natCast_zero]
  · intro k hk
    have hkl : (T.take k).length = k := by rw [List.length_take]; omega
    by_cases hlt : k < D.length
    · have hlt' : (k : Int) < (D.length : Int) := by omega
      have e2 : IntKind.i64.wrap ((k : Int) + 1) = ((k + 1 : Nat) : Int) := by rw [wrap_i64] <;> omega
      have c1 : (k + 1) * 24 ≤ 140737488355328 := by omega
      have c2 : k + 1 ≤ maxLen := by unfold maxLen; omega
      by_cases hkn : k = n
      · have hTk : T[k]? = some r := by rw [← hT, hkn, List.getElem?_set_self (by omega)]
        have hs := take_snoc hTk
        have hkn' : ((k : Int) = (n : Int)) = True := by simp only [eq_iff_iff, iff_true]; omega
        simp +contextual -implicitDefEqProofs (maxSteps := 1000000) only [sm, awpOper, awpDo, evP, evBin, evUn, eqInts, fillA, setCells, cutCells, okElems, AV.natOf, natO, maxA, minA, AV.isInt, evSlc, evLoad, setE, evW, AV.cells, AV.okSt, elemsOf, appBase, AV.isSl, resV, tupV, viewN, embB, embT, okR, okC, okL, okEs, ren, renC, renL, renEs, Nat.reduceAdd, Nat.reduceSub, Nat.reduceLeDiff, Nat.reduceLT, Nat.reduceEqDiff, Int.reduceLE, Int.reduceLT, Int.reduceEq, Int.reduceToNat, Int.reduceAdd, Int.reduceSub, Int.reduceMul, Int.reduceNeg, Int.reduceNe, reduceCtorEq, ↓reduceIte, hlt', hkn', e2, c1, c2, hkl, hs]
        refine ⟨k + 1, by omega, by omega, [1], by decide, rfl, ?_, ?_⟩
        · simp +contextual -implicitDefEqProofs (maxSteps := 1000000) only [sm, awpOper, awpDo, evP, evBin, evUn, eqInts, fillA, setCells, cutCells, okElems, AV.natOf, natO, maxA, minA, AV.isInt, evSlc, evLoad, setE, evW, AV.cells, AV.okSt, elemsOf, appBase, AV.isSl, resV, tupV, viewN, embB, embT, okR, okC, okL, okEs, ren, renC, renL, renEs, Nat.reduceAdd, Nat.reduceSub, Nat.reduceLeDiff, Nat.reduceLT, Nat.reduceEqDiff, Int.reduceLE, Int.reduceLT, Int.reduceEq, Int.reduceToNat, Int.reduceAdd, Int.reduceSub, Int.reduceMul, Int.reduceNeg, Int.reduceNe, reduceCtorEq, ↓reduceIte]
        · simp +contextual -implicitDefEqProofs (maxSteps := 1000000) only [sm, awpOper, awpDo, evP, evBin, evUn, eqInts, fillA, setCells, cutCells, okElems, AV.natOf, natO, maxA, minA, AV.isInt, evSlc, evLoad, setE, evW, AV.cells, AV.okSt, elemsOf, appBase, AV.isSl, resV, tupV, viewN, embB, embT, okR, okC, okL, okEs, ren, renC, renL, renEs, Nat.reduceAdd, Nat.reduceSub, Nat.reduceLeDiff, Nat.reduceLT, Nat.reduceEqDiff, Int.reduceLE, Int.reduceLT, Int.reduceEq, Int.reduceToNat, Int.reduceAdd, Int.reduceSub, Int.reduceMul, Int.reduceNeg, Int.reduceNe, reduceCtorEq, ↓reduceIte]
      · obtain ⟨d, hd⟩ : ∃ d, D[k]? = some d := ⟨_, List.getElem?_eq_getElem hlt⟩
        have hTk : T[k]? = some d := by rw [← hT, List.getElem?_set_ne (fun e => hkn e.symm)]; exact hd
        have hs := take_snoc hTk
        have hkn' : ((k : Int) = (n : Int)) = False := by simp only [eq_iff_iff, iff_false]; omega
        simp +contextual -implicitDefEqProofs (maxSteps := 1000000) only [sm, awpOper, awpDo, evP, evBin, evUn, eqInts, fillA, setCells, cutCells, okElems, AV.natOf, natO, maxA, minA, AV.isInt, evSlc, evLoad, setE, evW, AV.cells, AV.okSt, elemsOf, appBase, AV.isSl, resV, tupV, viewN, embB, embT, okR, okC, okL, okEs, ren, renC, renL, renEs, Nat.reduceAdd, Nat.reduceSub, Nat.reduceLeDiff, Nat.reduceLT, Nat.reduceEqDiff, Int.reduceLE, Int.reduceLT, Int.reduceEq, Int.reduceToNat, Int.reduceAdd, Int.reduceSub, Int.reduceMul, Int.reduceNeg, Int.reduceNe, reduceCtorEq, ↓reduceIte, hlt', hkn', e2, c1, c2, hkl, hs, hd]
        refine ⟨k + 1, by omega, by omega, [1], by decide, rfl, ?_, ?_⟩
        · simp +contextual -implicitDefEqProofs (maxSteps := 1000000) only [sm, awpOper, awpDo, evP, evBin, evUn, eqInts, fillA, setCells, cutCells, okElems, AV.natOf, natO, maxA, minA, AV.isInt, evSlc, evLoad, setE, evW, AV.cells, AV.okSt, elemsOf, appBase, AV.isSl, resV, tupV, viewN, embB, embT, okR, okC, okL, okEs, ren, renC, renL, renEs, Nat.reduceAdd, Nat.reduceSub, Nat.reduceLeDiff, Nat.reduceLT, Nat.reduceEqDiff, Int.reduceLE, Int.reduceLT, Int.reduceEq, Int.reduceToNat, Int.reduceAdd, Int.reduceSub, Int.reduceMul, Int.reduceNeg, Int.reduceNe, reduceCtorEq, ↓reduceIte]
        · simp +contextual -implicitDefEqProofs (maxSteps := 1000000) only [sm, awpOper, awpDo, evP, evBin, evUn, eqInts, fillA, setCells, cutCells, okElems, AV.natOf, natO, maxA, minA, AV.isInt, evSlc, evLoad, setE, evW, AV.cells, AV.okSt, elemsOf, appBase, AV.isSl, resV, tupV, viewN, embB, embT, okR, okC, okL, okEs, ren, renC, renL, renEs, Nat.reduceAdd, Nat.reduceSub, Nat.reduceLeDiff, Nat.reduceLT, Nat.reduceEqDiff, Int.reduceLE, Int.reduceLT, Int.reduceEq, Int.reduceToNat, Int.reduceAdd, Int.reduceSub, Int.reduceMul, Int.reduceNeg, Int.reduceNe, reduceCtorEq, ↓reduceIte]
    · have hkn : k = D.length := by omega
      subst hkn
      have t0 : T.take D.length = T := by rw [← hTl, List.take_length]
      rw [t0]
      have t1 : List.take D.length (T.map eRgs) = T.map eRgs := by rw [← hTl]; exact take_map _ _
      simp +contextual -implicitDefEqProofs (maxSteps := 1000000) only [sm, awpOper, awpDo, evP, evBin, evUn, eqInts, fillA, setCells, cutCells, okElems, AV.natOf, natO, maxA, minA, AV.isInt, evSlc, evLoad, setE, evW, AV.cells, AV.okSt, elemsOf, appBase, AV.isSl, resV, tupV, viewN, embB, embT, okR, okC, okL, okEs, ren, renC, renL, renEs, Nat.reduceAdd, Nat.reduceSub, Nat.reduceLeDiff, Nat.reduceLT, Nat.reduceEqDiff, Int.reduceLE, Int.reduceLT, Int.reduceEq, Int.reduceToNat, Int.reduceAdd, Int.reduceSub, Int.reduceMul, Int.reduceNeg, Int.reduceNe, reduceCtorEq, ↓reduceIte, Int.lt_irrefl, t1, hTl]
theorem tri_right {r : List Rg} (h : tri r) : rightB r = true ∧ r.length = 1 := by rcases h with rfl | rfl | rfl <;> exact ⟨by decide, rfl⟩
theorem ref15_is (D : List (List Rg)) (x v : Int) (hv : v = 0 ∨ v = 1) (hin : 0 ≤ x ∧ x < D.length) (ht : tri (rowOf D x)) :
    Ctr Try.prog 71 [eDoms D, .int .i64 x, .int .i64 v] [] (.bool (decide (lv (rowOf D x) = v))) [] := by
  refine call_pure Try.func71 Try.call71 e_ref15_is ?_
  have hr := row_get hin
  have h0 := hin.1
  obtain ⟨r1, r2⟩ := tri_right ht
  have he := tri_ends ht hv
  simp +contextual -implicitDefEqProofs (maxSteps := 1000000) only [c_ref15_is, eDoms, sm, awpOper, awpDo, evP, evBin, evUn, eqInts, fillA, setCells, cutCells, okElems, AV.natOf, natO, maxA, minA, AV.isInt, evSlc, evLoad, setE, evW, AV.cells, AV.okSt, elemsOf, appBase, AV.isSl, resV, tupV, viewN, embB, embT, okR, okC, okL, okEs, ren, renC, renL, renEs, Nat.reduceAdd, Nat.reduceSub, Nat.reduceLeDiff, Nat.reduceLT, Nat.reduceEqDiff, Int.reduceLE, Int.reduceLT, Int.reduceEq, Int.reduceToNat, Int.reduceAdd, Int.reduceSub, Int.reduceMul, Int.reduceNeg, Int.reduceNe, reduceCtorEq, ↓reduceIte, h0, hr]
  refine callA_rule (ref12_Lo _ r1 (by omega)) (wkL_refl _) rfl ?_
  by_cases h1 : (endsV (rowOf D x)).1 = v
  · simp +contextual -implicitDefEqProofs (maxSteps := 1000000) only [sm, awpOper, awpDo, evP, evBin, evUn, eqInts, fillA, setCells, cutCells, okElems, AV.natOf, natO, maxA, minA, AV.isInt, evSlc, evLoad, setE, evW, AV.cells, AV.okSt, elemsOf, appBase, AV.isSl, resV, tupV, viewN, embB, embT, okR, okC, okL, okEs, ren, renC, renL, renEs, Nat.reduceAdd, Nat.reduceSub, Nat.reduceLeDiff, Nat.reduceLT, Nat.reduceEqDiff, Int.reduceLE, Int.reduceLT, Int.reduceEq, Int.reduceToNat, Int.reduceAdd, Int.reduceSub, Int.reduceMul, Int.reduceNeg, Int.reduceNe, reduceCtorEq, ↓reduceIte, h1, h0, hr]
    refine callA_rule (ref12_Hi _ r1 (by omega) (by omega)) (wkL_refl _) rfl ?_
    simp +contextual -implicitDefEqProofs (maxSteps := 1000000) only [sm, awpOper, awpDo, evP, evBin, evUn, eqInts, fillA, setCells, cutCells, okElems, AV.natOf, natO, maxA, minA, AV.isInt, evSlc, evLoad, setE, evW, AV.cells, AV.okSt, elemsOf, appBase, AV.isSl, resV, tupV, viewN, embB, embT, okR, okC, okL, okEs, ren, renC, renL, renEs, Nat.reduceAdd, Nat.reduceSub, Nat.reduceLeDiff, Nat.reduceLT, Nat.reduceEqDiff, Int.reduceLE, Int.reduceLT, Int.reduceEq, Int.reduceToNat, Int.reduceAdd, Int.reduceSub, Int.reduceMul, Int.reduceNeg, Int.reduceNe, reduceCtorEq, ↓reduceIte]
    rw [← he]
    simp [h1]
  · have h2 : decide (lv (rowOf D x) = v) = false := by rw [← he]; simp [h1]
    rw [h2]
    simp +contextual -implicitDefEqProofs (maxSteps := 1000000) only [sm, awpOper, awpDo, evP, evBin, evUn, eqInts, fillA, setCells, cutCells, okElems, AV.natOf, natO, maxA, minA, AV.isInt, evSlc, evLoad, setE, evW, AV.cells, AV.okSt, elemsOf, appBase, AV.isSl, resV, tupV, viewN, embB, embT, okR, okC, okL, okEs, ren, renC, renL, renEs, Nat.reduceAdd, Nat.reduceSub, Nat.reduceLeDiff, Nat.reduceLT, Nat.reduceEqDiff, Int.reduceLE, Int.reduceLT, Int.reduceEq, Int.reduceToNat, Int.reduceAdd, Int.reduceSub, Int.reduceMul, Int.reduceNeg, Int.reduceNe, reduceCtorEq, ↓reduceIte, h1]
def oD (o : Option (List (List Rg))) : List (List Rg) := o.getD []
def oB (o : Option (List (List Rg))) : Bool := o.isSome
theorem oD_some (E : List (List Rg)) : oD (some E) = E := rfl
theorem oD_none : oD none = [] := rfl
theorem oB_some (E : List (List Rg)) : oB (some E) = true := rfl
theorem oB_none : oB none = false := rfl
theorem ref15_set (D : List (List Rg)) (x v : Int) (hv : v = 0 ∨ v = 1) (hD : D.length ≤ 1000000000000) (hin : 0 ≤ x ∧ x < D.length) (ht : tri (rowOf D x)) :
    Ctr Try.prog 72 [eDoms D, .int .i64 x, .int .i64 v] [] (.tuple [eDoms (oD (setO D x v)), .bool (oB (setO D x v))]) [] := by
  refine call_pure Try.func72 Try.call72 e_ref15_set ?_
  have hr := row_get hin
  have h0 := hin.1
  obtain ⟨r1, r2⟩ := tri_right ht
  have hh := tri_has ht hv
  have hxe : (x.toNat : Int) = x := Int.toNat_of_nonneg h0
  simp +contextual -implicitDefEqProofs (maxSteps := 1000000) only [c_ref15_set, eDoms, sm, awpOper, awpDo, evP, evBin, evUn, eqInts, fillA, setCells, cutCells, okElems, AV.natOf, natO, maxA, minA, AV.isInt, evSlc, evLoad, setE, evW, AV.cells, AV.okSt, elemsOf, appBase, AV.isSl, resV, tupV, viewN, embB, embT, okR, okC, okL, okEs, ren, renC, renL, renEs, Nat.reduceAdd, Nat.reduceSub, Nat.reduceLeDiff, Nat.reduceLT, Nat.reduceEqDiff, Int.reduceLE, Int.reduceLT, Int.reduceEq, Int.reduceToNat, Int.reduceAdd, Int.reduceSub, Int.reduceMul, Int.reduceNeg, Int.reduceNe, reduceCtorEq, ↓reduceIte, h0, hr]
  refine callA_rule (ref09_Has _ v (by omega)) (wkL_refl _) rfl ?_
  rw [hh]
  have hw := ref12_With D x.toNat [(v, v)] hD
  rw [hxe] at hw
  by_cases h2 : lv (rowOf D x) = 2
  · have hs : setO D x v = some (D.set x.toNat [(v, v)]) := by unfold setO; rw [if_pos h2]
    rw [hs]
    simp +contextual -implicitDefEqProofs (maxSteps := 1000000) only [sm, awpOper, awpDo, evP, evBin, evUn, eqInts, fillA, setCells, cutCells, okElems, AV.natOf, natO, maxA, minA, AV.isInt, evSlc, evLoad, setE, evW, AV.cells, AV.okSt, elemsOf, appBase, AV.isSl, resV, tupV, viewN, embB, embT, okR, okC, okL, okEs, ren, renC, renL, renEs, Nat.reduceAdd, Nat.reduceSub, Nat.reduceLeDiff, Nat.reduceLT, Nat.reduceEqDiff, Int.reduceLE, Int.reduceLT, Int.reduceEq, Int.reduceToNat, Int.reduceAdd, Int.reduceSub, Int.reduceMul, Int.reduceNeg, Int.reduceNe, reduceCtorEq, ↓reduceIte, h2, Bool.true_or]
    refine callA_rule hw (wkL_refl _) rfl ?_
    simp +contextual -implicitDefEqProofs (maxSteps := 1000000) only [sm, awpOper, awpDo, evP, evBin, evUn, eqInts, fillA, setCells, cutCells, okElems, AV.natOf, natO, maxA, minA, AV.isInt, evSlc, evLoad, setE, evW, AV.cells, AV.okSt, elemsOf, appBase, AV.isSl, resV, tupV, viewN, embB, embT, okR, okC, okL, okEs, ren, renC, renL, renEs, Nat.reduceAdd, Nat.reduceSub, Nat.reduceLeDiff, Nat.reduceLT, Nat.reduceEqDiff, Int.reduceLE, Int.reduceLT, Int.reduceEq, Int.reduceToNat, Int.reduceAdd, Int.reduceSub, Int.reduceMul, Int.reduceNeg, Int.reduceNe, reduceCtorEq, ↓reduceIte, oD_some, oB_some, eDoms]
  · by_cases h3 : lv (rowOf D x) = v
    · have hs : setO D x v = some D := by unfold setO; rw [if_neg h2, if_pos h3]
      have hrow := tri_row ht hv h3
      have hset : D.set x.toNat [(v, v)] = D := by
        apply List.ext_getElem?
        intro i
        by_cases hi : i = x.toNat
        · subst hi; rw [List.getElem?_set_self (by omega), hr, hrow]
        · rw [List.getElem?_set_ne (fun e => hi e.symm)]
      rw [hs]
      rw [hset] at hw
      simp +contextual -implicitDefEqProofs (maxSteps := 1000000) only [sm, awpOper, awpDo, evP, evBin, evUn, eqInts, fillA, setCells, cutCells, okElems, AV.natOf, natO, maxA, minA, AV.isInt, evSlc, evLoad, setE, evW, AV.cells, AV.okSt, elemsOf, appBase, AV.isSl, resV, tupV, viewN, embB, embT, okR, okC, okL, okEs, ren, renC, renL, renEs, Nat.reduceAdd, Nat.reduceSub, Nat.reduceLeDiff, Nat.reduceLT, Nat.reduceEqDiff, Int.reduceLE, Int.reduceLT, Int.reduceEq, Int.reduceToNat, Int.reduceAdd, Int.reduceSub, Int.reduceMul, Int.reduceNeg, Int.reduceNe, reduceCtorEq, ↓reduceIte, h2, h3, Bool.or_true]
      refine callA_rule hw (wkL_refl _) rfl ?_
      simp +contextual -implicitDefEqProofs (maxSteps := 1000000) only [sm, awpOper, awpDo, evP, evBin, evUn, eqInts, fillA, setCells, cutCells, okElems, AV.natOf, natO, maxA, minA, AV.isInt, evSlc, evLoad, setE, evW, AV.cells, AV.okSt, elemsOf, appBase, AV.isSl, resV, tupV, viewN, embB, embT, okR, okC, okL, okEs, ren, renC, renL, renEs, Nat.reduceAdd, Nat.reduceSub, Nat.reduceLeDiff, Nat.reduceLT, Nat.reduceEqDiff, Int.reduceLE, Int.reduceLT, Int.reduceEq, Int.reduceToNat, Int.reduceAdd, Int.reduceSub, Int.reduceMul, Int.reduceNeg, Int.reduceNe, reduceCtorEq, ↓reduceIte, oD_some, oB_some, eDoms]
    · have hs : setO D x v = none := by unfold setO; rw [if_neg h2, if_neg h3]
      rw [hs]
      simp +contextual -implicitDefEqProofs (maxSteps := 1000000) only [sm, awpOper, awpDo, evP, evBin, evUn, eqInts, fillA, setCells, cutCells, okElems, AV.natOf, natO, maxA, minA, AV.isInt, evSlc, evLoad, setE, evW, AV.cells, AV.okSt, elemsOf, appBase, AV.isSl, resV, tupV, viewN, embB, embT, okR, okC, okL, okEs, ren, renC, renL, renEs, Nat.reduceAdd, Nat.reduceSub, Nat.reduceLeDiff, Nat.reduceLT, Nat.reduceEqDiff, Int.reduceLE, Int.reduceLT, Int.reduceEq, Int.reduceToNat, Int.reduceAdd, Int.reduceSub, Int.reduceMul, Int.reduceNeg, Int.reduceNe, reduceCtorEq, ↓reduceIte, h2, h3, Bool.or_false, oD_none, oB_none, eDoms]
end Go.Proofs.Ytclpkkbamgmooaa
