/- What the functions of package touchstoneref09 compute. -/
import Derived.Test.YtclpkkbamgmooaaWBase
import Derived.Test.YtclpkkbamgmooaaCRef09
namespace Go.Proofs.Ytclpkkbamgmooaa
open Av
attribute [local irreducible] awp awpOpers
set_option linter.unusedSimpArgs false
set_option linter.unusedVariables false
set_option maxRecDepth 100000
set_option maxHeartbeats 4000000
theorem ref09_Right (l : List Rg) (hl : l.length ≤ 9223372036854775807) : Ctr Try.prog 43 [eRgs l] [] (.bool (rightB l)) [] := by
  refine call_pure Try.func43 Try.call43 e_ref09_Right ?_
  simp +contextual -implicitDefEqProofs (maxSteps := 1000000) only [c_ref09_Right, eRgs, sm, awpOper, awpDo, evP, evBin, evUn, eqInts, fillA, setCells, cutCells, okElems, AV.natOf, natO, maxA, minA, AV.isInt, evSlc, evLoad, setE, evW, AV.cells, AV.okSt, elemsOf, appBase, AV.isSl, resV, tupV, viewN, embB, embT, okR, okC, okL, okEs, ren, renC, renL, renEs, seval]
  refine loop_rule (fun k : Nat => k ≤ l.length ∧ ∀ j, j < k → okAt l j = true) (fun k => tm 58 [(0, .list 2 (l.map eRg)), (3, .int .i64 k)]) (fun _ => []) (fun k => l.length - k) 0 ⟨by omega, by omega⟩ ⟨[], by decide, rfl, ?_, ?_⟩ ?_
  · simp +contextual -implicitDefEqProofs (maxSteps := 1000000) only [sm, awpOper, awpDo, evP, evBin, evUn, eqInts, fillA, setCells, cutCells, okElems, AV.natOf, natO, maxA, minA, AV.isInt, evSlc, evLoad, setE, evW, AV.cells, AV.okSt, elemsOf, appBase, AV.isSl, resV, tupV, viewN, embB, embT, okR, okC, okL, okEs, ren, renC, renL, renEs, seval]
  · simp +contextual -implicitDefEqProofs (maxSteps := 1000000) only [sm, awpOper, awpDo, evP, evBin, evUn, eqInts, fillA, setCells, cutCells, okElems, AV.natOf, natO, maxA, minA, AV.isInt, evSlc, evLoad, setE, evW, AV.cells, AV.okSt, elemsOf, appBase, AV.isSl, resV, tupV, viewN, embB, embT, okR, okC, okL, okEs, ren, renC, renL, renEs, seval, Int.natCast_zero]
  · rintro k ⟨hk, hok⟩
    by_cases hlt : k < l.length
    · have hlt' : (k : Int) < ((l.length : Nat) : Int) := by omega
      have e2 : IntKind.i64.wrap ((k : Int) + 1) = ((k + 1 : Nat) : Int) := by rw [wrap_i64] <;> omega
      obtain ⟨⟨x, y⟩, hx⟩ : ∃ r, l[k]? = some r := ⟨_, List.getElem?_eq_getElem hlt⟩
      by_cases h1 : y < x
      · simp +contextual -implicitDefEqProofs (maxSteps := 1000000) only [sm, awpOper, awpDo, evP, evBin, evUn, eqInts, fillA, setCells, cutCells, okElems, AV.natOf, natO, maxA, minA, AV.isInt, evSlc, evLoad, setE, evW, AV.cells, AV.okSt, elemsOf, appBase, AV.isSl, resV, tupV, viewN, embB, embT, okR, okC, okL, okEs, ren, renC, renL, renEs, seval, hlt', hx, h1]
        exact rightB_no hlt (by simp [okAt, hx, h1])
      simp +contextual -implicitDefEqProofs (maxSteps := 1000000) only [sm, awpOper, awpDo, evP, evBin, evUn, eqInts, fillA, setCells, cutCells, okElems, AV.natOf, natO, maxA, minA, AV.isInt, evSlc, evLoad, setE, evW, AV.cells, AV.okSt, elemsOf, appBase, AV.isSl, resV, tupV, viewN, embB, embT, okR, okC, okL, okEs, ren, renC, renL, renEs, seval, hlt', hx, h1]
      refine callA_rule (ref08_Within _) (wkL_refl _) rfl ?_
      cases hw1 : withinB x
      · simp +contextual -implicitDefEqProofs (maxSteps := 1000000) only [sm, awpOper, awpDo, evP, evBin, evUn, eqInts, fillA, setCells, cutCells, okElems, AV.natOf, natO, maxA, minA, AV.isInt, evSlc, evLoad, setE, evW, AV.cells, AV.okSt, elemsOf, appBase, AV.isSl, resV, tupV, viewN, embB, embT, okR, okC, okL, okEs, ren, renC, renL, renEs, seval]
        exact rightB_no hlt (by simp [okAt, hx, hw1])
      simp +contextual -implicitDefEqProofs (maxSteps := 1000000) only [sm, awpOper, awpDo, evP, evBin, evUn, eqInts, fillA, setCells, cutCells, okElems, AV.natOf, natO, maxA, minA, AV.isInt, evSlc, evLoad, setE, evW, AV.cells, AV.okSt, elemsOf, appBase, AV.isSl, resV, tupV, viewN, embB, embT, okR, okC, okL, okEs, ren, renC, renL, renEs, seval, hx, h1]
      refine callA_rule (ref08_Within _) (wkL_refl _) rfl ?_
      cases hw2 : withinB y
      · simp +contextual -implicitDefEqProofs (maxSteps := 1000000) only [sm, awpOper, awpDo, evP, evBin, evUn, eqInts, fillA, setCells, cutCells, okElems, AV.natOf, natO, maxA, minA, AV.isInt, evSlc, evLoad, setE, evW, AV.cells, AV.okSt, elemsOf, appBase, AV.isSl, resV, tupV, viewN, embB, embT, okR, okC, okL, okEs, ren, renC, renL, renEs, seval]
        exact rightB_no hlt (by simp [okAt, hx, hw2])
      by_cases h0 : k = 0
      · have h0' : ¬ (0 : Int) < k := by omega
        simp +contextual -implicitDefEqProofs (maxSteps := 1000000) only [sm, awpOper, awpDo, evP, evBin, evUn, eqInts, fillA, setCells, cutCells, okElems, AV.natOf, natO, maxA, minA, AV.isInt, evSlc, evLoad, setE, evW, AV.cells, AV.okSt, elemsOf, appBase, AV.isSl, resV, tupV, viewN, embB, embT, okR, okC, okL, okEs, ren, renC, renL, renEs, seval, h1, h0', e2]
        refine ⟨k + 1, ⟨by omega, ?_⟩, by omega, [], by decide, rfl, ?_, ?_⟩
        · intro j hj
          rcases Nat.lt_succ_iff_lt_or_eq.1 hj with h | rfl
          · first | exact hok j h | simpa using hok j h
          · simp only [okAt, hx]; simp [h0, h1, hw1, hw2]
        · simp +contextual -implicitDefEqProofs (maxSteps := 1000000) only [sm, awpOper, awpDo, evP, evBin, evUn, eqInts, fillA, setCells, cutCells, okElems, AV.natOf, natO, maxA, minA, AV.isInt, evSlc, evLoad, setE, evW, AV.cells, AV.okSt, elemsOf, appBase, AV.isSl, resV, tupV, viewN, embB, embT, okR, okC, okL, okEs, ren, renC, renL, renEs, seval]
        · simp +contextual -implicitDefEqProofs (maxSteps := 1000000) only [sm, awpOper, awpDo, evP, evBin, evUn, eqInts, fillA, setCells, cutCells, okElems, AV.natOf, natO, maxA, minA, AV.isInt, evSlc, evLoad, setE, evW, AV.cells, AV.okSt, elemsOf, appBase, AV.isSl, resV, tupV, viewN, embB, embT, okR, okC, okL, okEs, ren, renC, renL, renEs, seval]
      · have h0' : (0 : Int) < k := by omega
        have e1 : IntKind.i64.wrap ((k : Int) - 1) = ((k - 1 : Nat) : Int) := by rw [wrap_i64] <;> omega
        obtain ⟨⟨p, q⟩, hpq⟩ : ∃ r, l[k - 1]? = some r := ⟨_, List.getElem?_eq_getElem (by omega)⟩
        have hp := hok (k - 1) (by omega)
        simp only [okAt, hpq, Bool.and_eq_true, withinB_iff] at hp
        have e3 : IntKind.i64.wrap (q + 2) = q + 2 := by rw [wrap_i64] <;> omega
        by_cases hg : x < q + 2
        · simp +contextual -implicitDefEqProofs (maxSteps := 1000000) only [sm, awpOper, awpDo, evP, evBin, evUn, eqInts, fillA, setCells, cutCells, okElems, AV.natOf, natO, maxA, minA, AV.isInt, evSlc, evLoad, setE, evW, AV.cells, AV.okSt, elemsOf, appBase, AV.isSl, resV, tupV, viewN, embB, embT, okR, okC, okL, okEs, ren, renC, renL, renEs, seval, hx, h1, h0', e1, hpq, e3, hg]
          exact rightB_no hlt (by simp [okAt, hx, hpq, h1, hw1, hw2, h0]; omega)
        · simp +contextual -implicitDefEqProofs (maxSteps := 1000000) only [sm, awpOper, awpDo, evP, evBin, evUn, eqInts, fillA, setCells, cutCells, okElems, AV.natOf, natO, maxA, minA, AV.isInt, evSlc, evLoad, setE, evW, AV.cells, AV.okSt, elemsOf, appBase, AV.isSl, resV, tupV, viewN, embB, embT, okR, okC, okL, okEs, ren, renC, renL, renEs, seval, hx, h1, h0', e1, hpq, e3, hg, e2]
          refine ⟨k + 1, ⟨by omega, ?_⟩, by omega, [], by decide, rfl, ?_, ?_⟩
          · intro j hj
            rcases Nat.lt_succ_iff_lt_or_eq.1 hj with h | rfl
            · first | exact hok j h | simpa using hok j h
            · simp [okAt, hx, h1, hw1, hw2, hpq]; omega
          · simp +contextual -implicitDefEqProofs (maxSteps := 1000000) only [sm, awpOper, awpDo, evP, evBin, evUn, eqInts, fillA, setCells, cutCells, okElems, AV.natOf, natO, maxA, minA, AV.isInt, evSlc, evLoad, setE, evW, AV.cells, AV.okSt, elemsOf, appBase, AV.isSl, resV, tupV, viewN, embB, embT, okR, okC, okL, okEs, ren, renC, renL, renEs, seval]
          · simp +contextual -implicitDefEqProofs (maxSteps := 1000000) only [sm, awpOper, awpDo, evP, evBin, evUn, eqInts, fillA, setCells, cutCells, okElems, AV.natOf, natO, maxA, minA, AV.isInt, evSlc, evLoad, setE, evW, AV.cells, AV.okSt, elemsOf, appBase, AV.isSl, resV, tupV, viewN, embB, embT, okR, okC, okL, okEs, ren, renC, renL, renEs, seval]
    · have hkn : k = l.length := by omega
      subst hkn
      have hall := hok
      simp +contextual -implicitDefEqProofs (maxSteps := 1000000) only [sm, awpOper, awpDo, evP, evBin, evUn, eqInts, fillA, setCells, cutCells, okElems, AV.natOf, natO, maxA, minA, AV.isInt, evSlc, evLoad, setE, evW, AV.cells, AV.okSt, elemsOf, appBase, AV.isSl, resV, tupV, viewN, embB, embT, okR, okC, okL, okEs, ren, renC, renL, renEs, seval, Int.lt_irrefl]
      exact rightB_yes hall
theorem ref09_Has (l : List Rg) (v : Int) (hl : l.length ≤ 1000000000000) : Ctr Try.prog 47 [eRgs l, .int .i64 v] [] (.bool (rhasB l v)) [] := by
  refine call_pure Try.func47 Try.call47 e_ref09_Has ?_
  simp +contextual -implicitDefEqProofs (maxSteps := 1000000) only [c_ref09_Has, eRgs, sm, awpOper, awpDo, evP, evBin, evUn, eqInts, fillA, setCells, cutCells, okElems, AV.natOf, natO, maxA, minA, AV.isInt, evSlc, evLoad, setE, evW, AV.cells, AV.okSt, elemsOf, appBase, AV.isSl, resV, tupV, viewN, embB, embT, okR, okC, okL, okEs, ren, renC, renL, renEs, seval]
  refine loop_rule (fun k : Nat => k ≤ l.length ∧ ∀ (j : Nat) x, j < k → l[j]? = some x → (fun r : Rg => !(decide (r.1 ≤ v) && decide (v ≤ r.2))) x = true) (fun k => tm 30 [(0, .list 2 (l.map eRg)), (1, .int .i64 v), (5, .int .i64 k)]) (fun _ => []) (fun k => l.length - k) 0 ⟨by omega, by omega⟩ ⟨[], by decide, rfl, ?_, ?_⟩ ?_
  · simp +contextual -implicitDefEqProofs (maxSteps := 1000000) only [sm, awpOper, awpDo, evP, evBin, evUn, eqInts, fillA, setCells, cutCells, okElems, AV.natOf, natO, maxA, minA, AV.isInt, evSlc, evLoad, setE, evW, AV.cells, AV.okSt, elemsOf, appBase, AV.isSl, resV, tupV, viewN, embB, embT, okR, okC, okL, okEs, ren, renC, renL, renEs, seval]
  · simp +contextual -implicitDefEqProofs (maxSteps := 1000000) only [sm, awpOper, awpDo, evP, evBin, evUn, eqInts, fillA, setCells, cutCells, okElems, AV.natOf, natO, maxA, minA, AV.isInt, evSlc, evLoad, setE, evW, AV.cells, AV.okSt, elemsOf, appBase, AV.isSl, resV, tupV, viewN, embB, embT, okR, okC, okL, okEs, ren, renC, renL, renEs, seval, Int.natCast_zero]
  · rintro k ⟨hk, hok⟩
    by_cases hlt : k < l.length
    · obtain ⟨x, hx⟩ : ∃ r, l[k]? = some r := ⟨_, List.getElem?_eq_getElem hlt⟩
      have hlt' : (k : Int) < (l.length : Int) := by omega
      have e2 : IntKind.i64.wrap ((k : Int) + 1) = ((k + 1 : Nat) : Int) := by rw [wrap_i64] <;> omega
      obtain ⟨p, q⟩ := x
      by_cases h1 : p ≤ v
      · by_cases h2 : v ≤ q
        · simp +contextual -implicitDefEqProofs (maxSteps := 1000000) only [sm, awpOper, awpDo, evP, evBin, evUn, eqInts, fillA, setCells, cutCells, okElems, AV.natOf, natO, maxA, minA, AV.isInt, evSlc, evLoad, setE, evW, AV.cells, AV.okSt, elemsOf, appBase, AV.isSl, resV, tupV, viewN, embB, embT, okR, okC, okL, okEs, ren, renC, renL, renEs, seval, hlt', hx, h1, h2]
          refine callA_rule (ref09_Right l (by omega)) (wkL_refl _) rfl ?_
          simp +contextual -implicitDefEqProofs (maxSteps := 1000000) only [sm, awpOper, awpDo, evP, evBin, evUn, eqInts, fillA, setCells, cutCells, okElems, AV.natOf, natO, maxA, minA, AV.isInt, evSlc, evLoad, setE, evW, AV.cells, AV.okSt, elemsOf, appBase, AV.isSl, resV, tupV, viewN, embB, embT, okR, okC, okL, okEs, ren, renC, renL, renEs, seval]
          rw [rhas_yes hx h1 h2]
        · simp +contextual -implicitDefEqProofs (maxSteps := 1000000) only [sm, awpOper, awpDo, evP, evBin, evUn, eqInts, fillA, setCells, cutCells, okElems, AV.natOf, natO, maxA, minA, AV.isInt, evSlc, evLoad, setE, evW, AV.cells, AV.okSt, elemsOf, appBase, AV.isSl, resV, tupV, viewN, embB, embT, okR, okC, okL, okEs, ren, renC, renL, renEs, seval, hlt', hx, h1, h2, e2]
          refine ⟨k + 1, ⟨by omega, ?_⟩, by omega, [], by decide, rfl, ?_, ?_⟩
          · intro j y hj hy
            rcases Nat.lt_succ_iff_lt_or_eq.1 hj with h | rfl
            · first | exact hok j y h hy | simpa using hok j y h hy
            · rw [hx] at hy; injection hy with hy; subst hy; simp [h2]
          · simp +contextual -implicitDefEqProofs (maxSteps := 1000000) only [sm, awpOper, awpDo, evP, evBin, evUn, eqInts, fillA, setCells, cutCells, okElems, AV.natOf, natO, maxA, minA, AV.isInt, evSlc, evLoad, setE, evW, AV.cells, AV.okSt, elemsOf, appBase, AV.isSl, resV, tupV, viewN, embB, embT, okR, okC, okL, okEs, ren, renC, renL, renEs, seval]
          · simp +contextual -implicitDefEqProofs (maxSteps := 1000000) only [sm, awpOper, awpDo, evP, evBin, evUn, eqInts, fillA, setCells, cutCells, okElems, AV.natOf, natO, maxA, minA, AV.isInt, evSlc, evLoad, setE, evW, AV.cells, AV.okSt, elemsOf, appBase, AV.isSl, resV, tupV, viewN, embB, embT, okR, okC, okL, okEs, ren, renC, renL, renEs, seval]
      · simp +contextual -implicitDefEqProofs (maxSteps := 1000000) only [sm, awpOper, awpDo, evP, evBin, evUn, eqInts, fillA, setCells, cutCells, okElems, AV.natOf, natO, maxA, minA, AV.isInt, evSlc, evLoad, setE, evW, AV.cells, AV.okSt, elemsOf, appBase, AV.isSl, resV, tupV, viewN, embB, embT, okR, okC, okL, okEs, ren, renC, renL, renEs, seval, hlt', hx, h1, e2]
        refine ⟨k + 1, ⟨by omega, ?_⟩, by omega, [], by decide, rfl, ?_, ?_⟩
        · intro j y hj hy
          rcases Nat.lt_succ_iff_lt_or_eq.1 hj with h | rfl
          · first | exact hok j y h hy | simpa using hok j y h hy
          · rw [hx] at hy; injection hy with hy; subst hy; simp [h1]
        · simp +contextual -implicitDefEqProofs (maxSteps := 1000000) only [sm, awpOper, awpDo, evP, evBin, evUn, eqInts, fillA, setCells, cutCells, okElems, AV.natOf, natO, maxA, minA, AV.isInt, evSlc, evLoad, setE, evW, AV.cells, AV.okSt, elemsOf, appBase, AV.isSl, resV, tupV, viewN, embB, embT, okR, okC, okL, okEs, ren, renC, renL, renEs, seval]
        · simp +contextual -implicitDefEqProofs (maxSteps := 1000000) only [sm, awpOper, awpDo, evP, evBin, evUn, eqInts, fillA, setCells, cutCells, okElems, AV.natOf, natO, maxA, minA, AV.isInt, evSlc, evLoad, setE, evW, AV.cells, AV.okSt, elemsOf, appBase, AV.isSl, resV, tupV, viewN, embB, embT, okR, okC, okL, okEs, ren, renC, renL, renEs, seval]
    · have : k = l.length := by omega
      subst this
      have hall := listall_yes hok
      simp +contextual -implicitDefEqProofs (maxSteps := 1000000) only [sm, awpOper, awpDo, evP, evBin, evUn, eqInts, fillA, setCells, cutCells, okElems, AV.natOf, natO, maxA, minA, AV.isInt, evSlc, evLoad, setE, evW, AV.cells, AV.okSt, elemsOf, appBase, AV.isSl, resV, tupV, viewN, embB, embT, okR, okC, okL, okEs, ren, renC, renL, renEs, seval, Int.lt_irrefl]
      refine rhas_no fun j x y hj hxy => ?_
      have := List.all_eq_true.1 hall _ (List.mem_of_getElem? hj)
      simp [hxy.1, hxy.2] at this
theorem ref09_Next (l : List Rg) (v : Int) (hl : l.length ≤ 1000000000000) : Ctr Try.prog 101 [eRgs l, .int .i64 v] [] (.tuple [.int .i64 (nextV l v), .bool (nextB l v)]) [] := by
  refine call_pure Try.func101 Try.call101 e_ref09_Next ?_
  simp +contextual -implicitDefEqProofs (maxSteps := 1000000) only [c_ref09_Next, eRgs, sm, awpOper, awpDo, evP, evBin, evUn, eqInts, fillA, setCells, cutCells, okElems, AV.natOf, natO, maxA, minA, AV.isInt, evSlc, evLoad, setE, evW, AV.cells, AV.okSt, elemsOf, appBase, AV.isSl, resV, tupV, viewN, embB, embT, okR, okC, okL, okEs, ren, renC, renL, renEs, seval]
  refine callA_rule (ref09_Right l (by omega)) (wkL_refl _) rfl ?_
  cases hr : rightB l
  · simp +contextual -implicitDefEqProofs (maxSteps := 1000000) only [sm, awpOper, awpDo, evP, evBin, evUn, eqInts, fillA, setCells, cutCells, okElems, AV.natOf, natO, maxA, minA, AV.isInt, evSlc, evLoad, setE, evW, AV.cells, AV.okSt, elemsOf, appBase, AV.isSl, resV, tupV, viewN, embB, embT, okR, okC, okL, okEs, ren, renC, renL, renEs, seval]
    simp [nextV, nextB, hr]
  · simp +contextual -implicitDefEqProofs (maxSteps := 1000000) only [sm, awpOper, awpDo, evP, evBin, evUn, eqInts, fillA, setCells, cutCells, okElems, AV.natOf, natO, maxA, minA, AV.isInt, evSlc, evLoad, setE, evW, AV.cells, AV.okSt, elemsOf, appBase, AV.isSl, resV, tupV, viewN, embB, embT, okR, okC, okL, okEs, ren, renC, renL, renEs, seval]
    refine loop_rule (fun k : Nat => k ≤ l.length ∧ ∀ (j : Nat) x, j < k → l[j]? = some x → (fun r : Rg => decide (r.2 < v)) x = true) (fun k => tm 30 [(0, .list 2 (l.map eRg)), (1, .int .i64 v), (6, .int .i64 k)]) (fun _ => []) (fun k => l.length - k) 0 ⟨by omega, by omega⟩ ⟨[], by decide, rfl, ?_, ?_⟩ ?_
    · simp +contextual -implicitDefEqProofs (maxSteps := 1000000) only [sm, awpOper, awpDo, evP, evBin, evUn, eqInts, fillA, setCells, cutCells, okElems, AV.natOf, natO, maxA, minA, AV.isInt, evSlc, evLoad, setE, evW, AV.cells, AV.okSt, elemsOf, appBase, AV.isSl, resV, tupV, viewN, embB, embT, okR, okC, okL, okEs, ren, renC, renL, renEs, seval]
    · simp +contextual -implicitDefEqProofs (maxSteps := 1000000) only [sm, awpOper, awpDo, evP, evBin, evUn, eqInts, fillA, setCells, cutCells, okElems, AV.natOf, natO, maxA, minA, AV.isInt, evSlc, evLoad, setE, evW, AV.cells, AV.okSt, elemsOf, appBase, AV.isSl, resV, tupV, viewN, embB, embT, okR, okC, okL, okEs, ren, renC, renL, renEs, seval, Int.natCast_zero]
    · rintro k ⟨hk, hok⟩
      by_cases hlt : k < l.length
      · obtain ⟨x, hx⟩ : ∃ r, l[k]? = some r := ⟨_, List.getElem?_eq_getElem hlt⟩
        have hlt' : (k : Int) < (l.length : Int) := by omega
        have e2 : IntKind.i64.wrap ((k : Int) + 1) = ((k + 1 : Nat) : Int) := by rw [wrap_i64] <;> omega
        obtain ⟨p, q⟩ := x
        by_cases h1 : v ≤ q
        · obtain ⟨n1, n2⟩ := next_hit hr hlt hx (fun j x y hj hxy => by simpa using hok j _ hj hxy) h1
          simp +contextual -implicitDefEqProofs (maxSteps := 1000000) only [sm, awpOper, awpDo, evP, evBin, evUn, eqInts, fillA, setCells, cutCells, okElems, AV.natOf, natO, maxA, minA, AV.isInt, evSlc, evLoad, setE, evW, AV.cells, AV.okSt, elemsOf, appBase, AV.isSl, resV, tupV, viewN, embB, embT, okR, okC, okL, okEs, ren, renC, renL, renEs, seval, hlt', hx, h1, n1, n2]
        · simp +contextual -implicitDefEqProofs (maxSteps := 1000000) only [sm, awpOper, awpDo, evP, evBin, evUn, eqInts, fillA, setCells, cutCells, okElems, AV.natOf, natO, maxA, minA, AV.isInt, evSlc, evLoad, setE, evW, AV.cells, AV.okSt, elemsOf, appBase, AV.isSl, resV, tupV, viewN, embB, embT, okR, okC, okL, okEs, ren, renC, renL, renEs, seval, hlt', hx, h1, e2]
          refine ⟨k + 1, ⟨by omega, ?_⟩, by omega, [], by decide, rfl, ?_, ?_⟩
          · intro j y hj hy
            rcases Nat.lt_succ_iff_lt_or_eq.1 hj with h | rfl
            · first | exact hok j y h hy | simpa using hok j y h hy
            · rw [hx] at hy; injection hy with hy; subst hy; simp; omega
          · simp +contextual -implicitDefEqProofs (maxSteps := 1000000) only [sm, awpOper, awpDo, evP, evBin, evUn, eqInts, fillA, setCells, cutCells, okElems, AV.natOf, natO, maxA, minA, AV.isInt, evSlc, evLoad, setE, evW, AV.cells, AV.okSt, elemsOf, appBase, AV.isSl, resV, tupV, viewN, embB, embT, okR, okC, okL, okEs, ren, renC, renL, renEs, seval]
          · simp +contextual -implicitDefEqProofs (maxSteps := 1000000) only [sm, awpOper, awpDo, evP, evBin, evUn, eqInts, fillA, setCells, cutCells, okElems, AV.natOf, natO, maxA, minA, AV.isInt, evSlc, evLoad, setE, evW, AV.cells, AV.okSt, elemsOf, appBase, AV.isSl, resV, tupV, viewN, embB, embT, okR, okC, okL, okEs, ren, renC, renL, renEs, seval]
      · have : k = l.length := by omega
        subst this
        have hall := listall_yes hok
        obtain ⟨n1, n2⟩ := next_miss hr (fun j x y hj hxy => by simpa using hok j _ hj hxy)
        simp +contextual -implicitDefEqProofs (maxSteps := 1000000) only [sm, awpOper, awpDo, evP, evBin, evUn, eqInts, fillA, setCells, cutCells, okElems, AV.natOf, natO, maxA, minA, AV.isInt, evSlc, evLoad, setE, evW, AV.cells, AV.okSt, elemsOf, appBase, AV.isSl, resV, tupV, viewN, embB, embT, okR, okC, okL, okEs, ren, renC, renL, renEs, seval, Int.lt_irrefl, n1, n2]
theorem ref09_Cut (l : List Rg) (lo hi : Int) (hl : l.length ≤ 1000000000000) : Ctr Try.prog 78 [eRgs l, .int .i64 lo, .int .i64 hi] [] (eRgs (rcutS lo hi l)) [] := by
  refine call_pure Try.func78 Try.call78 e_ref09_Cut ?_
  simp +contextual -implicitDefEqProofs (maxSteps := 1000000) only [c_ref09_Cut, eRgs, sm, awpOper, awpDo, evP, evBin, evUn, eqInts, fillA, setCells, cutCells, okElems, AV.natOf, natO, maxA, minA, AV.isInt, evSlc, evLoad, setE, evW, AV.cells, AV.okSt, elemsOf, appBase, AV.isSl, resV, tupV, viewN, embB, embT, okR, okC, okL, okEs, ren, renC, renL, renEs, seval]
  refine callA_rule (ref09_Right l (by omega)) (wkL_refl _) rfl ?_
  cases hr : rightB l
  · simp +contextual -implicitDefEqProofs (maxSteps := 1000000) only [sm, awpOper, awpDo, evP, evBin, evUn, eqInts, fillA, setCells, cutCells, okElems, AV.natOf, natO, maxA, minA, AV.isInt, evSlc, evLoad, setE, evW, AV.cells, AV.okSt, elemsOf, appBase, AV.isSl, resV, tupV, viewN, embB, embT, okR, okC, okL, okEs, ren, renC, renL, renEs, seval]
    simp [rcutS, hr]
  · simp +contextual -implicitDefEqProofs (maxSteps := 1000000) only [sm, awpOper, awpDo, evP, evBin, evUn, eqInts, fillA, setCells, cutCells, okElems, AV.natOf, natO, maxA, minA, AV.isInt, evSlc, evLoad, setE, evW, AV.cells, AV.okSt, elemsOf, appBase, AV.isSl, resV, tupV, viewN, embB, embT, okR, okC, okL, okEs, ren, renC, renL, renEs, seval]
    refine loop_ruleV [(7, 2)] (fun b : Nat × List Rg => b.1 ≤ l.length ∧ b.2.length ≤ 1 * b.1 ∧ b.2 ++ rcutGo lo hi (l.drop b.1) = rcutGo lo hi l) (fun b : Nat × List Rg => tm 45 [(0, .list 2 (l.map eRg)), (1, .int .i64 lo), (2, .int .i64 hi), (7, .sl 2 0 0 b.2.length), (8, .int .i64 b.1)]) (fun b => [some (2, b.2.map eRg)]) (fun b => l.length - b.1) (0, []) (by simp +contextual -implicitDefEqProofs (maxSteps := 1000000) only [sm, awpOper, awpDo, evP, evBin, evUn, eqInts, fillA, setCells, cutCells, okElems, AV.natOf, natO, maxA, minA, AV.isInt, evSlc, evLoad, setE, evW, AV.cells, AV.okSt, elemsOf, appBase, AV.isSl, resV, tupV, viewN, embB, embT, okR, okC, okL, okEs, ren, renC, renL, renEs, seval]) ⟨by simp, by simp, by simp⟩ ⟨[0], by decide, rfl, ?_, ?_⟩ ?_
    · simp +contextual -implicitDefEqProofs (maxSteps := 1000000) only [sm, awpOper, awpDo, evP, evBin, evUn, eqInts, fillA, setCells, cutCells, okElems, AV.natOf, natO, maxA, minA, AV.isInt, evSlc, evLoad, setE, evW, AV.cells, AV.okSt, elemsOf, appBase, AV.isSl, resV, tupV, viewN, embB, embT, okR, okC, okL, okEs, ren, renC, renL, renEs, seval]
    · simp +contextual -implicitDefEqProofs (maxSteps := 1000000) only [sm, awpOper, awpDo, evP, evBin, evUn, eqInts, fillA, setCells, cutCells, okElems, AV.natOf, natO, maxA, minA, AV.isInt, evSlc, evLoad, setE, evW, AV.cells, AV.okSt, elemsOf, appBase, AV.isSl, resV, tupV, viewN, embB, embT, okR, okC, okL, okEs, ren, renC, renL, renEs, seval, Int.natCast_zero]
    · rintro ⟨k, acc⟩ ⟨hk, hacc, hgo⟩
      simp only at hk hacc hgo
      by_cases hlt : k < l.length
      · obtain ⟨⟨x, y⟩, hx⟩ : ∃ r, l[k]? = some r := ⟨_, List.getElem?_eq_getElem hlt⟩
        have hd := drop_at hx
        have hlt' : (k : Int) < (l.length : Int) := by omega
        have e2 : IntKind.i64.wrap ((k : Int) + 1) = ((k + 1 : Nat) : Int) := by rw [wrap_i64] <;> omega
        by_cases h1 : max lo x ≤ min hi y
        · have c1 : (acc.length + 1) * 16 ≤ 140737488355328 := by omega
          have c2 : acc.length + 1 ≤ maxLen := by unfold maxLen; omega
          simp +contextual -implicitDefEqProofs (maxSteps := 1000000) only [sm, awpOper, awpDo, evP, evBin, evUn, eqInts, fillA, setCells, cutCells, okElems, AV.natOf, natO, maxA, minA, AV.isInt, evSlc, evLoad, setE, evW, AV.cells, AV.okSt, elemsOf, appBase, AV.isSl, resV, tupV, viewN, embB, embT, okR, okC, okL, okEs, ren, renC, renL, renEs, seval, hlt', hx, h1, e2, c1, c2, Nat.le_refl]
          refine ⟨(k + 1, acc ++ [(max lo x, min hi y)]), ⟨by (try dsimp only); omega, by (try dsimp only); simp only [List.length_append, List.length_cons, List.length_nil]; omega, by
            rw [← hgo, hd]; simp [rcutGo, h1]⟩, by (try dsimp only); omega, [2], by decide, rfl, ?_, ?_⟩
          · simp +contextual -implicitDefEqProofs (maxSteps := 1000000) only [sm, awpOper, awpDo, evP, evBin, evUn, eqInts, fillA, setCells, cutCells, okElems, AV.natOf, natO, maxA, minA, AV.isInt, evSlc, evLoad, setE, evW, AV.cells, AV.okSt, elemsOf, appBase, AV.isSl, resV, tupV, viewN, embB, embT, okR, okC, okL, okEs, ren, renC, renL, renEs, seval]
          · simp +contextual -implicitDefEqProofs (maxSteps := 1000000) only [sm, awpOper, awpDo, evP, evBin, evUn, eqInts, fillA, setCells, cutCells, okElems, AV.natOf, natO, maxA, minA, AV.isInt, evSlc, evLoad, setE, evW, AV.cells, AV.okSt, elemsOf, appBase, AV.isSl, resV, tupV, viewN, embB, embT, okR, okC, okL, okEs, ren, renC, renL, renEs, seval]
        · simp +contextual -implicitDefEqProofs (maxSteps := 1000000) only [sm, awpOper, awpDo, evP, evBin, evUn, eqInts, fillA, setCells, cutCells, okElems, AV.natOf, natO, maxA, minA, AV.isInt, evSlc, evLoad, setE, evW, AV.cells, AV.okSt, elemsOf, appBase, AV.isSl, resV, tupV, viewN, embB, embT, okR, okC, okL, okEs, ren, renC, renL, renEs, seval, hlt', hx, h1, e2]
          refine ⟨(k + 1, acc), ⟨by (try dsimp only); omega, by (try dsimp only); omega, by
            rw [← hgo, hd]; simp [rcutGo, h1]⟩, by (try dsimp only); omega, [0], by decide, rfl, ?_, ?_⟩
          · simp +contextual -implicitDefEqProofs (maxSteps := 1000000) only [sm, awpOper, awpDo, evP, evBin, evUn, eqInts, fillA, setCells, cutCells, okElems, AV.natOf, natO, maxA, minA, AV.isInt, evSlc, evLoad, setE, evW, AV.cells, AV.okSt, elemsOf, appBase, AV.isSl, resV, tupV, viewN, embB, embT, okR, okC, okL, okEs, ren, renC, renL, renEs, seval]
          · simp +contextual -implicitDefEqProofs (maxSteps := 1000000) only [sm, awpOper, awpDo, evP, evBin, evUn, eqInts, fillA, setCells, cutCells, okElems, AV.natOf, natO, maxA, minA, AV.isInt, evSlc, evLoad, setE, evW, AV.cells, AV.okSt, elemsOf, appBase, AV.isSl, resV, tupV, viewN, embB, embT, okR, okC, okL, okEs, ren, renC, renL, renEs, seval]
      · have : k = l.length := by omega
        subst this
        have hgo : acc = rcutGo lo hi l := by rw [← hgo, List.drop_length]; simp [rcutGo]
        simp +contextual -implicitDefEqProofs (maxSteps := 1000000) only [sm, awpOper, awpDo, evP, evBin, evUn, eqInts, fillA, setCells, cutCells, okElems, AV.natOf, natO, maxA, minA, AV.isInt, evSlc, evLoad, setE, evW, AV.cells, AV.okSt, elemsOf, appBase, AV.isSl, resV, tupV, viewN, embB, embT, okR, okC, okL, okEs, ren, renC, renL, renEs, seval, Int.lt_irrefl, Nat.le_refl]
        simp [rcutS, hr, hgo]
end Go.Proofs.Ytclpkkbamgmooaa
