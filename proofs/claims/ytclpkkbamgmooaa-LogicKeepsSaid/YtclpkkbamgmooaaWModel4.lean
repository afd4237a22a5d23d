/- What the functions of package model compute: Right. -/
import Derived.Test.YtclpkkbamgmooaaWModel3
namespace Go.Proofs.Ytclpkkbamgmooaa
open Av
attribute [local irreducible] awp awpOpers
set_option linter.unusedSimpArgs false
set_option linter.unusedVariables false
set_option maxRecDepth 100000
set_option maxHeartbeats 4000000
def askB (n : Nat) (ask goal : Int) : Bool := if ask = 0 then decide (goal = 0) else if ask = 1 ∨ ask = 2 then decide (0 ≤ goal) && decide (goal < n) else false
def modB (m : Mod) : Bool := decide (m.1.length ≤ 64) && decide (m.2.1.length ≤ 64) && m.1.all domB && m.2.1.all (mayB m.1) && askB m.1.length m.2.2.1 m.2.2.2
def conFits (c : Con) : Prop := c.2.1.length ≤ 1000000000000 ∧ c.2.2.1.length ≤ 1000000000000
theorem model_Right (m : Mod) (hD : m.1.length ≤ 1000000000000) (hd : ∀ d ∈ m.1, d.length ≤ 1000000000000) (hc : m.2.1.length ≤ 1000000000000) (hcs : ∀ c ∈ m.2.1, conFits c) :
    Ctr Try.prog 34 [eMod m] [] (.bool (modB m)) [] := by
  obtain ⟨D, cs, ask, goal⟩ := m
  simp only at hD hd hc hcs
  refine call_pure Try.func34 Try.call34 e_model_Right ?_
  by_cases h64 : D.length ≤ 64
  · have h64' : ¬ (64 : Int) < D.length := by omega
    by_cases g64 : cs.length ≤ 64
    · have g64' : ¬ (64 : Int) < cs.length := by omega
      simp +contextual -implicitDefEqProofs (maxSteps := 1000000) only [c_model_Right, eMod, eDoms, eCons, sm, awpOper, awpDo, evP, evBin, evUn, eqInts, fillA, setCells, cutCells, okElems, AV.natOf, natO, maxA, minA, AV.isInt, evSlc, evLoad, setE, evW, AV.cells, AV.okSt, elemsOf, appBase, AV.isSl, resV, tupV, viewN, embB, embT, okR, okC, okL, okEs, ren, renC, renL, renEs, seval, h64', g64']
      refine loop_rule (fun k : Nat => k ≤ D.length ∧ ∀ (j : Nat) x, j < k → D[j]? = some x → domB x = true) (fun k => tm 61 [(1, .ptr 4 0 0 0), (18, .list 1 (D.map eRgs)), (19, .int .i64 D.length), (20, .int .i64 k)])
          (fun _ => [some (4, [eMod (D, cs, ask, goal)])]) (fun k => D.length - k) 0 ⟨by omega, by omega⟩ ⟨[0], by decide, rfl, ?_, ?_⟩ ?_
      · simp +contextual -implicitDefEqProofs (maxSteps := 1000000) only [sm, awpOper, awpDo, evP, evBin, evUn, eqInts, fillA, setCells, cutCells, okElems, AV.natOf, natO, maxA, minA, AV.isInt, evSlc, evLoad, setE, evW, AV.cells, AV.okSt, elemsOf, appBase, AV.isSl, resV, tupV, viewN, embB, embT, okR, okC, okL, okEs, ren, renC, renL, renEs, seval, eMod, eDoms, eCons]
      · simp +contextual -implicitDefEqProofs (maxSteps := 1000000) only [sm, awpOper, awpDo, evP, evBin, evUn, eqInts, fillA, setCells, cutCells, okElems, AV.natOf, natO, maxA, minA, AV.isInt, evSlc, evLoad, setE, evW, AV.cells, AV.okSt, elemsOf, appBase, AV.isSl, resV, tupV, viewN, embB, embT, okR, okC, okL, okEs, ren, renC, renL, renEs, seval, Int.natCast_zero]
      · rintro k ⟨hk, hok⟩
        by_cases hlt : k < D.length
        · obtain ⟨x, hx⟩ : ∃ r, D[k]? = some r := ⟨_, List.getElem?_eq_getElem hlt⟩
          have hlt' : (k : Int) < (D.length : Int) := by omega
          have e2 : IntKind.i64.wrap ((k : Int) + 1) = ((k + 1 : Nat) : Int) := by rw [wrap_i64] <;> omega
          simp +contextual -implicitDefEqProofs (maxSteps := 1000000) only [sm, awpOper, awpDo, evP, evBin, evUn, eqInts, fillA, setCells, cutCells, okElems, AV.natOf, natO, maxA, minA, AV.isInt, evSlc, evLoad, setE, evW, AV.cells, AV.okSt, elemsOf, appBase, AV.isSl, resV, tupV, viewN, embB, embT, okR, okC, okL, okEs, ren, renC, renL, renEs, seval, hlt', hx]
          refine callA_rule (model_domain x (hd x (List.mem_of_getElem? hx))) (wkL_refl _) rfl ?_
          cases ht : domB x
          · simp +contextual -implicitDefEqProofs (maxSteps := 1000000) only [sm, awpOper, awpDo, evP, evBin, evUn, eqInts, fillA, setCells, cutCells, okElems, AV.natOf, natO, maxA, minA, AV.isInt, evSlc, evLoad, setE, evW, AV.cells, AV.okSt, elemsOf, appBase, AV.isSl, resV, tupV, viewN, embB, embT, okR, okC, okL, okEs, ren, renC, renL, renEs, seval]
            simp [modB, listall_no hx ht]
          · simp +contextual -implicitDefEqProofs (maxSteps := 1000000) only [sm, awpOper, awpDo, evP, evBin, evUn, eqInts, fillA, setCells, cutCells, okElems, AV.natOf, natO, maxA, minA, AV.isInt, evSlc, evLoad, setE, evW, AV.cells, AV.okSt, elemsOf, appBase, AV.isSl, resV, tupV, viewN, embB, embT, okR, okC, okL, okEs, ren, renC, renL, renEs, seval, e2]
            refine ⟨k + 1, ⟨by omega, ?_⟩, by omega, [0], by decide, rfl, ?_, ?_⟩
            · intro j y hj hy
              rcases Nat.lt_succ_iff_lt_or_eq.1 hj with h | rfl
              · exact hok j y h hy
              · rw [hx] at hy; injection hy with hy; subst hy; exact ht
            · simp +contextual -implicitDefEqProofs (maxSteps := 1000000) only [sm, awpOper, awpDo, evP, evBin, evUn, eqInts, fillA, setCells, cutCells, okElems, AV.natOf, natO, maxA, minA, AV.isInt, evSlc, evLoad, setE, evW, AV.cells, AV.okSt, elemsOf, appBase, AV.isSl, resV, tupV, viewN, embB, embT, okR, okC, okL, okEs, ren, renC, renL, renEs, seval, eMod, eDoms, eCons]
            · simp +contextual -implicitDefEqProofs (maxSteps := 1000000) only [sm, awpOper, awpDo, evP, evBin, evUn, eqInts, fillA, setCells, cutCells, okElems, AV.natOf, natO, maxA, minA, AV.isInt, evSlc, evLoad, setE, evW, AV.cells, AV.okSt, elemsOf, appBase, AV.isSl, resV, tupV, viewN, embB, embT, okR, okC, okL, okEs, ren, renC, renL, renEs, seval]
        · have : k = D.length := by omega
          subst this
          have hdom := listall_yes hok
          simp +contextual -implicitDefEqProofs (maxSteps := 1000000) only [sm, awpOper, awpDo, evP, evBin, evUn, eqInts, fillA, setCells, cutCells, okElems, AV.natOf, natO, maxA, minA, AV.isInt, evSlc, evLoad, setE, evW, AV.cells, AV.okSt, elemsOf, appBase, AV.isSl, resV, tupV, viewN, embB, embT, okR, okC, okL, okEs, ren, renC, renL, renEs, seval, Int.lt_irrefl, eMod, eCons]
          refine loop_rule (fun k : Nat => k ≤ cs.length ∧ ∀ (j : Nat) x, j < k → cs[j]? = some x → mayB D x = true) (fun k => tm 61 [(1, .ptr 4 0 0 0), (29, .list 4 (cs.map eCon)), (30, .int .i64 cs.length), (31, .int .i64 k)])
            (fun _ => [some (4, [eMod (D, cs, ask, goal)])]) (fun k => cs.length - k) 0 ⟨by omega, by omega⟩ ⟨[0], by decide, rfl, ?_, ?_⟩ ?_
          · simp +contextual -implicitDefEqProofs (maxSteps := 1000000) only [sm, awpOper, awpDo, evP, evBin, evUn, eqInts, fillA, setCells, cutCells, okElems, AV.natOf, natO, maxA, minA, AV.isInt, evSlc, evLoad, setE, evW, AV.cells, AV.okSt, elemsOf, appBase, AV.isSl, resV, tupV, viewN, embB, embT, okR, okC, okL, okEs, ren, renC, renL, renEs, seval, eMod, eDoms, eCons]
          · simp +contextual -implicitDefEqProofs (maxSteps := 1000000) only [sm, awpOper, awpDo, evP, evBin, evUn, eqInts, fillA, setCells, cutCells, okElems, AV.natOf, natO, maxA, minA, AV.isInt, evSlc, evLoad, setE, evW, AV.cells, AV.okSt, elemsOf, appBase, AV.isSl, resV, tupV, viewN, embB, embT, okR, okC, okL, okEs, ren, renC, renL, renEs, seval, Int.natCast_zero]
          · rintro k ⟨hk, hok⟩
            by_cases hlt : k < cs.length
            · obtain ⟨⟨K, X, A, C⟩, hx⟩ : ∃ r, cs[k]? = some r := ⟨_, List.getElem?_eq_getElem hlt⟩
              have hlt' : (k : Int) < (cs.length : Int) := by omega
              have e2 : IntKind.i64.wrap ((k : Int) + 1) = ((k + 1 : Nat) : Int) := by rw [wrap_i64] <;> omega
              have hf := hcs _ (List.mem_of_getElem? hx)
              simp +contextual -implicitDefEqProofs (maxSteps := 1000000) only [sm, awpOper, awpDo, evP, evBin, evUn, eqInts, fillA, setCells, cutCells, okElems, AV.natOf, natO, maxA, minA, AV.isInt, evSlc, evLoad, setE, evW, AV.cells, AV.okSt, elemsOf, appBase, AV.isSl, resV, tupV, viewN, embB, embT, okR, okC, okL, okEs, ren, renC, renL, renEs, seval, hlt', hx, eMod]
              refine callA_rule (model_may (D, cs, ask, goal) (K, X, A, C) hD hd hf.1 hf.2) (wkL_refl _) rfl ?_
              cases ht : mayB D (K, X, A, C)
              · simp +contextual -implicitDefEqProofs (maxSteps := 1000000) only [sm, awpOper, awpDo, evP, evBin, evUn, eqInts, fillA, setCells, cutCells, okElems, AV.natOf, natO, maxA, minA, AV.isInt, evSlc, evLoad, setE, evW, AV.cells, AV.okSt, elemsOf, appBase, AV.isSl, resV, tupV, viewN, embB, embT, okR, okC, okL, okEs, ren, renC, renL, renEs, seval]
                simp [modB, listall_no hx ht]
              · simp +contextual -implicitDefEqProofs (maxSteps := 1000000) only [sm, awpOper, awpDo, evP, evBin, evUn, eqInts, fillA, setCells, cutCells, okElems, AV.natOf, natO, maxA, minA, AV.isInt, evSlc, evLoad, setE, evW, AV.cells, AV.okSt, elemsOf, appBase, AV.isSl, resV, tupV, viewN, embB, embT, okR, okC, okL, okEs, ren, renC, renL, renEs, seval, e2]
                refine ⟨k + 1, ⟨by omega, ?_⟩, by omega, [0], by decide, rfl, ?_, ?_⟩
                · intro j y hj hy
                  rcases Nat.lt_succ_iff_lt_or_eq.1 hj with h | rfl
                  · exact hok j y h hy
                  · rw [hx] at hy; injection hy with hy; subst hy; exact ht
                · simp +contextual -implicitDefEqProofs (maxSteps := 1000000) only [sm, awpOper, awpDo, evP, evBin, evUn, eqInts, fillA, setCells, cutCells, okElems, AV.natOf, natO, maxA, minA, AV.isInt, evSlc, evLoad, setE, evW, AV.cells, AV.okSt, elemsOf, appBase, AV.isSl, resV, tupV, viewN, embB, embT, okR, okC, okL, okEs, ren, renC, renL, renEs, seval, eMod, eDoms, eCons]
                · simp +contextual -implicitDefEqProofs (maxSteps := 1000000) only [sm, awpOper, awpDo, evP, evBin, evUn, eqInts, fillA, setCells, cutCells, okElems, AV.natOf, natO, maxA, minA, AV.isInt, evSlc, evLoad, setE, evW, AV.cells, AV.okSt, elemsOf, appBase, AV.isSl, resV, tupV, viewN, embB, embT, okR, okC, okL, okEs, ren, renC, renL, renEs, seval]
            · have : k = cs.length := by omega
              subst this
              have hmay := listall_yes hok
              by_cases a0 : ask = 0
              · simp +contextual -implicitDefEqProofs (maxSteps := 1000000) only [sm, awpOper, awpDo, evP, evBin, evUn, eqInts, fillA, setCells, cutCells, okElems, AV.natOf, natO, maxA, minA, AV.isInt, evSlc, evLoad, setE, evW, AV.cells, AV.okSt, elemsOf, appBase, AV.isSl, resV, tupV, viewN, embB, embT, okR, okC, okL, okEs, ren, renC, renL, renEs, seval, Int.lt_irrefl, eMod, a0]
                simp [modB, askB, hdom, hmay, h64, g64]
              by_cases a1 : ask = 1
              · simp +contextual -implicitDefEqProofs (maxSteps := 1000000) only [sm, awpOper, awpDo, evP, evBin, evUn, eqInts, fillA, setCells, cutCells, okElems, AV.natOf, natO, maxA, minA, AV.isInt, evSlc, evLoad, setE, evW, AV.cells, AV.okSt, elemsOf, appBase, AV.isSl, resV, tupV, viewN, embB, embT, okR, okC, okL, okEs, ren, renC, renL, renEs, seval, Int.lt_irrefl, eMod, a0, a1, eDoms]
                simp [modB, askB, hdom, hmay, h64, g64]
                split <;> (intros; omega)
              by_cases a2 : ask = 2
              · simp +contextual -implicitDefEqProofs (maxSteps := 1000000) only [sm, awpOper, awpDo, evP, evBin, evUn, eqInts, fillA, setCells, cutCells, okElems, AV.natOf, natO, maxA, minA, AV.isInt, evSlc, evLoad, setE, evW, AV.cells, AV.okSt, elemsOf, appBase, AV.isSl, resV, tupV, viewN, embB, embT, okR, okC, okL, okEs, ren, renC, renL, renEs, seval, Int.lt_irrefl, eMod, a0, a1, a2, eDoms]
                simp [modB, askB, hdom, hmay, h64, g64]
                split <;> (intros; omega)
              simp +contextual -implicitDefEqProofs (maxSteps := 1000000) only [sm, awpOper, awpDo, evP, evBin, evUn, eqInts, fillA, setCells, cutCells, okElems, AV.natOf, natO, maxA, minA, AV.isInt, evSlc, evLoad, setE, evW, AV.cells, AV.okSt, elemsOf, appBase, AV.isSl, resV, tupV, viewN, embB, embT, okR, okC, okL, okEs, ren, renC, renL, renEs, seval, Int.lt_irrefl, eMod, a0, a1, a2]
              simp [modB, askB, a0, a1, a2]
    · have g64' : (64 : Int) < cs.length := by omega
      simp +contextual -implicitDefEqProofs (maxSteps := 1000000) only [c_model_Right, eMod, eDoms, eCons, sm, awpOper, awpDo, evP, evBin, evUn, eqInts, fillA, setCells, cutCells, okElems, AV.natOf, natO, maxA, minA, AV.isInt, evSlc, evLoad, setE, evW, AV.cells, AV.okSt, elemsOf, appBase, AV.isSl, resV, tupV, viewN, embB, embT, okR, okC, okL, okEs, ren, renC, renL, renEs, seval, h64', g64']
      simp [modB, g64]
  · have h64' : (64 : Int) < D.length := by omega
    simp +contextual -implicitDefEqProofs (maxSteps := 1000000) only [c_model_Right, eMod, eDoms, eCons, sm, awpOper, awpDo, evP, evBin, evUn, eqInts, fillA, setCells, cutCells, okElems, AV.natOf, natO, maxA, minA, AV.isInt, evSlc, evLoad, setE, evW, AV.cells, AV.okSt, elemsOf, appBase, AV.isSl, resV, tupV, viewN, embB, embT, okR, okC, okL, okEs, ren, renC, renL, renEs, seval, h64']
    simp [modB, h64]
end Go.Proofs.Ytclpkkbamgmooaa
