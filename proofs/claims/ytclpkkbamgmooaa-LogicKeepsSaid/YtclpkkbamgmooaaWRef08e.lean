/- What the functions of package touchstoneref08 compute: Right. -/
import Derived.Test.YtclpkkbamgmooaaWRef08d
namespace Go.Proofs.Ytclpkkbamgmooaa
open Av
attribute [local irreducible] awp awpOpers
set_option linter.unusedSimpArgs false
set_option linter.unusedVariables false
set_option maxRecDepth 100000
set_option maxHeartbeats 4000000
theorem ref08_Right (m : Mod) (hD : m.1.length ≤ 1000000000000) (hd : ∀ d ∈ m.1, d.length ≤ 1000000000000) (hc : m.2.1.length ≤ 1000000000000) (hcs : ∀ c ∈ m.2.1, conFits c) :
    Ctr Try.prog 61 [eMod m] [] (.bool (modB m)) [] := by
  obtain ⟨D, cs, ask, goal⟩ := m
  simp only at hD hd hc hcs
  refine call_pure Try.func61 Try.call61 e_ref08_Right ?_
  by_cases h64 : D.length ≤ 64
  · have h64' : ¬ (64 : Int) < D.length := by omega
    by_cases g64 : cs.length ≤ 64
    · have g64' : ¬ (64 : Int) < cs.length := by omega
      simp +contextual -implicitDefEqProofs (maxSteps := 1000000) only [c_ref08_Right, eMod, eDoms, eCons, sm, awpOper, awpDo, evP, evBin, evUn, eqInts, fillA, setCells, cutCells, okElems, AV.natOf, natO, maxA, minA, AV.isInt, evSlc, evLoad, setE, evW, AV.cells, AV.okSt, elemsOf, appBase, AV.isSl, resV, tupV, viewN, embB, embT, okR, okC, okL, okEs, ren, renC, renL, renEs, seval, h64', g64']
      refine loop_rule (fun k : Nat => k ≤ D.length ∧ ∀ (j : Nat) x, j < k → D[j]? = some x → domB x = true) (fun k => tm 71 [(1, .ptr 4 0 0 0), (3, .int .i64 k)]) (fun _ => [some (4, [eMod (D, cs, ask, goal)])]) (fun k => D.length - k) 0 ⟨by omega, by omega⟩ ⟨[0], by decide, rfl, ?_, ?_⟩ ?_
      · simp +contextual -implicitDefEqProofs (maxSteps := 1000000) only [sm, awpOper, awpDo, evP, evBin, evUn, eqInts, fillA, setCells, cutCells, okElems, AV.natOf, natO, maxA, minA, AV.isInt, evSlc, evLoad, setE, evW, AV.cells, AV.okSt, elemsOf, appBase, AV.isSl, resV, tupV, viewN, embB, embT, okR, okC, okL, okEs, ren, renC, renL, renEs, seval, eMod, eDoms, eCons]
      · simp +contextual -implicitDefEqProofs (maxSteps := 1000000) only [sm, awpOper, awpDo, evP, evBin, evUn, eqInts, fillA, setCells, cutCells, okElems, AV.natOf, natO, maxA, minA, AV.isInt, evSlc, evLoad, setE, evW, AV.cells, AV.okSt, elemsOf, appBase, AV.isSl, resV, tupV, viewN, embB, embT, okR, okC, okL, okEs, ren, renC, renL, renEs, seval, Int.natCast_zero, eMod, eDoms, eCons]
      · rintro k ⟨hk, hok⟩
        by_cases hlt : k < D.length
        · obtain ⟨x, hx⟩ : ∃ r, D[k]? = some r := ⟨_, List.getElem?_eq_getElem hlt⟩
          have hlt' : (k : Int) < (D.length : Int) := by omega
          have e2 : IntKind.i64.wrap ((k : Int) + 1) = ((k + 1 : Nat) : Int) := by rw [wrap_i64] <;> omega
          simp +contextual -implicitDefEqProofs (maxSteps := 1000000) only [sm, awpOper, awpDo, evP, evBin, evUn, eqInts, fillA, setCells, cutCells, okElems, AV.natOf, natO, maxA, minA, AV.isInt, evSlc, evLoad, setE, evW, AV.cells, AV.okSt, elemsOf, appBase, AV.isSl, resV, tupV, viewN, embB, embT, okR, okC, okL, okEs, ren, renC, renL, renEs, seval, hlt', hx, eMod, eDoms]
          refine callA_rule (ref08_Dom x (hd x (List.mem_of_getElem? hx))) (wkL_refl _) rfl ?_
          cases ht : domB x
          · simp +contextual -implicitDefEqProofs (maxSteps := 1000000) only [sm, awpOper, awpDo, evP, evBin, evUn, eqInts, fillA, setCells, cutCells, okElems, AV.natOf, natO, maxA, minA, AV.isInt, evSlc, evLoad, setE, evW, AV.cells, AV.okSt, elemsOf, appBase, AV.isSl, resV, tupV, viewN, embB, embT, okR, okC, okL, okEs, ren, renC, renL, renEs, seval]
            simp [modB, listall_no hx ht]
          · simp +contextual -implicitDefEqProofs (maxSteps := 1000000) only [sm, awpOper, awpDo, evP, evBin, evUn, eqInts, fillA, setCells, cutCells, okElems, AV.natOf, natO, maxA, minA, AV.isInt, evSlc, evLoad, setE, evW, AV.cells, AV.okSt, elemsOf, appBase, AV.isSl, resV, tupV, viewN, embB, embT, okR, okC, okL, okEs, ren, renC, renL, renEs, seval, e2]
            refine ⟨k + 1, ⟨by omega, ?_⟩, by omega, [0], by decide, rfl, ?_, ?_⟩
            · intro j y hj hy
              rcases Nat.lt_succ_iff_lt_or_eq.1 hj with h | rfl
              · exact hok j y h hy
              · rw [hx] at hy; injection hy with hy; subst hy; exact ht
            · simp +contextual -implicitDefEqProofs (maxSteps := 1000000) only [sm, awpOper, awpDo, evP, evBin, evUn, eqInts, fillA, setCells, cutCells, okElems, AV.natOf, natO, maxA, minA, AV.isInt, evSlc, evLoad, setE, evW, AV.cells, AV.okSt, elemsOf, appBase, AV.isSl, resV, tupV, viewN, embB, embT, okR, okC, okL, okEs, ren, renC, renL, renEs, seval, eMod, eDoms, eCons]
            · simp +contextual -implicitDefEqProofs (maxSteps := 1000000) only [sm, awpOper, awpDo, evP, evBin, evUn, eqInts, fillA, setCells, cutCells, okElems, AV.natOf, natO, maxA, minA, AV.isInt, evSlc, evLoad, setE, evW, AV.cells, AV.okSt, elemsOf, appBase, AV.isSl, resV, tupV, viewN, embB, embT, okR, okC, okL, okEs, ren, renC, renL, renEs, seval, eMod, eDoms, eCons]
        · have : k = D.length := by omega
          subst this
          have hall := listall_yes hok
          have hdom := hall
          clear hall hok
          simp +contextual -implicitDefEqProofs (maxSteps := 1000000) only [sm, awpOper, awpDo, evP, evBin, evUn, eqInts, fillA, setCells, cutCells, okElems, AV.natOf, natO, maxA, minA, AV.isInt, evSlc, evLoad, setE, evW, AV.cells, AV.okSt, elemsOf, appBase, AV.isSl, resV, tupV, viewN, embB, embT, okR, okC, okL, okEs, ren, renC, renL, renEs, seval, Int.lt_irrefl, eMod, eDoms]
          refine loop_rule (fun k : Nat => k ≤ cs.length ∧ ∀ (j : Nat) x, j < k → cs[j]? = some x → (mayB D) x = true) (fun k => tm 71 [(1, .ptr 4 0 0 0), (4, .int .i64 k)]) (fun _ => [some (4, [eMod (D, cs, ask, goal)])]) (fun k => cs.length - k) 0 ⟨by omega, by omega⟩ ⟨[0], by decide, rfl, ?_, ?_⟩ ?_
          · simp +contextual -implicitDefEqProofs (maxSteps := 1000000) only [sm, awpOper, awpDo, evP, evBin, evUn, eqInts, fillA, setCells, cutCells, okElems, AV.natOf, natO, maxA, minA, AV.isInt, evSlc, evLoad, setE, evW, AV.cells, AV.okSt, elemsOf, appBase, AV.isSl, resV, tupV, viewN, embB, embT, okR, okC, okL, okEs, ren, renC, renL, renEs, seval, eMod, eDoms, eCons]
          · simp +contextual -implicitDefEqProofs (maxSteps := 1000000) only [sm, awpOper, awpDo, evP, evBin, evUn, eqInts, fillA, setCells, cutCells, okElems, AV.natOf, natO, maxA, minA, AV.isInt, evSlc, evLoad, setE, evW, AV.cells, AV.okSt, elemsOf, appBase, AV.isSl, resV, tupV, viewN, embB, embT, okR, okC, okL, okEs, ren, renC, renL, renEs, seval, Int.natCast_zero, eMod, eDoms, eCons]
          · rintro k ⟨hk, hok⟩
            by_cases hlt : k < cs.length
            · obtain ⟨x, hx⟩ : ∃ r, cs[k]? = some r := ⟨_, List.getElem?_eq_getElem hlt⟩
              have hlt' : (k : Int) < (cs.length : Int) := by omega
              have e2 : IntKind.i64.wrap ((k : Int) + 1) = ((k + 1 : Nat) : Int) := by rw [wrap_i64] <;> omega
              obtain ⟨K, X, A, C⟩ := x
              have hf := hcs _ (List.mem_of_getElem? hx)
              simp +contextual -implicitDefEqProofs (maxSteps := 1000000) only [sm, awpOper, awpDo, evP, evBin, evUn, eqInts, fillA, setCells, cutCells, okElems, AV.natOf, natO, maxA, minA, AV.isInt, evSlc, evLoad, setE, evW, AV.cells, AV.okSt, elemsOf, appBase, AV.isSl, resV, tupV, viewN, embB, embT, okR, okC, okL, okEs, ren, renC, renL, renEs, seval, hlt', hx, eMod, eCons]
              refine callA_rule (ref08_Con (D, cs, ask, goal) (K, X, A, C) hD hd hf.1 hf.2) (wkL_refl _) rfl ?_
              cases ht : mayB D (K, X, A, C)
              · simp +contextual -implicitDefEqProofs (maxSteps := 1000000) only [sm, awpOper, awpDo, evP, evBin, evUn, eqInts, fillA, setCells, cutCells, okElems, AV.natOf, natO, maxA, minA, AV.isInt, evSlc, evLoad, setE, evW, AV.cells, AV.okSt, elemsOf, appBase, AV.isSl, resV, tupV, viewN, embB, embT, okR, okC, okL, okEs, ren, renC, renL, renEs, seval]
                simp [modB, listall_no hx ht]
              · simp +contextual -implicitDefEqProofs (maxSteps := 1000000) only [sm, awpOper, awpDo, evP, evBin, evUn, eqInts, fillA, setCells, cutCells, okElems, AV.natOf, natO, maxA, minA, AV.isInt, evSlc, evLoad, setE, evW, AV.cells, AV.okSt, elemsOf, appBase, AV.isSl, resV, tupV, viewN, embB, embT, okR, okC, okL, okEs, ren, renC, renL, renEs, seval, e2]
                refine ⟨k + 1, ⟨by omega, ?_⟩, by omega, [0], by decide, rfl, ?_, ?_⟩
                · intro j y hj hy
                  rcases Nat.lt_succ_iff_lt_or_eq.1 hj with h | rfl
                  · exact hok j y h hy
                  · rw [hx] at hy; injection hy with hy; subst hy; exact ht
                · simp +contextual -implicitDefEqProofs (maxSteps := 1000000) only [sm, awpOper, awpDo, evP, evBin, evUn, eqInts, fillA, setCells, cutCells, okElems, AV.natOf, natO, maxA, minA, AV.isInt, evSlc, evLoad, setE, evW, AV.cells, AV.okSt, elemsOf, appBase, AV.isSl, resV, tupV, viewN, embB, embT, okR, okC, okL, okEs, ren, renC, renL, renEs, seval, eMod, eDoms, eCons]
                · simp +contextual -implicitDefEqProofs (maxSteps := 1000000) only [sm, awpOper, awpDo, evP, evBin, evUn, eqInts, fillA, setCells, cutCells, okElems, AV.natOf, natO, maxA, minA, AV.isInt, evSlc, evLoad, setE, evW, AV.cells, AV.okSt, elemsOf, appBase, AV.isSl, resV, tupV, viewN, embB, embT, okR, okC, okL, okEs, ren, renC, renL, renEs, seval, eMod, eDoms, eCons]
            · have : k = cs.length := by omega
              subst this
              have hall := listall_yes hok
              have hmay := hall
              by_cases a0 : ask = 0
              · simp +contextual -implicitDefEqProofs (maxSteps := 1000000) only [sm, awpOper, awpDo, evP, evBin, evUn, eqInts, fillA, setCells, cutCells, okElems, AV.natOf, natO, maxA, minA, AV.isInt, evSlc, evLoad, setE, evW, AV.cells, AV.okSt, elemsOf, appBase, AV.isSl, resV, tupV, viewN, embB, embT, okR, okC, okL, okEs, ren, renC, renL, renEs, seval, Int.lt_irrefl, eMod, eCons, a0]
                simp [modB, askB, hdom, hmay, h64, g64]
              by_cases a1 : ask = 1
              · simp +contextual -implicitDefEqProofs (maxSteps := 1000000) only [sm, awpOper, awpDo, evP, evBin, evUn, eqInts, fillA, setCells, cutCells, okElems, AV.natOf, natO, maxA, minA, AV.isInt, evSlc, evLoad, setE, evW, AV.cells, AV.okSt, elemsOf, appBase, AV.isSl, resV, tupV, viewN, embB, embT, okR, okC, okL, okEs, ren, renC, renL, renEs, seval, Int.lt_irrefl, eMod, eCons, a0, a1, eDoms]
                simp [modB, askB, hdom, hmay, h64, g64]
                repeat' split
                all_goals (try simp_all)
                all_goals (try (intros; omega))
              by_cases a2 : ask = 2
              · simp +contextual -implicitDefEqProofs (maxSteps := 1000000) only [sm, awpOper, awpDo, evP, evBin, evUn, eqInts, fillA, setCells, cutCells, okElems, AV.natOf, natO, maxA, minA, AV.isInt, evSlc, evLoad, setE, evW, AV.cells, AV.okSt, elemsOf, appBase, AV.isSl, resV, tupV, viewN, embB, embT, okR, okC, okL, okEs, ren, renC, renL, renEs, seval, Int.lt_irrefl, eMod, eCons, a0, a1, a2, eDoms]
                simp [modB, askB, hdom, hmay, h64, g64]
                repeat' split
                all_goals (try simp_all)
                all_goals (try (intros; omega))
              simp +contextual -implicitDefEqProofs (maxSteps := 1000000) only [sm, awpOper, awpDo, evP, evBin, evUn, eqInts, fillA, setCells, cutCells, okElems, AV.natOf, natO, maxA, minA, AV.isInt, evSlc, evLoad, setE, evW, AV.cells, AV.okSt, elemsOf, appBase, AV.isSl, resV, tupV, viewN, embB, embT, okR, okC, okL, okEs, ren, renC, renL, renEs, seval, Int.lt_irrefl, eMod, eCons, a0, a1, a2]
              simp [modB, askB, a0, a1, a2]
    · have g64' : (64 : Int) < cs.length := by omega
      simp +contextual -implicitDefEqProofs (maxSteps := 1000000) only [c_ref08_Right, eMod, eDoms, eCons, sm, awpOper, awpDo, evP, evBin, evUn, eqInts, fillA, setCells, cutCells, okElems, AV.natOf, natO, maxA, minA, AV.isInt, evSlc, evLoad, setE, evW, AV.cells, AV.okSt, elemsOf, appBase, AV.isSl, resV, tupV, viewN, embB, embT, okR, okC, okL, okEs, ren, renC, renL, renEs, seval, h64', g64']
      simp [modB, g64]
  · have h64' : (64 : Int) < D.length := by omega
    simp +contextual -implicitDefEqProofs (maxSteps := 1000000) only [c_ref08_Right, eMod, eDoms, eCons, sm, awpOper, awpDo, evP, evBin, evUn, eqInts, fillA, setCells, cutCells, okElems, AV.natOf, natO, maxA, minA, AV.isInt, evSlc, evLoad, setE, evW, AV.cells, AV.okSt, elemsOf, appBase, AV.isSl, resV, tupV, viewN, embB, embT, okR, okC, okL, okEs, ren, renC, renL, renEs, seval, h64']
    simp [modB, h64]
end Go.Proofs.Ytclpkkbamgmooaa
