/- What the functions of package touchstoneref08 compute: Con. -/
import Derived.Test.YtclpkkbamgmooaaWRef08c
namespace Go.Proofs.Ytclpkkbamgmooaa
open Av
attribute [local irreducible] awp awpOpers
set_option linter.unusedSimpArgs false
set_option linter.unusedVariables false
set_option maxRecDepth 100000
set_option maxHeartbeats 4000000
theorem named_has {K : Int} (h : kindB K = true) : namedB K = (shp K).2.2.2.1 := by
  simp only [kindB, Bool.and_eq_true, decide_eq_true_eq] at h
  have : K = 1 ∨ K = 2 ∨ K = 3 ∨ K = 4 ∨ K = 5 ∨ K = 6 ∨ K = 7 ∨ K = 8 ∨ K = 9 ∨ K = 10 ∨ K = 11 ∨ K = 12 ∨ K = 13 ∨ K = 14 ∨ K = 15 ∨ K = 16 ∨ K = 17 ∨ K = 18 ∨ K = 19 := by omega
  rcases this with rfl | rfl | rfl | rfl | rfl | rfl | rfl | rfl | rfl | rfl | rfl | rfl | rfl | rfl | rfl | rfl | rfl | rfl | rfl <;> decide
theorem ref08_Con (m : Mod) (c : Con) (hD : m.1.length ≤ 1000000000000) (hd : ∀ d ∈ m.1, d.length ≤ 1000000000000) (hX : c.2.1.length ≤ 1000000000000) (hA : c.2.2.1.length ≤ 1000000000000) :
    Ctr Try.prog 92 [eMod m, eCon c] [] (.bool (mayB m.1 c)) [] := by
  obtain ⟨D, cs, ask, goal⟩ := m
  obtain ⟨K, X, A, C⟩ := c
  simp only at hX hA hD hd
  refine call_pure Try.func92 Try.call92 e_ref08_Con ?_
  simp +contextual -implicitDefEqProofs (maxSteps := 1000000) only [c_ref08_Con, eCon, eMod, sm, awpOper, awpDo, evP, evBin, evUn, eqInts, fillA, setCells, cutCells, okElems, AV.natOf, natO, maxA, minA, AV.isInt, evSlc, evLoad, setE, evW, AV.cells, AV.okSt, elemsOf, appBase, AV.isSl, resV, tupV, viewN, embB, embT, okR, okC, okL, okEs, ren, renC, renL, renEs, seval]
  refine callA_rule (ref08_shape (K, X, A, C) hX hA) (wkL_refl _) rfl ?_
  cases hf : formedB (K, X, A, C)
  · simp +contextual -implicitDefEqProofs (maxSteps := 1000000) only [sm, awpOper, awpDo, evP, evBin, evUn, eqInts, fillA, setCells, cutCells, okElems, AV.natOf, natO, maxA, minA, AV.isInt, evSlc, evLoad, setE, evW, AV.cells, AV.okSt, elemsOf, appBase, AV.isSl, resV, tupV, viewN, embB, embT, okR, okC, okL, okEs, ren, renC, renL, renEs, seval]
    simp [mayB, hf]
  have hkind : kindB K = true := by
    simp only [formedB, Bool.and_eq_true] at hf
    exact hf.1.1
  by_cases h32 : X.length ≤ 32
  · have h32' : ¬ (32 : Int) < X.length := by omega
    simp +contextual -implicitDefEqProofs (maxSteps := 1000000) only [sm, awpOper, awpDo, evP, evBin, evUn, eqInts, fillA, setCells, cutCells, okElems, AV.natOf, natO, maxA, minA, AV.isInt, evSlc, evLoad, setE, evW, AV.cells, AV.okSt, elemsOf, appBase, AV.isSl, resV, tupV, viewN, embB, embT, okR, okC, okL, okEs, ren, renC, renL, renEs, seval, eIs, h32']
    refine callA_rule (ref08_Within _) (wkL_refl _) rfl ?_
    cases hw : withinB C
    · simp +contextual -implicitDefEqProofs (maxSteps := 1000000) only [sm, awpOper, awpDo, evP, evBin, evUn, eqInts, fillA, setCells, cutCells, okElems, AV.natOf, natO, maxA, minA, AV.isInt, evSlc, evLoad, setE, evW, AV.cells, AV.okSt, elemsOf, appBase, AV.isSl, resV, tupV, viewN, embB, embT, okR, okC, okL, okEs, ren, renC, renL, renEs, seval]
      simp [mayB, hw]
    by_cases h0 : C = 0
    · have h0' : (C = 0) = True := eq_true h0
      have hC : (decide (C = 0) || (shp K).2.2.2.1) = true := by simp [h0]
      simp +contextual -implicitDefEqProofs (maxSteps := 1000000) only [sm, awpOper, awpDo, evP, evBin, evUn, eqInts, fillA, setCells, cutCells, okElems, AV.natOf, natO, maxA, minA, AV.isInt, evSlc, evLoad, setE, evW, AV.cells, AV.okSt, elemsOf, appBase, AV.isSl, resV, tupV, viewN, embB, embT, okR, okC, okL, okEs, ren, renC, renL, renEs, seval, h0']
      refine loop_rule (fun k : Nat => k ≤ X.length ∧ ∀ (j : Nat) x, j < k → X[j]? = some x → (inR D) x = true) (fun k => tm 99 [(2, .ptr 4 0 0 0), (3, .ptr 4 1 0 0), (5, .int .i64 k)]) (fun _ => [some (4, [eMod (D, cs, ask, goal)]), some (4, [eCon (K, X, A, C)])]) (fun k => X.length - k) 0 ⟨by omega, by omega⟩ ⟨[0, 1], by decide, rfl, ?_, ?_⟩ ?_
      · simp +contextual -implicitDefEqProofs (maxSteps := 1000000) only [sm, awpOper, awpDo, evP, evBin, evUn, eqInts, fillA, setCells, cutCells, okElems, AV.natOf, natO, maxA, minA, AV.isInt, evSlc, evLoad, setE, evW, AV.cells, AV.okSt, elemsOf, appBase, AV.isSl, resV, tupV, viewN, embB, embT, okR, okC, okL, okEs, ren, renC, renL, renEs, seval, eMod, eDoms, eCons, eCon, eIs]
      · simp +contextual -implicitDefEqProofs (maxSteps := 1000000) only [sm, awpOper, awpDo, evP, evBin, evUn, eqInts, fillA, setCells, cutCells, okElems, AV.natOf, natO, maxA, minA, AV.isInt, evSlc, evLoad, setE, evW, AV.cells, AV.okSt, elemsOf, appBase, AV.isSl, resV, tupV, viewN, embB, embT, okR, okC, okL, okEs, ren, renC, renL, renEs, seval, Int.natCast_zero, eMod, eDoms, eCons, eCon, eIs]
      · rintro k ⟨hk, hok⟩
        by_cases hlt : k < X.length
        · obtain ⟨x, hx⟩ : ∃ r, X[k]? = some r := ⟨_, List.getElem?_eq_getElem hlt⟩
          have hlt' : (k : Int) < (X.length : Int) := by omega
          have e2 : IntKind.i64.wrap ((k : Int) + 1) = ((k + 1 : Nat) : Int) := by rw [wrap_i64] <;> omega
          have no : inR D x = false → mayB D (K, X, A, C) = false := fun h => by
            have : xsOk D X (shp K).2.2.2.2 = false := by
              refine all_no hlt ?_
              simp only [xOk, hx]
              simp only [inR] at h
              rw [h]; rfl
            simp [mayB, this]
          by_cases hx0 : x < 0
          · simp +contextual -implicitDefEqProofs (maxSteps := 1000000) only [sm, awpOper, awpDo, evP, evBin, evUn, eqInts, fillA, setCells, cutCells, okElems, AV.natOf, natO, maxA, minA, AV.isInt, evSlc, evLoad, setE, evW, AV.cells, AV.okSt, elemsOf, appBase, AV.isSl, resV, tupV, viewN, embB, embT, okR, okC, okL, okEs, ren, renC, renL, renEs, seval, hlt', hx, hx0, eCon, eIs]
            exact no (by simp [inR]; omega)
          by_cases hx1 : (D.length : Int) ≤ x
          · simp +contextual -implicitDefEqProofs (maxSteps := 1000000) only [sm, awpOper, awpDo, evP, evBin, evUn, eqInts, fillA, setCells, cutCells, okElems, AV.natOf, natO, maxA, minA, AV.isInt, evSlc, evLoad, setE, evW, AV.cells, AV.okSt, elemsOf, appBase, AV.isSl, resV, tupV, viewN, embB, embT, okR, okC, okL, okEs, ren, renC, renL, renEs, seval, hlt', hx, hx0, hx1, eMod, eDoms, eCon, eIs]
            exact no (by simp [inR]; omega)
          simp +contextual -implicitDefEqProofs (maxSteps := 1000000) only [sm, awpOper, awpDo, evP, evBin, evUn, eqInts, fillA, setCells, cutCells, okElems, AV.natOf, natO, maxA, minA, AV.isInt, evSlc, evLoad, setE, evW, AV.cells, AV.okSt, elemsOf, appBase, AV.isSl, resV, tupV, viewN, embB, embT, okR, okC, okL, okEs, ren, renC, renL, renEs, seval, hlt', hx, hx0, hx1, eMod, eDoms, eCon, eIs, e2]
          refine ⟨k + 1, ⟨by omega, ?_⟩, by omega, [0, 1], by decide, rfl, ?_, ?_⟩
          · intro j y hj hy
            rcases Nat.lt_succ_iff_lt_or_eq.1 hj with h | rfl
            · exact hok j y h hy
            · rw [hx] at hy; injection hy with hy; subst hy; simp [inR]; omega
          · simp +contextual -implicitDefEqProofs (maxSteps := 1000000) only [sm, awpOper, awpDo, evP, evBin, evUn, eqInts, fillA, setCells, cutCells, okElems, AV.natOf, natO, maxA, minA, AV.isInt, evSlc, evLoad, setE, evW, AV.cells, AV.okSt, elemsOf, appBase, AV.isSl, resV, tupV, viewN, embB, embT, okR, okC, okL, okEs, ren, renC, renL, renEs, seval, eMod, eDoms, eCons, eCon, eIs]
          · simp +contextual -implicitDefEqProofs (maxSteps := 1000000) only [sm, awpOper, awpDo, evP, evBin, evUn, eqInts, fillA, setCells, cutCells, okElems, AV.natOf, natO, maxA, minA, AV.isInt, evSlc, evLoad, setE, evW, AV.cells, AV.okSt, elemsOf, appBase, AV.isSl, resV, tupV, viewN, embB, embT, okR, okC, okL, okEs, ren, renC, renL, renEs, seval, eMod, eDoms, eCons, eCon, eIs]
        · have : k = X.length := by omega
          subst this
          have hall := listall_yes hok
          have hin := hall
          clear hall hok
          simp +contextual -implicitDefEqProofs (maxSteps := 1000000) only [sm, awpOper, awpDo, evP, evBin, evUn, eqInts, fillA, setCells, cutCells, okElems, AV.natOf, natO, maxA, minA, AV.isInt, evSlc, evLoad, setE, evW, AV.cells, AV.okSt, elemsOf, appBase, AV.isSl, resV, tupV, viewN, embB, embT, okR, okC, okL, okEs, ren, renC, renL, renEs, seval, Int.lt_irrefl, eCon, eIs]
          refine loop_rule (fun k : Nat => k ≤ A.length ∧ ∀ (j : Nat) x, j < k → A[j]? = some x → withinB x = true) (fun k => tm 99 [(2, .ptr 4 0 0 0), (3, .ptr 4 1 0 0), (6, .int .i64 k)]) (fun _ => [some (4, [eMod (D, cs, ask, goal)]), some (4, [eCon (K, X, A, C)])]) (fun k => A.length - k) 0 ⟨by omega, by omega⟩ ⟨[0, 1], by decide, rfl, ?_, ?_⟩ ?_
          · simp +contextual -implicitDefEqProofs (maxSteps := 1000000) only [sm, awpOper, awpDo, evP, evBin, evUn, eqInts, fillA, setCells, cutCells, okElems, AV.natOf, natO, maxA, minA, AV.isInt, evSlc, evLoad, setE, evW, AV.cells, AV.okSt, elemsOf, appBase, AV.isSl, resV, tupV, viewN, embB, embT, okR, okC, okL, okEs, ren, renC, renL, renEs, seval, eMod, eDoms, eCons, eCon, eIs]
          · simp +contextual -implicitDefEqProofs (maxSteps := 1000000) only [sm, awpOper, awpDo, evP, evBin, evUn, eqInts, fillA, setCells, cutCells, okElems, AV.natOf, natO, maxA, minA, AV.isInt, evSlc, evLoad, setE, evW, AV.cells, AV.okSt, elemsOf, appBase, AV.isSl, resV, tupV, viewN, embB, embT, okR, okC, okL, okEs, ren, renC, renL, renEs, seval, Int.natCast_zero, eMod, eDoms, eCons, eCon, eIs]
          · rintro k ⟨hk, hok⟩
            by_cases hlt : k < A.length
            · obtain ⟨x, hx⟩ : ∃ r, A[k]? = some r := ⟨_, List.getElem?_eq_getElem hlt⟩
              have hlt' : (k : Int) < (A.length : Int) := by omega
              have e2 : IntKind.i64.wrap ((k : Int) + 1) = ((k + 1 : Nat) : Int) := by rw [wrap_i64] <;> omega
              simp +contextual -implicitDefEqProofs (maxSteps := 1000000) only [sm, awpOper, awpDo, evP, evBin, evUn, eqInts, fillA, setCells, cutCells, okElems, AV.natOf, natO, maxA, minA, AV.isInt, evSlc, evLoad, setE, evW, AV.cells, AV.okSt, elemsOf, appBase, AV.isSl, resV, tupV, viewN, embB, embT, okR, okC, okL, okEs, ren, renC, renL, renEs, seval, hlt', hx, eCon, eIs]
              refine callA_rule (ref08_Within _) (wkL_refl _) rfl ?_
              cases ht : withinB x
              · simp +contextual -implicitDefEqProofs (maxSteps := 1000000) only [sm, awpOper, awpDo, evP, evBin, evUn, eqInts, fillA, setCells, cutCells, okElems, AV.natOf, natO, maxA, minA, AV.isInt, evSlc, evLoad, setE, evW, AV.cells, AV.okSt, elemsOf, appBase, AV.isSl, resV, tupV, viewN, embB, embT, okR, okC, okL, okEs, ren, renC, renL, renEs, seval]
                simp [mayB, listall_no hx ht]
              · simp +contextual -implicitDefEqProofs (maxSteps := 1000000) only [sm, awpOper, awpDo, evP, evBin, evUn, eqInts, fillA, setCells, cutCells, okElems, AV.natOf, natO, maxA, minA, AV.isInt, evSlc, evLoad, setE, evW, AV.cells, AV.okSt, elemsOf, appBase, AV.isSl, resV, tupV, viewN, embB, embT, okR, okC, okL, okEs, ren, renC, renL, renEs, seval, e2]
                refine ⟨k + 1, ⟨by omega, ?_⟩, by omega, [0, 1], by decide, rfl, ?_, ?_⟩
                · intro j y hj hy
                  rcases Nat.lt_succ_iff_lt_or_eq.1 hj with h | rfl
                  · exact hok j y h hy
                  · rw [hx] at hy; injection hy with hy; subst hy; exact ht
                · simp +contextual -implicitDefEqProofs (maxSteps := 1000000) only [sm, awpOper, awpDo, evP, evBin, evUn, eqInts, fillA, setCells, cutCells, okElems, AV.natOf, natO, maxA, minA, AV.isInt, evSlc, evLoad, setE, evW, AV.cells, AV.okSt, elemsOf, appBase, AV.isSl, resV, tupV, viewN, embB, embT, okR, okC, okL, okEs, ren, renC, renL, renEs, seval, eMod, eDoms, eCons, eCon, eIs]
                · simp +contextual -implicitDefEqProofs (maxSteps := 1000000) only [sm, awpOper, awpDo, evP, evBin, evUn, eqInts, fillA, setCells, cutCells, okElems, AV.natOf, natO, maxA, minA, AV.isInt, evSlc, evLoad, setE, evW, AV.cells, AV.okSt, elemsOf, appBase, AV.isSl, resV, tupV, viewN, embB, embT, okR, okC, okL, okEs, ren, renC, renL, renEs, seval, eMod, eDoms, eCons, eCon, eIs]
            · have : k = A.length := by omega
              subst this
              have hall := listall_yes hok
              have hmay : mayB D (K, X, A, C) = xsOk D X (shp K).2.2.2.2 := by
                simp only [mayB, hf, hw, h32, hC, hall, decide_true, Bool.true_and, Bool.and_true]
              by_cases k4 : K = 4 ∨ K = 5 ∨ K = 6
              · have hb : (shp K).2.2.2.2 = 1 := by rcases k4 with rfl | rfl | rfl <;> decide
                obtain ⟨x, hx⟩ : ∃ x, X[X.length - 1]? = some x := by
                  refine ⟨_, List.getElem?_eq_getElem ?_⟩
                  have : X.length = A.length + 1 := by
                    have := hf
                    simp only [formedB, Bool.and_eq_true] at this
                    have := this.1.2
                    rcases k4 with rfl | rfl | rfl <;> simp [countsB, shp] at this <;> omega
                  omega
                have e1 : IntKind.i64.wrap ((X.length : Int) - 1) = ((X.length - 1 : Nat) : Int) := by
                  have := (List.getElem?_eq_some_iff.1 hx).1
                  rw [wrap_i64] <;> omega
                have hxr := (List.all_eq_true.1 hin) x (List.mem_of_getElem? hx)
                have hrow := inR_row hxr
                have hx0 : 0 ≤ x := by simp [inR] at hxr; exact hxr.1
                have hg : mayB D (K, X, A, C) = truthB (rowOf D x) := by
                  rw [hmay, hb, xs_one hin hx]; rfl
                rw [hg]
                clear hmay hg hin hb hf
                rcases k4 with rfl | rfl | rfl <;>
                · simp +contextual -implicitDefEqProofs (maxSteps := 1000000) only [sm, awpOper, awpDo, evP, evBin, evUn, eqInts, fillA, setCells, cutCells, okElems, AV.natOf, natO, maxA, minA, AV.isInt, evSlc, evLoad, setE, evW, AV.cells, AV.okSt, elemsOf, appBase, AV.isSl, resV, tupV, viewN, embB, embT, okR, okC, okL, okEs, ren, renC, renL, renEs, seval, Int.lt_irrefl, eMod, eCon, eDoms, eIs, e1, hx, hx0, hrow, or_true, true_or, or_false, false_or]
                  refine callA_rule (ref08_truth _ (row_len hd x)) (wkL_refl _) rfl ?_
                  simp +contextual -implicitDefEqProofs (maxSteps := 1000000) only [sm, awpOper, awpDo, evP, evBin, evUn, eqInts, fillA, setCells, cutCells, okElems, AV.natOf, natO, maxA, minA, AV.isInt, evSlc, evLoad, setE, evW, AV.cells, AV.okSt, elemsOf, appBase, AV.isSl, resV, tupV, viewN, embB, embT, okR, okC, okL, okEs, ren, renC, renL, renEs, seval]
              by_cases k11 : K = 11 ∨ K = 12 ∨ K = 13 ∨ K = 14
              · have hb : (shp K).2.2.2.2 = 2 := by rcases k11 with rfl | rfl | rfl | rfl <;> decide
                rw [hb, xs_two hin] at hmay
                rw [hmay]
                clear hmay hb hf
                rcases k11 with rfl | rfl | rfl | rfl <;>
                · simp +contextual -implicitDefEqProofs (maxSteps := 1000000) only [sm, awpOper, awpDo, evP, evBin, evUn, eqInts, fillA, setCells, cutCells, okElems, AV.natOf, natO, maxA, minA, AV.isInt, evSlc, evLoad, setE, evW, AV.cells, AV.okSt, elemsOf, appBase, AV.isSl, resV, tupV, viewN, embB, embT, okR, okC, okL, okEs, ren, renC, renL, renEs, seval, Int.lt_irrefl, eMod, eCon, eIs, or_true, true_or, or_false, false_or]
                  refine callA_rule (ref08_truths (D, cs, ask, goal) X hX hd hin) (wkL_refl _) rfl ?_
                  simp +contextual -implicitDefEqProofs (maxSteps := 1000000) only [sm, awpOper, awpDo, evP, evBin, evUn, eqInts, fillA, setCells, cutCells, okElems, AV.natOf, natO, maxA, minA, AV.isInt, evSlc, evLoad, setE, evW, AV.cells, AV.okSt, elemsOf, appBase, AV.isSl, resV, tupV, viewN, embB, embT, okR, okC, okL, okEs, ren, renC, renL, renEs, seval]
              have hk : 1 ≤ K ∧ K ≤ 19 := by
                simp only [formedB, kindB, Bool.and_eq_true, decide_eq_true_eq] at hf
                exact hf.1.1
              have hb : (shp K).2.2.2.2 = 0 := by
                have : K = 1 ∨ K = 2 ∨ K = 3 ∨ K = 7 ∨ K = 8 ∨ K = 9 ∨ K = 10 ∨ K = 15 ∨ K = 16 ∨ K = 17 ∨ K = 18 ∨ K = 19 := by omega
                rcases this with rfl | rfl | rfl | rfl | rfl | rfl | rfl | rfl | rfl | rfl | rfl | rfl <;> decide
              rw [hb, xs_zero hin] at hmay
              rw [hmay]
              have n4 : (K = 4) = False := by simp only [eq_iff_iff, iff_false]; omega
              have n5 : (K = 5) = False := by simp only [eq_iff_iff, iff_false]; omega
              have n6 : (K = 6) = False := by simp only [eq_iff_iff, iff_false]; omega
              have n11 : (K = 11) = False := by simp only [eq_iff_iff, iff_false]; omega
              have n12 : (K = 12) = False := by simp only [eq_iff_iff, iff_false]; omega
              have n13 : (K = 13) = False := by simp only [eq_iff_iff, iff_false]; omega
              have n14 : (K = 14) = False := by simp only [eq_iff_iff, iff_false]; omega
              simp +contextual -implicitDefEqProofs (maxSteps := 1000000) only [sm, awpOper, awpDo, evP, evBin, evUn, eqInts, fillA, setCells, cutCells, okElems, AV.natOf, natO, maxA, minA, AV.isInt, evSlc, evLoad, setE, evW, AV.cells, AV.okSt, elemsOf, appBase, AV.isSl, resV, tupV, viewN, embB, embT, okR, okC, okL, okEs, ren, renC, renL, renEs, seval, Int.lt_irrefl, eMod, eCon, eIs, n4, n5, n6, n11, n12, n13, n14, or_true, true_or, or_false, false_or]
    · simp +contextual -implicitDefEqProofs (maxSteps := 1000000) only [sm, awpOper, awpDo, evP, evBin, evUn, eqInts, fillA, setCells, cutCells, okElems, AV.natOf, natO, maxA, minA, AV.isInt, evSlc, evLoad, setE, evW, AV.cells, AV.okSt, elemsOf, appBase, AV.isSl, resV, tupV, viewN, embB, embT, okR, okC, okL, okEs, ren, renC, renL, renEs, seval, h0]
      refine callA_rule (ref08_named K) (wkL_refl _) rfl ?_
      rw [named_has hkind]
      cases hC0 : (shp K).2.2.2.1
      · simp +contextual -implicitDefEqProofs (maxSteps := 1000000) only [sm, awpOper, awpDo, evP, evBin, evUn, eqInts, fillA, setCells, cutCells, okElems, AV.natOf, natO, maxA, minA, AV.isInt, evSlc, evLoad, setE, evW, AV.cells, AV.okSt, elemsOf, appBase, AV.isSl, resV, tupV, viewN, embB, embT, okR, okC, okL, okEs, ren, renC, renL, renEs, seval]
        simp [mayB, h0, hC0]
      have hC : (decide (C = 0) || (shp K).2.2.2.1) = true := by simp [hC0]
      simp +contextual -implicitDefEqProofs (maxSteps := 1000000) only [sm, awpOper, awpDo, evP, evBin, evUn, eqInts, fillA, setCells, cutCells, okElems, AV.natOf, natO, maxA, minA, AV.isInt, evSlc, evLoad, setE, evW, AV.cells, AV.okSt, elemsOf, appBase, AV.isSl, resV, tupV, viewN, embB, embT, okR, okC, okL, okEs, ren, renC, renL, renEs, seval]
      refine loop_rule (fun k : Nat => k ≤ X.length ∧ ∀ (j : Nat) x, j < k → X[j]? = some x → (inR D) x = true) (fun k => tm 99 [(2, .ptr 4 0 0 0), (3, .ptr 4 1 0 0), (5, .int .i64 k)]) (fun _ => [some (4, [eMod (D, cs, ask, goal)]), some (4, [eCon (K, X, A, C)])]) (fun k => X.length - k) 0 ⟨by omega, by omega⟩ ⟨[0, 1], by decide, rfl, ?_, ?_⟩ ?_
      · simp +contextual -implicitDefEqProofs (maxSteps := 1000000) only [sm, awpOper, awpDo, evP, evBin, evUn, eqInts, fillA, setCells, cutCells, okElems, AV.natOf, natO, maxA, minA, AV.isInt, evSlc, evLoad, setE, evW, AV.cells, AV.okSt, elemsOf, appBase, AV.isSl, resV, tupV, viewN, embB, embT, okR, okC, okL, okEs, ren, renC, renL, renEs, seval, eMod, eDoms, eCons, eCon, eIs]
      · simp +contextual -implicitDefEqProofs (maxSteps := 1000000) only [sm, awpOper, awpDo, evP, evBin, evUn, eqInts, fillA, setCells, cutCells, okElems, AV.natOf, natO, maxA, minA, AV.isInt, evSlc, evLoad, setE, evW, AV.cells, AV.okSt, elemsOf, appBase, AV.isSl, resV, tupV, viewN, embB, embT, okR, okC, okL, okEs, ren, renC, renL, renEs, seval, Int.natCast_zero, eMod, eDoms, eCons, eCon, eIs]
      · rintro k ⟨hk, hok⟩
        by_cases hlt : k < X.length
        · obtain ⟨x, hx⟩ : ∃ r, X[k]? = some r := ⟨_, List.getElem?_eq_getElem hlt⟩
          have hlt' : (k : Int) < (X.length : Int) := by omega
          have e2 : IntKind.i64.wrap ((k : Int) + 1) = ((k + 1 : Nat) : Int) := by rw [wrap_i64] <;> omega
          have no : inR D x = false → mayB D (K, X, A, C) = false := fun h => by
            have : xsOk D X (shp K).2.2.2.2 = false := by
              refine all_no hlt ?_
              simp only [xOk, hx]
              simp only [inR] at h
              rw [h]; rfl
            simp [mayB, this]
          by_cases hx0 : x < 0
          · simp +contextual -implicitDefEqProofs (maxSteps := 1000000) only [sm, awpOper, awpDo, evP, evBin, evUn, eqInts, fillA, setCells, cutCells, okElems, AV.natOf, natO, maxA, minA, AV.isInt, evSlc, evLoad, setE, evW, AV.cells, AV.okSt, elemsOf, appBase, AV.isSl, resV, tupV, viewN, embB, embT, okR, okC, okL, okEs, ren, renC, renL, renEs, seval, hlt', hx, hx0, eCon, eIs]
            exact no (by simp [inR]; omega)
          by_cases hx1 : (D.length : Int) ≤ x
          · simp +contextual -implicitDefEqProofs (maxSteps := 1000000) only [sm, awpOper, awpDo, evP, evBin, evUn, eqInts, fillA, setCells, cutCells, okElems, AV.natOf, natO, maxA, minA, AV.isInt, evSlc, evLoad, setE, evW, AV.cells, AV.okSt, elemsOf, appBase, AV.isSl, resV, tupV, viewN, embB, embT, okR, okC, okL, okEs, ren, renC, renL, renEs, seval, hlt', hx, hx0, hx1, eMod, eDoms, eCon, eIs]
            exact no (by simp [inR]; omega)
          simp +contextual -implicitDefEqProofs (maxSteps := 1000000) only [sm, awpOper, awpDo, evP, evBin, evUn, eqInts, fillA, setCells, cutCells, okElems, AV.natOf, natO, maxA, minA, AV.isInt, evSlc, evLoad, setE, evW, AV.cells, AV.okSt, elemsOf, appBase, AV.isSl, resV, tupV, viewN, embB, embT, okR, okC, okL, okEs, ren, renC, renL, renEs, seval, hlt', hx, hx0, hx1, eMod, eDoms, eCon, eIs, e2]
          refine ⟨k + 1, ⟨by omega, ?_⟩, by omega, [0, 1], by decide, rfl, ?_, ?_⟩
          · intro j y hj hy
            rcases Nat.lt_succ_iff_lt_or_eq.1 hj with h | rfl
            · exact hok j y h hy
            · rw [hx] at hy; injection hy with hy; subst hy; simp [inR]; omega
          · simp +contextual -implicitDefEqProofs (maxSteps := 1000000) only [sm, awpOper, awpDo, evP, evBin, evUn, eqInts, fillA, setCells, cutCells, okElems, AV.natOf, natO, maxA, minA, AV.isInt, evSlc, evLoad, setE, evW, AV.cells, AV.okSt, elemsOf, appBase, AV.isSl, resV, tupV, viewN, embB, embT, okR, okC, okL, okEs, ren, renC, renL, renEs, seval, eMod, eDoms, eCons, eCon, eIs]
          · simp +contextual -implicitDefEqProofs (maxSteps := 1000000) only [sm, awpOper, awpDo, evP, evBin, evUn, eqInts, fillA, setCells, cutCells, okElems, AV.natOf, natO, maxA, minA, AV.isInt, evSlc, evLoad, setE, evW, AV.cells, AV.okSt, elemsOf, appBase, AV.isSl, resV, tupV, viewN, embB, embT, okR, okC, okL, okEs, ren, renC, renL, renEs, seval, eMod, eDoms, eCons, eCon, eIs]
        · have : k = X.length := by omega
          subst this
          have hall := listall_yes hok
          have hin := hall
          clear hall hok
          simp +contextual -implicitDefEqProofs (maxSteps := 1000000) only [sm, awpOper, awpDo, evP, evBin, evUn, eqInts, fillA, setCells, cutCells, okElems, AV.natOf, natO, maxA, minA, AV.isInt, evSlc, evLoad, setE, evW, AV.cells, AV.okSt, elemsOf, appBase, AV.isSl, resV, tupV, viewN, embB, embT, okR, okC, okL, okEs, ren, renC, renL, renEs, seval, Int.lt_irrefl, eCon, eIs]
          refine loop_rule (fun k : Nat => k ≤ A.length ∧ ∀ (j : Nat) x, j < k → A[j]? = some x → withinB x = true) (fun k => tm 99 [(2, .ptr 4 0 0 0), (3, .ptr 4 1 0 0), (6, .int .i64 k)]) (fun _ => [some (4, [eMod (D, cs, ask, goal)]), some (4, [eCon (K, X, A, C)])]) (fun k => A.length - k) 0 ⟨by omega, by omega⟩ ⟨[0, 1], by decide, rfl, ?_, ?_⟩ ?_
          · simp +contextual -implicitDefEqProofs (maxSteps := 1000000) only [sm, awpOper, awpDo, evP, evBin, evUn, eqInts, fillA, setCells, cutCells, okElems, AV.natOf, natO, maxA, minA, AV.isInt, evSlc, evLoad, setE, evW, AV.cells, AV.okSt, elemsOf, appBase, AV.isSl, resV, tupV, viewN, embB, embT, okR, okC, okL, okEs, ren, renC, renL, renEs, seval, eMod, eDoms, eCons, eCon, eIs]
          · simp +contextual -implicitDefEqProofs (maxSteps := 1000000) only [sm, awpOper, awpDo, evP, evBin, evUn, eqInts, fillA, setCells, cutCells, okElems, AV.natOf, natO, maxA, minA, AV.isInt, evSlc, evLoad, setE, evW, AV.cells, AV.okSt, elemsOf, appBase, AV.isSl, resV, tupV, viewN, embB, embT, okR, okC, okL, okEs, ren, renC, renL, renEs, seval, Int.natCast_zero, eMod, eDoms, eCons, eCon, eIs]
          · rintro k ⟨hk, hok⟩
            by_cases hlt : k < A.length
            · obtain ⟨x, hx⟩ : ∃ r, A[k]? = some r := ⟨_, List.getElem?_eq_getElem hlt⟩
              have hlt' : (k : Int) < (A.length : Int) := by omega
              have e2 : IntKind.i64.wrap ((k : Int) + 1) = ((k + 1 : Nat) : Int) := by rw [wrap_i64] <;> omega
              simp +contextual -implicitDefEqProofs (maxSteps := 1000000) only [sm, awpOper, awpDo, evP, evBin, evUn, eqInts, fillA, setCells, cutCells, okElems, AV.natOf, natO, maxA, minA, AV.isInt, evSlc, evLoad, setE, evW, AV.cells, AV.okSt, elemsOf, appBase, AV.isSl, resV, tupV, viewN, embB, embT, okR, okC, okL, okEs, ren, renC, renL, renEs, seval, hlt', hx, eCon, eIs]
              refine callA_rule (ref08_Within _) (wkL_refl _) rfl ?_
              cases ht : withinB x
              · simp +contextual -implicitDefEqProofs (maxSteps := 1000000) only [sm, awpOper, awpDo, evP, evBin, evUn, eqInts, fillA, setCells, cutCells, okElems, AV.natOf, natO, maxA, minA, AV.isInt, evSlc, evLoad, setE, evW, AV.cells, AV.okSt, elemsOf, appBase, AV.isSl, resV, tupV, viewN, embB, embT, okR, okC, okL, okEs, ren, renC, renL, renEs, seval]
                simp [mayB, listall_no hx ht]
              · simp +contextual -implicitDefEqProofs (maxSteps := 1000000) only [sm, awpOper, awpDo, evP, evBin, evUn, eqInts, fillA, setCells, cutCells, okElems, AV.natOf, natO, maxA, minA, AV.isInt, evSlc, evLoad, setE, evW, AV.cells, AV.okSt, elemsOf, appBase, AV.isSl, resV, tupV, viewN, embB, embT, okR, okC, okL, okEs, ren, renC, renL, renEs, seval, e2]
                refine ⟨k + 1, ⟨by omega, ?_⟩, by omega, [0, 1], by decide, rfl, ?_, ?_⟩
                · intro j y hj hy
                  rcases Nat.lt_succ_iff_lt_or_eq.1 hj with h | rfl
                  · exact hok j y h hy
                  · rw [hx] at hy; injection hy with hy; subst hy; exact ht
                · simp +contextual -implicitDefEqProofs (maxSteps := 1000000) only [sm, awpOper, awpDo, evP, evBin, evUn, eqInts, fillA, setCells, cutCells, okElems, AV.natOf, natO, maxA, minA, AV.isInt, evSlc, evLoad, setE, evW, AV.cells, AV.okSt, elemsOf, appBase, AV.isSl, resV, tupV, viewN, embB, embT, okR, okC, okL, okEs, ren, renC, renL, renEs, seval, eMod, eDoms, eCons, eCon, eIs]
                · simp +contextual -implicitDefEqProofs (maxSteps := 1000000) only [sm, awpOper, awpDo, evP, evBin, evUn, eqInts, fillA, setCells, cutCells, okElems, AV.natOf, natO, maxA, minA, AV.isInt, evSlc, evLoad, setE, evW, AV.cells, AV.okSt, elemsOf, appBase, AV.isSl, resV, tupV, viewN, embB, embT, okR, okC, okL, okEs, ren, renC, renL, renEs, seval, eMod, eDoms, eCons, eCon, eIs]
            · have : k = A.length := by omega
              subst this
              have hall := listall_yes hok
              have hmay : mayB D (K, X, A, C) = xsOk D X (shp K).2.2.2.2 := by
                simp only [mayB, hf, hw, h32, hC, hall, decide_true, Bool.true_and, Bool.and_true]
              by_cases k4 : K = 4 ∨ K = 5 ∨ K = 6
              · have hb : (shp K).2.2.2.2 = 1 := by rcases k4 with rfl | rfl | rfl <;> decide
                obtain ⟨x, hx⟩ : ∃ x, X[X.length - 1]? = some x := by
                  refine ⟨_, List.getElem?_eq_getElem ?_⟩
                  have : X.length = A.length + 1 := by
                    have := hf
                    simp only [formedB, Bool.and_eq_true] at this
                    have := this.1.2
                    rcases k4 with rfl | rfl | rfl <;> simp [countsB, shp] at this <;> omega
                  omega
                have e1 : IntKind.i64.wrap ((X.length : Int) - 1) = ((X.length - 1 : Nat) : Int) := by
                  have := (List.getElem?_eq_some_iff.1 hx).1
                  rw [wrap_i64] <;> omega
                have hxr := (List.all_eq_true.1 hin) x (List.mem_of_getElem? hx)
                have hrow := inR_row hxr
                have hx0 : 0 ≤ x := by simp [inR] at hxr; exact hxr.1
                have hg : mayB D (K, X, A, C) = truthB (rowOf D x) := by
                  rw [hmay, hb, xs_one hin hx]; rfl
                rw [hg]
                clear hmay hg hin hb hf
                rcases k4 with rfl | rfl | rfl <;>
                · simp +contextual -implicitDefEqProofs (maxSteps := 1000000) only [sm, awpOper, awpDo, evP, evBin, evUn, eqInts, fillA, setCells, cutCells, okElems, AV.natOf, natO, maxA, minA, AV.isInt, evSlc, evLoad, setE, evW, AV.cells, AV.okSt, elemsOf, appBase, AV.isSl, resV, tupV, viewN, embB, embT, okR, okC, okL, okEs, ren, renC, renL, renEs, seval, Int.lt_irrefl, eMod, eCon, eDoms, eIs, e1, hx, hx0, hrow, or_true, true_or, or_false, false_or]
                  refine callA_rule (ref08_truth _ (row_len hd x)) (wkL_refl _) rfl ?_
                  simp +contextual -implicitDefEqProofs (maxSteps := 1000000) only [sm, awpOper, awpDo, evP, evBin, evUn, eqInts, fillA, setCells, cutCells, okElems, AV.natOf, natO, maxA, minA, AV.isInt, evSlc, evLoad, setE, evW, AV.cells, AV.okSt, elemsOf, appBase, AV.isSl, resV, tupV, viewN, embB, embT, okR, okC, okL, okEs, ren, renC, renL, renEs, seval]
              by_cases k11 : K = 11 ∨ K = 12 ∨ K = 13 ∨ K = 14
              · have hb : (shp K).2.2.2.2 = 2 := by rcases k11 with rfl | rfl | rfl | rfl <;> decide
                rw [hb, xs_two hin] at hmay
                rw [hmay]
                clear hmay hb hf
                rcases k11 with rfl | rfl | rfl | rfl <;>
                · simp +contextual -implicitDefEqProofs (maxSteps := 1000000) only [sm, awpOper, awpDo, evP, evBin, evUn, eqInts, fillA, setCells, cutCells, okElems, AV.natOf, natO, maxA, minA, AV.isInt, evSlc, evLoad, setE, evW, AV.cells, AV.okSt, elemsOf, appBase, AV.isSl, resV, tupV, viewN, embB, embT, okR, okC, okL, okEs, ren, renC, renL, renEs, seval, Int.lt_irrefl, eMod, eCon, eIs, or_true, true_or, or_false, false_or]
                  refine callA_rule (ref08_truths (D, cs, ask, goal) X hX hd hin) (wkL_refl _) rfl ?_
                  simp +contextual -implicitDefEqProofs (maxSteps := 1000000) only [sm, awpOper, awpDo, evP, evBin, evUn, eqInts, fillA, setCells, cutCells, okElems, AV.natOf, natO, maxA, minA, AV.isInt, evSlc, evLoad, setE, evW, AV.cells, AV.okSt, elemsOf, appBase, AV.isSl, resV, tupV, viewN, embB, embT, okR, okC, okL, okEs, ren, renC, renL, renEs, seval]
              have hk : 1 ≤ K ∧ K ≤ 19 := by
                simp only [formedB, kindB, Bool.and_eq_true, decide_eq_true_eq] at hf
                exact hf.1.1
              have hb : (shp K).2.2.2.2 = 0 := by
                have : K = 1 ∨ K = 2 ∨ K = 3 ∨ K = 7 ∨ K = 8 ∨ K = 9 ∨ K = 10 ∨ K = 15 ∨ K = 16 ∨ K = 17 ∨ K = 18 ∨ K = 19 := by omega
                rcases this with rfl | rfl | rfl | rfl | rfl | rfl | rfl | rfl | rfl | rfl | rfl | rfl <;> decide
              rw [hb, xs_zero hin] at hmay
              rw [hmay]
              have n4 : (K = 4) = False := by simp only [eq_iff_iff, iff_false]; omega
              have n5 : (K = 5) = False := by simp only [eq_iff_iff, iff_false]; omega
              have n6 : (K = 6) = False := by simp only [eq_iff_iff, iff_false]; omega
              have n11 : (K = 11) = False := by simp only [eq_iff_iff, iff_false]; omega
              have n12 : (K = 12) = False := by simp only [eq_iff_iff, iff_false]; omega
              have n13 : (K = 13) = False := by simp only [eq_iff_iff, iff_false]; omega
              have n14 : (K = 14) = False := by simp only [eq_iff_iff, iff_false]; omega
              simp +contextual -implicitDefEqProofs (maxSteps := 1000000) only [sm, awpOper, awpDo, evP, evBin, evUn, eqInts, fillA, setCells, cutCells, okElems, AV.natOf, natO, maxA, minA, AV.isInt, evSlc, evLoad, setE, evW, AV.cells, AV.okSt, elemsOf, appBase, AV.isSl, resV, tupV, viewN, embB, embT, okR, okC, okL, okEs, ren, renC, renL, renEs, seval, Int.lt_irrefl, eMod, eCon, eIs, n4, n5, n6, n11, n12, n13, n14, or_true, true_or, or_false, false_or]
  · have h32' : (32 : Int) < X.length := by omega
    simp +contextual -implicitDefEqProofs (maxSteps := 1000000) only [sm, awpOper, awpDo, evP, evBin, evUn, eqInts, fillA, setCells, cutCells, okElems, AV.natOf, natO, maxA, minA, AV.isInt, evSlc, evLoad, setE, evW, AV.cells, AV.okSt, elemsOf, appBase, AV.isSl, resV, tupV, viewN, embB, embT, okR, okC, okL, okEs, ren, renC, renL, renEs, seval, eIs, h32']
    simp [mayB, h32]
end Go.Proofs.Ytclpkkbamgmooaa
