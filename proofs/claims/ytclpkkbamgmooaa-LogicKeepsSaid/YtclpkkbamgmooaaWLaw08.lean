/- What the functions of package touchstonelaw08 compute that other chapters ask; Fits, Fit. -/
import Derived.Test.YtclpkkbamgmooaaWRef08e
import Derived.Test.YtclpkkbamgmooaaWBase
namespace Go.Proofs.Ytclpkkbamgmooaa
open Av
attribute [local irreducible] awp awpOpers
set_option linter.unusedSimpArgs false
set_option linter.unusedVariables false
set_option maxRecDepth 100000
set_option maxHeartbeats 4000000
theorem law08_Doms (a b : List (List Rg)) (ha : a.length ≤ 9223372036854775807) (hr : ∀ d ∈ a, d.length ≤ 9223372036854775807) : Ctr Try.prog 18 [eDoms a, eDoms b] [] (.bool (decide (a = b))) [] := by
  refine call_pure Try.func18 Try.call18 e_law08_Doms ?_
  by_cases hn : a.length = b.length
  · have hn' : (b.length : Int) = (a.length : Int) := by omega
    simp +contextual -implicitDefEqProofs (maxSteps := 1000000) only [c_law08_Doms, eDoms, sm, awpOper, awpDo, evP, evBin, evUn, eqInts, fillA, setCells, cutCells, okElems, AV.natOf, natO, maxA, minA, AV.isInt, evSlc, evLoad, setE, evW, AV.cells, AV.okSt, elemsOf, appBase, AV.isSl, resV, tupV, viewN, embB, embT, okR, okC, okL, okEs, ren, renC, renL, renEs, seval, hn']
    refine loop_rule (fun k : Nat => k ≤ a.length ∧ ∀ j, j < k → eqAt a b j = true) (fun k => tm 27 [(0, .list 1 (a.map eRgs)), (1, .list 1 (b.map eRgs)), (12, .int .i64 a.length), (13, .int .i64 k)]) (fun _ => []) (fun k => a.length - k) 0 ⟨by omega, by omega⟩ ⟨[], by decide, rfl, ?_, ?_⟩ ?_
    · simp +contextual -implicitDefEqProofs (maxSteps := 1000000) only [sm, awpOper, awpDo, evP, evBin, evUn, eqInts, fillA, setCells, cutCells, okElems, AV.natOf, natO, maxA, minA, AV.isInt, evSlc, evLoad, setE, evW, AV.cells, AV.okSt, elemsOf, appBase, AV.isSl, resV, tupV, viewN, embB, embT, okR, okC, okL, okEs, ren, renC, renL, renEs, seval]
    · simp +contextual -implicitDefEqProofs (maxSteps := 1000000) only [sm, awpOper, awpDo, evP, evBin, evUn, eqInts, fillA, setCells, cutCells, okElems, AV.natOf, natO, maxA, minA, AV.isInt, evSlc, evLoad, setE, evW, AV.cells, AV.okSt, elemsOf, appBase, AV.isSl, resV, tupV, viewN, embB, embT, okR, okC, okL, okEs, ren, renC, renL, renEs, seval, Int.natCast_zero]
    · rintro k ⟨hk, hok⟩
      by_cases hlt : k < a.length
      · have hlt' : (k : Int) < ((a.length : Nat) : Int) := by omega
        have e2 : IntKind.i64.wrap ((k : Int) + 1) = ((k + 1 : Nat) : Int) := by rw [wrap_i64] <;> omega
        obtain ⟨x, hx⟩ : ∃ r, a[k]? = some r := ⟨_, List.getElem?_eq_getElem hlt⟩
        obtain ⟨p, hp⟩ : ∃ r, b[k]? = some r := ⟨_, List.getElem?_eq_getElem (by omega)⟩
        have hq : eqAt a b k = decide (x = p) := by simp [eqAt, hx, hp]
        simp +contextual -implicitDefEqProofs (maxSteps := 1000000) only [sm, awpOper, awpDo, evP, evBin, evUn, eqInts, fillA, setCells, cutCells, okElems, AV.natOf, natO, maxA, minA, AV.isInt, evSlc, evLoad, setE, evW, AV.cells, AV.okSt, elemsOf, appBase, AV.isSl, resV, tupV, viewN, embB, embT, okR, okC, okL, okEs, ren, renC, renL, renEs, seval, hlt', hn', hx, hp]
        refine callA_rule (law08_Ranges x p (hr x (List.mem_of_getElem? hx))) (wkL_refl _) rfl ?_
        cases h1 : decide (x = p)
        · simp +contextual -implicitDefEqProofs (maxSteps := 1000000) only [sm, awpOper, awpDo, evP, evBin, evUn, eqInts, fillA, setCells, cutCells, okElems, AV.natOf, natO, maxA, minA, AV.isInt, evSlc, evLoad, setE, evW, AV.cells, AV.okSt, elemsOf, appBase, AV.isSl, resV, tupV, viewN, embB, embT, okR, okC, okL, okEs, ren, renC, renL, renEs, seval]
          rw [h1] at hq
          exact of_decide_eq_false (eq_no hq)
        · simp +contextual -implicitDefEqProofs (maxSteps := 1000000) only [sm, awpOper, awpDo, evP, evBin, evUn, eqInts, fillA, setCells, cutCells, okElems, AV.natOf, natO, maxA, minA, AV.isInt, evSlc, evLoad, setE, evW, AV.cells, AV.okSt, elemsOf, appBase, AV.isSl, resV, tupV, viewN, embB, embT, okR, okC, okL, okEs, ren, renC, renL, renEs, seval, e2]
          refine ⟨k + 1, ⟨by omega, ?_⟩, by omega, [], by decide, rfl, ?_, ?_⟩
          · intro j hj
            rcases Nat.lt_succ_iff_lt_or_eq.1 hj with h | rfl
            · first | exact hok j h | simpa using hok j h
            · rw [hq, h1]
          · simp +contextual -implicitDefEqProofs (maxSteps := 1000000) only [sm, awpOper, awpDo, evP, evBin, evUn, eqInts, fillA, setCells, cutCells, okElems, AV.natOf, natO, maxA, minA, AV.isInt, evSlc, evLoad, setE, evW, AV.cells, AV.okSt, elemsOf, appBase, AV.isSl, resV, tupV, viewN, embB, embT, okR, okC, okL, okEs, ren, renC, renL, renEs, seval]
          · simp +contextual -implicitDefEqProofs (maxSteps := 1000000) only [sm, awpOper, awpDo, evP, evBin, evUn, eqInts, fillA, setCells, cutCells, okElems, AV.natOf, natO, maxA, minA, AV.isInt, evSlc, evLoad, setE, evW, AV.cells, AV.okSt, elemsOf, appBase, AV.isSl, resV, tupV, viewN, embB, embT, okR, okC, okL, okEs, ren, renC, renL, renEs, seval]
      · have hkn : k = a.length := by omega
        subst hkn
        have hall := hok
        simp +contextual -implicitDefEqProofs (maxSteps := 1000000) only [sm, awpOper, awpDo, evP, evBin, evUn, eqInts, fillA, setCells, cutCells, okElems, AV.natOf, natO, maxA, minA, AV.isInt, evSlc, evLoad, setE, evW, AV.cells, AV.okSt, elemsOf, appBase, AV.isSl, resV, tupV, viewN, embB, embT, okR, okC, okL, okEs, ren, renC, renL, renEs, seval, Int.lt_irrefl]
        exact of_decide_eq_true (eq_yes hn hall)
  · have hn' : ((a.length : Int) = (b.length : Int)) = False := by simp only [eq_iff_iff, iff_false]; omega
    simp +contextual -implicitDefEqProofs (maxSteps := 1000000) only [c_law08_Doms, eDoms, sm, awpOper, awpDo, evP, evBin, evUn, eqInts, fillA, setCells, cutCells, okElems, AV.natOf, natO, maxA, minA, AV.isInt, evSlc, evLoad, setE, evW, AV.cells, AV.okSt, elemsOf, appBase, AV.isSl, resV, tupV, viewN, embB, embT, okR, okC, okL, okEs, ren, renC, renL, renEs, seval, hn']
    rintro rfl
    exact hn rfl
def len400 (d : List Rg) : Bool := decide (d.length ≤ 400)
def con200 (c : Con) : Bool := decide (c.2.1.length ≤ 200) && decide (c.2.2.1.length ≤ 200)
def smallB (m : Mod) : Bool := decide (m.1.length ≤ 200) && decide (m.2.1.length ≤ 200) && m.1.all len400 && m.2.1.all con200
theorem law08_Small (m : Mod) : Ctr Try.prog 33 [eMod m] [] (.bool (smallB m)) [] := by
  obtain ⟨D, cs, ask, goal⟩ := m
  refine call_pure Try.func33 Try.call33 e_law08_Small ?_
  by_cases h64 : D.length ≤ 200
  · have h64' : ¬ (200 : Int) < D.length := by omega
    by_cases g64 : cs.length ≤ 200
    · have g64' : ¬ (200 : Int) < cs.length := by omega
      simp +contextual -implicitDefEqProofs (maxSteps := 1000000) only [c_law08_Small, eMod, eDoms, eCons, sm, awpOper, awpDo, evP, evBin, evUn, eqInts, fillA, setCells, cutCells, okElems, AV.natOf, natO, maxA, minA, AV.isInt, evSlc, evLoad, setE, evW, AV.cells, AV.okSt, elemsOf, appBase, AV.isSl, resV, tupV, viewN, embB, embT, okR, okC, okL, okEs, ren, renC, renL, renEs, seval, h64', g64']
      refine loop_rule (fun k : Nat => k ≤ D.length ∧ ∀ (j : Nat) x, j < k → D[j]? = some x → len400 x = true) (fun k => tm 46 [(1, .ptr 4 0 0 0), (18, .list 1 (D.map eRgs)), (19, .int .i64 D.length), (20, .int .i64 k)]) (fun _ => [some (4, [eMod (D, cs, ask, goal)])]) (fun k => D.length - k) 0 ⟨by omega, by omega⟩ ⟨[0], by decide, rfl, ?_, ?_⟩ ?_
      · simp +contextual -implicitDefEqProofs (maxSteps := 1000000) only [sm, awpOper, awpDo, evP, evBin, evUn, eqInts, fillA, setCells, cutCells, okElems, AV.natOf, natO, maxA, minA, AV.isInt, evSlc, evLoad, setE, evW, AV.cells, AV.okSt, elemsOf, appBase, AV.isSl, resV, tupV, viewN, embB, embT, okR, okC, okL, okEs, ren, renC, renL, renEs, seval, eMod, eDoms, eCons]
      · simp +contextual -implicitDefEqProofs (maxSteps := 1000000) only [sm, awpOper, awpDo, evP, evBin, evUn, eqInts, fillA, setCells, cutCells, okElems, AV.natOf, natO, maxA, minA, AV.isInt, evSlc, evLoad, setE, evW, AV.cells, AV.okSt, elemsOf, appBase, AV.isSl, resV, tupV, viewN, embB, embT, okR, okC, okL, okEs, ren, renC, renL, renEs, seval, Int.natCast_zero, eMod, eDoms, eCons]
      · rintro k ⟨hk, hok⟩
        by_cases hlt : k < D.length
        · obtain ⟨x, hx⟩ : ∃ r, D[k]? = some r := ⟨_, List.getElem?_eq_getElem hlt⟩
          have hlt' : (k : Int) < (D.length : Int) := by omega
          have e2 : IntKind.i64.wrap ((k : Int) + 1) = ((k + 1 : Nat) : Int) := by rw [wrap_i64] <;> omega
          by_cases h1 : x.length ≤ 400
          · have h1' : ¬ (400 : Int) < x.length := by omega
            simp +contextual -implicitDefEqProofs (maxSteps := 1000000) only [sm, awpOper, awpDo, evP, evBin, evUn, eqInts, fillA, setCells, cutCells, okElems, AV.natOf, natO, maxA, minA, AV.isInt, evSlc, evLoad, setE, evW, AV.cells, AV.okSt, elemsOf, appBase, AV.isSl, resV, tupV, viewN, embB, embT, okR, okC, okL, okEs, ren, renC, renL, renEs, seval, hlt', hx, h1', e2]
            refine ⟨k + 1, ⟨by omega, ?_⟩, by omega, [0], by decide, rfl, ?_, ?_⟩
            · intro j y hj hy
              rcases Nat.lt_succ_iff_lt_or_eq.1 hj with h | rfl
              · first | exact hok j y h hy | simpa using hok j y h hy
              · rw [hx] at hy; injection hy with hy; subst hy; simp [len400, h1]
            · simp +contextual -implicitDefEqProofs (maxSteps := 1000000) only [sm, awpOper, awpDo, evP, evBin, evUn, eqInts, fillA, setCells, cutCells, okElems, AV.natOf, natO, maxA, minA, AV.isInt, evSlc, evLoad, setE, evW, AV.cells, AV.okSt, elemsOf, appBase, AV.isSl, resV, tupV, viewN, embB, embT, okR, okC, okL, okEs, ren, renC, renL, renEs, seval, eMod, eDoms, eCons]
            · simp +contextual -implicitDefEqProofs (maxSteps := 1000000) only [sm, awpOper, awpDo, evP, evBin, evUn, eqInts, fillA, setCells, cutCells, okElems, AV.natOf, natO, maxA, minA, AV.isInt, evSlc, evLoad, setE, evW, AV.cells, AV.okSt, elemsOf, appBase, AV.isSl, resV, tupV, viewN, embB, embT, okR, okC, okL, okEs, ren, renC, renL, renEs, seval, eMod, eDoms, eCons]
          · have h1' : (400 : Int) < x.length := by omega
            simp +contextual -implicitDefEqProofs (maxSteps := 1000000) only [sm, awpOper, awpDo, evP, evBin, evUn, eqInts, fillA, setCells, cutCells, okElems, AV.natOf, natO, maxA, minA, AV.isInt, evSlc, evLoad, setE, evW, AV.cells, AV.okSt, elemsOf, appBase, AV.isSl, resV, tupV, viewN, embB, embT, okR, okC, okL, okEs, ren, renC, renL, renEs, seval, hlt', hx, h1']
            have := listall_no (p := len400) hx (by simp [len400, h1])
            simp [smallB, this]
        · have : k = D.length := by omega
          subst this
          have hall := listall_yes hok
          have hdom := hall
          clear hall hok
          simp +contextual -implicitDefEqProofs (maxSteps := 1000000) only [sm, awpOper, awpDo, evP, evBin, evUn, eqInts, fillA, setCells, cutCells, okElems, AV.natOf, natO, maxA, minA, AV.isInt, evSlc, evLoad, setE, evW, AV.cells, AV.okSt, elemsOf, appBase, AV.isSl, resV, tupV, viewN, embB, embT, okR, okC, okL, okEs, ren, renC, renL, renEs, seval, Int.lt_irrefl, eMod, eCons]
          refine loop_rule (fun k : Nat => k ≤ cs.length ∧ ∀ (j : Nat) x, j < k → cs[j]? = some x → con200 x = true) (fun k => tm 46 [(1, .ptr 4 0 0 0), (29, .list 4 (cs.map eCon)), (30, .int .i64 cs.length), (31, .int .i64 k)]) (fun _ => [some (4, [eMod (D, cs, ask, goal)])]) (fun k => cs.length - k) 0 ⟨by omega, by omega⟩ ⟨[0], by decide, rfl, ?_, ?_⟩ ?_
          · simp +contextual -implicitDefEqProofs (maxSteps := 1000000) only [sm, awpOper, awpDo, evP, evBin, evUn, eqInts, fillA, setCells, cutCells, okElems, AV.natOf, natO, maxA, minA, AV.isInt, evSlc, evLoad, setE, evW, AV.cells, AV.okSt, elemsOf, appBase, AV.isSl, resV, tupV, viewN, embB, embT, okR, okC, okL, okEs, ren, renC, renL, renEs, seval, eMod, eDoms, eCons]
          · simp +contextual -implicitDefEqProofs (maxSteps := 1000000) only [sm, awpOper, awpDo, evP, evBin, evUn, eqInts, fillA, setCells, cutCells, okElems, AV.natOf, natO, maxA, minA, AV.isInt, evSlc, evLoad, setE, evW, AV.cells, AV.okSt, elemsOf, appBase, AV.isSl, resV, tupV, viewN, embB, embT, okR, okC, okL, okEs, ren, renC, renL, renEs, seval, Int.natCast_zero, eMod, eDoms, eCons]
          · rintro k ⟨hk, hok⟩
            by_cases hlt : k < cs.length
            · obtain ⟨x, hx⟩ : ∃ r, cs[k]? = some r := ⟨_, List.getElem?_eq_getElem hlt⟩
              have hlt' : (k : Int) < (cs.length : Int) := by omega
              have e2 : IntKind.i64.wrap ((k : Int) + 1) = ((k + 1 : Nat) : Int) := by rw [wrap_i64] <;> omega
              obtain ⟨K, X, A, C⟩ := x
              by_cases h1 : X.length ≤ 200
              · have h1' : ¬ (200 : Int) < X.length := by omega
                by_cases h2 : A.length ≤ 200
                · have h2' : ¬ (200 : Int) < A.length := by omega
                  simp +contextual -implicitDefEqProofs (maxSteps := 1000000) only [sm, awpOper, awpDo, evP, evBin, evUn, eqInts, fillA, setCells, cutCells, okElems, AV.natOf, natO, maxA, minA, AV.isInt, evSlc, evLoad, setE, evW, AV.cells, AV.okSt, elemsOf, appBase, AV.isSl, resV, tupV, viewN, embB, embT, okR, okC, okL, okEs, ren, renC, renL, renEs, seval, hlt', hx, eIs, h1', h2', e2]
                  refine ⟨k + 1, ⟨by omega, ?_⟩, by omega, [0], by decide, rfl, ?_, ?_⟩
                  · intro j y hj hy
                    rcases Nat.lt_succ_iff_lt_or_eq.1 hj with h | rfl
                    · first | exact hok j y h hy | simpa using hok j y h hy
                    · rw [hx] at hy; injection hy with hy; subst hy; simp [con200, h1, h2]
                  · simp +contextual -implicitDefEqProofs (maxSteps := 1000000) only [sm, awpOper, awpDo, evP, evBin, evUn, eqInts, fillA, setCells, cutCells, okElems, AV.natOf, natO, maxA, minA, AV.isInt, evSlc, evLoad, setE, evW, AV.cells, AV.okSt, elemsOf, appBase, AV.isSl, resV, tupV, viewN, embB, embT, okR, okC, okL, okEs, ren, renC, renL, renEs, seval, eMod, eDoms, eCons]
                  · simp +contextual -implicitDefEqProofs (maxSteps := 1000000) only [sm, awpOper, awpDo, evP, evBin, evUn, eqInts, fillA, setCells, cutCells, okElems, AV.natOf, natO, maxA, minA, AV.isInt, evSlc, evLoad, setE, evW, AV.cells, AV.okSt, elemsOf, appBase, AV.isSl, resV, tupV, viewN, embB, embT, okR, okC, okL, okEs, ren, renC, renL, renEs, seval, eMod, eDoms, eCons]
                · have h2' : (200 : Int) < A.length := by omega
                  simp +contextual -implicitDefEqProofs (maxSteps := 1000000) only [sm, awpOper, awpDo, evP, evBin, evUn, eqInts, fillA, setCells, cutCells, okElems, AV.natOf, natO, maxA, minA, AV.isInt, evSlc, evLoad, setE, evW, AV.cells, AV.okSt, elemsOf, appBase, AV.isSl, resV, tupV, viewN, embB, embT, okR, okC, okL, okEs, ren, renC, renL, renEs, seval, hlt', hx, eIs, h1', h2']
                  have := listall_no (p := con200) hx (by simp [con200, h2])
                  simp [smallB, this]
              · have h1' : (200 : Int) < X.length := by omega
                simp +contextual -implicitDefEqProofs (maxSteps := 1000000) only [sm, awpOper, awpDo, evP, evBin, evUn, eqInts, fillA, setCells, cutCells, okElems, AV.natOf, natO, maxA, minA, AV.isInt, evSlc, evLoad, setE, evW, AV.cells, AV.okSt, elemsOf, appBase, AV.isSl, resV, tupV, viewN, embB, embT, okR, okC, okL, okEs, ren, renC, renL, renEs, seval, hlt', hx, eIs, h1']
                have := listall_no (p := con200) hx (by simp [con200, h1])
                simp [smallB, this]
            · have : k = cs.length := by omega
              subst this
              have hall := listall_yes hok
              simp +contextual -implicitDefEqProofs (maxSteps := 1000000) only [sm, awpOper, awpDo, evP, evBin, evUn, eqInts, fillA, setCells, cutCells, okElems, AV.natOf, natO, maxA, minA, AV.isInt, evSlc, evLoad, setE, evW, AV.cells, AV.okSt, elemsOf, appBase, AV.isSl, resV, tupV, viewN, embB, embT, okR, okC, okL, okEs, ren, renC, renL, renEs, seval, Int.lt_irrefl]
              simp [smallB, h64, g64, hdom, hall]
    · have g64' : (200 : Int) < cs.length := by omega
      simp +contextual -implicitDefEqProofs (maxSteps := 1000000) only [c_law08_Small, eMod, eDoms, eCons, sm, awpOper, awpDo, evP, evBin, evUn, eqInts, fillA, setCells, cutCells, okElems, AV.natOf, natO, maxA, minA, AV.isInt, evSlc, evLoad, setE, evW, AV.cells, AV.okSt, elemsOf, appBase, AV.isSl, resV, tupV, viewN, embB, embT, okR, okC, okL, okEs, ren, renC, renL, renEs, seval, h64', g64']
      simp [smallB, g64]
  · have h64' : (200 : Int) < D.length := by omega
    simp +contextual -implicitDefEqProofs (maxSteps := 1000000) only [c_law08_Small, eMod, eDoms, eCons, sm, awpOper, awpDo, evP, evBin, evUn, eqInts, fillA, setCells, cutCells, okElems, AV.natOf, natO, maxA, minA, AV.isInt, evSlc, evLoad, setE, evW, AV.cells, AV.okSt, elemsOf, appBase, AV.isSl, resV, tupV, viewN, embB, embT, okR, okC, okL, okEs, ren, renC, renL, renEs, seval, h64']
    simp [smallB, h64]
def fitsB (c : Con) (D : List (List Rg)) : Bool := smallB (D, [c], 0, 0) && decide (D.length ≤ 100)
theorem law12_Fits (c : Con) (D : List (List Rg)) : Ctr Try.prog 15 [eCon c, eDoms D] [] (.bool (fitsB c D)) [] := by
  refine call_pure Try.func15 Try.call15 e_law12_Fits ?_
  obtain ⟨K, X, A, C⟩ := c
  simp +contextual -implicitDefEqProofs (maxSteps := 1000000) only [c_law12_Fits, eCon, eIs, eDoms, sm, awpOper, awpDo, evP, evBin, evUn, eqInts, fillA, setCells, cutCells, okElems, AV.natOf, natO, maxA, minA, AV.isInt, evSlc, evLoad, setE, evW, AV.cells, AV.okSt, elemsOf, appBase, AV.isSl, resV, tupV, viewN, embB, embT, okR, okC, okL, okEs, ren, renC, renL, renEs, seval]
  refine callA_rule (law08_Small (D, [(K, X, A, C)], 0, 0)) (wkL_refl _) rfl ?_
  cases hs : smallB (D, [(K, X, A, C)], 0, 0)
  · simp +contextual -implicitDefEqProofs (maxSteps := 1000000) only [sm, awpOper, awpDo, evP, evBin, evUn, eqInts, fillA, setCells, cutCells, okElems, AV.natOf, natO, maxA, minA, AV.isInt, evSlc, evLoad, setE, evW, AV.cells, AV.okSt, elemsOf, appBase, AV.isSl, resV, tupV, viewN, embB, embT, okR, okC, okL, okEs, ren, renC, renL, renEs, seval]
    simp [fitsB, hs]
  · simp +contextual -implicitDefEqProofs (maxSteps := 1000000) only [sm, awpOper, awpDo, evP, evBin, evUn, eqInts, fillA, setCells, cutCells, okElems, AV.natOf, natO, maxA, minA, AV.isInt, evSlc, evLoad, setE, evW, AV.cells, AV.okSt, elemsOf, appBase, AV.isSl, resV, tupV, viewN, embB, embT, okR, okC, okL, okEs, ren, renC, renL, renEs, seval]
    simp only [fitsB, hs, Bool.true_and, decide_eq_decide]
    omega
/-- a constraint and domains that fit -/
def fitB (c : Con) (D : List (List Rg)) : Bool := modB (D, [c], 0, 0)
theorem ref12_Fit (c : Con) (D : List (List Rg)) (hD : D.length ≤ 1000000000000) (hd : ∀ d ∈ D, d.length ≤ 1000000000000) (hc : conFits c) : Ctr Try.prog 30 [eCon c, eDoms D] [] (.bool (fitB c D)) [] := by
  refine call_pure Try.func30 Try.call30 e_ref12_Fit ?_
  obtain ⟨K, X, A, C⟩ := c
  simp +contextual -implicitDefEqProofs (maxSteps := 1000000) only [c_ref12_Fit, eCon, eIs, eDoms, sm, awpOper, awpDo, evP, evBin, evUn, eqInts, fillA, setCells, cutCells, okElems, AV.natOf, natO, maxA, minA, AV.isInt, evSlc, evLoad, setE, evW, AV.cells, AV.okSt, elemsOf, appBase, AV.isSl, resV, tupV, viewN, embB, embT, okR, okC, okL, okEs, ren, renC, renL, renEs, seval]
  refine callA_rule (ref08_Right (D, [(K, X, A, C)], 0, 0) hD hd (by simp) (by simpa using hc)) (wkL_refl _) rfl ?_
  simp +contextual -implicitDefEqProofs (maxSteps := 1000000) only [sm, awpOper, awpDo, evP, evBin, evUn, eqInts, fillA, setCells, cutCells, okElems, AV.natOf, natO, maxA, minA, AV.isInt, evSlc, evLoad, setE, evW, AV.cells, AV.okSt, elemsOf, appBase, AV.isSl, resV, tupV, viewN, embB, embT, okR, okC, okL, okEs, ren, renC, renL, renEs, seval]
  rfl
theorem fits_facts {c : Con} {D : List (List Rg)} (h : fitsB c D = true) : D.length ≤ 100 ∧ (∀ d ∈ D, d.length ≤ 400) ∧ c.2.1.length ≤ 200 ∧ c.2.2.1.length ≤ 200 := by
  simp only [fitsB, smallB, con200, len400, Bool.and_eq_true, decide_eq_true_eq, List.all_eq_true] at h
  obtain ⟨⟨⟨⟨_, _⟩, h1⟩, h2⟩, h3⟩ := h
  exact ⟨h3, h1, (h2 c (by simp)).1, (h2 c (by simp)).2⟩
end Go.Proofs.Ytclpkkbamgmooaa
