/- What the functions of package ref11 compute, continued: Asked, Holds. -/
import Derived.Test.YtclpkkbamgmooaaWRef11
namespace Go.Proofs.Ytclpkkbamgmooaa
open Av
attribute [local irreducible] awp awpOpers
set_option linter.unusedSimpArgs false
set_option linter.unusedVariables false
set_option maxRecDepth 100000
set_option maxHeartbeats 4000000
def upN (n : Nat) : List Int := (List.range n).map fun i : Nat => (i : Int)
theorem up_len (n : Nat) : (upN n).length = n := by unfold upN; rw [List.length_map, List.length_range]
theorem up_get {n k : Nat} (h : k < n) : (upN n)[k]? = some (k : Int) := by
  unfold upN
  rw [List.getElem?_map, List.getElem?_range h]; rfl
def oneD (V : List Int) : List (List Rg) := V.map fun v => [(v, v)]
theorem one_get {V : List Int} {k : Nat} {v : Int} (h : V[k]? = some v) : (oneD V)[k]? = some [(v, v)] := by
  unfold oneD
  rw [List.getElem?_map, h]; rfl
def idxB (a : List Int) (x : Int) : Bool := decide (0 ≤ x) && decide (x < a.length) && withinB (xat a x.toNat)
/-- is a constraint asked rightly? -/
def askdB (c : Con) (a : List Int) : Bool :=
  decide (c.2.2.1.length ≤ 128) && decide (c.2.1.length ≤ 32) && c.2.1.all (idxB a) && mayB (oneD (valsOf c.2.1 a)) (c.1, upN c.2.1.length, c.2.2.1, c.2.2.2)
theorem ref11_Asked (c : Con) (a : List Int) (hA : c.2.2.1.length ≤ 1000000000000) (hX : c.2.1.length ≤ 1000000000000) (ha : a.length ≤ 1000000000000) : Ctr Try.prog 93 [eCon c, eIs a] [] (.bool (askdB c a)) [] := by
  obtain ⟨K, X, A, C⟩ := c
  simp only at hA hX
  refine call_pure Try.func93 Try.call93 e_ref11_Asked ?_
  by_cases h1 : A.length ≤ 128
  · have h1' : ¬ (128 : Int) < (A.length : Int) := by omega
    by_cases h2 : X.length ≤ 32
    · have h2' : ¬ (32 : Int) < (X.length : Int) := by omega
      have hask : askdB (K, X, A, C) a = (X.all (idxB a) && mayB (oneD (valsOf X a)) (K, upN X.length, A, C)) := by simp [askdB, h1, h2]
      simp +contextual -implicitDefEqProofs (maxSteps := 1000000) only [c_ref11_Asked, eCon, eIs, sm, awpOper, awpDo, evP, evBin, evUn, eqInts, fillA, setCells, cutCells, okElems, AV.natOf, natO, maxA, minA, AV.isInt, evSlc, evLoad, setE, evW, AV.cells, AV.okSt, elemsOf, appBase, AV.isSl, resV, tupV, viewN, embB, embT, okR, okC, okL, okEs, ren, renC, renL, renEs, seval, h1', h2']
      refine loop_rule (fun k : Nat => k ≤ X.length ∧ ∀ (j : Nat) x, j < k → X[j]? = some x → idxB a x = true) (fun k => tm 91 [(1, .list 1 (a.map eI)), (2, .ptr 4 0 0 0), (5, .ptr 4 1 0 0), (6, .int .i64 k)]) (fun k => [some (4, [eCon (K, X, A, C)]), some (4, [.agg [.nils, .nils, .int .i64 0, .int .i64 0]])]) (fun k => X.length - k) 0 ⟨Nat.zero_le _, by omega⟩ ⟨[0, 1], by decide, rfl, ?_, ?_⟩ ?_
      · simp +contextual -implicitDefEqProofs (maxSteps := 1000000) only [sm, awpOper, awpDo, evP, evBin, evUn, eqInts, fillA, setCells, cutCells, okElems, AV.natOf, natO, maxA, minA, AV.isInt, evSlc, evLoad, setE, evW, AV.cells, AV.okSt, elemsOf, appBase, AV.isSl, resV, tupV, viewN, embB, embT, okR, okC, okL, okEs, ren, renC, renL, renEs, seval, eCon, eIs]
      · simp +contextual -implicitDefEqProofs (maxSteps := 1000000) only [sm, awpOper, awpDo, evP, evBin, evUn, eqInts, fillA, setCells, cutCells, okElems, AV.natOf, natO, maxA, minA, AV.isInt, evSlc, evLoad, setE, evW, AV.cells, AV.okSt, elemsOf, appBase, AV.isSl, resV, tupV, viewN, embB, embT, okR, okC, okL, okEs, ren, renC, renL, renEs, seval, Int.natCast_zero]
      · rintro k ⟨hk, hok⟩
        by_cases hlt : k < X.length
        · have hlt' : (k : Int) < (X.length : Int) := by omega
          have e2 : IntKind.i64.wrap ((k : Int) + 1) = ((k + 1 : Nat) : Int) := by rw [wrap_i64] <;> omega
          obtain ⟨x, hx⟩ : ∃ r, X[k]? = some r := ⟨_, List.getElem?_eq_getElem hlt⟩
          have hno : idxB a x = false → askdB (K, X, A, C) a = false := fun h => by rw [hask, listall_no hx h]; rfl
          unfold idxB at hno
          by_cases x0 : x < 0
          · rw [hno (by simp; omega)]
            simp +contextual -implicitDefEqProofs (maxSteps := 1000000) only [sm, awpOper, awpDo, evP, evBin, evUn, eqInts, fillA, setCells, cutCells, okElems, AV.natOf, natO, maxA, minA, AV.isInt, evSlc, evLoad, setE, evW, AV.cells, AV.okSt, elemsOf, appBase, AV.isSl, resV, tupV, viewN, embB, embT, okR, okC, okL, okEs, ren, renC, renL, renEs, seval, eCon, eIs, hlt', hx, x0]
          · by_cases x1 : (a.length : Int) ≤ x
            · rw [hno (by simp; omega)]
              simp +contextual -implicitDefEqProofs (maxSteps := 1000000) only [sm, awpOper, awpDo, evP, evBin, evUn, eqInts, fillA, setCells, cutCells, okElems, AV.natOf, natO, maxA, minA, AV.isInt, evSlc, evLoad, setE, evW, AV.cells, AV.okSt, elemsOf, appBase, AV.isSl, resV, tupV, viewN, embB, embT, okR, okC, okL, okEs, ren, renC, renL, renEs, seval, eCon, eIs, hlt', hx, x0, x1]
            · have x0' : 0 ≤ x := by omega
              have x1' : x < (a.length : Int) := by omega
              have hv : a[x.toNat]? = some (xat a x.toNat) := xat_get (by omega)
              simp +contextual -implicitDefEqProofs (maxSteps := 1000000) only [sm, awpOper, awpDo, evP, evBin, evUn, eqInts, fillA, setCells, cutCells, okElems, AV.natOf, natO, maxA, minA, AV.isInt, evSlc, evLoad, setE, evW, AV.cells, AV.okSt, elemsOf, appBase, AV.isSl, resV, tupV, viewN, embB, embT, okR, okC, okL, okEs, ren, renC, renL, renEs, seval, eCon, eIs, hlt', hx, x0, x1, x0', x1', hv]
              refine callA_rule (ref08_Within _) (wkL_refl _) rfl ?_
              cases hw : withinB (xat a x.toNat)
              · rw [hno (by simp [hw])]
                simp +contextual -implicitDefEqProofs (maxSteps := 1000000) only [sm, awpOper, awpDo, evP, evBin, evUn, eqInts, fillA, setCells, cutCells, okElems, AV.natOf, natO, maxA, minA, AV.isInt, evSlc, evLoad, setE, evW, AV.cells, AV.okSt, elemsOf, appBase, AV.isSl, resV, tupV, viewN, embB, embT, okR, okC, okL, okEs, ren, renC, renL, renEs, seval]
              · simp +contextual -implicitDefEqProofs (maxSteps := 1000000) only [sm, awpOper, awpDo, evP, evBin, evUn, eqInts, fillA, setCells, cutCells, okElems, AV.natOf, natO, maxA, minA, AV.isInt, evSlc, evLoad, setE, evW, AV.cells, AV.okSt, elemsOf, appBase, AV.isSl, resV, tupV, viewN, embB, embT, okR, okC, okL, okEs, ren, renC, renL, renEs, seval, e2]
                refine ⟨k + 1, ⟨by omega, ?_⟩, by omega, [0, 1], by decide, rfl, ?_, ?_⟩
                · intro j y hj hy
                  rcases Nat.lt_succ_iff_lt_or_eq.1 hj with h | rfl
                  · exact hok j y h hy
                  · rw [hx] at hy; injection hy with hy; subst hy
                    simp [idxB, hw, x0', x1']
                · simp +contextual -implicitDefEqProofs (maxSteps := 1000000) only [sm, awpOper, awpDo, evP, evBin, evUn, eqInts, fillA, setCells, cutCells, okElems, AV.natOf, natO, maxA, minA, AV.isInt, evSlc, evLoad, setE, evW, AV.cells, AV.okSt, elemsOf, appBase, AV.isSl, resV, tupV, viewN, embB, embT, okR, okC, okL, okEs, ren, renC, renL, renEs, seval, eCon, eIs]
                · simp +contextual -implicitDefEqProofs (maxSteps := 1000000) only [sm, awpOper, awpDo, evP, evBin, evUn, eqInts, fillA, setCells, cutCells, okElems, AV.natOf, natO, maxA, minA, AV.isInt, evSlc, evLoad, setE, evW, AV.cells, AV.okSt, elemsOf, appBase, AV.isSl, resV, tupV, viewN, embB, embT, okR, okC, okL, okEs, ren, renC, renL, renEs, seval]
        · have hkn : k = X.length := by omega
          subst hkn
          have hall := listall_yes hok
          rw [hall, Bool.true_and] at hask
          rw [hask]
          have hi : Idx X a := fun x hx => by
            have := List.all_eq_true.1 hall x hx
            unfold idxB at this
            simp only [Bool.and_eq_true, decide_eq_true_eq] at this
            exact this.1
          have hVl : (valsOf X a).length = X.length := by unfold valsOf; rw [List.length_map]
          have hDl : (oneD (valsOf X a)).length = X.length := by unfold oneD; rw [List.length_map, hVl]
          have hUl := up_len X.length
          have hDk : ∀ (j : Nat) x, X[j]? = some x → (oneD (valsOf X a))[j]? = some [(xat a x.toNat, xat a x.toNat)] := fun j x h => one_get (vals_get h)
          have hUk : ∀ j, j < X.length → (upN X.length)[j]? = some (j : Int) := fun j h => up_get h
          have hbd : ∀ d ∈ oneD (valsOf X a), d.length ≤ 1000000000000 := by
            intro d hd
            unfold oneD at hd
            obtain ⟨v, -, rfl⟩ := List.mem_map.1 hd
            simp
          generalize oneD (valsOf X a) = D at hDl hDk hbd ⊢
          generalize upN X.length = U at hUl hUk ⊢
          simp +contextual -implicitDefEqProofs (maxSteps := 1000000) only [sm, awpOper, awpDo, evP, evBin, evUn, eqInts, fillA, setCells, cutCells, okElems, AV.natOf, natO, maxA, minA, AV.isInt, evSlc, evLoad, setE, evW, AV.cells, AV.okSt, elemsOf, appBase, AV.isSl, resV, tupV, viewN, embB, embT, okR, okC, okL, okEs, ren, renC, renL, renEs, seval, eCon, eIs, Int.lt_irrefl]
          refine loop_ruleF [(1, 0, 1), (2, 1, 1)] [] (fun k : Nat => k ≤ X.length) (fun k => tm 91 [(1, .list 1 (a.map eI)), (2, .ptr 4 0 0 0), (5, .ptr 4 1 0 0), (7, .ptr 4 2 0 0), (8, .int .i64 k)])
            (fun k => [some (4, [eCon (K, X, A, C)]), some (4, [.agg [.sl 1 3 0 k, .nils, .int .i64 0, .int .i64 0]]), some (4, [.agg [.int .i64 K, .sl 1 4 0 k, eIs A, .int .i64 C]]), some (1, (D.take k).map eRgs), some (1, (U.take k).map eI)]) (fun k => X.length - k) 0 (by simp +contextual -implicitDefEqProofs (maxSteps := 1000000) only [sm, awpOper, awpDo, evP, evBin, evUn, eqInts, fillA, setCells, cutCells, okElems, AV.natOf, natO, maxA, minA, AV.isInt, evSlc, evLoad, setE, evW, AV.cells, AV.okSt, elemsOf, appBase, AV.isSl, resV, tupV, viewN, embB, embT, okR, okC, okL, okEs, ren, renC, renL, renEs, seval, eCon, eIs]) rfl (Nat.zero_le _) ⟨[0, 1, 2, 3, 4], by decide, rfl, ?_, ?_⟩ ?_
          · simp +contextual -implicitDefEqProofs (maxSteps := 1000000) only [sm, awpOper, awpDo, evP, evBin, evUn, eqInts, fillA, setCells, cutCells, okElems, AV.natOf, natO, maxA, minA, AV.isInt, evSlc, evLoad, setE, evW, AV.cells, AV.okSt, elemsOf, appBase, AV.isSl, resV, tupV, viewN, embB, embT, okR, okC, okL, okEs, ren, renC, renL, renEs, seval, eCon, eIs]
          · simp +contextual -implicitDefEqProofs (maxSteps := 1000000) only [sm, awpOper, awpDo, evP, evBin, evUn, eqInts, fillA, setCells, cutCells, okElems, AV.natOf, natO, maxA, minA, AV.isInt, evSlc, evLoad, setE, evW, AV.cells, AV.okSt, elemsOf, appBase, AV.isSl, resV, tupV, viewN, embB, embT, okR, okC, okL, okEs, ren, renC, renL, renEs, seval, Int.natCast_zero]
          · intro k hk
            have hkD : (D.take k).length = k := by rw [List.length_take]; omega
            have hkU : (U.take k).length = k := by rw [List.length_take]; omega
            by_cases hlt : k < X.length
            · have hlt' : (k : Int) < (X.length : Int) := by omega
              have e2 : IntKind.i64.wrap ((k : Int) + 1) = ((k + 1 : Nat) : Int) := by rw [wrap_i64] <;> omega
              obtain ⟨x, hx⟩ : ∃ r, X[k]? = some r := ⟨_, List.getElem?_eq_getElem hlt⟩
              obtain ⟨x0, x1⟩ := hi x (List.mem_of_getElem? hx)
              have hv := idx_get hi hx
              have hs1 := take_snoc (hDk k x hx)
              have hs2 := take_snoc (hUk k hlt)
              have c1 : (k + 1) * 24 ≤ 140737488355328 := by omega
              have c3 : (k + 1) * 8 ≤ 140737488355328 := by omega
              have c2 : k + 1 ≤ maxLen := by unfold maxLen; omega
              generalize xat a x.toNat = v at hv hs1
              have hone : (D.take k).map eRgs ++ [AV.list 2 [AV.agg [.int .i64 v, .int .i64 v]]] = (D.take (k + 1)).map eRgs := by rw [← hs1]; simp [eRgs, eRg]
              simp +contextual -implicitDefEqProofs (maxSteps := 1000000) only [sm, awpOper, awpDo, evP, evBin, evUn, eqInts, fillA, setCells, cutCells, okElems, AV.natOf, natO, maxA, minA, AV.isInt, evSlc, evLoad, setE, evW, AV.cells, AV.okSt, elemsOf, appBase, AV.isSl, resV, tupV, viewN, embB, embT, okR, okC, okL, okEs, ren, renC, renL, renEs, seval, eCon, eIs, hlt', hlt, hx, hv, x0, x1, hkD, hkU, c1, c2, c3, hone, hs2, e2]
              refine ⟨k + 1, by omega, by omega, [0, 1, 2, 5, 6], by decide, rfl, ?_, ?_⟩
              · simp +contextual -implicitDefEqProofs (maxSteps := 1000000) only [sm, awpOper, awpDo, evP, evBin, evUn, eqInts, fillA, setCells, cutCells, okElems, AV.natOf, natO, maxA, minA, AV.isInt, evSlc, evLoad, setE, evW, AV.cells, AV.okSt, elemsOf, appBase, AV.isSl, resV, tupV, viewN, embB, embT, okR, okC, okL, okEs, ren, renC, renL, renEs, seval, eCon, eIs]
              · simp +contextual -implicitDefEqProofs (maxSteps := 1000000) only [sm, awpOper, awpDo, evP, evBin, evUn, eqInts, fillA, setCells, cutCells, okElems, AV.natOf, natO, maxA, minA, AV.isInt, evSlc, evLoad, setE, evW, AV.cells, AV.okSt, elemsOf, appBase, AV.isSl, resV, tupV, viewN, embB, embT, okR, okC, okL, okEs, ren, renC, renL, renEs, seval]
            · have hkn : k = X.length := by omega
              subst hkn
              have t0 : D.take X.length = D := by rw [← hDl, List.take_length]
              have t1 : U.take X.length = U := by rw [← hUl, List.take_length]
              rw [t0, t1]
              simp +contextual -implicitDefEqProofs (maxSteps := 1000000) only [sm, awpOper, awpDo, evP, evBin, evUn, eqInts, fillA, setCells, cutCells, okElems, AV.natOf, natO, maxA, minA, AV.isInt, evSlc, evLoad, setE, evW, AV.cells, AV.okSt, elemsOf, appBase, AV.isSl, resV, tupV, viewN, embB, embT, okR, okC, okL, okEs, ren, renC, renL, renEs, seval, eCon, eIs, Int.lt_irrefl]
              refine callV_rule (ref08_Con (D, [], 0, 0) (K, U, A, C) (by simp only; omega) hbd (by simp only; omega) hA) ?_ rfl ?_
              · have u1 : (X.length ≤ D.length) = True := by rw [hDl]; simp
                have u2 : (X.length ≤ U.length) = True := by rw [hUl]; simp
                have u3 : (D.map eRgs).take X.length = D.map eRgs := by rw [← List.map_take, t0]
                have u4 : (U.map eI).take X.length = U.map eI := by rw [← List.map_take, t1]
                simp +contextual -implicitDefEqProofs (maxSteps := 1000000) only [sm, awpOper, awpDo, evP, evBin, evUn, eqInts, fillA, setCells, cutCells, okElems, AV.natOf, natO, maxA, minA, AV.isInt, evSlc, evLoad, setE, evW, AV.cells, AV.okSt, elemsOf, appBase, AV.isSl, resV, tupV, viewN, embB, embT, okR, okC, okL, okEs, ren, renC, renL, renEs, seval, eMod, eCon, eIs, eDoms, eCons, u1, u2, u3, u4]
              simp +contextual -implicitDefEqProofs (maxSteps := 1000000) only [sm, awpOper, awpDo, evP, evBin, evUn, eqInts, fillA, setCells, cutCells, okElems, AV.natOf, natO, maxA, minA, AV.isInt, evSlc, evLoad, setE, evW, AV.cells, AV.okSt, elemsOf, appBase, AV.isSl, resV, tupV, viewN, embB, embT, okR, okC, okL, okEs, ren, renC, renL, renEs, seval]
    · have h2' : (32 : Int) < (X.length : Int) := by omega
      simp +contextual -implicitDefEqProofs (maxSteps := 1000000) only [c_ref11_Asked, eCon, eIs, sm, awpOper, awpDo, evP, evBin, evUn, eqInts, fillA, setCells, cutCells, okElems, AV.natOf, natO, maxA, minA, AV.isInt, evSlc, evLoad, setE, evW, AV.cells, AV.okSt, elemsOf, appBase, AV.isSl, resV, tupV, viewN, embB, embT, okR, okC, okL, okEs, ren, renC, renL, renEs, seval, h1', h2']
      simp [askdB, h2]
  · have h1' : (128 : Int) < (A.length : Int) := by omega
    simp +contextual -implicitDefEqProofs (maxSteps := 1000000) only [c_ref11_Asked, eCon, eIs, sm, awpOper, awpDo, evP, evBin, evUn, eqInts, fillA, setCells, cutCells, okElems, AV.natOf, natO, maxA, minA, AV.isInt, evSlc, evLoad, setE, evW, AV.cells, AV.okSt, elemsOf, appBase, AV.isSl, resV, tupV, viewN, embB, embT, okR, okC, okL, okEs, ren, renC, renL, renEs, seval, h1']
    simp [askdB, h1]
end Go.Proofs.Ytclpkkbamgmooaa
