/- What the functions of package ref11 compute: values, sum, lin, count, clause, Asked. -/
import Derived.Test.YtclpkkbamgmooaaWRef08e
import Derived.Test.YtclpkkbamgmooaaPlEvery
import Derived.Test.YtclpkkbamgmooaaCRef11
namespace Go.Proofs.Ytclpkkbamgmooaa
open Av
attribute [local irreducible] awp awpOpers
set_option linter.unusedSimpArgs false
set_option linter.unusedVariables false
set_option maxRecDepth 100000
set_option maxHeartbeats 4000000
def valsOf (X a : List Int) : List Int := X.map fun x => xat a x.toNat
theorem vals_get {X a : List Int} {i : Nat} {x : Int} (h : X[i]? = some x) : (valsOf X a)[i]? = some (xat a x.toNat) := by
  unfold valsOf
  rw [List.getElem?_map, h]; rfl
def Idx (X a : List Int) : Prop := ∀ x ∈ X, 0 ≤ x ∧ x < a.length
theorem idx_get {X a : List Int} (h : Idx X a) {i : Nat} {x : Int} (hx : X[i]? = some x) : a[x.toNat]? = some (xat a x.toNat) := by
  have := h x (List.mem_of_getElem? hx)
  exact xat_get (by omega)
theorem ref11_values (c : Con) (a : List Int) (hX : c.2.1.length ≤ 1000000000000) (hi : Idx c.2.1 a) : Ctr Try.prog 94 [eCon c, eIs a] [] (eIs (valsOf c.2.1 a)) [] := by
  obtain ⟨K, X, A, C⟩ := c
  simp only at hX hi ⊢
  refine call_pure Try.func94 Try.call94 e_ref11_values ?_
  simp +contextual -implicitDefEqProofs (maxSteps := 1000000) only [c_ref11_values, eCon, eIs, sm, awpOper, awpDo, evP, evBin, evUn, eqInts, fillA, setCells, cutCells, okElems, AV.natOf, natO, maxA, minA, AV.isInt, evSlc, evLoad, setE, evW, AV.cells, AV.okSt, elemsOf, appBase, AV.isSl, resV, tupV, viewN, embB, embT, okR, okC, okL, okEs, ren, renC, renL, renEs, seval]
  have hVl : (valsOf X a).length = X.length := by unfold valsOf; rw [List.length_map]
  refine loop_ruleV [(5, 1)] (fun k : Nat => k ≤ X.length) (fun k => tm 26 [(1, .list 1 (a.map eI)), (2, .ptr 4 0 0 0), (5, .sl 1 1 0 k), (6, .int .i64 k)]) (fun k => [some (4, [eCon (K, X, A, C)]), some (1, ((valsOf X a).take k).map eI)]) (fun k => X.length - k) 0 (by simp +contextual -implicitDefEqProofs (maxSteps := 1000000) only [sm, awpOper, awpDo, evP, evBin, evUn, eqInts, fillA, setCells, cutCells, okElems, AV.natOf, natO, maxA, minA, AV.isInt, evSlc, evLoad, setE, evW, AV.cells, AV.okSt, elemsOf, appBase, AV.isSl, resV, tupV, viewN, embB, embT, okR, okC, okL, okEs, ren, renC, renL, renEs, seval]) (Nat.zero_le _) ⟨[0, 1], by decide, rfl, ?_, ?_⟩ ?_
  · simp +contextual -implicitDefEqProofs (maxSteps := 1000000) only [sm, awpOper, awpDo, evP, evBin, evUn, eqInts, fillA, setCells, cutCells, okElems, AV.natOf, natO, maxA, minA, AV.isInt, evSlc, evLoad, setE, evW, AV.cells, AV.okSt, elemsOf, appBase, AV.isSl, resV, tupV, viewN, embB, embT, okR, okC, okL, okEs, ren, renC, renL, renEs, seval, eCon, eIs]
  · simp +contextual -implicitDefEqProofs (maxSteps := 1000000) only [sm, awpOper, awpDo, evP, evBin, evUn, eqInts, fillA, setCells, cutCells, okElems, AV.natOf, natO, maxA, minA, AV.isInt, evSlc, evLoad, setE, evW, AV.cells, AV.okSt, elemsOf, appBase, AV.isSl, resV, tupV, viewN, embB, embT, okR, okC, okL, okEs, ren, renC, renL, renEs, seval, Int.natCast_zero]
  · intro k hk
    have hkl : ((valsOf X a).take k).length = k := by rw [List.length_take]; omega
    by_cases hlt : k < X.length
    · have hlt' : (k : Int) < (X.length : Int) := by omega
      have e2 : IntKind.i64.wrap ((k : Int) + 1) = ((k + 1 : Nat) : Int) := by rw [wrap_i64] <;> omega
      obtain ⟨x, hx⟩ : ∃ r, X[k]? = some r := ⟨_, List.getElem?_eq_getElem hlt⟩
      obtain ⟨x0, x1⟩ := hi x (List.mem_of_getElem? hx)
      have hs := take_snoc (vals_get (a := a) hx)
      have hv := idx_get hi hx
      have c1 : (k + 1) * 8 ≤ 140737488355328 := by omega
      have c2 : k + 1 ≤ maxLen := by unfold maxLen; omega
      simp +contextual -implicitDefEqProofs (maxSteps := 1000000) only [sm, awpOper, awpDo, evP, evBin, evUn, eqInts, fillA, setCells, cutCells, okElems, AV.natOf, natO, maxA, minA, AV.isInt, evSlc, evLoad, setE, evW, AV.cells, AV.okSt, elemsOf, appBase, AV.isSl, resV, tupV, viewN, embB, embT, okR, okC, okL, okEs, ren, renC, renL, renEs, seval, eCon, eIs, hlt', hlt, hx, hv, x0, x1, hkl, c1, c2, hs, e2]
      refine ⟨k + 1, by omega, by omega, [0, 2], by decide, rfl, ?_, ?_⟩
      · simp +contextual -implicitDefEqProofs (maxSteps := 1000000) only [sm, awpOper, awpDo, evP, evBin, evUn, eqInts, fillA, setCells, cutCells, okElems, AV.natOf, natO, maxA, minA, AV.isInt, evSlc, evLoad, setE, evW, AV.cells, AV.okSt, elemsOf, appBase, AV.isSl, resV, tupV, viewN, embB, embT, okR, okC, okL, okEs, ren, renC, renL, renEs, seval, eCon, eIs]
      · simp +contextual -implicitDefEqProofs (maxSteps := 1000000) only [sm, awpOper, awpDo, evP, evBin, evUn, eqInts, fillA, setCells, cutCells, okElems, AV.natOf, natO, maxA, minA, AV.isInt, evSlc, evLoad, setE, evW, AV.cells, AV.okSt, elemsOf, appBase, AV.isSl, resV, tupV, viewN, embB, embT, okR, okC, okL, okEs, ren, renC, renL, renEs, seval]
    · have hkn : k = X.length := by omega
      subst hkn
      have t0 : (valsOf X a).take X.length = valsOf X a := by rw [← hVl, List.take_length]
      rw [t0]
      simp +contextual -implicitDefEqProofs (maxSteps := 1000000) only [sm, awpOper, awpDo, evP, evBin, evUn, eqInts, fillA, setCells, cutCells, okElems, AV.natOf, natO, maxA, minA, AV.isInt, evSlc, evLoad, setE, evW, AV.cells, AV.okSt, elemsOf, appBase, AV.isSl, resV, tupV, viewN, embB, embT, okR, okC, okL, okEs, ren, renC, renL, renEs, seval, eCon, eIs, Int.lt_irrefl, hVl]
      try (rw [← hVl]; simp +contextual -implicitDefEqProofs (maxSteps := 1000000) only [sm, awpOper, awpDo, evP, evBin, evUn, eqInts, fillA, setCells, cutCells, okElems, AV.natOf, natO, maxA, minA, AV.isInt, evSlc, evLoad, setE, evW, AV.cells, AV.okSt, elemsOf, appBase, AV.isSl, resV, tupV, viewN, embB, embT, okR, okC, okL, okEs, ren, renC, renL, renEs, seval])
def sumN (A V : List Int) : Nat → Int
  | 0 => 0
  | k + 1 => sumN A V k + xat A k * xat V k
def Sm (l : List Int) : Prop := ∀ x ∈ l, -1048576 ≤ x ∧ x ≤ 1048576
theorem sm_at {l : List Int} (h : Sm l) (k : Nat) : -1048576 ≤ xat l k ∧ xat l k ≤ 1048576 := by
  unfold xat
  cases hk : l[k]? with
  | none => decide
  | some x => exact h x (List.mem_of_getElem? hk)
theorem sumN_bound {A V : List Int} (hA : Sm A) (hV : Sm V) : ∀ k : Nat, -1099511627776 * k ≤ sumN A V k ∧ sumN A V k ≤ 1099511627776 * k
  | 0 => by simp [sumN]
  | k + 1 => by
    have h1 := sumN_bound hA hV k
    have h2 := mul_bound (sm_at hA k) (sm_at hV k)
    unfold sumN
    omega
theorem ref11_sum (c : Con) (V : List Int) (hA : c.2.2.1.length ≤ 128) (hV : c.2.2.1.length ≤ V.length) (sA : Sm c.2.2.1) (sV : Sm V) : Ctr Try.prog 119 [eCon c, eIs V] [] (.int .i64 (sumN c.2.2.1 V c.2.2.1.length)) [] := by
  obtain ⟨K, X, A, C⟩ := c
  simp only at hA hV sA sV ⊢
  refine call_pure Try.func119 Try.call119 e_ref11_sum ?_
  simp +contextual -implicitDefEqProofs (maxSteps := 1000000) only [c_ref11_sum, eCon, eIs, sm, awpOper, awpDo, evP, evBin, evUn, eqInts, fillA, setCells, cutCells, okElems, AV.natOf, natO, maxA, minA, AV.isInt, evSlc, evLoad, setE, evW, AV.cells, AV.okSt, elemsOf, appBase, AV.isSl, resV, tupV, viewN, embB, embT, okR, okC, okL, okEs, ren, renC, renL, renEs, seval]
  refine loop_rule (fun k : Nat => k ≤ A.length) (fun k => tm 27 [(1, .list 1 (V.map eI)), (2, .ptr 4 0 0 0), (5, .int .i64 (sumN A V k)), (6, .int .i64 k)]) (fun k => [some (4, [eCon (K, X, A, C)])]) (fun k => A.length - k) 0 (Nat.zero_le _) ⟨[0], by decide, rfl, ?_, ?_⟩ ?_
  · simp +contextual -implicitDefEqProofs (maxSteps := 1000000) only [sm, awpOper, awpDo, evP, evBin, evUn, eqInts, fillA, setCells, cutCells, okElems, AV.natOf, natO, maxA, minA, AV.isInt, evSlc, evLoad, setE, evW, AV.cells, AV.okSt, elemsOf, appBase, AV.isSl, resV, tupV, viewN, embB, embT, okR, okC, okL, okEs, ren, renC, renL, renEs, seval, eCon, eIs]
  · simp +contextual -implicitDefEqProofs (maxSteps := 1000000) only [sm, awpOper, awpDo, evP, evBin, evUn, eqInts, fillA, setCells, cutCells, okElems, AV.natOf, natO, maxA, minA, AV.isInt, evSlc, evLoad, setE, evW, AV.cells, AV.okSt, elemsOf, appBase, AV.isSl, resV, tupV, viewN, embB, embT, okR, okC, okL, okEs, ren, renC, renL, renEs, seval, Int.natCast_zero, sumN]
  · intro k hk
    by_cases hlt : k < A.length
    · have hlt' : (k : Int) < (A.length : Int) := by omega
      have e2 : IntKind.i64.wrap ((k : Int) + 1) = ((k + 1 : Nat) : Int) := by rw [wrap_i64] <;> omega
      have hx := xat_get hlt
      have hv := xat_get (X := V) (i := k) (by omega)
      have b1 := sumN_bound sA sV k
      have b2 := mul_bound (sm_at sA k) (sm_at sV k)
      have w1 : IntKind.i64.wrap (xat A k * xat V k) = xat A k * xat V k := by rw [wrap_i64] <;> omega
      have w2 : IntKind.i64.wrap (sumN A V k + xat A k * xat V k) = sumN A V (k + 1) := by rw [wrap_i64] <;> first | rfl | omega
      simp +contextual -implicitDefEqProofs (maxSteps := 1000000) only [sm, awpOper, awpDo, evP, evBin, evUn, eqInts, fillA, setCells, cutCells, okElems, AV.natOf, natO, maxA, minA, AV.isInt, evSlc, evLoad, setE, evW, AV.cells, AV.okSt, elemsOf, appBase, AV.isSl, resV, tupV, viewN, embB, embT, okR, okC, okL, okEs, ren, renC, renL, renEs, seval, eCon, eIs, hlt', hx, hv, w1, w2, e2]
      refine ⟨k + 1, by omega, by omega, [0], by decide, rfl, ?_, ?_⟩
      · simp +contextual -implicitDefEqProofs (maxSteps := 1000000) only [sm, awpOper, awpDo, evP, evBin, evUn, eqInts, fillA, setCells, cutCells, okElems, AV.natOf, natO, maxA, minA, AV.isInt, evSlc, evLoad, setE, evW, AV.cells, AV.okSt, elemsOf, appBase, AV.isSl, resV, tupV, viewN, embB, embT, okR, okC, okL, okEs, ren, renC, renL, renEs, seval, eCon, eIs]
      · simp +contextual -implicitDefEqProofs (maxSteps := 1000000) only [sm, awpOper, awpDo, evP, evBin, evUn, eqInts, fillA, setCells, cutCells, okElems, AV.natOf, natO, maxA, minA, AV.isInt, evSlc, evLoad, setE, evW, AV.cells, AV.okSt, elemsOf, appBase, AV.isSl, resV, tupV, viewN, embB, embT, okR, okC, okL, okEs, ren, renC, renL, renEs, seval]
    · have hkn : k = A.length := by omega
      subst hkn
      simp +contextual -implicitDefEqProofs (maxSteps := 1000000) only [sm, awpOper, awpDo, evP, evBin, evUn, eqInts, fillA, setCells, cutCells, okElems, AV.natOf, natO, maxA, minA, AV.isInt, evSlc, evLoad, setE, evW, AV.cells, AV.okSt, elemsOf, appBase, AV.isSl, resV, tupV, viewN, embB, embT, okR, okC, okL, okEs, ren, renC, renL, renEs, seval, eCon, eIs, Int.lt_irrefl]
def linB (K C n f : Int) : Bool := if K = 1 then decide (n = C) else if K = 2 then decide (n ≤ C) else if K = 3 then !decide (n = C) else if K = 4 then (decide (f = 1) == decide (n = C)) else if K = 5 then (decide (f = 1) == decide (n ≤ C)) else (decide (f = 0) || decide (n ≤ C))
theorem ref11_lin (c : Con) (V : List Int) (f : Int) (hA : c.2.2.1.length ≤ 128) (hV : c.2.2.1.length ≤ V.length) (sA : Sm c.2.2.1) (sV : Sm V) :
    Ctr Try.prog 96 [eCon c, eIs V, .int .i64 f] [] (.bool (linB c.1 c.2.2.2 (sumN c.2.2.1 V c.2.2.1.length) f)) [] := by
  obtain ⟨K, X, A, C⟩ := c
  simp only at hA hV sA sV ⊢
  refine call_pure Try.func96 Try.call96 e_ref11_lin ?_
  simp +contextual -implicitDefEqProofs (maxSteps := 1000000) only [c_ref11_lin, eCon, eIs, sm, awpOper, awpDo, evP, evBin, evUn, eqInts, fillA, setCells, cutCells, okElems, AV.natOf, natO, maxA, minA, AV.isInt, evSlc, evLoad, setE, evW, AV.cells, AV.okSt, elemsOf, appBase, AV.isSl, resV, tupV, viewN, embB, embT, okR, okC, okL, okEs, ren, renC, renL, renEs, seval]
  refine callA_rule (ref11_sum (K, X, A, C) V hA hV sA sV) (wkL_refl _) rfl ?_
  simp only
  generalize sumN A V A.length = n
  have hK : (¬ K = 1 ∧ ¬ K = 2 ∧ ¬ K = 3 ∧ ¬ K = 4 ∧ ¬ K = 5) ∨ K = 1 ∨ K = 2 ∨ K = 3 ∨ K = 4 ∨ K = 5 := by omega
  unfold linB
  rcases hK with ⟨h1, h2, h3, h4, h5⟩ | rfl | rfl | rfl | rfl | rfl
  · simp only [h1, h2, h3, h4, h5, if_false]
    by_cases hf : f = 0
    · subst hf
      simp +contextual -implicitDefEqProofs (maxSteps := 1000000) only [sm, awpOper, awpDo, evP, evBin, evUn, eqInts, fillA, setCells, cutCells, okElems, AV.natOf, natO, maxA, minA, AV.isInt, evSlc, evLoad, setE, evW, AV.cells, AV.okSt, elemsOf, appBase, AV.isSl, resV, tupV, viewN, embB, embT, okR, okC, okL, okEs, ren, renC, renL, renEs, seval, h1, h2, h3, h4, h5]
      rfl
    · by_cases hn : n ≤ C
      · simp +contextual -implicitDefEqProofs (maxSteps := 1000000) only [sm, awpOper, awpDo, evP, evBin, evUn, eqInts, fillA, setCells, cutCells, okElems, AV.natOf, natO, maxA, minA, AV.isInt, evSlc, evLoad, setE, evW, AV.cells, AV.okSt, elemsOf, appBase, AV.isSl, resV, tupV, viewN, embB, embT, okR, okC, okL, okEs, ren, renC, renL, renEs, seval, h1, h2, h3, h4, h5, hf, hn]
        rfl
      · simp +contextual -implicitDefEqProofs (maxSteps := 1000000) only [sm, awpOper, awpDo, evP, evBin, evUn, eqInts, fillA, setCells, cutCells, okElems, AV.natOf, natO, maxA, minA, AV.isInt, evSlc, evLoad, setE, evW, AV.cells, AV.okSt, elemsOf, appBase, AV.isSl, resV, tupV, viewN, embB, embT, okR, okC, okL, okEs, ren, renC, renL, renEs, seval, h1, h2, h3, h4, h5, hf, hn]
        rfl
  · simp +contextual -implicitDefEqProofs (maxSteps := 1000000) only [sm, awpOper, awpDo, evP, evBin, evUn, eqInts, fillA, setCells, cutCells, okElems, AV.natOf, natO, maxA, minA, AV.isInt, evSlc, evLoad, setE, evW, AV.cells, AV.okSt, elemsOf, appBase, AV.isSl, resV, tupV, viewN, embB, embT, okR, okC, okL, okEs, ren, renC, renL, renEs, seval]
  · simp +contextual -implicitDefEqProofs (maxSteps := 1000000) only [sm, awpOper, awpDo, evP, evBin, evUn, eqInts, fillA, setCells, cutCells, okElems, AV.natOf, natO, maxA, minA, AV.isInt, evSlc, evLoad, setE, evW, AV.cells, AV.okSt, elemsOf, appBase, AV.isSl, resV, tupV, viewN, embB, embT, okR, okC, okL, okEs, ren, renC, renL, renEs, seval]
  · simp +contextual -implicitDefEqProofs (maxSteps := 1000000) only [sm, awpOper, awpDo, evP, evBin, evUn, eqInts, fillA, setCells, cutCells, okElems, AV.natOf, natO, maxA, minA, AV.isInt, evSlc, evLoad, setE, evW, AV.cells, AV.okSt, elemsOf, appBase, AV.isSl, resV, tupV, viewN, embB, embT, okR, okC, okL, okEs, ren, renC, renL, renEs, seval]
    simp
  · simp +contextual -implicitDefEqProofs (maxSteps := 1000000) only [sm, awpOper, awpDo, evP, evBin, evUn, eqInts, fillA, setCells, cutCells, okElems, AV.natOf, natO, maxA, minA, AV.isInt, evSlc, evLoad, setE, evW, AV.cells, AV.okSt, elemsOf, appBase, AV.isSl, resV, tupV, viewN, embB, embT, okR, okC, okL, okEs, ren, renC, renL, renEs, seval]
  · simp +contextual -implicitDefEqProofs (maxSteps := 1000000) only [sm, awpOper, awpDo, evP, evBin, evUn, eqInts, fillA, setCells, cutCells, okElems, AV.natOf, natO, maxA, minA, AV.isInt, evSlc, evLoad, setE, evW, AV.cells, AV.okSt, elemsOf, appBase, AV.isSl, resV, tupV, viewN, embB, embT, okR, okC, okL, okEs, ren, renC, renL, renEs, seval]
def cntI (l : List Int) (x : Int) : Nat := (l.filter fun y => decide (y = x)).length
theorem cnt_snoc {l : List Int} {k : Nat} {y x : Int} (h : l[k]? = some y) : cntI (l.take (k + 1)) x = cntI (l.take k) x + if y = x then 1 else 0 := by
  unfold cntI
  rw [← take_snoc h, List.filter_append, List.length_append]
  by_cases hy : y = x <;> simp [hy]
theorem cnt_le (l : List Int) (x : Int) : cntI l x ≤ l.length := List.length_filter_le _ _
theorem ref11_count (V : List Int) (x : Int) (hV : V.length ≤ 1000000000000) : Ctr Try.prog 98 [eIs V, .int .i64 x] [] (.int .i64 (cntI V x)) [] := by
  refine call_pure Try.func98 Try.call98 e_ref11_count ?_
  simp +contextual -implicitDefEqProofs (maxSteps := 1000000) only [c_ref11_count, eIs, sm, awpOper, awpDo, evP, evBin, evUn, eqInts, fillA, setCells, cutCells, okElems, AV.natOf, natO, maxA, minA, AV.isInt, evSlc, evLoad, setE, evW, AV.cells, AV.okSt, elemsOf, appBase, AV.isSl, resV, tupV, viewN, embB, embT, okR, okC, okL, okEs, ren, renC, renL, renEs, seval]
  refine loop_rule (fun k : Nat => k ≤ V.length) (fun k => tm 22 [(0, .list 1 (V.map eI)), (1, .int .i64 x), (5, .int .i64 (cntI (V.take k) x)), (6, .int .i64 k)]) (fun k => []) (fun k => V.length - k) 0 (Nat.zero_le _) ⟨[], by decide, rfl, ?_, ?_⟩ ?_
  · simp +contextual -implicitDefEqProofs (maxSteps := 1000000) only [sm, awpOper, awpDo, evP, evBin, evUn, eqInts, fillA, setCells, cutCells, okElems, AV.natOf, natO, maxA, minA, AV.isInt, evSlc, evLoad, setE, evW, AV.cells, AV.okSt, elemsOf, appBase, AV.isSl, resV, tupV, viewN, embB, embT, okR, okC, okL, okEs, ren, renC, renL, renEs, seval]
  · simp +contextual -implicitDefEqProofs (maxSteps := 1000000) only [sm, awpOper, awpDo, evP, evBin, evUn, eqInts, fillA, setCells, cutCells, okElems, AV.natOf, natO, maxA, minA, AV.isInt, evSlc, evLoad, setE, evW, AV.cells, AV.okSt, elemsOf, appBase, AV.isSl, resV, tupV, viewN, embB, embT, okR, okC, okL, okEs, ren, renC, renL, renEs, seval, Int.natCast_zero, cntI]
    rfl
  · intro k hk
    by_cases hlt : k < V.length
    · have hlt' : (k : Int) < (V.length : Int) := by omega
      have e2 : IntKind.i64.wrap ((k : Int) + 1) = ((k + 1 : Nat) : Int) := by rw [wrap_i64] <;> omega
      obtain ⟨y, hy⟩ : ∃ r, V[k]? = some r := ⟨_, List.getElem?_eq_getElem hlt⟩
      have hs := cnt_snoc (x := x) hy
      have hb := cnt_le (V.take k) x
      have hb2 : (V.take k).length ≤ V.length := List.length_take_le' k V
      by_cases hyx : y = x
      · rw [if_pos hyx] at hs
        have w1 : IntKind.i64.wrap ((cntI (V.take k) x : Int) + 1) = ((cntI (V.take (k + 1)) x : Nat) : Int) := by rw [hs, wrap_i64] <;> omega
        simp +contextual -implicitDefEqProofs (maxSteps := 1000000) only [sm, awpOper, awpDo, evP, evBin, evUn, eqInts, fillA, setCells, cutCells, okElems, AV.natOf, natO, maxA, minA, AV.isInt, evSlc, evLoad, setE, evW, AV.cells, AV.okSt, elemsOf, appBase, AV.isSl, resV, tupV, viewN, embB, embT, okR, okC, okL, okEs, ren, renC, renL, renEs, seval, hlt', hy, hyx, w1, e2]
        refine ⟨k + 1, by omega, by omega, [], by decide, rfl, ?_, ?_⟩
        · simp +contextual -implicitDefEqProofs (maxSteps := 1000000) only [sm, awpOper, awpDo, evP, evBin, evUn, eqInts, fillA, setCells, cutCells, okElems, AV.natOf, natO, maxA, minA, AV.isInt, evSlc, evLoad, setE, evW, AV.cells, AV.okSt, elemsOf, appBase, AV.isSl, resV, tupV, viewN, embB, embT, okR, okC, okL, okEs, ren, renC, renL, renEs, seval]
        · simp +contextual -implicitDefEqProofs (maxSteps := 1000000) only [sm, awpOper, awpDo, evP, evBin, evUn, eqInts, fillA, setCells, cutCells, okElems, AV.natOf, natO, maxA, minA, AV.isInt, evSlc, evLoad, setE, evW, AV.cells, AV.okSt, elemsOf, appBase, AV.isSl, resV, tupV, viewN, embB, embT, okR, okC, okL, okEs, ren, renC, renL, renEs, seval]
      · rw [if_neg hyx] at hs
        simp +contextual -implicitDefEqProofs (maxSteps := 1000000) only [sm, awpOper, awpDo, evP, evBin, evUn, eqInts, fillA, setCells, cutCells, okElems, AV.natOf, natO, maxA, minA, AV.isInt, evSlc, evLoad, setE, evW, AV.cells, AV.okSt, elemsOf, appBase, AV.isSl, resV, tupV, viewN, embB, embT, okR, okC, okL, okEs, ren, renC, renL, renEs, seval, hlt', hy, hyx, e2]
        refine ⟨k + 1, by omega, by omega, [], by decide, rfl, ?_, ?_⟩
        · simp +contextual -implicitDefEqProofs (maxSteps := 1000000) only [sm, awpOper, awpDo, evP, evBin, evUn, eqInts, fillA, setCells, cutCells, okElems, AV.natOf, natO, maxA, minA, AV.isInt, evSlc, evLoad, setE, evW, AV.cells, AV.okSt, elemsOf, appBase, AV.isSl, resV, tupV, viewN, embB, embT, okR, okC, okL, okEs, ren, renC, renL, renEs, seval]
        · simp +contextual -implicitDefEqProofs (maxSteps := 1000000) only [sm, awpOper, awpDo, evP, evBin, evUn, eqInts, fillA, setCells, cutCells, okElems, AV.natOf, natO, maxA, minA, AV.isInt, evSlc, evLoad, setE, evW, AV.cells, AV.okSt, elemsOf, appBase, AV.isSl, resV, tupV, viewN, embB, embT, okR, okC, okL, okEs, ren, renC, renL, renEs, seval, hs]
    · have hkn : k = V.length := by omega
      subst hkn
      rw [List.take_length]
      simp +contextual -implicitDefEqProofs (maxSteps := 1000000) only [sm, awpOper, awpDo, evP, evBin, evUn, eqInts, fillA, setCells, cutCells, okElems, AV.natOf, natO, maxA, minA, AV.isInt, evSlc, evLoad, setE, evW, AV.cells, AV.okSt, elemsOf, appBase, AV.isSl, resV, tupV, viewN, embB, embT, okR, okC, okL, okEs, ren, renC, renL, renEs, seval, Int.lt_irrefl]
def clAt (A V : List Int) (i : Nat) : Bool := (decide (xat A i = 1) && decide (xat V i = 1)) || (decide (xat A i = -1) && decide (xat V i = 0))
def clB (A V : List Int) : Bool := (List.range V.length).any (clAt A V)
theorem cl_yes {A V : List Int} {k : Nat} (hk : k < V.length) (h : clAt A V k = true) : clB A V = true := List.any_eq_true.2 ⟨k, List.mem_range.2 hk, h⟩
theorem cl_no {A V : List Int} (h : ∀ k, k < V.length → clAt A V k = false) : clB A V = false := by
  unfold clB
  rw [List.any_eq_false]
  intro k hk
  rw [h k (List.mem_range.1 hk)]
  simp
theorem ref11_clause (c : Con) (V : List Int) (hV : V.length ≤ 1000000000000) (hA : V.length ≤ c.2.2.1.length) : Ctr Try.prog 97 [eCon c, eIs V] [] (.bool (clB c.2.2.1 V)) [] := by
  obtain ⟨K, X, A, C⟩ := c
  simp only at hA ⊢
  refine call_pure Try.func97 Try.call97 e_ref11_clause ?_
  simp +contextual -implicitDefEqProofs (maxSteps := 1000000) only [c_ref11_clause, eCon, eIs, sm, awpOper, awpDo, evP, evBin, evUn, eqInts, fillA, setCells, cutCells, okElems, AV.natOf, natO, maxA, minA, AV.isInt, evSlc, evLoad, setE, evW, AV.cells, AV.okSt, elemsOf, appBase, AV.isSl, resV, tupV, viewN, embB, embT, okR, okC, okL, okEs, ren, renC, renL, renEs, seval]
  refine loop_rule (fun k : Nat => k ≤ V.length ∧ ∀ j, j < k → clAt A V j = false) (fun k => tm 40 [(1, .list 1 (V.map eI)), (2, .ptr 4 0 0 0), (5, .int .i64 k)]) (fun k => [some (4, [eCon (K, X, A, C)])]) (fun k => V.length - k) 0 ⟨Nat.zero_le _, by omega⟩ ⟨[0], by decide, rfl, ?_, ?_⟩ ?_
  · simp +contextual -implicitDefEqProofs (maxSteps := 1000000) only [sm, awpOper, awpDo, evP, evBin, evUn, eqInts, fillA, setCells, cutCells, okElems, AV.natOf, natO, maxA, minA, AV.isInt, evSlc, evLoad, setE, evW, AV.cells, AV.okSt, elemsOf, appBase, AV.isSl, resV, tupV, viewN, embB, embT, okR, okC, okL, okEs, ren, renC, renL, renEs, seval, eCon, eIs]
  · simp +contextual -implicitDefEqProofs (maxSteps := 1000000) only [sm, awpOper, awpDo, evP, evBin, evUn, eqInts, fillA, setCells, cutCells, okElems, AV.natOf, natO, maxA, minA, AV.isInt, evSlc, evLoad, setE, evW, AV.cells, AV.okSt, elemsOf, appBase, AV.isSl, resV, tupV, viewN, embB, embT, okR, okC, okL, okEs, ren, renC, renL, renEs, seval, Int.natCast_zero]
  · rintro k ⟨hk, hok⟩
    by_cases hlt : k < V.length
    · have hlt' : (k : Int) < (V.length : Int) := by omega
      have e2 : IntKind.i64.wrap ((k : Int) + 1) = ((k + 1 : Nat) : Int) := by rw [wrap_i64] <;> omega
      have hx := xat_get (X := A) (i := k) (by omega)
      have hv := xat_get hlt
      have hyes : clAt A V k = true → clB A V = true := cl_yes hlt
      have hnext : clAt A V k = false → ∀ j, j < k + 1 → clAt A V j = false := fun h j hj => by
        rcases Nat.lt_succ_iff_lt_or_eq.1 hj with h' | rfl
        · exact hok j h'
        · exact h
      generalize hq : clAt A V k = q at hyes hnext
      unfold clAt at hq
      generalize xat A k = p at hx hq
      generalize xat V k = u at hv hq
      subst hq
      have hcs : (p = 1 ∧ u = 1) ∨ (p = 1 ∧ ¬ u = 1) ∨ (¬ p = 1 ∧ p = -1 ∧ u = 0) ∨ (¬ p = 1 ∧ p = -1 ∧ ¬ u = 0) ∨ (¬ p = 1 ∧ ¬ p = -1) := by omega
      rcases hcs with ⟨rfl, rfl⟩ | ⟨rfl, h1⟩ | ⟨h0, rfl, rfl⟩ | ⟨h0, rfl, h1⟩ | ⟨h0, h1⟩
      · rw [hyes (by decide)]
        simp +contextual -implicitDefEqProofs (maxSteps := 1000000) only [sm, awpOper, awpDo, evP, evBin, evUn, eqInts, fillA, setCells, cutCells, okElems, AV.natOf, natO, maxA, minA, AV.isInt, evSlc, evLoad, setE, evW, AV.cells, AV.okSt, elemsOf, appBase, AV.isSl, resV, tupV, viewN, embB, embT, okR, okC, okL, okEs, ren, renC, renL, renEs, seval, eCon, eIs, hlt', hx, hv]
      · have hn := hnext (by simp [h1])
        simp +contextual -implicitDefEqProofs (maxSteps := 1000000) only [sm, awpOper, awpDo, evP, evBin, evUn, eqInts, fillA, setCells, cutCells, okElems, AV.natOf, natO, maxA, minA, AV.isInt, evSlc, evLoad, setE, evW, AV.cells, AV.okSt, elemsOf, appBase, AV.isSl, resV, tupV, viewN, embB, embT, okR, okC, okL, okEs, ren, renC, renL, renEs, seval, eCon, eIs, hlt', hx, hv, h1, e2]
        refine ⟨k + 1, ⟨by omega, hn⟩, by omega, [0], by decide, rfl, ?_, ?_⟩
        · simp +contextual -implicitDefEqProofs (maxSteps := 1000000) only [sm, awpOper, awpDo, evP, evBin, evUn, eqInts, fillA, setCells, cutCells, okElems, AV.natOf, natO, maxA, minA, AV.isInt, evSlc, evLoad, setE, evW, AV.cells, AV.okSt, elemsOf, appBase, AV.isSl, resV, tupV, viewN, embB, embT, okR, okC, okL, okEs, ren, renC, renL, renEs, seval, eCon, eIs]
        · simp +contextual -implicitDefEqProofs (maxSteps := 1000000) only [sm, awpOper, awpDo, evP, evBin, evUn, eqInts, fillA, setCells, cutCells, okElems, AV.natOf, natO, maxA, minA, AV.isInt, evSlc, evLoad, setE, evW, AV.cells, AV.okSt, elemsOf, appBase, AV.isSl, resV, tupV, viewN, embB, embT, okR, okC, okL, okEs, ren, renC, renL, renEs, seval]
      · rw [hyes (by decide)]
        simp +contextual -implicitDefEqProofs (maxSteps := 1000000) only [sm, awpOper, awpDo, evP, evBin, evUn, eqInts, fillA, setCells, cutCells, okElems, AV.natOf, natO, maxA, minA, AV.isInt, evSlc, evLoad, setE, evW, AV.cells, AV.okSt, elemsOf, appBase, AV.isSl, resV, tupV, viewN, embB, embT, okR, okC, okL, okEs, ren, renC, renL, renEs, seval, eCon, eIs, hlt', hx, hv]
      · have hn := hnext (by simp [h1])
        simp +contextual -implicitDefEqProofs (maxSteps := 1000000) only [sm, awpOper, awpDo, evP, evBin, evUn, eqInts, fillA, setCells, cutCells, okElems, AV.natOf, natO, maxA, minA, AV.isInt, evSlc, evLoad, setE, evW, AV.cells, AV.okSt, elemsOf, appBase, AV.isSl, resV, tupV, viewN, embB, embT, okR, okC, okL, okEs, ren, renC, renL, renEs, seval, eCon, eIs, hlt', hx, hv, h1, e2]
        refine ⟨k + 1, ⟨by omega, hn⟩, by omega, [0], by decide, rfl, ?_, ?_⟩
        · simp +contextual -implicitDefEqProofs (maxSteps := 1000000) only [sm, awpOper, awpDo, evP, evBin, evUn, eqInts, fillA, setCells, cutCells, okElems, AV.natOf, natO, maxA, minA, AV.isInt, evSlc, evLoad, setE, evW, AV.cells, AV.okSt, elemsOf, appBase, AV.isSl, resV, tupV, viewN, embB, embT, okR, okC, okL, okEs, ren, renC, renL, renEs, seval, eCon, eIs]
        · simp +contextual -implicitDefEqProofs (maxSteps := 1000000) only [sm, awpOper, awpDo, evP, evBin, evUn, eqInts, fillA, setCells, cutCells, okElems, AV.natOf, natO, maxA, minA, AV.isInt, evSlc, evLoad, setE, evW, AV.cells, AV.okSt, elemsOf, appBase, AV.isSl, resV, tupV, viewN, embB, embT, okR, okC, okL, okEs, ren, renC, renL, renEs, seval]
      · have hn := hnext (by simp [h0, h1])
        simp +contextual -implicitDefEqProofs (maxSteps := 1000000) only [sm, awpOper, awpDo, evP, evBin, evUn, eqInts, fillA, setCells, cutCells, okElems, AV.natOf, natO, maxA, minA, AV.isInt, evSlc, evLoad, setE, evW, AV.cells, AV.okSt, elemsOf, appBase, AV.isSl, resV, tupV, viewN, embB, embT, okR, okC, okL, okEs, ren, renC, renL, renEs, seval, eCon, eIs, hlt', hx, hv, h0, h1, e2]
        refine ⟨k + 1, ⟨by omega, hn⟩, by omega, [0], by decide, rfl, ?_, ?_⟩
        · simp +contextual -implicitDefEqProofs (maxSteps := 1000000) only [sm, awpOper, awpDo, evP, evBin, evUn, eqInts, fillA, setCells, cutCells, okElems, AV.natOf, natO, maxA, minA, AV.isInt, evSlc, evLoad, setE, evW, AV.cells, AV.okSt, elemsOf, appBase, AV.isSl, resV, tupV, viewN, embB, embT, okR, okC, okL, okEs, ren, renC, renL, renEs, seval, eCon, eIs]
        · simp +contextual -implicitDefEqProofs (maxSteps := 1000000) only [sm, awpOper, awpDo, evP, evBin, evUn, eqInts, fillA, setCells, cutCells, okElems, AV.natOf, natO, maxA, minA, AV.isInt, evSlc, evLoad, setE, evW, AV.cells, AV.okSt, elemsOf, appBase, AV.isSl, resV, tupV, viewN, embB, embT, okR, okC, okL, okEs, ren, renC, renL, renEs, seval]
    · have hkn : k = V.length := by omega
      subst hkn
      rw [cl_no hok]
      simp +contextual -implicitDefEqProofs (maxSteps := 1000000) only [sm, awpOper, awpDo, evP, evBin, evUn, eqInts, fillA, setCells, cutCells, okElems, AV.natOf, natO, maxA, minA, AV.isInt, evSlc, evLoad, setE, evW, AV.cells, AV.okSt, elemsOf, appBase, AV.isSl, resV, tupV, viewN, embB, embT, okR, okC, okL, okEs, ren, renC, renL, renEs, seval, eCon, eIs, Int.lt_irrefl]
end Go.Proofs.Ytclpkkbamgmooaa
