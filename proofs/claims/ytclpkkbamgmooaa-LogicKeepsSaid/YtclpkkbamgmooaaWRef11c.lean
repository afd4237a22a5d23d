/- What the functions of package ref11 compute, continued: Holds. -/
import Derived.Test.YtclpkkbamgmooaaWRef11b
namespace Go.Proofs.Ytclpkkbamgmooaa
open Av
attribute [local irreducible] awp awpOpers
set_option linter.unusedSimpArgs false
set_option linter.unusedVariables false
set_option maxRecDepth 100000
set_option maxHeartbeats 4000000
theorem askd_facts {c : Con} {a : List Int} (h : askdB c a = true) : c.2.2.1.length ≤ 128 ∧ c.2.1.length ≤ 32 ∧ Idx c.2.1 a ∧ Sm (valsOf c.2.1 a) ∧ Sm c.2.2.1 ∧ (-1048576 ≤ c.2.2.2 ∧ c.2.2.2 ≤ 1048576) ∧ countsB (shp c.1) c.2.1.length c.2.2.1.length = true ∧ kindB c.1 = true := by
  simp only [askdB, Bool.and_eq_true, decide_eq_true_eq, List.all_eq_true] at h
  obtain ⟨⟨⟨h1, h2⟩, h3⟩, h4⟩ := h
  have h5 : ∀ x ∈ c.2.1, 0 ≤ x ∧ x < (a.length : Int) ∧ withinB (xat a x.toNat) = true := fun x hx => by
    have := h3 x hx
    simp only [idxB, Bool.and_eq_true, decide_eq_true_eq] at this
    exact ⟨this.1.1, this.1.2, this.2⟩
  simp only [mayB, formedB, Bool.and_eq_true, decide_eq_true_eq, List.all_eq_true, up_len] at h4
  obtain ⟨⟨⟨⟨⟨⟨⟨g1, g2⟩, -⟩, -⟩, g3⟩, -⟩, -⟩, g4⟩ := h4
  refine ⟨h1, h2, fun x hx => ⟨(h5 x hx).1, (h5 x hx).2.1⟩, fun v hv => ?_, fun v hv => (withinB_iff v).1 (g4 v hv), (withinB_iff _).1 g3, g2, g1⟩
  unfold valsOf at hv
  obtain ⟨x, hx, rfl⟩ := List.mem_map.1 hv
  exact (withinB_iff _).1 (h5 x hx).2.2
theorem ref11_linear (K : Int) : Ctr Try.prog 95 [.int .i64 K] [] (.bool (decide (1 ≤ K) && decide (K ≤ 6))) [] := by
  refine call_pure Try.func95 Try.call95 e_ref11_linear ?_
  by_cases h1 : 1 ≤ K
  · by_cases h2 : K ≤ 6
    · simp +contextual -implicitDefEqProofs (maxSteps := 1000000) only [c_ref11_linear, sm, awpOper, awpDo, evP, evBin, evUn, eqInts, fillA, setCells, cutCells, okElems, AV.natOf, natO, maxA, minA, AV.isInt, evSlc, evLoad, setE, evW, AV.cells, AV.okSt, elemsOf, appBase, AV.isSl, resV, tupV, viewN, embB, embT, okR, okC, okL, okEs, ren, renC, renL, renEs, seval, h1, h2]
    · simp +contextual -implicitDefEqProofs (maxSteps := 1000000) only [c_ref11_linear, sm, awpOper, awpDo, evP, evBin, evUn, eqInts, fillA, setCells, cutCells, okElems, AV.natOf, natO, maxA, minA, AV.isInt, evSlc, evLoad, setE, evW, AV.cells, AV.okSt, elemsOf, appBase, AV.isSl, resV, tupV, viewN, embB, embT, okR, okC, okL, okEs, ren, renC, renL, renEs, seval, h1, h2]
  · simp +contextual -implicitDefEqProofs (maxSteps := 1000000) only [c_ref11_linear, sm, awpOper, awpDo, evP, evBin, evUn, eqInts, fillA, setCells, cutCells, okElems, AV.natOf, natO, maxA, minA, AV.isInt, evSlc, evLoad, setE, evW, AV.cells, AV.okSt, elemsOf, appBase, AV.isSl, resV, tupV, viewN, embB, embT, okR, okC, okL, okEs, ren, renC, renL, renEs, seval, h1]
def lastV (V : List Int) : Int := xat V (V.length - 1)
/-- does a constraint hold of the values of its variables? (not yet: unlike values, tasks) -/
def holdsB (c : Con) (V : List Int) : Bool :=
  if c.1 ≤ 6 then linB c.1 c.2.2.2 (sumN c.2.2.1 V c.2.2.1.length) (lastV V)
  else if c.1 = 7 then decide (xat V 0 * xat V 1 = xat V 2)
  else if c.1 = 8 then decide (min (xat V 0) (xat V 1) = xat V 2)
  else if c.1 = 9 then decide (max (xat V 0) (xat V 1) = xat V 2)
  else if c.1 = 10 then decide (max (xat V 0) (-(xat V 0)) = xat V 1)
  else if c.1 = 11 then clB c.2.2.1 V
  else if c.1 = 12 then (decide (lastV V = 1) == decide ((cntI (V.take (V.length - 1)) 1 : Int) = ((V.length - 1 : Nat) : Int)))
  else if c.1 = 13 then (decide (lastV V = 1) == decide (0 < (cntI (V.take (V.length - 1)) 1 : Int)))
  else if c.1 = 14 then (decide (xat V 2 = 1) == !decide (xat V 0 = xat V 1))
  else if c.1 = 15 then decide (xat V 0 = xat V 1)
  else false
theorem ref11_Holds (c : Con) (a : List Int) (hA : c.2.2.1.length ≤ 1000000000000) (hX : c.2.1.length ≤ 1000000000000) (ha : a.length ≤ 1000000000000) (hK : c.1 ≤ 15) : Ctr Try.prog 63 [eCon c, eIs a] [] (.bool (askdB c a && holdsB c (valsOf c.2.1 a))) [] := by
  obtain ⟨K, X, A, C⟩ := c
  simp only at hA hX hK
  refine call_pure Try.func63 Try.call63 e_ref11_Holds ?_
  simp +contextual -implicitDefEqProofs (maxSteps := 1000000) only [c_ref11_Holds, eCon, eIs, sm, awpOper, awpDo, evP, evBin, evUn, eqInts, fillA, setCells, cutCells, okElems, AV.natOf, natO, maxA, minA, AV.isInt, evSlc, evLoad, setE, evW, AV.cells, AV.okSt, elemsOf, appBase, AV.isSl, resV, tupV, viewN, embB, embT, okR, okC, okL, okEs, ren, renC, renL, renEs, seval]
  refine callA_rule (ref11_Asked (K, X, A, C) a hA hX ha) (wkL_refl _) rfl ?_
  cases hask : askdB (K, X, A, C) a
  · simp +contextual -implicitDefEqProofs (maxSteps := 1000000) only [sm, awpOper, awpDo, evP, evBin, evUn, eqInts, fillA, setCells, cutCells, okElems, AV.natOf, natO, maxA, minA, AV.isInt, evSlc, evLoad, setE, evW, AV.cells, AV.okSt, elemsOf, appBase, AV.isSl, resV, tupV, viewN, embB, embT, okR, okC, okL, okEs, ren, renC, renL, renEs, seval]
  obtain ⟨f1, f2, f3, f4, f5, f6, f7, f8⟩ := askd_facts hask
  simp only at f1 f2 f3 f4 f5 f6 f7 f8
  have hVl : (valsOf X a).length = X.length := by unfold valsOf; rw [List.length_map]
  simp +contextual -implicitDefEqProofs (maxSteps := 1000000) only [sm, awpOper, awpDo, evP, evBin, evUn, eqInts, fillA, setCells, cutCells, okElems, AV.natOf, natO, maxA, minA, AV.isInt, evSlc, evLoad, setE, evW, AV.cells, AV.okSt, elemsOf, appBase, AV.isSl, resV, tupV, viewN, embB, embT, okR, okC, okL, okEs, ren, renC, renL, renEs, seval, eCon, eIs]
  refine callA_rule (ref11_values (K, X, A, C) a hX f3) (wkL_refl _) rfl ?_
  simp only
  generalize hV : valsOf X a = V at hVl f4 ⊢
  have hk1 : 1 ≤ K := by
    unfold kindB at f8
    simp at f8
    omega
  have hcs : K ≤ 6 ∨ K = 7 ∨ K = 8 ∨ K = 9 ∨ K = 10 ∨ K = 11 ∨ K = 12 ∨ K = 13 ∨ K = 14 ∨ K = 15 := by omega
  have hAV : K ≤ 6 ∨ K = 11 → A.length ≤ V.length ∧ V.length ≤ A.length + 1 := by
    intro h
    have : K = 1 ∨ K = 2 ∨ K = 3 ∨ K = 4 ∨ K = 5 ∨ K = 6 ∨ K = 11 := by omega
    rcases this with rfl | rfl | rfl | rfl | rfl | rfl | rfl <;> (simp [countsB, shp] at f7; omega)
  by_cases h0 : V.length = 0
  · have h0' : ¬ (0 : Int) < (V.length : Int) := by omega
    have hv0 : V = [] := List.eq_nil_of_length_eq_zero h0
    rcases hcs with h6 | rfl | rfl | rfl | rfl | rfl | rfl | rfl | rfl | rfl
    · have hl : lastV V = 0 := by rw [hv0]; rfl
      simp +contextual -implicitDefEqProofs (maxSteps := 1000000) only [sm, awpOper, awpDo, evP, evBin, evUn, eqInts, fillA, setCells, cutCells, okElems, AV.natOf, natO, maxA, minA, AV.isInt, evSlc, evLoad, setE, evW, AV.cells, AV.okSt, elemsOf, appBase, AV.isSl, resV, tupV, viewN, embB, embT, okR, okC, okL, okEs, ren, renC, renL, renEs, seval, eCon, eIs, h0']
      refine callA_rule (ref11_linear K) (wkL_refl _) rfl ?_
      rw [show (decide (1 ≤ K) && decide (K ≤ 6)) = true by simp; omega]
      simp +contextual -implicitDefEqProofs (maxSteps := 1000000) only [sm, awpOper, awpDo, evP, evBin, evUn, eqInts, fillA, setCells, cutCells, okElems, AV.natOf, natO, maxA, minA, AV.isInt, evSlc, evLoad, setE, evW, AV.cells, AV.okSt, elemsOf, appBase, AV.isSl, resV, tupV, viewN, embB, embT, okR, okC, okL, okEs, ren, renC, renL, renEs, seval, eCon, eIs]
      refine callA_rule (ref11_lin (K, X, A, C) V _ f1 (hAV (.inl h6)).1 f5 f4) (wkL_refl _) rfl ?_
      have hh : holdsB (K, X, A, C) V = linB K C (sumN A V A.length) (lastV V) := by unfold holdsB; rw [if_pos h6]
      rw [hh, hl]
      simp +contextual -implicitDefEqProofs (maxSteps := 1000000) only [sm, awpOper, awpDo, evP, evBin, evUn, eqInts, fillA, setCells, cutCells, okElems, AV.natOf, natO, maxA, minA, AV.isInt, evSlc, evLoad, setE, evW, AV.cells, AV.okSt, elemsOf, appBase, AV.isSl, resV, tupV, viewN, embB, embT, okR, okC, okL, okEs, ren, renC, renL, renEs, seval]
    all_goals try (exfalso; simp [countsB, shp] at f7; omega)
    simp +contextual -implicitDefEqProofs (maxSteps := 1000000) only [sm, awpOper, awpDo, evP, evBin, evUn, eqInts, fillA, setCells, cutCells, okElems, AV.natOf, natO, maxA, minA, AV.isInt, evSlc, evLoad, setE, evW, AV.cells, AV.okSt, elemsOf, appBase, AV.isSl, resV, tupV, viewN, embB, embT, okR, okC, okL, okEs, ren, renC, renL, renEs, seval, eCon, eIs, h0']
    refine callA_rule (ref11_linear 11) (wkL_refl _) rfl ?_
    have w1 : IntKind.i64.wrap ((V.length : Int) - 1) = (V.length : Int) - 1 := by rw [wrap_i64] <;> omega
    simp +contextual -implicitDefEqProofs (maxSteps := 1000000) only [sm, awpOper, awpDo, evP, evBin, evUn, eqInts, fillA, setCells, cutCells, okElems, AV.natOf, natO, maxA, minA, AV.isInt, evSlc, evLoad, setE, evW, AV.cells, AV.okSt, elemsOf, appBase, AV.isSl, resV, tupV, viewN, embB, embT, okR, okC, okL, okEs, ren, renC, renL, renEs, seval, eCon, eIs, w1]
    refine callA_rule (ref11_clause (11, X, A, C) V (by omega) (by simp only; omega)) (wkL_refl _) rfl ?_
    simp +contextual -implicitDefEqProofs (maxSteps := 1000000) only [sm, awpOper, awpDo, evP, evBin, evUn, eqInts, fillA, setCells, cutCells, okElems, AV.natOf, natO, maxA, minA, AV.isInt, evSlc, evLoad, setE, evW, AV.cells, AV.okSt, elemsOf, appBase, AV.isSl, resV, tupV, viewN, embB, embT, okR, okC, okL, okEs, ren, renC, renL, renEs, seval, holdsB]
  · have h0' : (0 : Int) < (V.length : Int) := by omega
    have w1 : IntKind.i64.wrap ((V.length : Int) - 1) = ((V.length - 1 : Nat) : Int) := by rw [wrap_i64] <;> omega
    have hlast : V[V.length - 1]? = some (lastV V) := xat_get (by omega)
    rcases hcs with h6 | rfl | rfl | rfl | rfl | rfl | rfl | rfl | rfl | rfl
    · simp +contextual -implicitDefEqProofs (maxSteps := 1000000) only [sm, awpOper, awpDo, evP, evBin, evUn, eqInts, fillA, setCells, cutCells, okElems, AV.natOf, natO, maxA, minA, AV.isInt, evSlc, evLoad, setE, evW, AV.cells, AV.okSt, elemsOf, appBase, AV.isSl, resV, tupV, viewN, embB, embT, okR, okC, okL, okEs, ren, renC, renL, renEs, seval, eCon, eIs, h0', w1, hlast]
      refine callA_rule (ref11_linear K) (wkL_refl _) rfl ?_
      rw [show (decide (1 ≤ K) && decide (K ≤ 6)) = true by simp; omega]
      simp +contextual -implicitDefEqProofs (maxSteps := 1000000) only [sm, awpOper, awpDo, evP, evBin, evUn, eqInts, fillA, setCells, cutCells, okElems, AV.natOf, natO, maxA, minA, AV.isInt, evSlc, evLoad, setE, evW, AV.cells, AV.okSt, elemsOf, appBase, AV.isSl, resV, tupV, viewN, embB, embT, okR, okC, okL, okEs, ren, renC, renL, renEs, seval, eCon, eIs]
      refine callA_rule (ref11_lin (K, X, A, C) V _ f1 (hAV (.inl h6)).1 f5 f4) (wkL_refl _) rfl ?_
      have hh : holdsB (K, X, A, C) V = linB K C (sumN A V A.length) (lastV V) := by unfold holdsB; rw [if_pos h6]
      rw [hh]
      simp +contextual -implicitDefEqProofs (maxSteps := 1000000) only [sm, awpOper, awpDo, evP, evBin, evUn, eqInts, fillA, setCells, cutCells, okElems, AV.natOf, natO, maxA, minA, AV.isInt, evSlc, evLoad, setE, evW, AV.cells, AV.okSt, elemsOf, appBase, AV.isSl, resV, tupV, viewN, embB, embT, okR, okC, okL, okEs, ren, renC, renL, renEs, seval]
    · have n3 : V.length = 3 := by simp [countsB, shp] at f7; omega
      have n3' : (V.length : Int) = 3 := by omega
      have g0 : V[0]? = some (xat V 0) := xat_get (by omega)
      have g1 : V[1]? = some (xat V 1) := xat_get (by omega)
      have g2 : V[2]? = some (xat V 2) := xat_get (by omega)
      have b1 := mul_bound (sm_at f4 0) (sm_at f4 1)
      have w2 : IntKind.i64.wrap (xat V 0 * xat V 1) = xat V 0 * xat V 1 := by rw [wrap_i64] <;> omega
      simp +contextual -implicitDefEqProofs (maxSteps := 1000000) only [sm, awpOper, awpDo, evP, evBin, evUn, eqInts, fillA, setCells, cutCells, okElems, AV.natOf, natO, maxA, minA, AV.isInt, evSlc, evLoad, setE, evW, AV.cells, AV.okSt, elemsOf, appBase, AV.isSl, resV, tupV, viewN, embB, embT, okR, okC, okL, okEs, ren, renC, renL, renEs, seval, eCon, eIs, h0', w1, hlast]
      refine callA_rule (ref11_linear 7) (wkL_refl _) rfl ?_
      simp +contextual -implicitDefEqProofs (maxSteps := 1000000) only [sm, awpOper, awpDo, evP, evBin, evUn, eqInts, fillA, setCells, cutCells, okElems, AV.natOf, natO, maxA, minA, AV.isInt, evSlc, evLoad, setE, evW, AV.cells, AV.okSt, elemsOf, appBase, AV.isSl, resV, tupV, viewN, embB, embT, okR, okC, okL, okEs, ren, renC, renL, renEs, seval, eCon, eIs, w1, g0, g1, g2, n3, w2]
      simp [holdsB]
    · have n3 : V.length = 3 := by simp [countsB, shp] at f7; omega
      have n3' : (V.length : Int) = 3 := by omega
      have g0 : V[0]? = some (xat V 0) := xat_get (by omega)
      have g1 : V[1]? = some (xat V 1) := xat_get (by omega)
      have g2 : V[2]? = some (xat V 2) := xat_get (by omega)
      simp +contextual -implicitDefEqProofs (maxSteps := 1000000) only [sm, awpOper, awpDo, evP, evBin, evUn, eqInts, fillA, setCells, cutCells, okElems, AV.natOf, natO, maxA, minA, AV.isInt, evSlc, evLoad, setE, evW, AV.cells, AV.okSt, elemsOf, appBase, AV.isSl, resV, tupV, viewN, embB, embT, okR, okC, okL, okEs, ren, renC, renL, renEs, seval, eCon, eIs, h0', w1, hlast]
      refine callA_rule (ref11_linear 8) (wkL_refl _) rfl ?_
      simp +contextual -implicitDefEqProofs (maxSteps := 1000000) only [sm, awpOper, awpDo, evP, evBin, evUn, eqInts, fillA, setCells, cutCells, okElems, AV.natOf, natO, maxA, minA, AV.isInt, evSlc, evLoad, setE, evW, AV.cells, AV.okSt, elemsOf, appBase, AV.isSl, resV, tupV, viewN, embB, embT, okR, okC, okL, okEs, ren, renC, renL, renEs, seval, eCon, eIs, w1, g0, g1, g2, n3]
      simp [holdsB]
    · have n3 : V.length = 3 := by simp [countsB, shp] at f7; omega
      have n3' : (V.length : Int) = 3 := by omega
      have g0 : V[0]? = some (xat V 0) := xat_get (by omega)
      have g1 : V[1]? = some (xat V 1) := xat_get (by omega)
      have g2 : V[2]? = some (xat V 2) := xat_get (by omega)
      simp +contextual -implicitDefEqProofs (maxSteps := 1000000) only [sm, awpOper, awpDo, evP, evBin, evUn, eqInts, fillA, setCells, cutCells, okElems, AV.natOf, natO, maxA, minA, AV.isInt, evSlc, evLoad, setE, evW, AV.cells, AV.okSt, elemsOf, appBase, AV.isSl, resV, tupV, viewN, embB, embT, okR, okC, okL, okEs, ren, renC, renL, renEs, seval, eCon, eIs, h0', w1, hlast]
      refine callA_rule (ref11_linear 9) (wkL_refl _) rfl ?_
      simp +contextual -implicitDefEqProofs (maxSteps := 1000000) only [sm, awpOper, awpDo, evP, evBin, evUn, eqInts, fillA, setCells, cutCells, okElems, AV.natOf, natO, maxA, minA, AV.isInt, evSlc, evLoad, setE, evW, AV.cells, AV.okSt, elemsOf, appBase, AV.isSl, resV, tupV, viewN, embB, embT, okR, okC, okL, okEs, ren, renC, renL, renEs, seval, eCon, eIs, w1, g0, g1, g2, n3]
      simp [holdsB]
    · have n3 : V.length = 2 := by simp [countsB, shp] at f7; omega
      have g0 : V[0]? = some (xat V 0) := xat_get (by omega)
      have g1 : V[1]? = some (xat V 1) := xat_get (by omega)
      have b1 := sm_at f4 0
      have w2 : IntKind.i64.wrap (0 - xat V 0) = -(xat V 0) := by rw [wrap_i64] <;> omega
      have w3 : IntKind.i64.wrap (-(xat V 0)) = -(xat V 0) := by rw [wrap_i64] <;> omega
      simp +contextual -implicitDefEqProofs (maxSteps := 1000000) only [sm, awpOper, awpDo, evP, evBin, evUn, eqInts, fillA, setCells, cutCells, okElems, AV.natOf, natO, maxA, minA, AV.isInt, evSlc, evLoad, setE, evW, AV.cells, AV.okSt, elemsOf, appBase, AV.isSl, resV, tupV, viewN, embB, embT, okR, okC, okL, okEs, ren, renC, renL, renEs, seval, eCon, eIs, h0', w1, hlast]
      refine callA_rule (ref11_linear 10) (wkL_refl _) rfl ?_
      simp +contextual -implicitDefEqProofs (maxSteps := 1000000) only [sm, awpOper, awpDo, evP, evBin, evUn, eqInts, fillA, setCells, cutCells, okElems, AV.natOf, natO, maxA, minA, AV.isInt, evSlc, evLoad, setE, evW, AV.cells, AV.okSt, elemsOf, appBase, AV.isSl, resV, tupV, viewN, embB, embT, okR, okC, okL, okEs, ren, renC, renL, renEs, seval, eCon, eIs, w1, g0, g1, n3, w2, w3]
      simp [holdsB]
    · simp +contextual -implicitDefEqProofs (maxSteps := 1000000) only [sm, awpOper, awpDo, evP, evBin, evUn, eqInts, fillA, setCells, cutCells, okElems, AV.natOf, natO, maxA, minA, AV.isInt, evSlc, evLoad, setE, evW, AV.cells, AV.okSt, elemsOf, appBase, AV.isSl, resV, tupV, viewN, embB, embT, okR, okC, okL, okEs, ren, renC, renL, renEs, seval, eCon, eIs, h0', w1, hlast]
      refine callA_rule (ref11_linear 11) (wkL_refl _) rfl ?_
      simp +contextual -implicitDefEqProofs (maxSteps := 1000000) only [sm, awpOper, awpDo, evP, evBin, evUn, eqInts, fillA, setCells, cutCells, okElems, AV.natOf, natO, maxA, minA, AV.isInt, evSlc, evLoad, setE, evW, AV.cells, AV.okSt, elemsOf, appBase, AV.isSl, resV, tupV, viewN, embB, embT, okR, okC, okL, okEs, ren, renC, renL, renEs, seval, eCon, eIs, w1]
      refine callA_rule (ref11_clause (11, X, A, C) V (by omega) (by simp [countsB, shp] at f7; simp only; omega)) (wkL_refl _) rfl ?_
      simp +contextual -implicitDefEqProofs (maxSteps := 1000000) only [sm, awpOper, awpDo, evP, evBin, evUn, eqInts, fillA, setCells, cutCells, okElems, AV.natOf, natO, maxA, minA, AV.isInt, evSlc, evLoad, setE, evW, AV.cells, AV.okSt, elemsOf, appBase, AV.isSl, resV, tupV, viewN, embB, embT, okR, okC, okL, okEs, ren, renC, renL, renEs, seval, holdsB]
    · have t1 : (V.map eI).take (V.length - 1) = (V.take (V.length - 1)).map eI := by rw [List.map_take]
      have t2 : V.length - 1 ≤ V.length := by omega
      have t0 : (0 ≤ V.length - 1) = True := by simp
      have t3 : ((V.length - 1 : Nat) : Int) = (V.length : Int) - 1 := by omega
      simp +contextual -implicitDefEqProofs (maxSteps := 1000000) only [sm, awpOper, awpDo, evP, evBin, evUn, eqInts, fillA, setCells, cutCells, okElems, AV.natOf, natO, maxA, minA, AV.isInt, evSlc, evLoad, setE, evW, AV.cells, AV.okSt, elemsOf, appBase, AV.isSl, resV, tupV, viewN, embB, embT, okR, okC, okL, okEs, ren, renC, renL, renEs, seval, eCon, eIs, h0', w1, hlast]
      refine callA_rule (ref11_linear 12) (wkL_refl _) rfl ?_
      simp +contextual -implicitDefEqProofs (maxSteps := 1000000) only [sm, awpOper, awpDo, evP, evBin, evUn, eqInts, fillA, setCells, cutCells, okElems, AV.natOf, natO, maxA, minA, AV.isInt, evSlc, evLoad, setE, evW, AV.cells, AV.okSt, elemsOf, appBase, AV.isSl, resV, tupV, viewN, embB, embT, okR, okC, okL, okEs, ren, renC, renL, renEs, seval, eCon, eIs, w1, t0, t1, t2]
      refine callA_rule (ref11_count (V.take (V.length - 1)) 1 (by rw [List.length_take]; omega)) (wkL_refl _) rfl ?_
      simp +contextual -implicitDefEqProofs (maxSteps := 1000000) only [sm, awpOper, awpDo, evP, evBin, evUn, eqInts, fillA, setCells, cutCells, okElems, AV.natOf, natO, maxA, minA, AV.isInt, evSlc, evLoad, setE, evW, AV.cells, AV.okSt, elemsOf, appBase, AV.isSl, resV, tupV, viewN, embB, embT, okR, okC, okL, okEs, ren, renC, renL, renEs, seval]
      simp [holdsB]
    · have t1 : (V.map eI).take (V.length - 1) = (V.take (V.length - 1)).map eI := by rw [List.map_take]
      have t2 : V.length - 1 ≤ V.length := by omega
      have t0 : (0 ≤ V.length - 1) = True := by simp
      have t3 : ((V.length - 1 : Nat) : Int) = (V.length : Int) - 1 := by omega
      simp +contextual -implicitDefEqProofs (maxSteps := 1000000) only [sm, awpOper, awpDo, evP, evBin, evUn, eqInts, fillA, setCells, cutCells, okElems, AV.natOf, natO, maxA, minA, AV.isInt, evSlc, evLoad, setE, evW, AV.cells, AV.okSt, elemsOf, appBase, AV.isSl, resV, tupV, viewN, embB, embT, okR, okC, okL, okEs, ren, renC, renL, renEs, seval, eCon, eIs, h0', w1, hlast]
      refine callA_rule (ref11_linear 13) (wkL_refl _) rfl ?_
      simp +contextual -implicitDefEqProofs (maxSteps := 1000000) only [sm, awpOper, awpDo, evP, evBin, evUn, eqInts, fillA, setCells, cutCells, okElems, AV.natOf, natO, maxA, minA, AV.isInt, evSlc, evLoad, setE, evW, AV.cells, AV.okSt, elemsOf, appBase, AV.isSl, resV, tupV, viewN, embB, embT, okR, okC, okL, okEs, ren, renC, renL, renEs, seval, eCon, eIs, w1, t0, t1, t2]
      refine callA_rule (ref11_count (V.take (V.length - 1)) 1 (by rw [List.length_take]; omega)) (wkL_refl _) rfl ?_
      simp +contextual -implicitDefEqProofs (maxSteps := 1000000) only [sm, awpOper, awpDo, evP, evBin, evUn, eqInts, fillA, setCells, cutCells, okElems, AV.natOf, natO, maxA, minA, AV.isInt, evSlc, evLoad, setE, evW, AV.cells, AV.okSt, elemsOf, appBase, AV.isSl, resV, tupV, viewN, embB, embT, okR, okC, okL, okEs, ren, renC, renL, renEs, seval]
      simp [holdsB]
    · have n3 : V.length = 3 := by simp [countsB, shp] at f7; omega
      have n3' : (V.length : Int) = 3 := by omega
      have g0 : V[0]? = some (xat V 0) := xat_get (by omega)
      have g1 : V[1]? = some (xat V 1) := xat_get (by omega)
      have g2 : V[2]? = some (xat V 2) := xat_get (by omega)
      simp +contextual -implicitDefEqProofs (maxSteps := 1000000) only [sm, awpOper, awpDo, evP, evBin, evUn, eqInts, fillA, setCells, cutCells, okElems, AV.natOf, natO, maxA, minA, AV.isInt, evSlc, evLoad, setE, evW, AV.cells, AV.okSt, elemsOf, appBase, AV.isSl, resV, tupV, viewN, embB, embT, okR, okC, okL, okEs, ren, renC, renL, renEs, seval, eCon, eIs, h0', w1, hlast]
      refine callA_rule (ref11_linear 14) (wkL_refl _) rfl ?_
      simp +contextual -implicitDefEqProofs (maxSteps := 1000000) only [sm, awpOper, awpDo, evP, evBin, evUn, eqInts, fillA, setCells, cutCells, okElems, AV.natOf, natO, maxA, minA, AV.isInt, evSlc, evLoad, setE, evW, AV.cells, AV.okSt, elemsOf, appBase, AV.isSl, resV, tupV, viewN, embB, embT, okR, okC, okL, okEs, ren, renC, renL, renEs, seval, eCon, eIs, w1, g0, g1, g2, n3]
      simp [holdsB]
    · have n3 : V.length = 2 := by simp [countsB, shp] at f7; omega
      have g0 : V[0]? = some (xat V 0) := xat_get (by omega)
      have g1 : V[1]? = some (xat V 1) := xat_get (by omega)
      simp +contextual -implicitDefEqProofs (maxSteps := 1000000) only [sm, awpOper, awpDo, evP, evBin, evUn, eqInts, fillA, setCells, cutCells, okElems, AV.natOf, natO, maxA, minA, AV.isInt, evSlc, evLoad, setE, evW, AV.cells, AV.okSt, elemsOf, appBase, AV.isSl, resV, tupV, viewN, embB, embT, okR, okC, okL, okEs, ren, renC, renL, renEs, seval, eCon, eIs, h0', w1, hlast]
      refine callA_rule (ref11_linear 15) (wkL_refl _) rfl ?_
      simp +contextual -implicitDefEqProofs (maxSteps := 1000000) only [sm, awpOper, awpDo, evP, evBin, evUn, eqInts, fillA, setCells, cutCells, okElems, AV.natOf, natO, maxA, minA, AV.isInt, evSlc, evLoad, setE, evW, AV.cells, AV.okSt, elemsOf, appBase, AV.isSl, resV, tupV, viewN, embB, embT, okR, okC, okL, okEs, ren, renC, renL, renEs, seval, eCon, eIs, w1, g0, g1, n3]
      simp [holdsB]
end Go.Proofs.Ytclpkkbamgmooaa
