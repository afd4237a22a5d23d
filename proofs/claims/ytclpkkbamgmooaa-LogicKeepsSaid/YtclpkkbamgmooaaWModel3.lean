/- What the functions of package model compute: may, Right. -/
import Derived.Test.YtclpkkbamgmooaaWModel2
namespace Go.Proofs.Ytclpkkbamgmooaa
open Av
attribute [local irreducible] awp awpOpers
set_option linter.unusedSimpArgs false
set_option linter.unusedVariables false
set_option maxRecDepth 100000
set_option maxHeartbeats 4000000
abbrev Mod := List (List Rg) × List Con × Int × Int
def eMod (m : Mod) : AV := .agg [eDoms m.1, eCons m.2.1, .int .i64 m.2.2.1, .int .i64 m.2.2.2]
def rowOf (D : List (List Rg)) (x : Int) : List Rg := (D[x.toNat]?).getD []
def xOk (D : List (List Rg)) (X : List Int) (bt : Int) (i : Nat) : Bool :=
  match X[i]? with
  | none => true
  | some x => decide (0 ≤ x) && decide (x < D.length) && (if bt = 2 ∨ bt = 1 ∧ i + 1 = X.length then truthB (rowOf D x) else true)
def xsOk (D : List (List Rg)) (X : List Int) (bt : Int) : Bool := (List.range X.length).all (xOk D X bt)
theorem all_no {n : Nat} {p : Nat → Bool} {k : Nat} (hk : k < n) (h : p k = false) : (List.range n).all p = false := by
  rw [List.all_eq_false]
  exact ⟨k, by simpa using hk, by simp [h]⟩
theorem all_yes {n : Nat} {p : Nat → Bool} (h : ∀ k, k < n → p k = true) : (List.range n).all p = true := by
  rw [List.all_eq_true]
  intro k hk
  exact h k (by simpa using hk)
def mayB (D : List (List Rg)) (c : Con) : Bool :=
  formedB c && decide (c.2.1.length ≤ 32) && withinB c.2.2.2 && (decide (c.2.2.2 = 0) || (shp c.1).2.2.2.1) && xsOk D c.2.1 (shp c.1).2.2.2.2 && c.2.2.1.all withinB
theorem any_not {l : List Int} {p : Int → Bool} : (l.any fun a => !p a) = !l.all p := by
  induction l with
  | nil => rfl
  | cons x l ih => simp only [List.any_cons, List.all_cons, ih, Bool.not_and]
theorem model_may (m : Mod) (c : Con) (hD : m.1.length ≤ 1000000000000) (hd : ∀ d ∈ m.1, d.length ≤ 1000000000000) (hX : c.2.1.length ≤ 1000000000000) (hA : c.2.2.1.length ≤ 1000000000000) :
    Ctr Try.prog 66 [eMod m, eCon c] [] (.bool (mayB m.1 c)) [] := by
  obtain ⟨D, cs, ask, goal⟩ := m
  obtain ⟨K, X, A, C⟩ := c
  simp only at hX hA hD hd
  refine call_pure Try.func66 Try.call66 e_model_may ?_
  generalize hs : shp K = s
  obtain ⟨r, sx, sa, hs1, bt⟩ := s
  simp +contextual -implicitDefEqProofs (maxSteps := 1000000) only [c_model_may, eCon, eMod, sm, awpOper, awpDo, evP, evBin, evUn, eqInts, fillA, setCells, cutCells, okElems, AV.natOf, natO, maxA, minA, AV.isInt, evSlc, evLoad, setE, evW, AV.cells, AV.okSt, elemsOf, appBase, AV.isSl, resV, tupV, viewN, embB, embT, okR, okC, okL, okEs, ren, renC, renL, renEs, seval]
  refine callA_rule (model_shapes K) (wkL_refl _) rfl ?_
  rw [hs]
  simp +contextual -implicitDefEqProofs (maxSteps := 1000000) only [sm, awpOper, awpDo, evP, evBin, evUn, eqInts, fillA, setCells, cutCells, okElems, AV.natOf, natO, maxA, minA, AV.isInt, evSlc, evLoad, setE, evW, AV.cells, AV.okSt, elemsOf, appBase, AV.isSl, resV, tupV, viewN, embB, embT, okR, okC, okL, okEs, ren, renC, renL, renEs, seval, eShp]
  refine callA_rule (model_formed (K, X, A, C) hX hA) (wkL_refl _) rfl ?_
  cases hf : formedB (K, X, A, C)
  · simp +contextual -implicitDefEqProofs (maxSteps := 1000000) only [sm, awpOper, awpDo, evP, evBin, evUn, eqInts, fillA, setCells, cutCells, okElems, AV.natOf, natO, maxA, minA, AV.isInt, evSlc, evLoad, setE, evW, AV.cells, AV.okSt, elemsOf, appBase, AV.isSl, resV, tupV, viewN, embB, embT, okR, okC, okL, okEs, ren, renC, renL, renEs, seval, eShp]
    simp [mayB, hf]
  by_cases h32 : X.length ≤ 32
  · have h32' : ¬ (32 : Int) < X.length := by omega
    simp +contextual -implicitDefEqProofs (maxSteps := 1000000) only [sm, awpOper, awpDo, evP, evBin, evUn, eqInts, fillA, setCells, cutCells, okElems, AV.natOf, natO, maxA, minA, AV.isInt, evSlc, evLoad, setE, evW, AV.cells, AV.okSt, elemsOf, appBase, AV.isSl, resV, tupV, viewN, embB, embT, okR, okC, okL, okEs, ren, renC, renL, renEs, seval, eShp, eIs, h32']
    refine callA_rule (model_within _) (wkL_refl _) rfl ?_
    cases hw : withinB C
    · simp +contextual -implicitDefEqProofs (maxSteps := 1000000) only [sm, awpOper, awpDo, evP, evBin, evUn, eqInts, fillA, setCells, cutCells, okElems, AV.natOf, natO, maxA, minA, AV.isInt, evSlc, evLoad, setE, evW, AV.cells, AV.okSt, elemsOf, appBase, AV.isSl, resV, tupV, viewN, embB, embT, okR, okC, okL, okEs, ren, renC, renL, renEs, seval, eShp]
      simp [mayB, hw]
    by_cases h0 : C = 0 ∨ hs1 = true
    · have g1 : mayB D (K, X, A, C) = (xsOk D X bt && A.all withinB) := by
        simp only [mayB, hf, hw, h32, hs, decide_true, Bool.true_and]
        rcases h0 with h | h <;> simp [h]
      rw [g1]
      have h0' : C = 0 ∨ ¬ C = 0 ∧ hs1 = true := by rcases h0 with h | h <;> by_cases C = 0 <;> simp_all
      clear h0 g1
      have e1 : IntKind.i64.wrap ((X.length : Int) - 1) = (X.length : Int) - 1 := by rw [wrap_i64] <;> omega
      have h1 : C = 0 ∧ True ∨ ¬ C = 0 ∧ hs1 = true := by rcases h0' with h | h <;> simp_all
      rcases h1 with ⟨h0, h1⟩ | ⟨h0, h1⟩
      all_goals
        simp +contextual -implicitDefEqProofs (maxSteps := 1000000) only [sm, awpOper, awpDo, evP, evBin, evUn, eqInts, fillA, setCells, cutCells, okElems, AV.natOf, natO, maxA, minA, AV.isInt, evSlc, evLoad, setE, evW, AV.cells, AV.okSt, elemsOf, appBase, AV.isSl, resV, tupV, viewN, embB, embT, okR, okC, okL, okEs, ren, renC, renL, renEs, seval, eShp, h0, h1]
        refine loop_rule (fun k : Nat => k ≤ X.length ∧ ∀ j, j < k → xOk D X bt j = true) (fun k => tm 87 [(2, .ptr 4 0 0 0), (3, .ptr 4 1 0 0), (5, .ptr 5 2 0 0), (41, .list 1 (X.map eI)), (42, .int .i64 X.length), (43, .int .i64 k)])
          (fun _ => [some (4, [eMod (D, cs, ask, goal)]), some (4, [eCon (K, X, A, C)]), some (5, [eShp (r, sx, sa, hs1, bt)])]) (fun k => X.length - k) 0 ⟨by omega, by omega⟩ ⟨[0, 1, 2], by decide, rfl, ?_, ?_⟩ ?_
        · simp +contextual -implicitDefEqProofs (maxSteps := 1000000) only [sm, awpOper, awpDo, evP, evBin, evUn, eqInts, fillA, setCells, cutCells, okElems, AV.natOf, natO, maxA, minA, AV.isInt, evSlc, evLoad, setE, evW, AV.cells, AV.okSt, elemsOf, appBase, AV.isSl, resV, tupV, viewN, embB, embT, okR, okC, okL, okEs, ren, renC, renL, renEs, seval, eMod, eCon, eShp, h0, h1, eIs, eDoms, eCons]
        · simp +contextual -implicitDefEqProofs (maxSteps := 1000000) only [sm, awpOper, awpDo, evP, evBin, evUn, eqInts, fillA, setCells, cutCells, okElems, AV.natOf, natO, maxA, minA, AV.isInt, evSlc, evLoad, setE, evW, AV.cells, AV.okSt, elemsOf, appBase, AV.isSl, resV, tupV, viewN, embB, embT, okR, okC, okL, okEs, ren, renC, renL, renEs, seval, Int.natCast_zero]
        · rintro k ⟨hk, hok⟩
          by_cases hlt : k < X.length
          · obtain ⟨x, hx⟩ : ∃ r, X[k]? = some r := ⟨_, List.getElem?_eq_getElem hlt⟩
            have hlt' : (k : Int) < (X.length : Int) := by omega
            have e2 : IntKind.i64.wrap ((k : Int) + 1) = ((k + 1 : Nat) : Int) := by rw [wrap_i64] <;> omega
            have no : xOk D X bt k = false → (xsOk D X bt && A.all withinB) = false := fun h => by unfold xsOk; rw [all_no hlt h]; rfl
            have step : xOk D X bt k = true → ∀ j, j < k + 1 → xOk D X bt j = true := fun h j hj => by
              rcases Nat.lt_succ_iff_lt_or_eq.1 hj with h' | rfl
              · exact hok j h'
              · exact h
            by_cases hx0 : x < 0
            · simp +contextual -implicitDefEqProofs (maxSteps := 1000000) only [sm, awpOper, awpDo, evP, evBin, evUn, eqInts, fillA, setCells, cutCells, okElems, AV.natOf, natO, maxA, minA, AV.isInt, evSlc, evLoad, setE, evW, AV.cells, AV.okSt, elemsOf, appBase, AV.isSl, resV, tupV, viewN, embB, embT, okR, okC, okL, okEs, ren, renC, renL, renEs, seval, hlt', hx, hx0]
              exact no (by simp [xOk, hx]; omega)
            by_cases hx1 : (D.length : Int) ≤ x
            · simp +contextual -implicitDefEqProofs (maxSteps := 1000000) only [sm, awpOper, awpDo, evP, evBin, evUn, eqInts, fillA, setCells, cutCells, okElems, AV.natOf, natO, maxA, minA, AV.isInt, evSlc, evLoad, setE, evW, AV.cells, AV.okSt, elemsOf, appBase, AV.isSl, resV, tupV, viewN, embB, embT, okR, okC, okL, okEs, ren, renC, renL, renEs, seval, hlt', hx, hx0, hx1, eMod, eDoms]
              exact no (by simp [xOk, hx]; omega)
            obtain ⟨row, hrow⟩ : ∃ r, D[x.toNat]? = some r := ⟨_, List.getElem?_eq_getElem (by omega)⟩
            have hx0' : 0 ≤ x := by omega
            have hr : rowOf D x = row := by unfold rowOf; rw [hrow]; rfl
            have hrl : row.length ≤ 1000000000000 := hd row (List.mem_of_getElem? hrow)
            have hxi : xOk D X bt k = if bt = 2 ∨ bt = 1 ∧ k + 1 = X.length then truthB row else true := by
              simp only [xOk, hx, hr]
              have : x < (D.length : Int) := by omega
              simp [hx0', this]
            by_cases hb2 : bt = 2
            · subst hb2
              simp +contextual -implicitDefEqProofs (maxSteps := 1000000) only [sm, awpOper, awpDo, evP, evBin, evUn, eqInts, fillA, setCells, cutCells, okElems, AV.natOf, natO, maxA, minA, AV.isInt, evSlc, evLoad, setE, evW, AV.cells, AV.okSt, elemsOf, appBase, AV.isSl, resV, tupV, viewN, embB, embT, okR, okC, okL, okEs, ren, renC, renL, renEs, seval, hlt', hx, hx0, hx1, eMod, eDoms, eCon, eShp, eIs, hrow, hx0']
              refine callA_rule (model_truth row hrl) (wkL_refl _) rfl ?_
              rw [if_pos (.inl rfl)] at hxi
              cases ht : truthB row
              · simp +contextual -implicitDefEqProofs (maxSteps := 1000000) only [sm, awpOper, awpDo, evP, evBin, evUn, eqInts, fillA, setCells, cutCells, okElems, AV.natOf, natO, maxA, minA, AV.isInt, evSlc, evLoad, setE, evW, AV.cells, AV.okSt, elemsOf, appBase, AV.isSl, resV, tupV, viewN, embB, embT, okR, okC, okL, okEs, ren, renC, renL, renEs, seval]
                exact no (by rw [hxi, ht])
              · simp +contextual -implicitDefEqProofs (maxSteps := 1000000) only [sm, awpOper, awpDo, evP, evBin, evUn, eqInts, fillA, setCells, cutCells, okElems, AV.natOf, natO, maxA, minA, AV.isInt, evSlc, evLoad, setE, evW, AV.cells, AV.okSt, elemsOf, appBase, AV.isSl, resV, tupV, viewN, embB, embT, okR, okC, okL, okEs, ren, renC, renL, renEs, seval, e2]
                refine ⟨k + 1, ⟨by omega, step (by rw [hxi, ht])⟩, by omega, [0, 1, 2], by decide, rfl, ?_, ?_⟩ <;> simp +contextual -implicitDefEqProofs (maxSteps := 1000000) only [sm, awpOper, awpDo, evP, evBin, evUn, eqInts, fillA, setCells, cutCells, okElems, AV.natOf, natO, maxA, minA, AV.isInt, evSlc, evLoad, setE, evW, AV.cells, AV.okSt, elemsOf, appBase, AV.isSl, resV, tupV, viewN, embB, embT, okR, okC, okL, okEs, ren, renC, renL, renEs, seval, eMod, eCon, eShp, eIs, eDoms, eCons, h0, h1]
            by_cases hb1 : bt = 1
            · subst hb1
              by_cases hl : k + 1 = X.length
              · have hl' : ((k : Int) = (X.length : Int) - 1) = True := by simp only [eq_iff_iff, iff_true]; omega
                simp +contextual -implicitDefEqProofs (maxSteps := 1000000) only [sm, awpOper, awpDo, evP, evBin, evUn, eqInts, fillA, setCells, cutCells, okElems, AV.natOf, natO, maxA, minA, AV.isInt, evSlc, evLoad, setE, evW, AV.cells, AV.okSt, elemsOf, appBase, AV.isSl, resV, tupV, viewN, embB, embT, okR, okC, okL, okEs, ren, renC, renL, renEs, seval, hlt', hx, hx0, hx1, eMod, eDoms, eCon, eShp, eIs, hl', e1, hrow, hx0']
                refine callA_rule (model_truth row hrl) (wkL_refl _) rfl ?_
                rw [if_pos (.inr ⟨rfl, hl⟩)] at hxi
                cases ht : truthB row
                · simp +contextual -implicitDefEqProofs (maxSteps := 1000000) only [sm, awpOper, awpDo, evP, evBin, evUn, eqInts, fillA, setCells, cutCells, okElems, AV.natOf, natO, maxA, minA, AV.isInt, evSlc, evLoad, setE, evW, AV.cells, AV.okSt, elemsOf, appBase, AV.isSl, resV, tupV, viewN, embB, embT, okR, okC, okL, okEs, ren, renC, renL, renEs, seval]
                  exact no (by rw [hxi, ht])
                · simp +contextual -implicitDefEqProofs (maxSteps := 1000000) only [sm, awpOper, awpDo, evP, evBin, evUn, eqInts, fillA, setCells, cutCells, okElems, AV.natOf, natO, maxA, minA, AV.isInt, evSlc, evLoad, setE, evW, AV.cells, AV.okSt, elemsOf, appBase, AV.isSl, resV, tupV, viewN, embB, embT, okR, okC, okL, okEs, ren, renC, renL, renEs, seval, e2]
                  refine ⟨k + 1, ⟨by omega, step (by rw [hxi, ht])⟩, by omega, [0, 1, 2], by decide, rfl, ?_, ?_⟩ <;> simp +contextual -implicitDefEqProofs (maxSteps := 1000000) only [sm, awpOper, awpDo, evP, evBin, evUn, eqInts, fillA, setCells, cutCells, okElems, AV.natOf, natO, maxA, minA, AV.isInt, evSlc, evLoad, setE, evW, AV.cells, AV.okSt, elemsOf, appBase, AV.isSl, resV, tupV, viewN, embB, embT, okR, okC, okL, okEs, ren, renC, renL, renEs, seval, eMod, eCon, eShp, eIs, eDoms, eCons, h0, h1]
              · have hl' : ((k : Int) = (X.length : Int) - 1) = False := by simp only [eq_iff_iff, iff_false]; omega
                rw [if_neg (by omega)] at hxi
                simp +contextual -implicitDefEqProofs (maxSteps := 1000000) only [sm, awpOper, awpDo, evP, evBin, evUn, eqInts, fillA, setCells, cutCells, okElems, AV.natOf, natO, maxA, minA, AV.isInt, evSlc, evLoad, setE, evW, AV.cells, AV.okSt, elemsOf, appBase, AV.isSl, resV, tupV, viewN, embB, embT, okR, okC, okL, okEs, ren, renC, renL, renEs, seval, hlt', hx, hx0, hx1, eMod, eDoms, eCon, eShp, eIs, hl', e1, e2]
                refine ⟨k + 1, ⟨by omega, step hxi⟩, by omega, [0, 1, 2], by decide, rfl, ?_, ?_⟩ <;> simp +contextual -implicitDefEqProofs (maxSteps := 1000000) only [sm, awpOper, awpDo, evP, evBin, evUn, eqInts, fillA, setCells, cutCells, okElems, AV.natOf, natO, maxA, minA, AV.isInt, evSlc, evLoad, setE, evW, AV.cells, AV.okSt, elemsOf, appBase, AV.isSl, resV, tupV, viewN, embB, embT, okR, okC, okL, okEs, ren, renC, renL, renEs, seval, eMod, eCon, eShp, eIs, eDoms, eCons, h0, h1]
            · rw [if_neg (by omega)] at hxi
              simp +contextual -implicitDefEqProofs (maxSteps := 1000000) only [sm, awpOper, awpDo, evP, evBin, evUn, eqInts, fillA, setCells, cutCells, okElems, AV.natOf, natO, maxA, minA, AV.isInt, evSlc, evLoad, setE, evW, AV.cells, AV.okSt, elemsOf, appBase, AV.isSl, resV, tupV, viewN, embB, embT, okR, okC, okL, okEs, ren, renC, renL, renEs, seval, hlt', hx, hx0, hx1, eMod, eDoms, eCon, eShp, eIs, hb1, hb2, e2]
              refine ⟨k + 1, ⟨by omega, step hxi⟩, by omega, [0, 1, 2], by decide, rfl, ?_, ?_⟩ <;> simp +contextual -implicitDefEqProofs (maxSteps := 1000000) only [sm, awpOper, awpDo, evP, evBin, evUn, eqInts, fillA, setCells, cutCells, okElems, AV.natOf, natO, maxA, minA, AV.isInt, evSlc, evLoad, setE, evW, AV.cells, AV.okSt, elemsOf, appBase, AV.isSl, resV, tupV, viewN, embB, embT, okR, okC, okL, okEs, ren, renC, renL, renEs, seval, eMod, eCon, eShp, eIs, eDoms, eCons, h0, h1]
          · have : k = X.length := by omega
            subst this
            simp +contextual -implicitDefEqProofs (maxSteps := 1000000) only [sm, awpOper, awpDo, evP, evBin, evUn, eqInts, fillA, setCells, cutCells, okElems, AV.natOf, natO, maxA, minA, AV.isInt, evSlc, evLoad, setE, evW, AV.cells, AV.okSt, elemsOf, appBase, AV.isSl, resV, tupV, viewN, embB, embT, okR, okC, okL, okEs, ren, renC, renL, renEs, seval, Int.lt_irrefl, eCon, eIs]
            refine callA_rule (contains_ints A hA _ _ model_may_1) (wkL_refl _) rfl ?_
            simp +contextual -implicitDefEqProofs (maxSteps := 1000000) only [sm, awpOper, awpDo, evP, evBin, evUn, eqInts, fillA, setCells, cutCells, okElems, AV.natOf, natO, maxA, minA, AV.isInt, evSlc, evLoad, setE, evW, AV.cells, AV.okSt, elemsOf, appBase, AV.isSl, resV, tupV, viewN, embB, embT, okR, okC, okL, okEs, ren, renC, renL, renEs, seval]
            have : xsOk D X bt = true := all_yes hok
            rw [this, any_not]
            simp
    · have h0' : hs1 = false ∧ ¬ C = 0 := by simpa [and_comm] using h0
      simp +contextual -implicitDefEqProofs (maxSteps := 1000000) only [sm, awpOper, awpDo, evP, evBin, evUn, eqInts, fillA, setCells, cutCells, okElems, AV.natOf, natO, maxA, minA, AV.isInt, evSlc, evLoad, setE, evW, AV.cells, AV.okSt, elemsOf, appBase, AV.isSl, resV, tupV, viewN, embB, embT, okR, okC, okL, okEs, ren, renC, renL, renEs, seval, eShp, h0'.1, h0'.2]
      simp [mayB, h0'.1, h0'.2, hs]
  · have h32' : (32 : Int) < X.length := by omega
    simp +contextual -implicitDefEqProofs (maxSteps := 1000000) only [sm, awpOper, awpDo, evP, evBin, evUn, eqInts, fillA, setCells, cutCells, okElems, AV.natOf, natO, maxA, minA, AV.isInt, evSlc, evLoad, setE, evW, AV.cells, AV.okSt, elemsOf, appBase, AV.isSl, resV, tupV, viewN, embB, embT, okR, okC, okL, okEs, ren, renC, renL, renEs, seval, eShp, eIs, h32']
    simp [mayB, h32]
end Go.Proofs.Ytclpkkbamgmooaa
