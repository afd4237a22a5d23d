/- What the functions of package touchstoneref08 compute: truths, Con. -/
import Derived.Test.YtclpkkbamgmooaaWRef08b
namespace Go.Proofs.Ytclpkkbamgmooaa
open Av
attribute [local irreducible] awp awpOpers
set_option linter.unusedSimpArgs false
set_option linter.unusedVariables false
set_option maxRecDepth 100000
set_option maxHeartbeats 4000000
def inR (D : List (List Rg)) (x : Int) : Bool := decide (0 ≤ x) && decide (x < D.length)
theorem inR_row {D : List (List Rg)} {x : Int} (h : inR D x = true) : D[x.toNat]? = some (rowOf D x) := by
  simp only [inR, Bool.and_eq_true, decide_eq_true_eq] at h
  unfold rowOf
  rw [List.getElem?_eq_getElem (by omega)]; rfl
theorem row_len {D : List (List Rg)} (hd : ∀ d ∈ D, d.length ≤ 1000000000000) (x : Int) : (rowOf D x).length ≤ 1000000000000 := by
  unfold rowOf
  cases h : D[x.toNat]? with
  | none => simp
  | some r => exact hd r (List.mem_of_getElem? h)
def truthAt (D : List (List Rg)) (x : Int) : Bool := truthB (rowOf D x)
theorem xs_zero {D : List (List Rg)} {X : List Int} (h : X.all (inR D) = true) : xsOk D X 0 = true := by
  refine all_yes fun k hk => ?_
  rw [List.all_eq_true] at h
  have := h _ (List.getElem_mem hk)
  simp only [inR, Bool.and_eq_true, decide_eq_true_eq] at this
  simp [xOk, List.getElem?_eq_getElem hk, this]
theorem xs_two {D : List (List Rg)} {X : List Int} (h : X.all (inR D) = true) : xsOk D X 2 = X.all (truthAt D) := by
  rw [List.all_eq_true] at h
  have key : ∀ k, k < X.length → ∀ x, X[k]? = some x → xOk D X 2 k = truthAt D x := by
    intro k hk x hx
    have := h x (List.mem_of_getElem? hx)
    simp only [inR, Bool.and_eq_true, decide_eq_true_eq] at this
    simp [xOk, hx, this, truthAt]
  cases ha : X.all (truthAt D)
  · rw [List.all_eq_false] at ha
    obtain ⟨x, hx, hn⟩ := ha
    obtain ⟨k, hk, rfl⟩ := List.getElem_of_mem hx
    exact all_no hk (by rw [key k hk _ (List.getElem?_eq_getElem hk)]; simpa using hn)
  · rw [List.all_eq_true] at ha
    exact all_yes fun k hk => by rw [key k hk _ (List.getElem?_eq_getElem hk)]; exact ha _ (List.getElem_mem hk)
theorem xs_one {D : List (List Rg)} {X : List Int} {x : Int} (h : X.all (inR D) = true) (hx : X[X.length - 1]? = some x) : xsOk D X 1 = truthAt D x := by
  rw [List.all_eq_true] at h
  have hl : X.length - 1 < X.length := (List.getElem?_eq_some_iff.1 hx).1
  have key : ∀ k, k < X.length → xOk D X 1 k = if k + 1 = X.length then truthAt D x else true := by
    intro k hk
    have := h _ (List.getElem_mem hk)
    simp only [inR, Bool.and_eq_true, decide_eq_true_eq] at this
    by_cases he : k + 1 = X.length
    · have : k = X.length - 1 := by omega
      subst this
      rw [if_pos he]
      have hx' : X[X.length - 1] = x := (List.getElem?_eq_some_iff.1 hx).2
      simp [xOk, List.getElem?_eq_getElem hk, this, he, truthAt, hx'] at *
      simp [this]
    · simp [xOk, List.getElem?_eq_getElem hk, this, he]
  cases ha : truthAt D x
  · exact all_no hl (by rw [key _ hl, if_pos (by omega), ha])
  · exact all_yes fun k hk => by rw [key k hk, ha]; simp
theorem ref08_truths (m : Mod) (X : List Int) (hX : X.length ≤ 1000000000000) (hd : ∀ d ∈ m.1, d.length ≤ 1000000000000) (hin : X.all (inR m.1) = true) :
    Ctr Try.prog 118 [eMod m, eIs X] [] (.bool (X.all (truthAt m.1))) [] := by
  obtain ⟨D, cs, ask, goal⟩ := m
  simp only at hd hin
  refine call_pure Try.func118 Try.call118 e_ref08_truths ?_
  have hin' := hin
  rw [List.all_eq_true] at hin'
  simp +contextual -implicitDefEqProofs (maxSteps := 1000000) only [c_ref08_truths, eMod, eIs, sm, awpOper, awpDo, evP, evBin, evUn, eqInts, fillA, setCells, cutCells, okElems, AV.natOf, natO, maxA, minA, AV.isInt, evSlc, evLoad, setE, evW, AV.cells, AV.okSt, elemsOf, appBase, AV.isSl, resV, tupV, viewN, embB, embT, okR, okC, okL, okEs, ren, renC, renL, renEs, seval]
  refine loop_rule (fun k : Nat => k ≤ X.length ∧ ∀ (j : Nat) x, j < k → X[j]? = some x → (truthAt D) x = true) (fun k => tm 22 [(1, .list 1 (X.map eI)), (2, .ptr 4 0 0 0), (5, .int .i64 k)]) (fun _ => [some (4, [eMod (D, cs, ask, goal)])]) (fun k => X.length - k) 0 ⟨by omega, by omega⟩ ⟨[0], by decide, rfl, ?_, ?_⟩ ?_
  · simp +contextual -implicitDefEqProofs (maxSteps := 1000000) only [sm, awpOper, awpDo, evP, evBin, evUn, eqInts, fillA, setCells, cutCells, okElems, AV.natOf, natO, maxA, minA, AV.isInt, evSlc, evLoad, setE, evW, AV.cells, AV.okSt, elemsOf, appBase, AV.isSl, resV, tupV, viewN, embB, embT, okR, okC, okL, okEs, ren, renC, renL, renEs, seval, eMod, eDoms, eCons]
  · simp +contextual -implicitDefEqProofs (maxSteps := 1000000) only [sm, awpOper, awpDo, evP, evBin, evUn, eqInts, fillA, setCells, cutCells, okElems, AV.natOf, natO, maxA, minA, AV.isInt, evSlc, evLoad, setE, evW, AV.cells, AV.okSt, elemsOf, appBase, AV.isSl, resV, tupV, viewN, embB, embT, okR, okC, okL, okEs, ren, renC, renL, renEs, seval, Int.natCast_zero, eMod, eDoms, eCons]
  · rintro k ⟨hk, hok⟩
    by_cases hlt : k < X.length
    · obtain ⟨x, hx⟩ : ∃ r, X[k]? = some r := ⟨_, List.getElem?_eq_getElem hlt⟩
      have hlt' : (k : Int) < (X.length : Int) := by omega
      have e2 : IntKind.i64.wrap ((k : Int) + 1) = ((k + 1 : Nat) : Int) := by rw [wrap_i64] <;> omega
      have hxr := hin' x (List.mem_of_getElem? hx)
      have hrow := inR_row hxr
      have hx0 : 0 ≤ x := by simp [inR] at hxr; exact hxr.1
      simp +contextual -implicitDefEqProofs (maxSteps := 1000000) only [sm, awpOper, awpDo, evP, evBin, evUn, eqInts, fillA, setCells, cutCells, okElems, AV.natOf, natO, maxA, minA, AV.isInt, evSlc, evLoad, setE, evW, AV.cells, AV.okSt, elemsOf, appBase, AV.isSl, resV, tupV, viewN, embB, embT, okR, okC, okL, okEs, ren, renC, renL, renEs, seval, hlt', hx, hx0, hrow, eMod, eDoms]
      refine callA_rule (ref08_truth _ (row_len hd x)) (wkL_refl _) rfl ?_
      cases ht : truthB (rowOf D x)
      · simp +contextual -implicitDefEqProofs (maxSteps := 1000000) only [sm, awpOper, awpDo, evP, evBin, evUn, eqInts, fillA, setCells, cutCells, okElems, AV.natOf, natO, maxA, minA, AV.isInt, evSlc, evLoad, setE, evW, AV.cells, AV.okSt, elemsOf, appBase, AV.isSl, resV, tupV, viewN, embB, embT, okR, okC, okL, okEs, ren, renC, renL, renEs, seval]
        exact listall_no hx ht
      · simp +contextual -implicitDefEqProofs (maxSteps := 1000000) only [sm, awpOper, awpDo, evP, evBin, evUn, eqInts, fillA, setCells, cutCells, okElems, AV.natOf, natO, maxA, minA, AV.isInt, evSlc, evLoad, setE, evW, AV.cells, AV.okSt, elemsOf, appBase, AV.isSl, resV, tupV, viewN, embB, embT, okR, okC, okL, okEs, ren, renC, renL, renEs, seval, e2]
        refine ⟨k + 1, ⟨by omega, ?_⟩, by omega, [0], by decide, rfl, ?_, ?_⟩
        · intro j y hj hy
          rcases Nat.lt_succ_iff_lt_or_eq.1 hj with h | rfl
          · exact hok j y h hy
          · rw [hx] at hy; injection hy with hy; subst hy; exact ht
        · simp +contextual -implicitDefEqProofs (maxSteps := 1000000) only [sm, awpOper, awpDo, evP, evBin, evUn, eqInts, fillA, setCells, cutCells, okElems, AV.natOf, natO, maxA, minA, AV.isInt, evSlc, evLoad, setE, evW, AV.cells, AV.okSt, elemsOf, appBase, AV.isSl, resV, tupV, viewN, embB, embT, okR, okC, okL, okEs, ren, renC, renL, renEs, seval, eMod, eDoms, eCons]
        · simp +contextual -implicitDefEqProofs (maxSteps := 1000000) only [sm, awpOper, awpDo, evP, evBin, evUn, eqInts, fillA, setCells, cutCells, okElems, AV.natOf, natO, maxA, minA, AV.isInt, evSlc, evLoad, setE, evW, AV.cells, AV.okSt, elemsOf, appBase, AV.isSl, resV, tupV, viewN, embB, embT, okR, okC, okL, okEs, ren, renC, renL, renEs, seval, eMod, eDoms, eCons]
    · have : k = X.length := by omega
      subst this
      have hall := listall_yes hok
      simp +contextual -implicitDefEqProofs (maxSteps := 1000000) only [sm, awpOper, awpDo, evP, evBin, evUn, eqInts, fillA, setCells, cutCells, okElems, AV.natOf, natO, maxA, minA, AV.isInt, evSlc, evLoad, setE, evW, AV.cells, AV.okSt, elemsOf, appBase, AV.isSl, resV, tupV, viewN, embB, embT, okR, okC, okL, okEs, ren, renC, renL, renEs, seval, Int.lt_irrefl]
      exact hall
end Go.Proofs.Ytclpkkbamgmooaa
