/- What the functions of package ref11 compute, continued: Size, Boxes, first, after, Every. -/
import Derived.Test.YtclpkkbamgmooaaWRef11c
import Derived.Test.YtclpkkbamgmooaaWRef09b
namespace Go.Proofs.Ytclpkkbamgmooaa
open Av
attribute [local irreducible] awp awpOpers
set_option linter.unusedSimpArgs false
set_option linter.unusedVariables false
set_option maxRecDepth 100000
set_option maxHeartbeats 4000000
theorem ref09_Size (r : List Rg) (hr : rightB r = true) : Ctr Try.prog 77 [eRgs r] [] (.int .i64 (sizeV r)) [] := by
  refine call_pure Try.func77 Try.call77 e_ref09_Size ?_
  have hl := right_length hr
  have hs : sizeV r = sizeGo 0 r := by unfold sizeV; rw [if_pos hr]
  simp +contextual -implicitDefEqProofs (maxSteps := 1000000) only [c_ref09_Size, eRgs, sm, awpOper, awpDo, evP, evBin, evUn, eqInts, fillA, setCells, cutCells, okElems, AV.natOf, natO, maxA, minA, AV.isInt, evSlc, evLoad, setE, evW, AV.cells, AV.okSt, elemsOf, appBase, AV.isSl, resV, tupV, viewN, embB, embT, okR, okC, okL, okEs, ren, renC, renL, renEs, seval]
  refine callA_rule (ref09_Right r (by omega)) (wkL_refl _) rfl ?_
  rw [hr, hs]
  simp +contextual -implicitDefEqProofs (maxSteps := 1000000) only [sm, awpOper, awpDo, evP, evBin, evUn, eqInts, fillA, setCells, cutCells, okElems, AV.natOf, natO, maxA, minA, AV.isInt, evSlc, evLoad, setE, evW, AV.cells, AV.okSt, elemsOf, appBase, AV.isSl, resV, tupV, viewN, embB, embT, okR, okC, okL, okEs, ren, renC, renL, renEs, seval]
  refine loop_rule (fun b : Nat × Int => b.1 ≤ r.length ∧ sizeGo b.2 (r.drop b.1) = sizeGo 0 r ∧ 0 ≤ b.2 ∧ b.2 ≤ 2097153 * b.1) (fun b => tm 29 [(0, .list 2 (r.map eRg)), (3, .int .i64 b.2), (4, .int .i64 b.1)]) (fun _ => []) (fun b => r.length - b.1) (0, 0) ⟨by simp, by simp, by simp, by simp⟩ ⟨[], by decide, rfl, ?_, ?_⟩ ?_
  · simp +contextual -implicitDefEqProofs (maxSteps := 1000000) only [sm, awpOper, awpDo, evP, evBin, evUn, eqInts, fillA, setCells, cutCells, okElems, AV.natOf, natO, maxA, minA, AV.isInt, evSlc, evLoad, setE, evW, AV.cells, AV.okSt, elemsOf, appBase, AV.isSl, resV, tupV, viewN, embB, embT, okR, okC, okL, okEs, ren, renC, renL, renEs, seval]
  · simp +contextual -implicitDefEqProofs (maxSteps := 1000000) only [sm, awpOper, awpDo, evP, evBin, evUn, eqInts, fillA, setCells, cutCells, okElems, AV.natOf, natO, maxA, minA, AV.isInt, evSlc, evLoad, setE, evW, AV.cells, AV.okSt, elemsOf, appBase, AV.isSl, resV, tupV, viewN, embB, embT, okR, okC, okL, okEs, ren, renC, renL, renEs, seval, Int.natCast_zero]
  · rintro ⟨k, n⟩ ⟨hk, hgo, hn0, hn⟩
    simp only at hk hgo hn0 hn
    by_cases hlt : k < r.length
    · have hlt' : (k : Int) < (r.length : Int) := by omega
      have e2 : IntKind.i64.wrap ((k : Int) + 1) = ((k + 1 : Nat) : Int) := by rw [wrap_i64] <;> omega
      obtain ⟨x, y, hx⟩ := at_rg hlt
      obtain ⟨g1, g2, g3, g4, g5⟩ := right_rg hr hx
      have hd := drop_at hx
      have w1 : IntKind.i64.wrap (n + y) = n + y := by rw [wrap_i64] <;> omega
      have w2 : IntKind.i64.wrap (n + y - x) = n + y - x := by rw [wrap_i64] <;> omega
      have w3 : IntKind.i64.wrap (n + y - x + 1) = n + (y - x + 1) := by rw [wrap_i64] <;> omega
      simp +contextual -implicitDefEqProofs (maxSteps := 1000000) only [sm, awpOper, awpDo, evP, evBin, evUn, eqInts, fillA, setCells, cutCells, okElems, AV.natOf, natO, maxA, minA, AV.isInt, evSlc, evLoad, setE, evW, AV.cells, AV.okSt, elemsOf, appBase, AV.isSl, resV, tupV, viewN, embB, embT, okR, okC, okL, okEs, ren, renC, renL, renEs, seval, hlt', hx, w1, w2, w3, e2]
      refine ⟨(k + 1, n + (y - x + 1)), ⟨by (try dsimp only); omega, by rw [← hgo, hd]; rfl, by (try dsimp only); omega, by (try dsimp only); omega⟩, by (try dsimp only); omega, [], by decide, rfl, ?_, ?_⟩
      · simp +contextual -implicitDefEqProofs (maxSteps := 1000000) only [sm, awpOper, awpDo, evP, evBin, evUn, eqInts, fillA, setCells, cutCells, okElems, AV.natOf, natO, maxA, minA, AV.isInt, evSlc, evLoad, setE, evW, AV.cells, AV.okSt, elemsOf, appBase, AV.isSl, resV, tupV, viewN, embB, embT, okR, okC, okL, okEs, ren, renC, renL, renEs, seval]
      · simp +contextual -implicitDefEqProofs (maxSteps := 1000000) only [sm, awpOper, awpDo, evP, evBin, evUn, eqInts, fillA, setCells, cutCells, okElems, AV.natOf, natO, maxA, minA, AV.isInt, evSlc, evLoad, setE, evW, AV.cells, AV.okSt, elemsOf, appBase, AV.isSl, resV, tupV, viewN, embB, embT, okR, okC, okL, okEs, ren, renC, renL, renEs, seval]
    · have hkn : k = r.length := by omega
      subst hkn
      rw [List.drop_length] at hgo
      have hgo' : n = sizeGo 0 r := hgo
      simp +contextual -implicitDefEqProofs (maxSteps := 1000000) only [sm, awpOper, awpDo, evP, evBin, evUn, eqInts, fillA, setCells, cutCells, okElems, AV.natOf, natO, maxA, minA, AV.isInt, evSlc, evLoad, setE, evW, AV.cells, AV.okSt, elemsOf, appBase, AV.isSl, resV, tupV, viewN, embB, embT, okR, okC, okL, okEs, ren, renC, renL, renEs, seval, Int.lt_irrefl, hgo']
theorem size_bound {r : List Rg} (hr : rightB r = true) : 0 ≤ sizeV r ∧ sizeV r ≤ 3000000000000 := by
  have hs : sizeV r = sizeGo 0 r := by unfold sizeV; rw [if_pos hr]
  have hl := right_length hr
  have key : ∀ (l : List Rg) (n : Int), (∀ q ∈ l, q.1 ≤ q.2 ∧ -1048576 ≤ q.1 ∧ q.2 ≤ 1048576) → 0 ≤ n → 0 ≤ sizeGo n l ∧ sizeGo n l ≤ n + 2097153 * l.length := by
    intro l
    induction l with
    | nil => intro n _ h; simp [sizeGo]; exact h
    | cons q l ih =>
      intro n h h0
      have hq := h q (by simp)
      have := ih (n + (q.2 - q.1 + 1)) (fun s hs => h s (by simp [hs])) (by omega)
      unfold sizeGo
      simp only [List.length_cons]
      omega
  have := key r 0 (fun q hq => by
    obtain ⟨j, hj, hjs⟩ := List.getElem_of_mem hq
    have hj' : r[j]? = some (q.1, q.2) := by rw [List.getElem?_eq_getElem hj, hjs]
    obtain ⟨g1, g2, g3, g4, g5⟩ := right_rg hr hj'
    exact ⟨g1, g2, g5⟩) (by omega)
  rw [hs]
  omega
theorem ref11_Boxes (D : List (List Rg)) (most : Int) (hm : 0 ≤ most ∧ most ≤ 1000000) (hm1 : 1 ≤ most) (hD : D.length ≤ 1000000000000) (hr : ∀ r ∈ D, rightB r = true) : Ctr Try.prog 44 [eDoms D, .int .i64 most] [] (.int .i64 (boxesGo most 1 D)) [] := by
  refine call_pure Try.func44 Try.call44 e_ref11_Boxes ?_
  have w0 : IntKind.i64.wrap (most + 1) = most + 1 := by rw [wrap_i64] <;> omega
  simp +contextual -implicitDefEqProofs (maxSteps := 1000000) only [c_ref11_Boxes, eDoms, sm, awpOper, awpDo, evP, evBin, evUn, eqInts, fillA, setCells, cutCells, okElems, AV.natOf, natO, maxA, minA, AV.isInt, evSlc, evLoad, setE, evW, AV.cells, AV.okSt, elemsOf, appBase, AV.isSl, resV, tupV, viewN, embB, embT, okR, okC, okL, okEs, ren, renC, renL, renEs, seval]
  refine loop_rule (fun b : Nat × Int => b.1 ≤ D.length ∧ boxesGo most b.2 (D.drop b.1) = boxesGo most 1 D ∧ 0 ≤ b.2 ∧ b.2 ≤ most) (fun b => tm 35 [(0, .list 1 (D.map eRgs)), (1, .int .i64 most), (5, .int .i64 b.2), (6, .int .i64 b.1)]) (fun _ => []) (fun b => D.length - b.1) (0, 1) ⟨by simp, by simp, by simp, by simp; omega⟩ ⟨[], by decide, rfl, ?_, ?_⟩ ?_
  · simp +contextual -implicitDefEqProofs (maxSteps := 1000000) only [sm, awpOper, awpDo, evP, evBin, evUn, eqInts, fillA, setCells, cutCells, okElems, AV.natOf, natO, maxA, minA, AV.isInt, evSlc, evLoad, setE, evW, AV.cells, AV.okSt, elemsOf, appBase, AV.isSl, resV, tupV, viewN, embB, embT, okR, okC, okL, okEs, ren, renC, renL, renEs, seval]
  · simp +contextual -implicitDefEqProofs (maxSteps := 1000000) only [sm, awpOper, awpDo, evP, evBin, evUn, eqInts, fillA, setCells, cutCells, okElems, AV.natOf, natO, maxA, minA, AV.isInt, evSlc, evLoad, setE, evW, AV.cells, AV.okSt, elemsOf, appBase, AV.isSl, resV, tupV, viewN, embB, embT, okR, okC, okL, okEs, ren, renC, renL, renEs, seval, Int.natCast_zero]
  · rintro ⟨k, n⟩ ⟨hk, hgo, hn0, hn⟩
    simp only at hk hgo hn0 hn
    by_cases hlt : k < D.length
    · have hlt' : (k : Int) < (D.length : Int) := by omega
      have e2 : IntKind.i64.wrap ((k : Int) + 1) = ((k + 1 : Nat) : Int) := by rw [wrap_i64] <;> omega
      obtain ⟨r, hx⟩ : ∃ r, D[k]? = some r := ⟨_, List.getElem?_eq_getElem hlt⟩
      have hrr := hr r (List.mem_of_getElem? hx)
      have hd := drop_at hx
      obtain ⟨z1, z2⟩ := size_bound hrr
      have hgd : boxesGo most n (r :: D.drop (k + 1)) = if most < sizeV r ∨ most < n * sizeV r then most + 1 else boxesGo most (n * sizeV r) (D.drop (k + 1)) := rfl
      rw [hd, hgd] at hgo
      simp +contextual -implicitDefEqProofs (maxSteps := 1000000) only [sm, awpOper, awpDo, evP, evBin, evUn, eqInts, fillA, setCells, cutCells, okElems, AV.natOf, natO, maxA, minA, AV.isInt, evSlc, evLoad, setE, evW, AV.cells, AV.okSt, elemsOf, appBase, AV.isSl, resV, tupV, viewN, embB, embT, okR, okC, okL, okEs, ren, renC, renL, renEs, seval, hlt', hx]
      refine callA_rule (ref09_Size r hrr) (wkL_refl _) rfl ?_
      generalize sizeV r = z at hgo z1 z2 ⊢
      by_cases g1 : most < z
      · rw [if_pos (.inl g1)] at hgo
        rw [← hgo]
        simp +contextual -implicitDefEqProofs (maxSteps := 1000000) only [sm, awpOper, awpDo, evP, evBin, evUn, eqInts, fillA, setCells, cutCells, okElems, AV.natOf, natO, maxA, minA, AV.isInt, evSlc, evLoad, setE, evW, AV.cells, AV.okSt, elemsOf, appBase, AV.isSl, resV, tupV, viewN, embB, embT, okR, okC, okL, okEs, ren, renC, renL, renEs, seval, g1, w0]
      · have b0 : n * z ≤ 1000000 * 1000000 := by
          have : n * z ≤ 1000000 * z := Int.mul_le_mul_of_nonneg_right (by omega) z1
          omega
        have b1 : 0 ≤ n * z := Int.mul_nonneg hn0 z1
        have w1 : IntKind.i64.wrap (n * z) = n * z := by rw [wrap_i64] <;> omega
        by_cases g2 : most < n * z
        · rw [if_pos (.inr g2)] at hgo
          rw [← hgo]
          simp +contextual -implicitDefEqProofs (maxSteps := 1000000) only [sm, awpOper, awpDo, evP, evBin, evUn, eqInts, fillA, setCells, cutCells, okElems, AV.natOf, natO, maxA, minA, AV.isInt, evSlc, evLoad, setE, evW, AV.cells, AV.okSt, elemsOf, appBase, AV.isSl, resV, tupV, viewN, embB, embT, okR, okC, okL, okEs, ren, renC, renL, renEs, seval, g1, g2, w0, w1]
        · rw [if_neg (by omega)] at hgo
          simp +contextual -implicitDefEqProofs (maxSteps := 1000000) only [sm, awpOper, awpDo, evP, evBin, evUn, eqInts, fillA, setCells, cutCells, okElems, AV.natOf, natO, maxA, minA, AV.isInt, evSlc, evLoad, setE, evW, AV.cells, AV.okSt, elemsOf, appBase, AV.isSl, resV, tupV, viewN, embB, embT, okR, okC, okL, okEs, ren, renC, renL, renEs, seval, g1, g2, w1, e2]
          refine ⟨(k + 1, n * z), ⟨by (try dsimp only); omega, by (try dsimp only); exact hgo, by (try dsimp only); omega, by (try dsimp only); omega⟩, by (try dsimp only); omega, [], by decide, rfl, ?_, ?_⟩
          · simp +contextual -implicitDefEqProofs (maxSteps := 1000000) only [sm, awpOper, awpDo, evP, evBin, evUn, eqInts, fillA, setCells, cutCells, okElems, AV.natOf, natO, maxA, minA, AV.isInt, evSlc, evLoad, setE, evW, AV.cells, AV.okSt, elemsOf, appBase, AV.isSl, resV, tupV, viewN, embB, embT, okR, okC, okL, okEs, ren, renC, renL, renEs, seval]
          · simp +contextual -implicitDefEqProofs (maxSteps := 1000000) only [sm, awpOper, awpDo, evP, evBin, evUn, eqInts, fillA, setCells, cutCells, okElems, AV.natOf, natO, maxA, minA, AV.isInt, evSlc, evLoad, setE, evW, AV.cells, AV.okSt, elemsOf, appBase, AV.isSl, resV, tupV, viewN, embB, embT, okR, okC, okL, okEs, ren, renC, renL, renEs, seval]
    · have hkn : k = D.length := by omega
      subst hkn
      rw [List.drop_length] at hgo
      have hgo' : n = boxesGo most 1 D := hgo
      simp +contextual -implicitDefEqProofs (maxSteps := 1000000) only [sm, awpOper, awpDo, evP, evBin, evUn, eqInts, fillA, setCells, cutCells, okElems, AV.natOf, natO, maxA, minA, AV.isInt, evSlc, evLoad, setE, evW, AV.cells, AV.okSt, elemsOf, appBase, AV.isSl, resV, tupV, viewN, embB, embT, okR, okC, okL, okEs, ren, renC, renL, renEs, seval, Int.lt_irrefl, hgo']
theorem lo0_at {r : List Rg} (h : 0 < r.length) : ∃ y, r[0]? = some (lo0 r, y) := by
  cases r with
  | nil => simp at h
  | cons a l => exact ⟨a.2, rfl⟩
theorem first_get {D : List (List Rg)} {k : Nat} {r : List Rg} (h : D[k]? = some r) : (firstA D)[k]? = some (lo0 r) := by
  unfold firstA
  rw [List.getElem?_map, h]; rfl
theorem first_len (D : List (List Rg)) : (firstA D).length = D.length := by unfold firstA; rw [List.length_map]
theorem ref11_first (D : List (List Rg)) (hD : D.length ≤ 1000000000000) (hF : Full D) : Ctr Try.prog 62 [eDoms D] [] (eIs (firstA D)) [] := by
  refine call_pure Try.func62 Try.call62 e_ref11_first ?_
  have hFl := first_len D
  simp +contextual -implicitDefEqProofs (maxSteps := 1000000) only [c_ref11_first, eDoms, sm, awpOper, awpDo, evP, evBin, evUn, eqInts, fillA, setCells, cutCells, okElems, AV.natOf, natO, maxA, minA, AV.isInt, evSlc, evLoad, setE, evW, AV.cells, AV.okSt, elemsOf, appBase, AV.isSl, resV, tupV, viewN, embB, embT, okR, okC, okL, okEs, ren, renC, renL, renEs, seval]
  refine loop_ruleV [(3, 1)] (fun k : Nat => k ≤ D.length) (fun k => tm 22 [(0, .list 1 (D.map eRgs)), (3, .sl 1 0 0 k), (4, .int .i64 k)]) (fun k => [some (1, ((firstA D).take k).map eI)]) (fun k => D.length - k) 0 (by simp +contextual -implicitDefEqProofs (maxSteps := 1000000) only [sm, awpOper, awpDo, evP, evBin, evUn, eqInts, fillA, setCells, cutCells, okElems, AV.natOf, natO, maxA, minA, AV.isInt, evSlc, evLoad, setE, evW, AV.cells, AV.okSt, elemsOf, appBase, AV.isSl, resV, tupV, viewN, embB, embT, okR, okC, okL, okEs, ren, renC, renL, renEs, seval]) (Nat.zero_le _) ⟨[0], by decide, rfl, ?_, ?_⟩ ?_
  · simp +contextual -implicitDefEqProofs (maxSteps := 1000000) only [sm, awpOper, awpDo, evP, evBin, evUn, eqInts, fillA, setCells, cutCells, okElems, AV.natOf, natO, maxA, minA, AV.isInt, evSlc, evLoad, setE, evW, AV.cells, AV.okSt, elemsOf, appBase, AV.isSl, resV, tupV, viewN, embB, embT, okR, okC, okL, okEs, ren, renC, renL, renEs, seval]
  · simp +contextual -implicitDefEqProofs (maxSteps := 1000000) only [sm, awpOper, awpDo, evP, evBin, evUn, eqInts, fillA, setCells, cutCells, okElems, AV.natOf, natO, maxA, minA, AV.isInt, evSlc, evLoad, setE, evW, AV.cells, AV.okSt, elemsOf, appBase, AV.isSl, resV, tupV, viewN, embB, embT, okR, okC, okL, okEs, ren, renC, renL, renEs, seval, Int.natCast_zero]
  · intro k hk
    have hkl : ((firstA D).take k).length = k := by rw [List.length_take]; omega
    by_cases hlt : k < D.length
    · have hlt' : (k : Int) < (D.length : Int) := by omega
      have e2 : IntKind.i64.wrap ((k : Int) + 1) = ((k + 1 : Nat) : Int) := by rw [wrap_i64] <;> omega
      obtain ⟨r, hx⟩ : ∃ r, D[k]? = some r := ⟨_, List.getElem?_eq_getElem hlt⟩
      obtain ⟨y, hy⟩ := lo0_at (hF r (List.mem_of_getElem? hx)).2
      have hl0 := (hF r (List.mem_of_getElem? hx)).2
      have hl0' : (0 : Int) < (r.length : Int) := by omega
      have hs := take_snoc (first_get hx)
      have c1 : (k + 1) * 8 ≤ 140737488355328 := by omega
      have c2 : k + 1 ≤ maxLen := by unfold maxLen; omega
      simp +contextual -implicitDefEqProofs (maxSteps := 1000000) only [sm, awpOper, awpDo, evP, evBin, evUn, eqInts, fillA, setCells, cutCells, okElems, AV.natOf, natO, maxA, minA, AV.isInt, evSlc, evLoad, setE, evW, AV.cells, AV.okSt, elemsOf, appBase, AV.isSl, resV, tupV, viewN, embB, embT, okR, okC, okL, okEs, ren, renC, renL, renEs, seval, eRgs, hlt', hlt, hx, hy, hl0, hl0', hkl, c1, c2, hs, e2]
      refine ⟨k + 1, by omega, by omega, [1], by decide, rfl, ?_, ?_⟩
      · simp +contextual -implicitDefEqProofs (maxSteps := 1000000) only [sm, awpOper, awpDo, evP, evBin, evUn, eqInts, fillA, setCells, cutCells, okElems, AV.natOf, natO, maxA, minA, AV.isInt, evSlc, evLoad, setE, evW, AV.cells, AV.okSt, elemsOf, appBase, AV.isSl, resV, tupV, viewN, embB, embT, okR, okC, okL, okEs, ren, renC, renL, renEs, seval]
      · simp +contextual -implicitDefEqProofs (maxSteps := 1000000) only [sm, awpOper, awpDo, evP, evBin, evUn, eqInts, fillA, setCells, cutCells, okElems, AV.natOf, natO, maxA, minA, AV.isInt, evSlc, evLoad, setE, evW, AV.cells, AV.okSt, elemsOf, appBase, AV.isSl, resV, tupV, viewN, embB, embT, okR, okC, okL, okEs, ren, renC, renL, renEs, seval]
    · have hkn : k = D.length := by omega
      subst hkn
      have t0 : (firstA D).take D.length = firstA D := by rw [← hFl, List.take_length]
      rw [t0]
      have u1 : (D.length ≤ (firstA D).length) = True := by rw [hFl]; simp
      have u3 : ((firstA D).map eI).take D.length = (firstA D).map eI := by rw [← List.map_take, t0]
      simp +contextual -implicitDefEqProofs (maxSteps := 1000000) only [sm, awpOper, awpDo, evP, evBin, evUn, eqInts, fillA, setCells, cutCells, okElems, AV.natOf, natO, maxA, minA, AV.isInt, evSlc, evLoad, setE, evW, AV.cells, AV.okSt, elemsOf, appBase, AV.isSl, resV, tupV, viewN, embB, embT, okR, okC, okL, okEs, ren, renC, renL, renEs, seval, Int.lt_irrefl, u1, u3, eIs]
theorem set_mid (p s : List Int) (x y : Int) : (p ++ x :: s).set p.length y = p ++ y :: s := by simp
theorem set_I (l : List Int) (n : Nat) (y : Int) : (l.map eI).set n (.int .i64 y) = (l.set n y).map eI := by simp [eI]
theorem ref11_after (D : List (List Rg)) (a : List Int) (hD : D.length ≤ 1000000000000) (hF : Full D) (hd : ∀ r ∈ D, r.length ≤ 1000000000000) (hl : a.length = D.length) (ha : ∀ v ∈ a, -1048576 ≤ v ∧ v ≤ 1048576) :
    Ctr Try.prog 64 [eDoms D, eIs a] [] (.tuple [eIs (aftV D a), .bool (aft D a).isSome]) [] := by
  refine call_pure Try.func64 Try.call64 e_ref11_after ?_
  have w0 : IntKind.i64.wrap ((a.length : Int) - 1) = (a.length : Int) - 1 := by rw [wrap_i64] <;> omega
  have c1 : a.length * 8 ≤ 140737488355328 := by omega
  have c2 : a.length ≤ maxLen := by unfold maxLen; omega
  have cl : ∀ k, k ≤ a.length → (a.take k ++ firstA (D.drop k)).length = a.length := fun k hk => by
    rw [List.length_append, List.length_take, first_len, List.length_drop]; omega
  simp +contextual -implicitDefEqProofs (maxSteps := 1000000) only [c_ref11_after, eDoms, eIs, sm, awpOper, awpDo, evP, evBin, evUn, eqInts, fillA, setCells, cutCells, okElems, AV.natOf, natO, maxA, minA, AV.isInt, evSlc, evLoad, setE, evW, AV.cells, AV.okSt, elemsOf, appBase, AV.isSl, resV, tupV, viewN, embB, embT, okR, okC, okL, okEs, ren, renC, renL, renEs, seval, w0, c1, c2]
  refine loop_rule (fun k : Nat => k ≤ a.length ∧ aft (D.drop k) (a.drop k) = none) (fun k => tm 50 [(0, .list 1 (D.map eRgs)), (1, .list 1 (a.map eI)), (6, .sl 1 0 0 a.length), (7, .int .i64 ((k : Int) - 1))]) (fun k => [some (1, (a.take k ++ firstA (D.drop k)).map eI)]) (fun k => k) a.length ⟨by omega, by rw [List.drop_of_length_le (by omega)]; rfl⟩ ⟨[0], by decide, rfl, ?_, ?_⟩ ?_
  · rw [List.take_length, hl, List.drop_length]
    simp +contextual -implicitDefEqProofs (maxSteps := 1000000) only [sm, awpOper, awpDo, evP, evBin, evUn, eqInts, fillA, setCells, cutCells, okElems, AV.natOf, natO, maxA, minA, AV.isInt, evSlc, evLoad, setE, evW, AV.cells, AV.okSt, elemsOf, appBase, AV.isSl, resV, tupV, viewN, embB, embT, okR, okC, okL, okEs, ren, renC, renL, renEs, seval, firstA]
  · simp +contextual -implicitDefEqProofs (maxSteps := 1000000) only [sm, awpOper, awpDo, evP, evBin, evUn, eqInts, fillA, setCells, cutCells, okElems, AV.natOf, natO, maxA, minA, AV.isInt, evSlc, evLoad, setE, evW, AV.cells, AV.okSt, elemsOf, appBase, AV.isSl, resV, tupV, viewN, embB, embT, okR, okC, okL, okEs, ren, renC, renL, renEs, seval]
  · rintro k ⟨hk, hnone⟩
    cases k with
    | zero =>
      have hr : aft D a = none := by simpa using hnone
      have hv : aftV D a = firstA D := by unfold aftV; rw [hr]; rfl
      rw [hr, hv]
      have hz : ((0 : Nat) : Int) - 1 = -1 := rfl
      have t1 : a.take 0 ++ firstA (D.drop 0) = firstA D := by simp
      rw [hz, t1]
      have u1 : (a.length ≤ (firstA D).length) = True := by rw [first_len, hl]; simp
      have u3 : ((firstA D).map eI).take a.length = (firstA D).map eI := by rw [← List.map_take]; congr 1; rw [hl, ← first_len]; exact List.take_length
      simp +contextual -implicitDefEqProofs (maxSteps := 1000000) only [sm, awpOper, awpDo, evP, evBin, evUn, eqInts, fillA, setCells, cutCells, okElems, AV.natOf, natO, maxA, minA, AV.isInt, evSlc, evLoad, setE, evW, AV.cells, AV.okSt, elemsOf, appBase, AV.isSl, resV, tupV, viewN, embB, embT, okR, okC, okL, okEs, ren, renC, renL, renEs, seval, u1, u3, eIs, Option.isSome_none]
    | succ m =>
      have hm : ((m + 1 : Nat) : Int) - 1 = (m : Int) := by omega
      have hm0 : (0 : Int) ≤ (m : Int) := by omega
      have hma : m < a.length := by omega
      have hma' : (m : Int) < (a.length : Int) := by omega
      have hmD' : (m : Int) < (D.length : Int) := by omega
      obtain ⟨r, hx⟩ : ∃ r, D[m]? = some r := ⟨_, List.getElem?_eq_getElem (by omega)⟩
      obtain ⟨v, hv⟩ : ∃ r, a[m]? = some r := ⟨_, List.getElem?_eq_getElem hma⟩
      obtain ⟨hrr, hl0⟩ := hF r (List.mem_of_getElem? hx)
      obtain ⟨y, hy⟩ := lo0_at hl0
      have hl0' : (0 : Int) < (r.length : Int) := by omega
      have hva := ha v (List.mem_of_getElem? hv)
      have w1 : IntKind.i64.wrap (v + 1) = v + 1 := by rw [wrap_i64] <;> omega
      have w2 : IntKind.i64.wrap ((m : Int) - 1) = (m : Int) - 1 := by rw [wrap_i64] <;> omega
      have hat := aft_at hx hv hnone
      have hcl := cl (m + 1) (by omega)
      have hset : ∀ y, (a.take (m + 1) ++ firstA (D.drop (m + 1))).set m y = a.take m ++ y :: firstA (D.drop (m + 1)) := fun y => by
        rw [← take_snoc hv, List.append_assoc]
        have : (a.take m).length = m := by rw [List.length_take]; omega
        have h2 := set_mid (a.take m) (firstA (D.drop (m + 1))) v y
        rw [this] at h2
        exact h2
      rw [hm]
      generalize hQ : a.take (m + 1) ++ firstA (D.drop (m + 1)) = Q at hcl hset ⊢
      have hQl : m < Q.length := by omega
      obtain ⟨q, hq⟩ : ∃ q, Q[m]? = some q := ⟨_, List.getElem?_eq_getElem hQl⟩
      simp +contextual -implicitDefEqProofs (maxSteps := 1000000) only [sm, awpOper, awpDo, evP, evBin, evUn, eqInts, fillA, setCells, cutCells, okElems, AV.natOf, natO, maxA, minA, AV.isInt, evSlc, evLoad, setE, evW, AV.cells, AV.okSt, elemsOf, appBase, AV.isSl, resV, tupV, viewN, embB, embT, okR, okC, okL, okEs, ren, renC, renL, renEs, seval, hm0, hma', hmD', hma, hx, hv, w1]
      refine callA_rule (ref09_Next r (v + 1) (hd r (List.mem_of_getElem? hx))) (wkL_refl _) rfl ?_
      cases hn : nextB r (v + 1)
      · have hat0 : aft (D.drop m) (a.drop m) = none := by rw [hat]; unfold nx; rw [if_neg (by simp [hn])]; rfl
        have hset0 := hset (lo0 r)
        have hfd : lo0 r :: firstA (D.drop (m + 1)) = firstA (D.drop m) := by rw [drop_at hx]; rfl
        rw [hfd] at hset0
        simp +contextual -implicitDefEqProofs (maxSteps := 1000000) only [sm, awpOper, awpDo, evP, evBin, evUn, eqInts, fillA, setCells, cutCells, okElems, AV.natOf, natO, maxA, minA, AV.isInt, evSlc, evLoad, setE, evW, AV.cells, AV.okSt, elemsOf, appBase, AV.isSl, resV, tupV, viewN, embB, embT, okR, okC, okL, okEs, ren, renC, renL, renEs, seval, eRgs, hm0, hma', hmD', hma, hQl, hcl, hx, hy, hl0, hl0', set_I, hset0, w2, hq]
        refine ⟨m, ⟨by omega, hat0⟩, by omega, [0], by decide, rfl, ?_, ?_⟩
        · simp +contextual -implicitDefEqProofs (maxSteps := 1000000) only [sm, awpOper, awpDo, evP, evBin, evUn, eqInts, fillA, setCells, cutCells, okElems, AV.natOf, natO, maxA, minA, AV.isInt, evSlc, evLoad, setE, evW, AV.cells, AV.okSt, elemsOf, appBase, AV.isSl, resV, tupV, viewN, embB, embT, okR, okC, okL, okEs, ren, renC, renL, renEs, seval]
        · simp +contextual -implicitDefEqProofs (maxSteps := 1000000) only [sm, awpOper, awpDo, evP, evBin, evUn, eqInts, fillA, setCells, cutCells, okElems, AV.natOf, natO, maxA, minA, AV.isInt, evSlc, evLoad, setE, evW, AV.cells, AV.okSt, elemsOf, appBase, AV.isSl, resV, tupV, viewN, embB, embT, okR, okC, okL, okEs, ren, renC, renL, renEs, seval]
      · have hat1 : aft (D.drop m) (a.drop m) = some (nextV r (v + 1) :: firstA (D.drop (m + 1))) := by rw [hat]; unfold nx; rw [if_pos hn]; rfl
        have hsome := aft_pre hl (by omega) hat1
        have hres : aftV D a = a.take m ++ nextV r (v + 1) :: firstA (D.drop (m + 1)) := by unfold aftV; rw [hsome]; rfl
        have hset1 := hset (nextV r (v + 1))
        rw [← hres] at hset1
        rw [hsome]
        have hrl : (aftV D a).length = a.length := by rw [← hset1, List.length_set]; exact hcl
        have u1 : (a.length ≤ (aftV D a).length) = True := by rw [hrl]; simp
        have u3 : ((aftV D a).map eI).take a.length = (aftV D a).map eI := by rw [← hrl, ← List.map_take, List.take_length]
        simp +contextual -implicitDefEqProofs (maxSteps := 1000000) only [sm, awpOper, awpDo, evP, evBin, evUn, eqInts, fillA, setCells, cutCells, okElems, AV.natOf, natO, maxA, minA, AV.isInt, evSlc, evLoad, setE, evW, AV.cells, AV.okSt, elemsOf, appBase, AV.isSl, resV, tupV, viewN, embB, embT, okR, okC, okL, okEs, ren, renC, renL, renEs, seval, hm0, hma', hma, hQl, hcl, set_I, hset1, u1, u3, hq, eIs, Option.isSome_some]
end Go.Proofs.Ytclpkkbamgmooaa
