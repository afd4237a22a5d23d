/- LinearOrder. -/
import Derived.Test.YtclpkkbamgmooaaWLinEnds
import Derived.Test.YtclpkkbamgmooaaWLaw12
import Derived.Test.YtclpkkbamgmooaaPlLinOrd
import Derived.Test.YtclpkkbamgmooaaCLinOrd
namespace Go.Proofs.Ytclpkkbamgmooaa
open Av
attribute [local irreducible] awp awpOpers
set_option linter.unusedSimpArgs false
set_option linter.unusedVariables false
set_option maxRecDepth 100000
set_option maxHeartbeats 4000000
theorem order_linear {c : Con} {S D : List (List Rg)} (hK : 1 ≤ c.1 ∧ c.1 ≤ 3) (hm : modB (D, [c], 0, 0) = true) (hS : modB (S, [c], 0, 0) = true) (hle : LeD S D) :
    (∃ E, linearL c D = (E, 0) ∧ (linearL c S = ([], 12) ∨ ∃ E', linearL c S = (E', 0) ∧ LeD E' E)) ∨ (linearL c D = ([], 12) ∧ linearL c S = ([], 12)) := by
  obtain ⟨f1, f2, f3, f4, f5, f6⟩ := sum_facts hm (by omega)
  obtain ⟨g1, g2, g3, g4, g5, g6⟩ := sum_facts hS (by omega)
  have key : ∀ F : List (List Rg), modB (F, [c], 0, 0) = true → linearL c F = (if c.1 = 1 then tell (isS F (termsOf c) c.2.2.2) else if c.1 = 2 then tell (mostS F (termsOf c) c.2.2.2) else if c.1 = 3 then tell (notS F (termsOf c) c.2.2.2) else ([], 10)) := by
    intro F hF
    unfold linearL
    rw [if_pos hF]
  rw [key D hm, key S hS]
  have hc : c.1 = 1 ∨ c.1 = 2 ∨ c.1 = 3 := by omega
  rcases hc with h | h | h <;> rw [h]
  · exact tell_up (isS_up hle g2 f2 f3)
  · exact tell_up (mostS_up hle g2 f2 f3)
  · exact tell_up (notS_up hle g2 f2 f3 fun E' b h => not_len g2 g3 h)
theorem size_linear {c : Con} {D : List (List Rg)} (hK : 1 ≤ c.1 ∧ c.1 ≤ 3) (hm : modB (D, [c], 0, 0) = true) : (linearL c D).1.length ≤ 1000000000000 := by
  obtain ⟨f1, f2, f3, f4, f5, f6⟩ := sum_facts hm (by omega)
  have ht : ∀ s : List (List Rg) × Bool, (∀ E b, s = (E, b) → LeD E D) → (tell s).1.length ≤ 1000000000000 := by
    rintro ⟨E, b⟩ h
    cases b
    · simp [tell]
    · have := (h E true rfl).1
      simp only [tell]
      omega
  unfold linearL
  rw [if_pos hm]
  split
  · exact ht _ fun E b h => is_len f2 f3 h
  · split
    · exact ht _ fun E b h => most_len f2 f3 h
    · split
      · exact ht _ fun E b h => not_len f2 f3 h
      · simp
theorem law_LinearOrder (c : Con) (D C : List (List Rg)) (hC : ∀ r ∈ C, r.length ≤ 9223372036854775807) : Ctr Try.prog 10 [eCon c, eDoms D, eDoms C] [] (.bool true) [] := by
  refine call_pure Try.func10 Try.call10 e_law12_LinearOrder ?_
  have hcon : ∃ K X A G, c = (K, X, A, G) := ⟨c.1, c.2.1, c.2.2.1, c.2.2.2, rfl⟩
  obtain ⟨K, X, A, G, rfl⟩ := hcon
  simp +contextual -implicitDefEqProofs (maxSteps := 1000000) only [c_law12_LinearOrder, eCon, eIs, eDoms, sm, awpOper, awpDo, evP, evBin, evUn, eqInts, fillA, setCells, cutCells, okElems, AV.natOf, natO, maxA, minA, AV.isInt, evSlc, evLoad, setE, evW, AV.cells, AV.okSt, elemsOf, appBase, AV.isSl, resV, tupV, viewN, embB, embT, okR, okC, okL, okEs, ren, renC, renL, renEs, seval]
  refine callA_rule law12_alive (wkL_refl _) rfl ?_
  simp +contextual -implicitDefEqProofs (maxSteps := 1000000) only [sm, awpOper, awpDo, evP, evBin, evUn, eqInts, fillA, setCells, cutCells, okElems, AV.natOf, natO, maxA, minA, AV.isInt, evSlc, evLoad, setE, evW, AV.cells, AV.okSt, elemsOf, appBase, AV.isSl, resV, tupV, viewN, embB, embT, okR, okC, okL, okEs, ren, renC, renL, renEs, seval, eCon, eIs]
  refine callA_rule (law12_Fits (K, X, A, G) D) (wkL_refl _) rfl ?_
  cases hF : fitsB (K, X, A, G) D
  · simp +contextual -implicitDefEqProofs (maxSteps := 1000000) only [sm, awpOper, awpDo, evP, evBin, evUn, eqInts, fillA, setCells, cutCells, okElems, AV.natOf, natO, maxA, minA, AV.isInt, evSlc, evLoad, setE, evW, AV.cells, AV.okSt, elemsOf, appBase, AV.isSl, resV, tupV, viewN, embB, embT, okR, okC, okL, okEs, ren, renC, renL, renEs, seval]
  obtain ⟨s1, s2, s3, s4⟩ := fits_facts hF
  simp only at s3 s4
  have hd : ∀ d ∈ D, d.length ≤ 1000000000000 := fun d h => by have := s2 d h; omega
  by_cases hn : C.length = D.length
  · have hn' : ((C.length : Int) = (D.length : Int)) = True := by simp only [eq_iff_iff, iff_true]; omega
    by_cases k1 : K < 1
    · simp +contextual -implicitDefEqProofs (maxSteps := 1000000) only [sm, awpOper, awpDo, evP, evBin, evUn, eqInts, fillA, setCells, cutCells, okElems, AV.natOf, natO, maxA, minA, AV.isInt, evSlc, evLoad, setE, evW, AV.cells, AV.okSt, elemsOf, appBase, AV.isSl, resV, tupV, viewN, embB, embT, okR, okC, okL, okEs, ren, renC, renL, renEs, seval, hn', k1]
    by_cases k2 : 3 < K
    · simp +contextual -implicitDefEqProofs (maxSteps := 1000000) only [sm, awpOper, awpDo, evP, evBin, evUn, eqInts, fillA, setCells, cutCells, okElems, AV.natOf, natO, maxA, minA, AV.isInt, evSlc, evLoad, setE, evW, AV.cells, AV.okSt, elemsOf, appBase, AV.isSl, resV, tupV, viewN, embB, embT, okR, okC, okL, okEs, ren, renC, renL, renEs, seval, hn', k1, k2]
    simp +contextual -implicitDefEqProofs (maxSteps := 1000000) only [sm, awpOper, awpDo, evP, evBin, evUn, eqInts, fillA, setCells, cutCells, okElems, AV.natOf, natO, maxA, minA, AV.isInt, evSlc, evLoad, setE, evW, AV.cells, AV.okSt, elemsOf, appBase, AV.isSl, resV, tupV, viewN, embB, embT, okR, okC, okL, okEs, ren, renC, renL, renEs, seval, hn', k1, k2, eCon, eIs]
    refine callA_rule (ref12_Fit (K, X, A, G) D (by omega) hd ⟨by simp only; omega, by simp only; omega⟩) (wkL_refl _) rfl ?_
    cases hm : fitB (K, X, A, G) D
    · simp +contextual -implicitDefEqProofs (maxSteps := 1000000) only [sm, awpOper, awpDo, evP, evBin, evUn, eqInts, fillA, setCells, cutCells, okElems, AV.natOf, natO, maxA, minA, AV.isInt, evSlc, evLoad, setE, evW, AV.cells, AV.okSt, elemsOf, appBase, AV.isSl, resV, tupV, viewN, embB, embT, okR, okC, okL, okEs, ren, renC, renL, renEs, seval]
    obtain ⟨f1, f2, f3⟩ := one_facts hm
    have hrt : ∀ r ∈ D, rightB r = true := fun r h => by have := f2 r h; unfold domB at this; rw [Bool.and_eq_true] at this; exact this.1
    have hle := small_le (C := C) hn hrt
    have hsd := small_dom (C := C) hn f2
    have hmS := mod_sub hle hsd hm
    have hK : 1 ≤ K ∧ K ≤ 3 := by omega
    have hor := order_linear hK hm hmS hle
    have hSl : (smallL D C).length = D.length := hle.1
    have hSd : ∀ d ∈ smallL D C, d.length ≤ 1000000000000 := fun d h => by have := dom_len (hsd d h); omega
    simp +contextual -implicitDefEqProofs (maxSteps := 1000000) only [sm, awpOper, awpDo, evP, evBin, evUn, eqInts, fillA, setCells, cutCells, okElems, AV.natOf, natO, maxA, minA, AV.isInt, evSlc, evLoad, setE, evW, AV.cells, AV.okSt, elemsOf, appBase, AV.isSl, resV, tupV, viewN, embB, embT, okR, okC, okL, okEs, ren, renC, renL, renEs, seval]
    refine callA_rule (law12_Smaller D C hn (by omega) hd hC) (wkL_refl _) rfl ?_
    generalize smallL D C = S at hle hsd hmS hor hSl hSd ⊢
    simp +contextual -implicitDefEqProofs (maxSteps := 1000000) only [sm, awpOper, awpDo, evP, evBin, evUn, eqInts, fillA, setCells, cutCells, okElems, AV.natOf, natO, maxA, minA, AV.isInt, evSlc, evLoad, setE, evW, AV.cells, AV.okSt, elemsOf, appBase, AV.isSl, resV, tupV, viewN, embB, embT, okR, okC, okL, okEs, ren, renC, renL, renEs, seval, eCon, eIs, eDoms]
    refine callA_rule (linear_Narrow (K, X, A, G) D (by omega) hd ⟨by simp only; omega, by simp only; omega⟩ hK) (wkL_refl _) rfl ?_
    have z1 := size_linear (c := (K, X, A, G)) hK hmS
    generalize linearL (K, X, A, G) D = r1 at hor ⊢
    obtain ⟨x1, e1⟩ := r1
    simp +contextual -implicitDefEqProofs (maxSteps := 1000000) only [sm, awpOper, awpDo, evP, evBin, evUn, eqInts, fillA, setCells, cutCells, okElems, AV.natOf, natO, maxA, minA, AV.isInt, evSlc, evLoad, setE, evW, AV.cells, AV.okSt, elemsOf, appBase, AV.isSl, resV, tupV, viewN, embB, embT, okR, okC, okL, okEs, ren, renC, renL, renEs, seval, eCon, eIs, eDoms]
    refine callA_rule (linear_Narrow (K, X, A, G) S (by omega) hSd ⟨by simp only; omega, by simp only; omega⟩ hK) (wkL_refl _) rfl ?_
    generalize linearL (K, X, A, G) S = r2 at hor z1 ⊢
    obtain ⟨x2, e2⟩ := r2
    simp only [Prod.mk.injEq] at hor
    rcases hor with ⟨E, ⟨rfl, rfl⟩, ⟨rfl, rfl⟩ | ⟨E', ⟨rfl, rfl⟩, hEE⟩⟩ | ⟨⟨rfl, rfl⟩, ⟨rfl, rfl⟩⟩
    · simp +contextual -implicitDefEqProofs (maxSteps := 1000000) only [sm, awpOper, awpDo, evP, evBin, evUn, eqInts, fillA, setCells, cutCells, okElems, AV.natOf, natO, maxA, minA, AV.isInt, evSlc, evLoad, setE, evW, AV.cells, AV.okSt, elemsOf, appBase, AV.isSl, resV, tupV, viewN, embB, embT, okR, okC, okL, okEs, ren, renC, renL, renEs, seval, eDoms]
    · simp +contextual -implicitDefEqProofs (maxSteps := 1000000) only [sm, awpOper, awpDo, evP, evBin, evUn, eqInts, fillA, setCells, cutCells, okElems, AV.natOf, natO, maxA, minA, AV.isInt, evSlc, evLoad, setE, evW, AV.cells, AV.okSt, elemsOf, appBase, AV.isSl, resV, tupV, viewN, embB, embT, okR, okC, okL, okEs, ren, renC, renL, renEs, seval, eDoms]
      refine callA_rule (law12_Under _ _ hEE (by simpa using z1)) (wkL_refl _) rfl ?_
      simp +contextual -implicitDefEqProofs (maxSteps := 1000000) only [sm, awpOper, awpDo, evP, evBin, evUn, eqInts, fillA, setCells, cutCells, okElems, AV.natOf, natO, maxA, minA, AV.isInt, evSlc, evLoad, setE, evW, AV.cells, AV.okSt, elemsOf, appBase, AV.isSl, resV, tupV, viewN, embB, embT, okR, okC, okL, okEs, ren, renC, renL, renEs, seval]
    · simp +contextual -implicitDefEqProofs (maxSteps := 1000000) only [sm, awpOper, awpDo, evP, evBin, evUn, eqInts, fillA, setCells, cutCells, okElems, AV.natOf, natO, maxA, minA, AV.isInt, evSlc, evLoad, setE, evW, AV.cells, AV.okSt, elemsOf, appBase, AV.isSl, resV, tupV, viewN, embB, embT, okR, okC, okL, okEs, ren, renC, renL, renEs, seval, eDoms]
  · have hn' : ((C.length : Int) = (D.length : Int)) = False := by simp only [eq_iff_iff, iff_false]; omega
    simp +contextual -implicitDefEqProofs (maxSteps := 1000000) only [sm, awpOper, awpDo, evP, evBin, evUn, eqInts, fillA, setCells, cutCells, okElems, AV.natOf, natO, maxA, minA, AV.isInt, evSlc, evLoad, setE, evW, AV.cells, AV.okSt, elemsOf, appBase, AV.isSl, resV, tupV, viewN, embB, embT, okR, okC, okL, okEs, ren, renC, renL, renEs, seval, hn']
end Go.Proofs.Ytclpkkbamgmooaa
