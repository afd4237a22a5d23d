/- LinearKeeps. -/
import Derived.Test.YtclpkkbamgmooaaWLinOrd
import Derived.Test.YtclpkkbamgmooaaPlKeep
import Derived.Test.YtclpkkbamgmooaaCLinKeep
namespace Go.Proofs.Ytclpkkbamgmooaa
open Av
attribute [local irreducible] awp awpOpers
set_option linter.unusedSimpArgs false
set_option linter.unusedVariables false
set_option maxRecDepth 100000
set_option maxHeartbeats 4000000
theorem whole_pos {E : List (List Rg)} (h : wholeB E = true) : ∀ r ∈ E, 0 < r.length := by
  unfold wholeB at h
  rw [Bool.not_eq_true', List.any_eq_false] at h
  intro r hr
  have := h r hr
  simp only [decide_eq_true_eq] at this
  omega
theorem dok_pos {E : List (List Rg)} (h : DOk E) : ∀ r ∈ E, 0 < r.length := by
  intro r hr
  obtain ⟨i, hi, rfl⟩ := List.getElem_of_mem hr
  have hx : 0 ≤ (i : Int) ∧ (i : Int) < E.length := by omega
  have h1 := dom_right (h i hx.1 hx.2)
  have e : rowOf E (i : Int) = E[i] := by
    have := row_get hx
    rw [Int.toNat_natCast, List.getElem?_eq_getElem hi] at this
    injection this with this
    exact this.symm
  rw [e] at h1
  exact h1.2
theorem linear_res {c : Con} {D : List (List Rg)} (hK : 1 ≤ c.1 ∧ c.1 ≤ 3) (hm : modB (D, [c], 0, 0) = true) : linearL c D = ([], 12) ∨ ∃ E, linearL c D = (E, 0) ∧ LeD E D ∧ ∀ r ∈ E, 0 < r.length := by
  obtain ⟨f1, f2, f3, f4, f5, f6⟩ := sum_facts hm (by omega)
  have ht : ∀ s : List (List Rg) × Bool, (∀ E b, s = (E, b) → LeD E D) → (∀ E, s = (E, true) → ∀ r ∈ E, 0 < r.length) → tell s = ([], 12) ∨ ∃ E, tell s = (E, 0) ∧ LeD E D ∧ ∀ r ∈ E, 0 < r.length := by
    rintro ⟨E, b⟩ h1 h2
    cases b
    · exact .inl rfl
    · exact .inr ⟨E, rfl, h1 E true rfl, h2 E rfl⟩
  unfold linearL
  rw [if_pos hm]
  have hc : c.1 = 1 ∨ c.1 = 2 ∨ c.1 = 3 := by omega
  rcases hc with h | h | h <;> rw [h]
  · refine ht _ (fun E b h => is_len f2 f3 h) fun E h => ?_
    have h' : isS D (termsOf c) c.2.2.2 = (E, true) := h
    unfold isS at h'
    split at h'
    · cases h'
    · exact whole_pos (most_wh h')
  · exact ht _ (fun E b h => most_len f2 f3 h) fun E h => whole_pos (most_wh h)
  · refine ht _ (fun E b h => not_len f2 f3 h) fun E h => ?_
    have h' : notS D (termsOf c) c.2.2.2 = (E, true) := h
    unfold notS at h'
    split at h'
    · cases h'; exact dok_pos f2
    · split at h'
      · injection h' with h1 h2; subst h1; exact dok_pos f2
      · split at h'
        · cases h'; exact dok_pos f2
        · injection h' with h1 h2; subst h1; exact whole_pos h2
theorem sum_link {A X a : List Int} (hAX : A.length ≤ X.length) : ∀ {n : Nat}, n ≤ A.length → sumN A (valsOf X a) n = sumT (zipT A X) a n
  | 0, _ => rfl
  | n + 1, h => by
    have h1 := sum_link (a := a) hAX (n := n) (by omega)
    have ha := xat_get (X := A) (i := n) (by omega)
    have hx := xat_get (X := X) (i := n) (by omega)
    have hv := vals_get (a := a) hx
    unfold sumN sumT
    rw [h1, zip_tX ha hx]
    simp only
    have he : xat (valsOf X a) n = xat a (xat X n).toNat := by
      conv => lhs; unfold xat
      rw [hv]; rfl
    rw [he]
theorem linear_kept {c : Con} {D : List (List Rg)} (hK : 1 ≤ c.1 ∧ c.1 ≤ 3) (hm : modB (D, [c], 0, 0) = true) :
    KeptP (fun a => askdB c a && holdsB c (valsOf c.2.1 a)) D (linearL c D).1 (linearL c D).2 := by
  obtain ⟨f1, f2, f3, f4, f5, f6⟩ := sum_facts hm (by omega)
  obtain ⟨g1, g2, g3⟩ := one_facts hm
  have hF := full_dom g2
  refine kept_of (fun a ha => ?_) (fun a ha hh => ?_) (linear_res hK hm)
  · obtain ⟨o1, o2⟩ := one_le hF ha
    exact order_linear hK hm (mod_sub o1 o2 hm) o1
  · obtain ⟨o1, o2⟩ := one_le hF ha
    rw [Bool.and_eq_true] at hh
    have hh2 := hh.2
    unfold holdsB at hh2
    rw [if_pos (by omega)] at hh2
    have hTl : (termsOf c).length = c.2.2.1.length := by unfold termsOf; simp only [List.length_zip]; omega
    have hsum : sumN c.2.2.1 (valsOf c.2.1 a) c.2.2.1.length = sumT (termsOf c) a (termsOf c).length := by
      rw [hTl]
      exact sum_link f5 (Nat.le_refl _)
    rw [hsum] at hh2
    refine linear_one (box_bound hF ha) hK (mod_sub o1 o2 hm) (fun k hk => by have := (f3.2 k hk).2; rw [ha.1]; exact this) ?_
    unfold linB at hh2
    have hc : c.1 = 1 ∨ c.1 = 2 ∨ c.1 = 3 := by omega
    rcases hc with h | h | h <;> rw [h] at hh2 ⊢
    · simp at hh2; exact ⟨fun _ => hh2, fun h => by omega, fun h => by omega⟩
    · simp at hh2; exact ⟨fun h => by omega, fun _ => hh2, fun h => by omega⟩
    · simp at hh2; exact ⟨fun h => by omega, fun h => by omega, fun _ => hh2⟩
theorem law_LinearKeeps (c : Con) (D : List (List Rg)) : Ctr Try.prog 9 [eCon c, eDoms D] [] (.bool true) [] := by
  refine call_pure Try.func9 Try.call9 e_law12_LinearKeeps ?_
  have hcon : ∃ K X A G, c = (K, X, A, G) := ⟨c.1, c.2.1, c.2.2.1, c.2.2.2, rfl⟩
  obtain ⟨K, X, A, G, rfl⟩ := hcon
  simp +contextual -implicitDefEqProofs (maxSteps := 1000000) only [c_law12_LinearKeeps, eCon, eIs, eDoms, sm, awpOper, awpDo, evP, evBin, evUn, eqInts, fillA, setCells, cutCells, okElems, AV.natOf, natO, maxA, minA, AV.isInt, evSlc, evLoad, setE, evW, AV.cells, AV.okSt, elemsOf, appBase, AV.isSl, resV, tupV, viewN, embB, embT, okR, okC, okL, okEs, ren, renC, renL, renEs, seval]
  refine callA_rule law12_alive (wkL_refl _) rfl ?_
  simp +contextual -implicitDefEqProofs (maxSteps := 1000000) only [sm, awpOper, awpDo, evP, evBin, evUn, eqInts, fillA, setCells, cutCells, okElems, AV.natOf, natO, maxA, minA, AV.isInt, evSlc, evLoad, setE, evW, AV.cells, AV.okSt, elemsOf, appBase, AV.isSl, resV, tupV, viewN, embB, embT, okR, okC, okL, okEs, ren, renC, renL, renEs, seval, eCon, eIs]
  refine callA_rule (law12_Fits (K, X, A, G) D) (wkL_refl _) rfl ?_
  cases hFt : fitsB (K, X, A, G) D
  · simp +contextual -implicitDefEqProofs (maxSteps := 1000000) only [sm, awpOper, awpDo, evP, evBin, evUn, eqInts, fillA, setCells, cutCells, okElems, AV.natOf, natO, maxA, minA, AV.isInt, evSlc, evLoad, setE, evW, AV.cells, AV.okSt, elemsOf, appBase, AV.isSl, resV, tupV, viewN, embB, embT, okR, okC, okL, okEs, ren, renC, renL, renEs, seval]
  obtain ⟨s1, s2, s3, s4⟩ := fits_facts hFt
  simp only at s3 s4
  have hd : ∀ d ∈ D, d.length ≤ 1000000000000 := fun d h => by have := s2 d h; omega
  simp +contextual -implicitDefEqProofs (maxSteps := 1000000) only [sm, awpOper, awpDo, evP, evBin, evUn, eqInts, fillA, setCells, cutCells, okElems, AV.natOf, natO, maxA, minA, AV.isInt, evSlc, evLoad, setE, evW, AV.cells, AV.okSt, elemsOf, appBase, AV.isSl, resV, tupV, viewN, embB, embT, okR, okC, okL, okEs, ren, renC, renL, renEs, seval, eCon, eIs]
  refine callA_rule (law12_Few D (by omega) hd) (wkL_refl _) rfl ?_
  cases hFw : fewB D
  · simp +contextual -implicitDefEqProofs (maxSteps := 1000000) only [sm, awpOper, awpDo, evP, evBin, evUn, eqInts, fillA, setCells, cutCells, okElems, AV.natOf, natO, maxA, minA, AV.isInt, evSlc, evLoad, setE, evW, AV.cells, AV.okSt, elemsOf, appBase, AV.isSl, resV, tupV, viewN, embB, embT, okR, okC, okL, okEs, ren, renC, renL, renEs, seval]
  by_cases k1 : K < 1
  · simp +contextual -implicitDefEqProofs (maxSteps := 1000000) only [sm, awpOper, awpDo, evP, evBin, evUn, eqInts, fillA, setCells, cutCells, okElems, AV.natOf, natO, maxA, minA, AV.isInt, evSlc, evLoad, setE, evW, AV.cells, AV.okSt, elemsOf, appBase, AV.isSl, resV, tupV, viewN, embB, embT, okR, okC, okL, okEs, ren, renC, renL, renEs, seval, k1]
  by_cases k2 : 3 < K
  · simp +contextual -implicitDefEqProofs (maxSteps := 1000000) only [sm, awpOper, awpDo, evP, evBin, evUn, eqInts, fillA, setCells, cutCells, okElems, AV.natOf, natO, maxA, minA, AV.isInt, evSlc, evLoad, setE, evW, AV.cells, AV.okSt, elemsOf, appBase, AV.isSl, resV, tupV, viewN, embB, embT, okR, okC, okL, okEs, ren, renC, renL, renEs, seval, k1, k2]
  simp +contextual -implicitDefEqProofs (maxSteps := 1000000) only [sm, awpOper, awpDo, evP, evBin, evUn, eqInts, fillA, setCells, cutCells, okElems, AV.natOf, natO, maxA, minA, AV.isInt, evSlc, evLoad, setE, evW, AV.cells, AV.okSt, elemsOf, appBase, AV.isSl, resV, tupV, viewN, embB, embT, okR, okC, okL, okEs, ren, renC, renL, renEs, seval, k1, k2, eCon, eIs]
  refine callA_rule (ref12_Fit (K, X, A, G) D (by omega) hd ⟨by simp only; omega, by simp only; omega⟩) (wkL_refl _) rfl ?_
  cases hm : fitB (K, X, A, G) D
  · simp +contextual -implicitDefEqProofs (maxSteps := 1000000) only [sm, awpOper, awpDo, evP, evBin, evUn, eqInts, fillA, setCells, cutCells, okElems, AV.natOf, natO, maxA, minA, AV.isInt, evSlc, evLoad, setE, evW, AV.cells, AV.okSt, elemsOf, appBase, AV.isSl, resV, tupV, viewN, embB, embT, okR, okC, okL, okEs, ren, renC, renL, renEs, seval]
  have hK : 1 ≤ K ∧ K ≤ 3 := by omega
  obtain ⟨hF, hL⟩ := few_facts hFw
  have hkept := linear_kept (c := (K, X, A, G)) hK hm
  simp +contextual -implicitDefEqProofs (maxSteps := 1000000) only [sm, awpOper, awpDo, evP, evBin, evUn, eqInts, fillA, setCells, cutCells, okElems, AV.natOf, natO, maxA, minA, AV.isInt, evSlc, evLoad, setE, evW, AV.cells, AV.okSt, elemsOf, appBase, AV.isSl, resV, tupV, viewN, embB, embT, okR, okC, okL, okEs, ren, renC, renL, renEs, seval, eCon, eIs]
  refine callA_rule (linear_Narrow (K, X, A, G) D (by omega) hd ⟨by simp only; omega, by simp only; omega⟩ hK) (wkL_refl _) rfl ?_
  generalize linearL (K, X, A, G) D = r1 at hkept ⊢
  obtain ⟨x1, e1⟩ := r1
  simp +contextual -implicitDefEqProofs (maxSteps := 1000000) only [sm, awpOper, awpDo, evP, evBin, evUn, eqInts, fillA, setCells, cutCells, okElems, AV.natOf, natO, maxA, minA, AV.isInt, evSlc, evLoad, setE, evW, AV.cells, AV.okSt, elemsOf, appBase, AV.isSl, resV, tupV, viewN, embB, embT, okR, okC, okL, okEs, ren, renC, renL, renEs, seval, eCon, eIs, eDoms]
  refine callA_rule (law12_Kept (K, X, A, G) D x1 e1 _ (by omega) hF hd hL (fun a ha => ref11_Holds (K, X, A, G) a (by simp only; omega) (by simp only; omega) ha (by simp only; omega)) hkept) (by simp +contextual -implicitDefEqProofs (maxSteps := 1000000) only [sm, awpOper, awpDo, evP, evBin, evUn, eqInts, fillA, setCells, cutCells, okElems, AV.natOf, natO, maxA, minA, AV.isInt, evSlc, evLoad, setE, evW, AV.cells, AV.okSt, elemsOf, appBase, AV.isSl, resV, tupV, viewN, embB, embT, okR, okC, okL, okEs, ren, renC, renL, renEs, seval, eCon, eIs, eDoms]) rfl ?_
  simp +contextual -implicitDefEqProofs (maxSteps := 1000000) only [sm, awpOper, awpDo, evP, evBin, evUn, eqInts, fillA, setCells, cutCells, okElems, AV.natOf, natO, maxA, minA, AV.isInt, evSlc, evLoad, setE, evW, AV.cells, AV.okSt, elemsOf, appBase, AV.isSl, resV, tupV, viewN, embB, embT, okR, okC, okL, okEs, ren, renC, renL, renEs, seval]
end Go.Proofs.Ytclpkkbamgmooaa
