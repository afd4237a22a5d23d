/- Few, Kept. -/
import Derived.Test.YtclpkkbamgmooaaWRef11e
import Derived.Test.YtclpkkbamgmooaaCKeep
namespace Go.Proofs.Ytclpkkbamgmooaa
open Av
attribute [local irreducible] awp awpOpers
set_option linter.unusedSimpArgs false
set_option linter.unusedVariables false
set_option maxRecDepth 100000
set_option maxHeartbeats 4000000
def fewB (D : List (List Rg)) : Bool := D.all (fun r => decide (0 < r.length) && rightB r) && decide (boxesGo 400 1 D ≤ 400)
theorem few_facts {D : List (List Rg)} (h : fewB D = true) : Full D ∧ (allA D).length ≤ 400 := by
  unfold fewB at h
  rw [Bool.and_eq_true, List.all_eq_true, decide_eq_true_eq] at h
  have hF : Full D := fun r hr => by
    have := h.1 r hr
    rw [Bool.and_eq_true, decide_eq_true_eq] at this
    exact ⟨this.2, this.1⟩
  have := (len_all hF (n := 1) (by omega) h.2).1
  exact ⟨hF, by omega⟩
theorem law12_Few (D : List (List Rg)) (hD : D.length ≤ 1000000000000) (hd : ∀ r ∈ D, r.length ≤ 1000000000000) : Ctr Try.prog 19 [eDoms D] [] (.bool (fewB D)) [] := by
  refine call_pure Try.func19 Try.call19 e_law12_Few ?_
  simp +contextual -implicitDefEqProofs (maxSteps := 1000000) only [c_law12_Few, eDoms, sm, awpOper, awpDo, evP, evBin, evUn, eqInts, fillA, setCells, cutCells, okElems, AV.natOf, natO, maxA, minA, AV.isInt, evSlc, evLoad, setE, evW, AV.cells, AV.okSt, elemsOf, appBase, AV.isSl, resV, tupV, viewN, embB, embT, okR, okC, okL, okEs, ren, renC, renL, renEs, seval]
  refine loop_rule (fun k : Nat => k ≤ D.length ∧ ∀ (j : Nat) x, j < k → D[j]? = some x → (fun r : List Rg => decide (0 < r.length) && rightB r) x = true) (fun k => tm 23 [(0, .list 1 (D.map eRgs)), (5, .list 1 (D.map eRgs)), (6, .int .i64 D.length), (7, .int .i64 k)]) (fun _ => []) (fun k => D.length - k) 0 ⟨by omega, by omega⟩ ⟨[], by decide, rfl, ?_, ?_⟩ ?_
  · simp +contextual -implicitDefEqProofs (maxSteps := 1000000) only [sm, awpOper, awpDo, evP, evBin, evUn, eqInts, fillA, setCells, cutCells, okElems, AV.natOf, natO, maxA, minA, AV.isInt, evSlc, evLoad, setE, evW, AV.cells, AV.okSt, elemsOf, appBase, AV.isSl, resV, tupV, viewN, embB, embT, okR, okC, okL, okEs, ren, renC, renL, renEs, seval]
  · simp +contextual -implicitDefEqProofs (maxSteps := 1000000) only [sm, awpOper, awpDo, evP, evBin, evUn, eqInts, fillA, setCells, cutCells, okElems, AV.natOf, natO, maxA, minA, AV.isInt, evSlc, evLoad, setE, evW, AV.cells, AV.okSt, elemsOf, appBase, AV.isSl, resV, tupV, viewN, embB, embT, okR, okC, okL, okEs, ren, renC, renL, renEs, seval, Int.natCast_zero]
  · rintro k ⟨hk, hok⟩
    by_cases hlt : k < D.length
    · obtain ⟨x, hx⟩ : ∃ r, D[k]? = some r := ⟨_, List.getElem?_eq_getElem hlt⟩
      have hlt' : (k : Int) < (D.length : Int) := by omega
      have e2 : IntKind.i64.wrap ((k : Int) + 1) = ((k + 1 : Nat) : Int) := by rw [wrap_i64] <;> omega
      by_cases h0 : x.length = 0
      · have h0' : ((x.length : Int) = 0) = True := by simp only [eq_iff_iff, iff_true]; omega
        have hno : fewB D = false := by unfold fewB; rw [listall_no hx (by simp; omega)]; rfl
        rw [hno]
        simp +contextual -implicitDefEqProofs (maxSteps := 1000000) only [sm, awpOper, awpDo, evP, evBin, evUn, eqInts, fillA, setCells, cutCells, okElems, AV.natOf, natO, maxA, minA, AV.isInt, evSlc, evLoad, setE, evW, AV.cells, AV.okSt, elemsOf, appBase, AV.isSl, resV, tupV, viewN, embB, embT, okR, okC, okL, okEs, ren, renC, renL, renEs, seval, hlt', hx, h0', eRgs]
      · have h0' : ((x.length : Int) = 0) = False := by simp only [eq_iff_iff, iff_false]; omega
        simp +contextual -implicitDefEqProofs (maxSteps := 1000000) only [sm, awpOper, awpDo, evP, evBin, evUn, eqInts, fillA, setCells, cutCells, okElems, AV.natOf, natO, maxA, minA, AV.isInt, evSlc, evLoad, setE, evW, AV.cells, AV.okSt, elemsOf, appBase, AV.isSl, resV, tupV, viewN, embB, embT, okR, okC, okL, okEs, ren, renC, renL, renEs, seval, hlt', hx, h0', eRgs]
        refine callA_rule (ref09_Right x (by have := hd x (List.mem_of_getElem? hx); omega)) (wkL_refl _) rfl ?_
        cases hr : rightB x
        · have hno : fewB D = false := by unfold fewB; rw [listall_no hx (by simp [hr])]; rfl
          rw [hno]
          simp +contextual -implicitDefEqProofs (maxSteps := 1000000) only [sm, awpOper, awpDo, evP, evBin, evUn, eqInts, fillA, setCells, cutCells, okElems, AV.natOf, natO, maxA, minA, AV.isInt, evSlc, evLoad, setE, evW, AV.cells, AV.okSt, elemsOf, appBase, AV.isSl, resV, tupV, viewN, embB, embT, okR, okC, okL, okEs, ren, renC, renL, renEs, seval]
        · simp +contextual -implicitDefEqProofs (maxSteps := 1000000) only [sm, awpOper, awpDo, evP, evBin, evUn, eqInts, fillA, setCells, cutCells, okElems, AV.natOf, natO, maxA, minA, AV.isInt, evSlc, evLoad, setE, evW, AV.cells, AV.okSt, elemsOf, appBase, AV.isSl, resV, tupV, viewN, embB, embT, okR, okC, okL, okEs, ren, renC, renL, renEs, seval, e2]
          refine ⟨k + 1, ⟨by omega, ?_⟩, by omega, [], by decide, rfl, ?_, ?_⟩
          · intro j y hj hy
            rcases Nat.lt_succ_iff_lt_or_eq.1 hj with h | rfl
            · first | exact hok j y h hy | simpa using hok j y h hy
            · rw [hx] at hy; injection hy with hy; subst hy; have h1 : 0 < x.length := (by omega); simp [hr, h1]
          · simp +contextual -implicitDefEqProofs (maxSteps := 1000000) only [sm, awpOper, awpDo, evP, evBin, evUn, eqInts, fillA, setCells, cutCells, okElems, AV.natOf, natO, maxA, minA, AV.isInt, evSlc, evLoad, setE, evW, AV.cells, AV.okSt, elemsOf, appBase, AV.isSl, resV, tupV, viewN, embB, embT, okR, okC, okL, okEs, ren, renC, renL, renEs, seval]
          · simp +contextual -implicitDefEqProofs (maxSteps := 1000000) only [sm, awpOper, awpDo, evP, evBin, evUn, eqInts, fillA, setCells, cutCells, okElems, AV.natOf, natO, maxA, minA, AV.isInt, evSlc, evLoad, setE, evW, AV.cells, AV.okSt, elemsOf, appBase, AV.isSl, resV, tupV, viewN, embB, embT, okR, okC, okL, okEs, ren, renC, renL, renEs, seval]
    · have : k = D.length := by omega
      subst this
      have hall := listall_yes hok
      have hr : ∀ r ∈ D, rightB r = true := fun r hr => by
        have := List.all_eq_true.1 hall r hr
        rw [Bool.and_eq_true] at this
        exact this.2
      simp +contextual -implicitDefEqProofs (maxSteps := 1000000) only [sm, awpOper, awpDo, evP, evBin, evUn, eqInts, fillA, setCells, cutCells, okElems, AV.natOf, natO, maxA, minA, AV.isInt, evSlc, evLoad, setE, evW, AV.cells, AV.okSt, elemsOf, appBase, AV.isSl, resV, tupV, viewN, embB, embT, okR, okC, okL, okEs, ren, renC, renL, renEs, seval, Int.lt_irrefl]
      refine callA_rule (ref11_Boxes D 400 (by omega) (by omega) hD hr) (wkL_refl _) rfl ?_
      have hf : fewB D = decide (boxesGo 400 1 D ≤ 400) := by unfold fewB; rw [hall]; rfl
      rw [hf]
      simp +contextual -implicitDefEqProofs (maxSteps := 1000000) only [sm, awpOper, awpDo, evP, evBin, evUn, eqInts, fillA, setCells, cutCells, okElems, AV.natOf, natO, maxA, minA, AV.isInt, evSlc, evLoad, setE, evW, AV.cells, AV.okSt, elemsOf, appBase, AV.isSl, resV, tupV, viewN, embB, embT, okR, okC, okL, okEs, ren, renC, renL, renEs, seval]
theorem sub_rmeet {r t : List Rg} (h : Sub r t) : rmeetS r t = r := meet_sub h
theorem same_refl {r : List Rg} (h : rightB r = true) : rsameB r r = true := by
  unfold rsameB
  simp [h]
def KeptP (h : List Int → Bool) (D out : List (List Rg)) (e : Int) : Prop :=
  (e = 12 ∧ out = [] ∧ ∀ a, InBox D a → h a = false) ∨ (e = 0 ∧ LeD out D ∧ (∀ r ∈ out, 0 < r.length) ∧ ∀ a, InBox D a → h a = true → InBox out a)
theorem law12_Kept (c : Con) (D out : List (List Rg)) (e : Int) (h : List Int → Bool) (hD : D.length ≤ 1000000000000) (hF : Full D) (hd : ∀ r ∈ D, r.length ≤ 1000000000000) (hL : (allA D).length ≤ 400)
    (hH : ∀ a, a.length ≤ 1000000000000 → Ctr Try.prog 63 [eCon c, eIs a] [] (.bool (h a)) []) (hk : KeptP h D out e) :
    Ctr Try.prog 21 [eCon c, eDoms D, eDoms out, .int .i64 e] [] (.bool true) [] := by
  have hEv := ref11_Every D c h hD hF hd (by omega) hH
  obtain ⟨K, X, A, C⟩ := c
  have hmem : ∀ a, a ∈ (allA D).filter h ↔ InBox D a ∧ h a = true := fun a => by rw [List.mem_filter, mem_all]
  have hll : ((allA D).filter h).length ≤ 400 := by have := List.length_filter_le h (allA D); omega
  generalize (allA D).filter h = L at hEv hmem hll
  refine call_pure Try.func21 Try.call21 e_law12_Kept ?_
  simp +contextual -implicitDefEqProofs (maxSteps := 1000000) only [c_law12_Kept, eDoms, eCon, eIs, sm, awpOper, awpDo, evP, evBin, evUn, eqInts, fillA, setCells, cutCells, okElems, AV.natOf, natO, maxA, minA, AV.isInt, evSlc, evLoad, setE, evW, AV.cells, AV.okSt, elemsOf, appBase, AV.isSl, resV, tupV, viewN, embB, embT, okR, okC, okL, okEs, ren, renC, renL, renEs, seval]
  refine callA_rule hEv (by simp +contextual -implicitDefEqProofs (maxSteps := 1000000) only [sm, awpOper, awpDo, evP, evBin, evUn, eqInts, fillA, setCells, cutCells, okElems, AV.natOf, natO, maxA, minA, AV.isInt, evSlc, evLoad, setE, evW, AV.cells, AV.okSt, elemsOf, appBase, AV.isSl, resV, tupV, viewN, embB, embT, okR, okC, okL, okEs, ren, renC, renL, renEs, seval, eDoms, eCons, eCon, eIs]) rfl ?_
  rcases hk with ⟨rfl, rfl, hnone⟩ | ⟨rfl, hle, hpos, hkeep⟩
  · have hL0 : L = [] := by
      cases hq : L with
      | nil => rfl
      | cons a l =>
        have := (hmem a).1 (by rw [hq]; simp)
        rw [hnone a this.1] at this
        simp at this
    subst hL0
    simp +contextual -implicitDefEqProofs (maxSteps := 1000000) only [sm, awpOper, awpDo, evP, evBin, evUn, eqInts, fillA, setCells, cutCells, okElems, AV.natOf, natO, maxA, minA, AV.isInt, evSlc, evLoad, setE, evW, AV.cells, AV.okSt, elemsOf, appBase, AV.isSl, resV, tupV, viewN, embB, embT, okR, okC, okL, okEs, ren, renC, renL, renEs, seval, eIss, Int.natCast_zero, List.length_nil, List.map_nil]
  · have hol : out.length = D.length := hle.1
    have hol' : (out.length : Int) = (D.length : Int) := by omega
    have hkp : ∀ a ∈ L, InBox out a := fun a ha => hkeep a ((hmem a).1 ha).1 ((hmem a).1 ha).2
    simp +contextual -implicitDefEqProofs (maxSteps := 1000000) only [sm, awpOper, awpDo, evP, evBin, evUn, eqInts, fillA, setCells, cutCells, okElems, AV.natOf, natO, maxA, minA, AV.isInt, evSlc, evLoad, setE, evW, AV.cells, AV.okSt, elemsOf, appBase, AV.isSl, resV, tupV, viewN, embB, embT, okR, okC, okL, okEs, ren, renC, renL, renEs, seval, eIss, hol']
    refine loop_rule (fun k : Nat => k ≤ D.length) (fun k => tm 82 [(1, .list 1 (D.map eRgs)), (2, .list 1 (out.map eRgs)), (9, .list 1 (L.map eIs)), (37, .int .i64 D.length), (38, .int .i64 k)]) (fun _ => []) (fun k => D.length - k) 0 (Nat.zero_le _) ⟨[], by decide, rfl, ?_, ?_⟩ ?_
    · simp +contextual -implicitDefEqProofs (maxSteps := 1000000) only [sm, awpOper, awpDo, evP, evBin, evUn, eqInts, fillA, setCells, cutCells, okElems, AV.natOf, natO, maxA, minA, AV.isInt, evSlc, evLoad, setE, evW, AV.cells, AV.okSt, elemsOf, appBase, AV.isSl, resV, tupV, viewN, embB, embT, okR, okC, okL, okEs, ren, renC, renL, renEs, seval]
    · simp +contextual -implicitDefEqProofs (maxSteps := 1000000) only [sm, awpOper, awpDo, evP, evBin, evUn, eqInts, fillA, setCells, cutCells, okElems, AV.natOf, natO, maxA, minA, AV.isInt, evSlc, evLoad, setE, evW, AV.cells, AV.okSt, elemsOf, appBase, AV.isSl, resV, tupV, viewN, embB, embT, okR, okC, okL, okEs, ren, renC, renL, renEs, seval, Int.natCast_zero]
    · intro k hk
      by_cases hlt : k < D.length
      · have hlt' : (k : Int) < (D.length : Int) := by omega
        have e2 : IntKind.i64.wrap ((k : Int) + 1) = ((k + 1 : Nat) : Int) := by rw [wrap_i64] <;> omega
        obtain ⟨r, hr⟩ : ∃ r, D[k]? = some r := ⟨_, List.getElem?_eq_getElem hlt⟩
        obtain ⟨s, hs⟩ : ∃ r, out[k]? = some r := ⟨_, List.getElem?_eq_getElem (by omega)⟩
        have hrow : ∀ (E : List (List Rg)) q, E[k]? = some q → rowOf E (k : Int) = q := fun E q h => by unfold rowOf; rw [Int.toNat_natCast, h]; rfl
        have hsub := hle.2 (k : Int) (by omega) (by omega)
        rw [hrow D r hr, hrow out s hs] at hsub
        have hsl : 0 < s.length := hpos s (List.mem_of_getElem? hs)
        have hsl' : ((s.length : Int) = 0) = False := by simp only [eq_iff_iff, iff_false]; omega
        have hb1 := right_length hsub.1
        have hb2 := right_length hsub.2.1
        simp +contextual -implicitDefEqProofs (maxSteps := 1000000) only [sm, awpOper, awpDo, evP, evBin, evUn, eqInts, fillA, setCells, cutCells, okElems, AV.natOf, natO, maxA, minA, AV.isInt, evSlc, evLoad, setE, evW, AV.cells, AV.okSt, elemsOf, appBase, AV.isSl, resV, tupV, viewN, embB, embT, okR, okC, okL, okEs, ren, renC, renL, renEs, seval, hlt', hol', hr, hs]
        refine callA_rule (ref09_Meet s r (by omega) (by omega)) (wkL_refl _) rfl ?_
        rw [meet_sub hsub]
        simp +contextual -implicitDefEqProofs (maxSteps := 1000000) only [sm, awpOper, awpDo, evP, evBin, evUn, eqInts, fillA, setCells, cutCells, okElems, AV.natOf, natO, maxA, minA, AV.isInt, evSlc, evLoad, setE, evW, AV.cells, AV.okSt, elemsOf, appBase, AV.isSl, resV, tupV, viewN, embB, embT, okR, okC, okL, okEs, ren, renC, renL, renEs, seval, hlt', hol', hr, hs, eRgs]
        refine callA_rule (ref09_Same s s (by omega) (by omega)) (by simp +contextual -implicitDefEqProofs (maxSteps := 1000000) only [sm, awpOper, awpDo, evP, evBin, evUn, eqInts, fillA, setCells, cutCells, okElems, AV.natOf, natO, maxA, minA, AV.isInt, evSlc, evLoad, setE, evW, AV.cells, AV.okSt, elemsOf, appBase, AV.isSl, resV, tupV, viewN, embB, embT, okR, okC, okL, okEs, ren, renC, renL, renEs, seval, eRgs]) rfl ?_
        rw [same_refl hsub.1]
        simp +contextual -implicitDefEqProofs (maxSteps := 1000000) only [sm, awpOper, awpDo, evP, evBin, evUn, eqInts, fillA, setCells, cutCells, okElems, AV.natOf, natO, maxA, minA, AV.isInt, evSlc, evLoad, setE, evW, AV.cells, AV.okSt, elemsOf, appBase, AV.isSl, resV, tupV, viewN, embB, embT, okR, okC, okL, okEs, ren, renC, renL, renEs, seval, hlt', hol', hr, hs, eRgs, hsl']
        refine loop_rule (fun j : Nat => j ≤ L.length) (fun j => tm 82 [(1, .list 1 (D.map eRgs)), (2, .list 1 (out.map eRgs)), (9, .list 1 (L.map eIs)), (10, .int .i64 k), (37, .int .i64 D.length), (38, .int .i64 k), (64, .list 1 (L.map eIs)), (65, .int .i64 L.length), (66, .int .i64 j)]) (fun _ => []) (fun j => L.length - j) 0 (Nat.zero_le _) ⟨[], by decide, rfl, ?_, ?_⟩ ?_
        · simp +contextual -implicitDefEqProofs (maxSteps := 1000000) only [sm, awpOper, awpDo, evP, evBin, evUn, eqInts, fillA, setCells, cutCells, okElems, AV.natOf, natO, maxA, minA, AV.isInt, evSlc, evLoad, setE, evW, AV.cells, AV.okSt, elemsOf, appBase, AV.isSl, resV, tupV, viewN, embB, embT, okR, okC, okL, okEs, ren, renC, renL, renEs, seval]
        · simp +contextual -implicitDefEqProofs (maxSteps := 1000000) only [sm, awpOper, awpDo, evP, evBin, evUn, eqInts, fillA, setCells, cutCells, okElems, AV.natOf, natO, maxA, minA, AV.isInt, evSlc, evLoad, setE, evW, AV.cells, AV.okSt, elemsOf, appBase, AV.isSl, resV, tupV, viewN, embB, embT, okR, okC, okL, okEs, ren, renC, renL, renEs, seval, Int.natCast_zero]
        · intro j hj
          by_cases hjl : j < L.length
          · have hjl' : (j : Int) < (L.length : Int) := by omega
            have e3 : IntKind.i64.wrap ((j : Int) + 1) = ((j + 1 : Nat) : Int) := by rw [wrap_i64] <;> omega
            obtain ⟨a, ha⟩ : ∃ r, L[j]? = some r := ⟨_, List.getElem?_eq_getElem hjl⟩
            obtain ⟨b1, b2⟩ := hkp a (List.mem_of_getElem? ha)
            obtain ⟨v, hv⟩ : ∃ r, a[k]? = some r := ⟨_, List.getElem?_eq_getElem (by omega)⟩
            have hal : (k : Int) < (a.length : Int) := by omega
            have hhas : rhasB s v = true := rhas_iff.2 ⟨hsub.1, b2 k s v hs hv⟩
            simp +contextual -implicitDefEqProofs (maxSteps := 1000000) only [sm, awpOper, awpDo, evP, evBin, evUn, eqInts, fillA, setCells, cutCells, okElems, AV.natOf, natO, maxA, minA, AV.isInt, evSlc, evLoad, setE, evW, AV.cells, AV.okSt, elemsOf, appBase, AV.isSl, resV, tupV, viewN, embB, embT, okR, okC, okL, okEs, ren, renC, renL, renEs, seval, hjl', ha, hol', hlt', hs, hv, hal]
            refine callA_rule (ref09_Has s v (by omega)) (by simp +contextual -implicitDefEqProofs (maxSteps := 1000000) only [sm, awpOper, awpDo, evP, evBin, evUn, eqInts, fillA, setCells, cutCells, okElems, AV.natOf, natO, maxA, minA, AV.isInt, evSlc, evLoad, setE, evW, AV.cells, AV.okSt, elemsOf, appBase, AV.isSl, resV, tupV, viewN, embB, embT, okR, okC, okL, okEs, ren, renC, renL, renEs, seval, eRgs]) rfl ?_
            rw [hhas]
            simp +contextual -implicitDefEqProofs (maxSteps := 1000000) only [sm, awpOper, awpDo, evP, evBin, evUn, eqInts, fillA, setCells, cutCells, okElems, AV.natOf, natO, maxA, minA, AV.isInt, evSlc, evLoad, setE, evW, AV.cells, AV.okSt, elemsOf, appBase, AV.isSl, resV, tupV, viewN, embB, embT, okR, okC, okL, okEs, ren, renC, renL, renEs, seval, e3]
            refine ⟨j + 1, by omega, by omega, [], by decide, rfl, ?_, ?_⟩
            · simp +contextual -implicitDefEqProofs (maxSteps := 1000000) only [sm, awpOper, awpDo, evP, evBin, evUn, eqInts, fillA, setCells, cutCells, okElems, AV.natOf, natO, maxA, minA, AV.isInt, evSlc, evLoad, setE, evW, AV.cells, AV.okSt, elemsOf, appBase, AV.isSl, resV, tupV, viewN, embB, embT, okR, okC, okL, okEs, ren, renC, renL, renEs, seval]
            · simp +contextual -implicitDefEqProofs (maxSteps := 1000000) only [sm, awpOper, awpDo, evP, evBin, evUn, eqInts, fillA, setCells, cutCells, okElems, AV.natOf, natO, maxA, minA, AV.isInt, evSlc, evLoad, setE, evW, AV.cells, AV.okSt, elemsOf, appBase, AV.isSl, resV, tupV, viewN, embB, embT, okR, okC, okL, okEs, ren, renC, renL, renEs, seval]
          · have hjn : j = L.length := by omega
            subst hjn
            simp +contextual -implicitDefEqProofs (maxSteps := 1000000) only [sm, awpOper, awpDo, evP, evBin, evUn, eqInts, fillA, setCells, cutCells, okElems, AV.natOf, natO, maxA, minA, AV.isInt, evSlc, evLoad, setE, evW, AV.cells, AV.okSt, elemsOf, appBase, AV.isSl, resV, tupV, viewN, embB, embT, okR, okC, okL, okEs, ren, renC, renL, renEs, seval, Int.lt_irrefl, e2]
            refine ⟨k + 1, by omega, by omega, [], by decide, rfl, ?_, ?_⟩
            · simp +contextual -implicitDefEqProofs (maxSteps := 1000000) only [sm, awpOper, awpDo, evP, evBin, evUn, eqInts, fillA, setCells, cutCells, okElems, AV.natOf, natO, maxA, minA, AV.isInt, evSlc, evLoad, setE, evW, AV.cells, AV.okSt, elemsOf, appBase, AV.isSl, resV, tupV, viewN, embB, embT, okR, okC, okL, okEs, ren, renC, renL, renEs, seval]
            · simp +contextual -implicitDefEqProofs (maxSteps := 1000000) only [sm, awpOper, awpDo, evP, evBin, evUn, eqInts, fillA, setCells, cutCells, okElems, AV.natOf, natO, maxA, minA, AV.isInt, evSlc, evLoad, setE, evW, AV.cells, AV.okSt, elemsOf, appBase, AV.isSl, resV, tupV, viewN, embB, embT, okR, okC, okL, okEs, ren, renC, renL, renEs, seval]
      · have hkn : k = D.length := by omega
        subst hkn
        simp +contextual -implicitDefEqProofs (maxSteps := 1000000) only [sm, awpOper, awpDo, evP, evBin, evUn, eqInts, fillA, setCells, cutCells, okElems, AV.natOf, natO, maxA, minA, AV.isInt, evSlc, evLoad, setE, evW, AV.cells, AV.okSt, elemsOf, appBase, AV.isSl, resV, tupV, viewN, embB, embT, okR, okC, okL, okEs, ren, renC, renL, renEs, seval, Int.lt_irrefl]
end Go.Proofs.Ytclpkkbamgmooaa
