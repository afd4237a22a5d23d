/- LinearTight. -/
import Derived.Test.YtbhigfllanblpaaPlTight
import Derived.Test.YtbhigfllanblpaaCLinTight
namespace Go.Proofs.Ytbhigfllanblpaa
open Av
attribute [local irreducible] awp awpOpers
set_option linter.unusedSimpArgs false
set_option linter.unusedVariables false
set_option maxRecDepth 100000
set_option maxHeartbeats 4000000
theorem any_snoc {L : List (List Int)} {j : Nat} {a : List Int} (p : List Int → Bool) (h : L[j]? = some a) : (L.take (j + 1)).any p = ((L.take j).any p || p a) := by
  rw [← take_snoc h, List.any_append]
  simp
theorem row_ends {r : List Rg} (hd : domB r = true) : ∃ y x, r[0]? = some ((endsV r).1, y) ∧ r[r.length - 1]? = some (x, (endsV r).2) := by
  obtain ⟨h1, h2⟩ := dom_right hd
  obtain ⟨⟨x, y⟩, hx⟩ : ∃ a, r[0]? = some a := ⟨_, List.getElem?_eq_getElem (by omega)⟩
  obtain ⟨⟨p, q⟩, hp⟩ : ∃ a, r[r.length - 1]? = some a := ⟨_, List.getElem?_eq_getElem (by omega)⟩
  rw [ends_at h1 hx hp]
  exact ⟨y, p, hx, hp⟩
theorem law_LinearTight (c : Con) (D : List (List Rg)) : Ctr Try.prog 4 [eCon c, eDoms D] [] (.bool true) [] := by
  refine call_pure Try.func4 Try.call4 e_law12_LinearTight ?_
  have hcon : ∃ K X A G, c = (K, X, A, G) := ⟨c.1, c.2.1, c.2.2.1, c.2.2.2, rfl⟩
  obtain ⟨K, X, A, G, rfl⟩ := hcon
  simp +contextual -implicitDefEqProofs (maxSteps := 1000000) only [c_law12_LinearTight, eCon, eIs, eDoms, sm, awpOper, awpDo, evP, evBin, evUn, eqInts, fillA, setCells, cutCells, okElems, AV.natOf, natO, maxA, minA, AV.isInt, evSlc, evLoad, setE, evW, AV.cells, AV.okSt, elemsOf, appBase, AV.isSl, resV, tupV, viewN, embB, embT, okR, okC, okL, okEs, ren, renC, renL, renEs, seval]
  refine callA_rule law12_alive (wkL_refl _) rfl ?_
  simp +contextual -implicitDefEqProofs (maxSteps := 1000000) only [sm, awpOper, awpDo, evP, evBin, evUn, eqInts, fillA, setCells, cutCells, okElems, AV.natOf, natO, maxA, minA, AV.isInt, evSlc, evLoad, setE, evW, AV.cells, AV.okSt, elemsOf, appBase, AV.isSl, resV, tupV, viewN, embB, embT, okR, okC, okL, okEs, ren, renC, renL, renEs, seval, eCon, eIs]
  refine callA_rule (law12_Fits (K, X, A, G) D) (wkL_refl _) rfl ?_
  cases hFt : fitsB (K, X, A, G) D
  · simp +contextual -implicitDefEqProofs (maxSteps := 1000000) only [sm, awpOper, awpDo, evP, evBin, evUn, eqInts, fillA, setCells, cutCells, okElems, AV.natOf, natO, maxA, minA, AV.isInt, evSlc, evLoad, setE, evW, AV.cells, AV.okSt, elemsOf, appBase, AV.isSl, resV, tupV, viewN, embB, embT, okR, okC, okL, okEs, ren, renC, renL, renEs, seval]
  obtain ⟨s1, s2, s3, s4⟩ := fits_facts hFt
  simp only at s3 s4
  have hd : ∀ d ∈ D, d.length ≤ 1000000000000 := fun d h => by have := s2 d h; omega
  simp +contextual -implicitDefEqProofs (maxSteps := 1000000) only [sm, awpOper, awpDo, evP, evBin, evUn, eqInts, fillA, setCells, cutCells, okElems, AV.natOf, natO, maxA, minA, AV.isInt, evSlc, evLoad, setE, evW, AV.cells, AV.okSt, elemsOf, appBase, AV.isSl, resV, tupV, viewN, embB, embT, okR, okC, okL, okEs, ren, renC, renL, renEs, seval, eCon, eIs]
  refine callA_rule (law12_Few D (by omega) hd) (wkL_refl _) rfl ?_
  cases hFw : fewB D
  · simp +contextual -implicitDefEqProofs (maxSteps := 1000000) only [sm, awpOper, awpDo, evP, evBin, evUn, eqInts, fillA, setCells, cutCells, okElems, AV.natOf, natO, maxA, minA, AV.isInt, evSlc, evLoad, setE, evW, AV.cells, AV.okSt, elemsOf, appBase, AV.isSl, resV, tupV, viewN, embB, embT, okR, okC, okL, okEs, ren, renC, renL, renEs, seval]
  by_cases k1 : K = 2
  · subst k1
    simp +contextual -implicitDefEqProofs (maxSteps := 1000000) only [sm, awpOper, awpDo, evP, evBin, evUn, eqInts, fillA, setCells, cutCells, okElems, AV.natOf, natO, maxA, minA, AV.isInt, evSlc, evLoad, setE, evW, AV.cells, AV.okSt, elemsOf, appBase, AV.isSl, resV, tupV, viewN, embB, embT, okR, okC, okL, okEs, ren, renC, renL, renEs, seval, eCon, eIs]
    refine callA_rule (ref12_Fit (2, X, A, G) D (by omega) hd ⟨by simp only; omega, by simp only; omega⟩) (wkL_refl _) rfl ?_
    cases hm : fitB (2, X, A, G) D
    · simp +contextual -implicitDefEqProofs (maxSteps := 1000000) only [sm, awpOper, awpDo, evP, evBin, evUn, eqInts, fillA, setCells, cutCells, okElems, AV.natOf, natO, maxA, minA, AV.isInt, evSlc, evLoad, setE, evW, AV.cells, AV.okSt, elemsOf, appBase, AV.isSl, resV, tupV, viewN, embB, embT, okR, okC, okL, okEs, ren, renC, renL, renEs, seval]
    obtain ⟨hF, hL⟩ := few_facts hFw
    simp +contextual -implicitDefEqProofs (maxSteps := 1000000) only [sm, awpOper, awpDo, evP, evBin, evUn, eqInts, fillA, setCells, cutCells, okElems, AV.natOf, natO, maxA, minA, AV.isInt, evSlc, evLoad, setE, evW, AV.cells, AV.okSt, elemsOf, appBase, AV.isSl, resV, tupV, viewN, embB, embT, okR, okC, okL, okEs, ren, renC, renL, renEs, seval, eCon, eIs]
    refine loop_rule (fun i : Nat => i ≤ X.length ∧ ∀ k, k < i → ∀ j, j < k → ¬ xat X k = xat X j) (fun i => tm 129 [(1, .list 1 (D.map eRgs)), (2, .ptr 4 0 0 0), (39, .int .i64 X.length), (40, .int .i64 i)]) (fun _ => [some (4, [eCon (2, X, A, G)])]) (fun i => X.length - i) 0 ⟨Nat.zero_le _, fun k hk => by omega⟩ ⟨[0], by decide, rfl, ?_, ?_⟩ ?_
    · simp +contextual -implicitDefEqProofs (maxSteps := 1000000) only [sm, awpOper, awpDo, evP, evBin, evUn, eqInts, fillA, setCells, cutCells, okElems, AV.natOf, natO, maxA, minA, AV.isInt, evSlc, evLoad, setE, evW, AV.cells, AV.okSt, elemsOf, appBase, AV.isSl, resV, tupV, viewN, embB, embT, okR, okC, okL, okEs, ren, renC, renL, renEs, seval, eCon, eIs]
    · simp +contextual -implicitDefEqProofs (maxSteps := 1000000) only [sm, awpOper, awpDo, evP, evBin, evUn, eqInts, fillA, setCells, cutCells, okElems, AV.natOf, natO, maxA, minA, AV.isInt, evSlc, evLoad, setE, evW, AV.cells, AV.okSt, elemsOf, appBase, AV.isSl, resV, tupV, viewN, embB, embT, okR, okC, okL, okEs, ren, renC, renL, renEs, seval, Int.natCast_zero]
    · rintro i ⟨hi, hok⟩
      by_cases hlt : i < X.length
      · have hlt' : (i : Int) < (X.length : Int) := by omega
        have e2 : IntKind.i64.wrap ((i : Int) + 1) = ((i + 1 : Nat) : Int) := by rw [wrap_i64] <;> omega
        have hxi := xat_get hlt
        simp +contextual -implicitDefEqProofs (maxSteps := 1000000) only [sm, awpOper, awpDo, evP, evBin, evUn, eqInts, fillA, setCells, cutCells, okElems, AV.natOf, natO, maxA, minA, AV.isInt, evSlc, evLoad, setE, evW, AV.cells, AV.okSt, elemsOf, appBase, AV.isSl, resV, tupV, viewN, embB, embT, okR, okC, okL, okEs, ren, renC, renL, renEs, seval, hlt']
        refine loop_rule (fun j : Nat => j ≤ i ∧ ∀ m, m < j → ¬ xat X i = xat X m) (fun j => tm 129 [(1, .list 1 (D.map eRgs)), (2, .ptr 4 0 0 0), (5, .int .i64 i), (39, .int .i64 X.length), (40, .int .i64 i), (43, .int .i64 i), (44, .int .i64 j)]) (fun _ => [some (4, [eCon (2, X, A, G)])]) (fun j => i - j) 0 ⟨Nat.zero_le _, fun m hm => by omega⟩ ⟨[0], by decide, rfl, ?_, ?_⟩ ?_
        · simp +contextual -implicitDefEqProofs (maxSteps := 1000000) only [sm, awpOper, awpDo, evP, evBin, evUn, eqInts, fillA, setCells, cutCells, okElems, AV.natOf, natO, maxA, minA, AV.isInt, evSlc, evLoad, setE, evW, AV.cells, AV.okSt, elemsOf, appBase, AV.isSl, resV, tupV, viewN, embB, embT, okR, okC, okL, okEs, ren, renC, renL, renEs, seval, eCon, eIs]
        · simp +contextual -implicitDefEqProofs (maxSteps := 1000000) only [sm, awpOper, awpDo, evP, evBin, evUn, eqInts, fillA, setCells, cutCells, okElems, AV.natOf, natO, maxA, minA, AV.isInt, evSlc, evLoad, setE, evW, AV.cells, AV.okSt, elemsOf, appBase, AV.isSl, resV, tupV, viewN, embB, embT, okR, okC, okL, okEs, ren, renC, renL, renEs, seval, Int.natCast_zero]
        · rintro j ⟨hj, hokj⟩
          by_cases hjl : j < i
          · have hjl' : (j : Int) < (i : Int) := by omega
            have hjX : (j : Int) < (X.length : Int) := by omega
            have e3 : IntKind.i64.wrap ((j : Int) + 1) = ((j + 1 : Nat) : Int) := by rw [wrap_i64] <;> omega
            have hxj := xat_get (X := X) (i := j) (by omega)
            by_cases heq : xat X i = xat X j
            · simp +contextual -implicitDefEqProofs (maxSteps := 1000000) only [sm, awpOper, awpDo, evP, evBin, evUn, eqInts, fillA, setCells, cutCells, okElems, AV.natOf, natO, maxA, minA, AV.isInt, evSlc, evLoad, setE, evW, AV.cells, AV.okSt, elemsOf, appBase, AV.isSl, resV, tupV, viewN, embB, embT, okR, okC, okL, okEs, ren, renC, renL, renEs, seval, eCon, eIs, hlt', hjl', hjX, hxi, hxj, heq]
            · simp +contextual -implicitDefEqProofs (maxSteps := 1000000) only [sm, awpOper, awpDo, evP, evBin, evUn, eqInts, fillA, setCells, cutCells, okElems, AV.natOf, natO, maxA, minA, AV.isInt, evSlc, evLoad, setE, evW, AV.cells, AV.okSt, elemsOf, appBase, AV.isSl, resV, tupV, viewN, embB, embT, okR, okC, okL, okEs, ren, renC, renL, renEs, seval, eCon, eIs, hlt', hjl', hjX, hxi, hxj, heq, e3]
              refine ⟨j + 1, ⟨by omega, fun m hm => ?_⟩, by omega, [0], by decide, rfl, ?_, ?_⟩
              · rcases Nat.lt_succ_iff_lt_or_eq.1 hm with h | rfl
                · exact hokj m h
                · exact heq
              · simp +contextual -implicitDefEqProofs (maxSteps := 1000000) only [sm, awpOper, awpDo, evP, evBin, evUn, eqInts, fillA, setCells, cutCells, okElems, AV.natOf, natO, maxA, minA, AV.isInt, evSlc, evLoad, setE, evW, AV.cells, AV.okSt, elemsOf, appBase, AV.isSl, resV, tupV, viewN, embB, embT, okR, okC, okL, okEs, ren, renC, renL, renEs, seval, eCon, eIs]
              · simp +contextual -implicitDefEqProofs (maxSteps := 1000000) only [sm, awpOper, awpDo, evP, evBin, evUn, eqInts, fillA, setCells, cutCells, okElems, AV.natOf, natO, maxA, minA, AV.isInt, evSlc, evLoad, setE, evW, AV.cells, AV.okSt, elemsOf, appBase, AV.isSl, resV, tupV, viewN, embB, embT, okR, okC, okL, okEs, ren, renC, renL, renEs, seval]
          · have hjn : j = i := by omega
            subst hjn
            simp +contextual -implicitDefEqProofs (maxSteps := 1000000) only [sm, awpOper, awpDo, evP, evBin, evUn, eqInts, fillA, setCells, cutCells, okElems, AV.natOf, natO, maxA, minA, AV.isInt, evSlc, evLoad, setE, evW, AV.cells, AV.okSt, elemsOf, appBase, AV.isSl, resV, tupV, viewN, embB, embT, okR, okC, okL, okEs, ren, renC, renL, renEs, seval, Int.lt_irrefl, e2, eCon, eIs]
            refine ⟨j + 1, ⟨by omega, fun m hm => ?_⟩, by omega, [0], by decide, rfl, ?_, ?_⟩
            · rcases Nat.lt_succ_iff_lt_or_eq.1 hm with h | rfl
              · exact hok m h
              · exact hokj
            · simp +contextual -implicitDefEqProofs (maxSteps := 1000000) only [sm, awpOper, awpDo, evP, evBin, evUn, eqInts, fillA, setCells, cutCells, okElems, AV.natOf, natO, maxA, minA, AV.isInt, evSlc, evLoad, setE, evW, AV.cells, AV.okSt, elemsOf, appBase, AV.isSl, resV, tupV, viewN, embB, embT, okR, okC, okL, okEs, ren, renC, renL, renEs, seval, eCon, eIs]
            · simp +contextual -implicitDefEqProofs (maxSteps := 1000000) only [sm, awpOper, awpDo, evP, evBin, evUn, eqInts, fillA, setCells, cutCells, okElems, AV.natOf, natO, maxA, minA, AV.isInt, evSlc, evLoad, setE, evW, AV.cells, AV.okSt, elemsOf, appBase, AV.isSl, resV, tupV, viewN, embB, embT, okR, okC, okL, okEs, ren, renC, renL, renEs, seval]
      · have hin : i = X.length := by omega
        subst hin
        have hA : ∀ i k, k < i → i < X.length → ¬ xat X i = xat X k := fun i k h1 h2 => hok i h2 k h1
        clear hok
        simp +contextual -implicitDefEqProofs (maxSteps := 1000000) only [sm, awpOper, awpDo, evP, evBin, evUn, eqInts, fillA, setCells, cutCells, okElems, AV.natOf, natO, maxA, minA, AV.isInt, evSlc, evLoad, setE, evW, AV.cells, AV.okSt, elemsOf, appBase, AV.isSl, resV, tupV, viewN, embB, embT, okR, okC, okL, okEs, ren, renC, renL, renEs, seval, Int.lt_irrefl, eCon, eIs]
        refine callA_rule (linear_Narrow (2, X, A, G) D (by omega) hd ⟨by simp only; omega, by simp only; omega⟩ (by simp only; omega)) (wkL_refl _) rfl ?_
        have hres := linear_res (c := (2, X, A, G)) (by simp only; omega) hm
        rcases hres with h12 | ⟨E, hE, -, -⟩
        · rw [h12]
          simp +contextual -implicitDefEqProofs (maxSteps := 1000000) only [sm, awpOper, awpDo, evP, evBin, evUn, eqInts, fillA, setCells, cutCells, okElems, AV.natOf, natO, maxA, minA, AV.isInt, evSlc, evLoad, setE, evW, AV.cells, AV.okSt, elemsOf, appBase, AV.isSl, resV, tupV, viewN, embB, embT, okR, okC, okL, okEs, ren, renC, renL, renEs, seval, eDoms]
        · obtain ⟨t1, t2, t3⟩ := linear_tight (c := (2, X, A, G)) rfl hm hA hE
          rw [hE]
          have hEd : ∀ r ∈ E, domB r = true := fun r hr => by
            obtain ⟨i, hi, rfl⟩ := List.getElem_of_mem hr
            have h1 := t2 (i : Int) (by omega) (by omega)
            have h2 : rowOf E (i : Int) = E[i] := by unfold rowOf; rw [Int.toNat_natCast, List.getElem?_eq_getElem hi]; rfl
            rw [h2] at h1
            exact h1
          have hEF := full_dom hEd
          have hEb : ∀ r ∈ E, r.length ≤ 1000000000000 := fun r hr => by have := dom_len (hEd r hr); omega
          have hEl : E.length = D.length := t1.1
          have hall := all_len hEl (le_at t1)
          have hEv := ref11_Every E (2, X, A, G) _ (by omega) hEF hEb (by omega) (fun a ha => ref11_Holds (2, X, A, G) a (by simp only; omega) (by simp only; omega) ha (by simp only; omega))
          have hmem : ∀ (x : Nat) v, x < E.length → Mem (rowOf E x) v → ∃ a ∈ (allA E).filter (fun a => askdB (2, X, A, G) a && holdsB (2, X, A, G) (valsOf X a)), xat a x = v := fun x v hx hv => by
            obtain ⟨a, a1, a2, a3⟩ := t3 x v hx hv
            exact ⟨a, List.mem_filter.2 ⟨mem_all.2 a1, a3⟩, a2⟩
          have hbx : ∀ a ∈ (allA E).filter (fun a => askdB (2, X, A, G) a && holdsB (2, X, A, G) (valsOf X a)), a.length = E.length := fun a ha => (mem_all.1 (List.mem_filter.1 ha).1).1
          have hll : ((allA E).filter (fun a => askdB (2, X, A, G) a && holdsB (2, X, A, G) (valsOf X a))).length ≤ 400 := by
            have := List.length_filter_le (fun a => askdB (2, X, A, G) a && holdsB (2, X, A, G) (valsOf X a)) (allA E)
            omega
          simp only at hEv
          generalize (allA E).filter (fun a => askdB (2, X, A, G) a && holdsB (2, X, A, G) (valsOf X a)) = L at hEv hmem hbx hll
          simp +contextual -implicitDefEqProofs (maxSteps := 1000000) only [sm, awpOper, awpDo, evP, evBin, evUn, eqInts, fillA, setCells, cutCells, okElems, AV.natOf, natO, maxA, minA, AV.isInt, evSlc, evLoad, setE, evW, AV.cells, AV.okSt, elemsOf, appBase, AV.isSl, resV, tupV, viewN, embB, embT, okR, okC, okL, okEs, ren, renC, renL, renEs, seval, eDoms, eCon, eIs]
          refine callA_rule hEv (by simp +contextual -implicitDefEqProofs (maxSteps := 1000000) only [sm, awpOper, awpDo, evP, evBin, evUn, eqInts, fillA, setCells, cutCells, okElems, AV.natOf, natO, maxA, minA, AV.isInt, evSlc, evLoad, setE, evW, AV.cells, AV.okSt, elemsOf, appBase, AV.isSl, resV, tupV, viewN, embB, embT, okR, okC, okL, okEs, ren, renC, renL, renEs, seval, eDoms, eCons, eCon, eIs]) rfl ?_
          simp +contextual -implicitDefEqProofs (maxSteps := 1000000) only [sm, awpOper, awpDo, evP, evBin, evUn, eqInts, fillA, setCells, cutCells, okElems, AV.natOf, natO, maxA, minA, AV.isInt, evSlc, evLoad, setE, evW, AV.cells, AV.okSt, elemsOf, appBase, AV.isSl, resV, tupV, viewN, embB, embT, okR, okC, okL, okEs, ren, renC, renL, renEs, seval, eIss]
          refine loop_rule (fun k : Nat => k ≤ E.length) (fun k => tm 129 [(7, .list 1 (E.map eRgs)), (9, .list 1 (L.map eIs)), (75, .int .i64 E.length), (76, .int .i64 k)]) (fun _ => []) (fun k => E.length - k) 0 (Nat.zero_le _) ⟨[], by decide, rfl, ?_, ?_⟩ ?_
          · simp +contextual -implicitDefEqProofs (maxSteps := 1000000) only [sm, awpOper, awpDo, evP, evBin, evUn, eqInts, fillA, setCells, cutCells, okElems, AV.natOf, natO, maxA, minA, AV.isInt, evSlc, evLoad, setE, evW, AV.cells, AV.okSt, elemsOf, appBase, AV.isSl, resV, tupV, viewN, embB, embT, okR, okC, okL, okEs, ren, renC, renL, renEs, seval]
          · simp +contextual -implicitDefEqProofs (maxSteps := 1000000) only [sm, awpOper, awpDo, evP, evBin, evUn, eqInts, fillA, setCells, cutCells, okElems, AV.natOf, natO, maxA, minA, AV.isInt, evSlc, evLoad, setE, evW, AV.cells, AV.okSt, elemsOf, appBase, AV.isSl, resV, tupV, viewN, embB, embT, okR, okC, okL, okEs, ren, renC, renL, renEs, seval, Int.natCast_zero]
          · intro k hk
            by_cases hkl : k < E.length
            · have hkl' : (k : Int) < (E.length : Int) := by omega
              have e4 : IntKind.i64.wrap ((k : Int) + 1) = ((k + 1 : Nat) : Int) := by rw [wrap_i64] <;> omega
              obtain ⟨r, hr⟩ : ∃ r, E[k]? = some r := ⟨_, List.getElem?_eq_getElem hkl⟩
              have hrd := hEd r (List.mem_of_getElem? hr)
              obtain ⟨y0, x1, hy0, hx1⟩ := row_ends hrd
              obtain ⟨m1, m2, _⟩ := ends_facts hrd
              have hrow : rowOf E (k : Int) = r := by unfold rowOf; rw [Int.toNat_natCast, hr]; rfl
              obtain ⟨a1, ha1, hv1⟩ := hmem k _ hkl (by rw [hrow]; exact m1)
              obtain ⟨a2, ha2, hv2⟩ := hmem k _ hkl (by rw [hrow]; exact m2)
              have hrl := (dom_right hrd).2
              have hrb := hEb r (List.mem_of_getElem? hr)
              have hr0 : (0 : Int) < (r.length : Int) := by omega
              have hr1 : IntKind.i64.wrap ((r.length : Int) - 1) = ((r.length - 1 : Nat) : Int) := by rw [wrap_i64] <;> omega
              have hr2 : ((r.length - 1 : Nat) : Int) < (r.length : Int) := by omega
              generalize (endsV r).1 = lo at hy0 hv1
              generalize (endsV r).2 = hi at hx1 hv2
              have hlo : L.any (fun a => decide (xat a k = lo)) = true := List.any_eq_true.2 ⟨a1, ha1, by simp [hv1]⟩
              have hhi : L.any (fun a => decide (xat a k = hi)) = true := List.any_eq_true.2 ⟨a2, ha2, by simp [hv2]⟩
              simp +contextual -implicitDefEqProofs (maxSteps := 1000000) only [sm, awpOper, awpDo, evP, evBin, evUn, eqInts, fillA, setCells, cutCells, okElems, AV.natOf, natO, maxA, minA, AV.isInt, evSlc, evLoad, setE, evW, AV.cells, AV.okSt, elemsOf, appBase, AV.isSl, resV, tupV, viewN, embB, embT, okR, okC, okL, okEs, ren, renC, renL, renEs, seval, hkl']
              refine loop_rule (fun j : Nat => j ≤ L.length) (fun j => tm 129 [(7, .list 1 (E.map eRgs)), (9, .list 1 (L.map eIs)), (10, .int .i64 k), (11, .bool ((L.take j).any fun a => decide (xat a k = lo))), (12, .bool ((L.take j).any fun a => decide (xat a k = hi))), (75, .int .i64 E.length), (76, .int .i64 k), (79, .list 1 (L.map eIs)), (80, .int .i64 L.length), (81, .int .i64 j)]) (fun _ => []) (fun j => L.length - j) 0 (Nat.zero_le _) ⟨[], by decide, rfl, ?_, ?_⟩ ?_
              · simp +contextual -implicitDefEqProofs (maxSteps := 1000000) only [sm, awpOper, awpDo, evP, evBin, evUn, eqInts, fillA, setCells, cutCells, okElems, AV.natOf, natO, maxA, minA, AV.isInt, evSlc, evLoad, setE, evW, AV.cells, AV.okSt, elemsOf, appBase, AV.isSl, resV, tupV, viewN, embB, embT, okR, okC, okL, okEs, ren, renC, renL, renEs, seval]
              · simp +contextual -implicitDefEqProofs (maxSteps := 1000000) only [sm, awpOper, awpDo, evP, evBin, evUn, eqInts, fillA, setCells, cutCells, okElems, AV.natOf, natO, maxA, minA, AV.isInt, evSlc, evLoad, setE, evW, AV.cells, AV.okSt, elemsOf, appBase, AV.isSl, resV, tupV, viewN, embB, embT, okR, okC, okL, okEs, ren, renC, renL, renEs, seval, Int.natCast_zero, List.take_zero, List.any_nil]
              · intro j hj
                by_cases hjl : j < L.length
                · have hjl' : (j : Int) < (L.length : Int) := by omega
                  have e3 : IntKind.i64.wrap ((j : Int) + 1) = ((j + 1 : Nat) : Int) := by rw [wrap_i64] <;> omega
                  obtain ⟨a, ha⟩ : ∃ r, L[j]? = some r := ⟨_, List.getElem?_eq_getElem hjl⟩
                  have hal := hbx a (List.mem_of_getElem? ha)
                  have hav := xat_get (X := a) (i := k) (by omega)
                  have hak : (k : Int) < (a.length : Int) := by omega
                  have hp := any_snoc (fun a => decide (xat a k = lo)) ha
                  have hq := any_snoc (fun a => decide (xat a k = hi)) ha
                  generalize xat a k = v at hav hp hq
                  cases hbl : ((L.take j).any fun a => decide (xat a k = lo)) <;> cases hbh : ((L.take j).any fun a => decide (xat a k = hi)) <;> by_cases h1 : v = lo <;> by_cases h2 : v = hi <;>
                    rw [hbl] at hp <;> rw [hbh] at hq <;> simp only [h1, h2, decide_true, decide_false, Bool.or_true, Bool.or_false, Bool.true_or, Bool.false_or] at hp hq <;>
                    simp +contextual -implicitDefEqProofs (maxSteps := 1000000) only [sm, awpOper, awpDo, evP, evBin, evUn, eqInts, fillA, setCells, cutCells, okElems, AV.natOf, natO, maxA, minA, AV.isInt, evSlc, evLoad, setE, evW, AV.cells, AV.okSt, elemsOf, appBase, AV.isSl, resV, tupV, viewN, embB, embT, okR, okC, okL, okEs, ren, renC, renL, renEs, seval, eIs, eRgs, hjl', ha, hav, hak, hkl', hr, hy0, hx1, hr0, hr1, hr2, h1, h2, e3] <;>
                    refine ⟨j + 1, by omega, by omega, [], by decide, rfl, ?_, ?_⟩ <;> simp +contextual -implicitDefEqProofs (maxSteps := 1000000) only [sm, awpOper, awpDo, evP, evBin, evUn, eqInts, fillA, setCells, cutCells, okElems, AV.natOf, natO, maxA, minA, AV.isInt, evSlc, evLoad, setE, evW, AV.cells, AV.okSt, elemsOf, appBase, AV.isSl, resV, tupV, viewN, embB, embT, okR, okC, okL, okEs, ren, renC, renL, renEs, seval, eIs, eRgs, hp, hq]
                · have hjn : j = L.length := by omega
                  subst hjn
                  rw [List.take_length, hlo, hhi]
                  simp +contextual -implicitDefEqProofs (maxSteps := 1000000) only [sm, awpOper, awpDo, evP, evBin, evUn, eqInts, fillA, setCells, cutCells, okElems, AV.natOf, natO, maxA, minA, AV.isInt, evSlc, evLoad, setE, evW, AV.cells, AV.okSt, elemsOf, appBase, AV.isSl, resV, tupV, viewN, embB, embT, okR, okC, okL, okEs, ren, renC, renL, renEs, seval, Int.lt_irrefl, e4]
                  refine ⟨k + 1, by omega, by omega, [], by decide, rfl, ?_, ?_⟩
                  · simp +contextual -implicitDefEqProofs (maxSteps := 1000000) only [sm, awpOper, awpDo, evP, evBin, evUn, eqInts, fillA, setCells, cutCells, okElems, AV.natOf, natO, maxA, minA, AV.isInt, evSlc, evLoad, setE, evW, AV.cells, AV.okSt, elemsOf, appBase, AV.isSl, resV, tupV, viewN, embB, embT, okR, okC, okL, okEs, ren, renC, renL, renEs, seval]
                  · simp +contextual -implicitDefEqProofs (maxSteps := 1000000) only [sm, awpOper, awpDo, evP, evBin, evUn, eqInts, fillA, setCells, cutCells, okElems, AV.natOf, natO, maxA, minA, AV.isInt, evSlc, evLoad, setE, evW, AV.cells, AV.okSt, elemsOf, appBase, AV.isSl, resV, tupV, viewN, embB, embT, okR, okC, okL, okEs, ren, renC, renL, renEs, seval]
            · have hkn : k = E.length := by omega
              subst hkn
              simp +contextual -implicitDefEqProofs (maxSteps := 1000000) only [sm, awpOper, awpDo, evP, evBin, evUn, eqInts, fillA, setCells, cutCells, okElems, AV.natOf, natO, maxA, minA, AV.isInt, evSlc, evLoad, setE, evW, AV.cells, AV.okSt, elemsOf, appBase, AV.isSl, resV, tupV, viewN, embB, embT, okR, okC, okL, okEs, ren, renC, renL, renEs, seval, Int.lt_irrefl]
  · simp +contextual -implicitDefEqProofs (maxSteps := 1000000) only [sm, awpOper, awpDo, evP, evBin, evUn, eqInts, fillA, setCells, cutCells, okElems, AV.natOf, natO, maxA, minA, AV.isInt, evSlc, evLoad, setE, evW, AV.cells, AV.okSt, elemsOf, appBase, AV.isSl, resV, tupV, viewN, embB, embT, okR, okC, okL, okEs, ren, renC, renL, renEs, seval, k1]
end Go.Proofs.Ytbhigfllanblpaa
