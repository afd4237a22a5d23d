/- What the functions of package ref11 compute, continued: Every. -/
import Derived.Test.YtclpkkbamgmooaaWRef11d
namespace Go.Proofs.Ytclpkkbamgmooaa
open Av
attribute [local irreducible] awp awpOpers
set_option linter.unusedSimpArgs false
set_option linter.unusedVariables false
set_option maxRecDepth 100000
set_option maxHeartbeats 4000000
def eIss (l : List (List Int)) : AV := .list 1 (l.map eIs)
theorem mem_bound {r : List Rg} (hr : rightB r = true) {v : Int} (h : Mem r v) : -1048576 ≤ v ∧ v ≤ 1048576 := by
  obtain ⟨q, hq, h1, h2⟩ := h
  obtain ⟨j, hj, hjs⟩ := List.getElem_of_mem hq
  have hj' : r[j]? = some (q.1, q.2) := by rw [List.getElem?_eq_getElem hj, hjs]
  obtain ⟨g1, g2, g3, g4, g5⟩ := right_rg hr hj'
  omega
theorem box_bound {D : List (List Rg)} {a : List Int} (hF : Full D) (h : InBox D a) : ∀ v ∈ a, -1048576 ≤ v ∧ v ≤ 1048576 := by
  intro v hv
  obtain ⟨i, hi, rfl⟩ := List.getElem_of_mem hv
  have hi2 : i < D.length := by have := h.1; omega
  have hr : D[i]? = some D[i] := List.getElem?_eq_getElem hi2
  exact mem_bound (hF _ (List.mem_of_getElem? hr)).1 (h.2 i _ _ hr (List.getElem?_eq_getElem hi))
theorem snoc_Iss (l : List (List Int)) (a : List Int) : l.map eIs ++ [.list 1 (a.map eI)] = (l ++ [a]).map eIs := by simp [eIs]
theorem ref11_Every (D : List (List Rg)) (c : Con) (h : List Int → Bool) (hD : D.length ≤ 1000000000000) (hF : Full D) (hd : ∀ r ∈ D, r.length ≤ 1000000000000) (hL : (allA D).length ≤ 1000000)
    (hH : ∀ a, a.length ≤ 1000000000000 → Ctr Try.prog 63 [eCon c, eIs a] [] (.bool (h a)) []) :
    Ctr Try.prog 31 [eDoms D, eCons [c]] [] (eIss ((allA D).filter h)) [] := by
  refine call_pure Try.func31 Try.call31 e_ref11_Every ?_
  obtain ⟨K, X, A, C⟩ := c
  have hw := walk_at (walk_all hF)
  have hbox : ∀ (i : Nat) a, (allA D)[i]? = some a → InBox D a := fun i a hi => mem_all.1 (List.mem_of_getElem? hi)
  have h0L : 0 < (allA D).length := by
    cases hq : allA D with
    | nil => rw [hq] at hw; simp at hw
    | cons a l => simp
  generalize allA D = L at hw hbox h0L hL ⊢
  obtain ⟨hw0, hw1⟩ := hw
  have hne : ∀ r ∈ D, (decide (0 < r.length)) = true := fun r hr => by simp; have := (hF r hr).2; omega
  simp +contextual -implicitDefEqProofs (maxSteps := 1000000) only [c_ref11_Every, eDoms, eCons, eIs, sm, awpOper, awpDo, evP, evBin, evUn, eqInts, fillA, setCells, cutCells, okElems, AV.natOf, natO, maxA, minA, AV.isInt, evSlc, evLoad, setE, evW, AV.cells, AV.okSt, elemsOf, appBase, AV.isSl, resV, tupV, viewN, embB, embT, okR, okC, okL, okEs, ren, renC, renL, renEs, seval]
  refine loop_rule (fun k : Nat => k ≤ D.length ∧ ∀ (j : Nat) x, j < k → D[j]? = some x → (fun r : List Rg => decide (0 < r.length)) x = true) (fun k => tm 54 [(0, .list 1 (D.map eRgs)), (1, .list 4 [eCon (K, X, A, C)]), (5, .nils), (6, .int .i64 k)]) (fun _ => []) (fun k => D.length - k) 0 ⟨by omega, by omega⟩ ⟨[], by decide, rfl, ?_, ?_⟩ ?_
  · simp +contextual -implicitDefEqProofs (maxSteps := 1000000) only [sm, awpOper, awpDo, evP, evBin, evUn, eqInts, fillA, setCells, cutCells, okElems, AV.natOf, natO, maxA, minA, AV.isInt, evSlc, evLoad, setE, evW, AV.cells, AV.okSt, elemsOf, appBase, AV.isSl, resV, tupV, viewN, embB, embT, okR, okC, okL, okEs, ren, renC, renL, renEs, seval, eCon, eIs]
  · simp +contextual -implicitDefEqProofs (maxSteps := 1000000) only [sm, awpOper, awpDo, evP, evBin, evUn, eqInts, fillA, setCells, cutCells, okElems, AV.natOf, natO, maxA, minA, AV.isInt, evSlc, evLoad, setE, evW, AV.cells, AV.okSt, elemsOf, appBase, AV.isSl, resV, tupV, viewN, embB, embT, okR, okC, okL, okEs, ren, renC, renL, renEs, seval, Int.natCast_zero, eCon, eIs]
  · rintro k ⟨hk, hok⟩
    by_cases hlt : k < D.length
    · obtain ⟨x, hx⟩ : ∃ r, D[k]? = some r := ⟨_, List.getElem?_eq_getElem hlt⟩
      have hlt' : (k : Int) < (D.length : Int) := by omega
      have e2 : IntKind.i64.wrap ((k : Int) + 1) = ((k + 1 : Nat) : Int) := by rw [wrap_i64] <;> omega
      have hr0 := (hF x (List.mem_of_getElem? hx)).2
      have hr0' : ((x.length : Int) = 0) = False := by simp only [eq_iff_iff, iff_false]; omega
      simp +contextual -implicitDefEqProofs (maxSteps := 1000000) only [sm, awpOper, awpDo, evP, evBin, evUn, eqInts, fillA, setCells, cutCells, okElems, AV.natOf, natO, maxA, minA, AV.isInt, evSlc, evLoad, setE, evW, AV.cells, AV.okSt, elemsOf, appBase, AV.isSl, resV, tupV, viewN, embB, embT, okR, okC, okL, okEs, ren, renC, renL, renEs, seval, hlt', hx, hr0', e2]
      refine ⟨k + 1, ⟨by omega, ?_⟩, by omega, [], by decide, rfl, ?_, ?_⟩
      · intro j y hj hy
        rcases Nat.lt_succ_iff_lt_or_eq.1 hj with h | rfl
        · first | exact hok j y h hy | simpa using hok j y h hy
        · rw [hx] at hy; injection hy with hy; subst hy; first | exact hr0 | exact decide_eq_true hr0
      · simp +contextual -implicitDefEqProofs (maxSteps := 1000000) only [sm, awpOper, awpDo, evP, evBin, evUn, eqInts, fillA, setCells, cutCells, okElems, AV.natOf, natO, maxA, minA, AV.isInt, evSlc, evLoad, setE, evW, AV.cells, AV.okSt, elemsOf, appBase, AV.isSl, resV, tupV, viewN, embB, embT, okR, okC, okL, okEs, ren, renC, renL, renEs, seval, eCon, eIs]
      · simp +contextual -implicitDefEqProofs (maxSteps := 1000000) only [sm, awpOper, awpDo, evP, evBin, evUn, eqInts, fillA, setCells, cutCells, okElems, AV.natOf, natO, maxA, minA, AV.isInt, evSlc, evLoad, setE, evW, AV.cells, AV.okSt, elemsOf, appBase, AV.isSl, resV, tupV, viewN, embB, embT, okR, okC, okL, okEs, ren, renC, renL, renEs, seval, eCon, eIs]
    · have : k = D.length := by omega
      subst this
      have hall := listall_yes hok
      skip
      clear hall hok
      simp +contextual -implicitDefEqProofs (maxSteps := 1000000) only [sm, awpOper, awpDo, evP, evBin, evUn, eqInts, fillA, setCells, cutCells, okElems, AV.natOf, natO, maxA, minA, AV.isInt, evSlc, evLoad, setE, evW, AV.cells, AV.okSt, elemsOf, appBase, AV.isSl, resV, tupV, viewN, embB, embT, okR, okC, okL, okEs, ren, renC, renL, renEs, seval, Int.lt_irrefl, eDoms]
      refine callA_rule (ref11_first D hD hF) (wkL_refl _) rfl ?_
      simp +contextual -implicitDefEqProofs (maxSteps := 1000000) only [sm, awpOper, awpDo, evP, evBin, evUn, eqInts, fillA, setCells, cutCells, okElems, AV.natOf, natO, maxA, minA, AV.isInt, evSlc, evLoad, setE, evW, AV.cells, AV.okSt, elemsOf, appBase, AV.isSl, resV, tupV, viewN, embB, embT, okR, okC, okL, okEs, ren, renC, renL, renEs, seval, eIs]
      refine loop_ruleV [(5, 1)] (fun i : Nat => i ≤ L.length) (fun i => tm 54 [(0, .list 1 (D.map eRgs)), (1, .list 4 [eCon (K, X, A, C)]), (5, .sl 1 0 0 ((L.take i).filter h).length), (7, .list 1 (((L[i]?).getD (firstA D)).map eI)), (8, .bool (decide (i < L.length)))]) (fun i => [some (1, ((L.take i).filter h).map eIs)]) (fun i => L.length - i) 0 (by simp +contextual -implicitDefEqProofs (maxSteps := 1000000) only [sm, awpOper, awpDo, evP, evBin, evUn, eqInts, fillA, setCells, cutCells, okElems, AV.natOf, natO, maxA, minA, AV.isInt, evSlc, evLoad, setE, evW, AV.cells, AV.okSt, elemsOf, appBase, AV.isSl, resV, tupV, viewN, embB, embT, okR, okC, okL, okEs, ren, renC, renL, renEs, seval]) (Nat.zero_le _) ⟨[0], by decide, rfl, ?_, ?_⟩ ?_
      · simp +contextual -implicitDefEqProofs (maxSteps := 1000000) only [sm, awpOper, awpDo, evP, evBin, evUn, eqInts, fillA, setCells, cutCells, okElems, AV.natOf, natO, maxA, minA, AV.isInt, evSlc, evLoad, setE, evW, AV.cells, AV.okSt, elemsOf, appBase, AV.isSl, resV, tupV, viewN, embB, embT, okR, okC, okL, okEs, ren, renC, renL, renEs, seval, List.take_zero, List.filter_nil, List.map_nil]
      · rw [← hw0]
        have d0 : decide (0 < L.length) = true := decide_eq_true h0L
        rw [d0]
        simp +contextual -implicitDefEqProofs (maxSteps := 1000000) only [sm, awpOper, awpDo, evP, evBin, evUn, eqInts, fillA, setCells, cutCells, okElems, AV.natOf, natO, maxA, minA, AV.isInt, evSlc, evLoad, setE, evW, AV.cells, AV.okSt, elemsOf, appBase, AV.isSl, resV, tupV, viewN, embB, embT, okR, okC, okL, okEs, ren, renC, renL, renEs, seval, eCon, eIs, Option.getD_some, List.take_zero, List.filter_nil, List.length_nil]
      · intro i hi
        by_cases hlt2 : i < L.length
        · have d1 : decide (i < L.length) = true := by simp; omega
          obtain ⟨a, ha⟩ : ∃ r, L[i]? = some r := ⟨_, List.getElem?_eq_getElem hlt2⟩
          have hb := hbox i a ha
          have hal : a.length ≤ 1000000000000 := by have := hb.1; omega
          have haf := hw1 i a ha
          have hlt' : (L.take i).length = i := by rw [List.length_take]; omega
          have hfl : ((L.take i).filter h).length ≤ i := by have := List.length_filter_le h (L.take i); omega
          have hts := take_snoc ha
          have hnext : aftV D a = (L[i + 1]?).getD (firstA D) := by unfold aftV; rw [haf]
          have hsome : (aft D a).isSome = decide (i + 1 < L.length) := by
            rw [haf]
            by_cases h1 : i + 1 < L.length
            · rw [List.getElem?_eq_getElem h1]; simp [h1]
            · rw [List.getElem?_eq_none (by omega)]; simp [h1]
          rw [d1, ha]
          simp +contextual -implicitDefEqProofs (maxSteps := 1000000) only [sm, awpOper, awpDo, evP, evBin, evUn, eqInts, fillA, setCells, cutCells, okElems, AV.natOf, natO, maxA, minA, AV.isInt, evSlc, evLoad, setE, evW, AV.cells, AV.okSt, elemsOf, appBase, AV.isSl, resV, tupV, viewN, embB, embT, okR, okC, okL, okEs, ren, renC, renL, renEs, seval, Option.getD_some]
          refine loop_rule (fun j : Nat => j ≤ 1) (fun j => tm 54 [(0, .list 1 (D.map eRgs)), (1, .list 4 [eCon (K, X, A, C)]), (5, .sl 1 0 0 ((L.take i).filter h).length), (7, .list 1 (a.map eI)), (9, .bool (decide (j = 0) || h a)), (10, .int .i64 j)]) (fun j => [some (1, ((L.take i).filter h).map eIs)]) (fun j => 1 - j) 0 (by omega) ⟨[0], by decide, rfl, ?_, ?_⟩ ?_
          · simp +contextual -implicitDefEqProofs (maxSteps := 1000000) only [sm, awpOper, awpDo, evP, evBin, evUn, eqInts, fillA, setCells, cutCells, okElems, AV.natOf, natO, maxA, minA, AV.isInt, evSlc, evLoad, setE, evW, AV.cells, AV.okSt, elemsOf, appBase, AV.isSl, resV, tupV, viewN, embB, embT, okR, okC, okL, okEs, ren, renC, renL, renEs, seval, eCon, eIs]
          · simp +contextual -implicitDefEqProofs (maxSteps := 1000000) only [sm, awpOper, awpDo, evP, evBin, evUn, eqInts, fillA, setCells, cutCells, okElems, AV.natOf, natO, maxA, minA, AV.isInt, evSlc, evLoad, setE, evW, AV.cells, AV.okSt, elemsOf, appBase, AV.isSl, resV, tupV, viewN, embB, embT, okR, okC, okL, okEs, ren, renC, renL, renEs, seval, Int.natCast_zero, Bool.true_or]
          · intro j hj
            cases j with
            | zero =>
              simp +contextual -implicitDefEqProofs (maxSteps := 1000000) only [sm, awpOper, awpDo, evP, evBin, evUn, eqInts, fillA, setCells, cutCells, okElems, AV.natOf, natO, maxA, minA, AV.isInt, evSlc, evLoad, setE, evW, AV.cells, AV.okSt, elemsOf, appBase, AV.isSl, resV, tupV, viewN, embB, embT, okR, okC, okL, okEs, ren, renC, renL, renEs, seval, Int.natCast_zero, Bool.true_or, eCon, eIs]
              refine callA_rule (hH a hal) (wkL_refl _) rfl ?_
              have e3 : IntKind.i64.wrap 1 = ((1 : Nat) : Int) := by decide
              simp +contextual -implicitDefEqProofs (maxSteps := 1000000) only [sm, awpOper, awpDo, evP, evBin, evUn, eqInts, fillA, setCells, cutCells, okElems, AV.natOf, natO, maxA, minA, AV.isInt, evSlc, evLoad, setE, evW, AV.cells, AV.okSt, elemsOf, appBase, AV.isSl, resV, tupV, viewN, embB, embT, okR, okC, okL, okEs, ren, renC, renL, renEs, seval, e3]
              refine ⟨1, by omega, by omega, [0], by decide, rfl, ?_, ?_⟩
              · simp +contextual -implicitDefEqProofs (maxSteps := 1000000) only [sm, awpOper, awpDo, evP, evBin, evUn, eqInts, fillA, setCells, cutCells, okElems, AV.natOf, natO, maxA, minA, AV.isInt, evSlc, evLoad, setE, evW, AV.cells, AV.okSt, elemsOf, appBase, AV.isSl, resV, tupV, viewN, embB, embT, okR, okC, okL, okEs, ren, renC, renL, renEs, seval]
              · have e6 : decide (1 = 0) = false := rfl
                simp +contextual -implicitDefEqProofs (maxSteps := 1000000) only [sm, awpOper, awpDo, evP, evBin, evUn, eqInts, fillA, setCells, cutCells, okElems, AV.natOf, natO, maxA, minA, AV.isInt, evSlc, evLoad, setE, evW, AV.cells, AV.okSt, elemsOf, appBase, AV.isSl, resV, tupV, viewN, embB, embT, okR, okC, okL, okEs, ren, renC, renL, renEs, seval, eCon, eIs, Bool.false_or, e3, e6]
                try rfl
            | succ j =>
              have hj0 : j = 0 := by omega
              subst hj0
              have e4 : (((0 + 1 : Nat)) : Int) = 1 := rfl
              have e5 : decide (0 + 1 = 0) = false := rfl
              simp +contextual -implicitDefEqProofs (maxSteps := 1000000) only [sm, awpOper, awpDo, evP, evBin, evUn, eqInts, fillA, setCells, cutCells, okElems, AV.natOf, natO, maxA, minA, AV.isInt, evSlc, evLoad, setE, evW, AV.cells, AV.okSt, elemsOf, appBase, AV.isSl, resV, tupV, viewN, embB, embT, okR, okC, okL, okEs, ren, renC, renL, renEs, seval, e4, e5, Bool.false_or, Int.lt_irrefl]
              cases hha : h a
              · have hfn : (L.take (i + 1)).filter h = (L.take i).filter h := by rw [← hts, List.filter_append]; simp [hha]
                simp +contextual -implicitDefEqProofs (maxSteps := 1000000) only [sm, awpOper, awpDo, evP, evBin, evUn, eqInts, fillA, setCells, cutCells, okElems, AV.natOf, natO, maxA, minA, AV.isInt, evSlc, evLoad, setE, evW, AV.cells, AV.okSt, elemsOf, appBase, AV.isSl, resV, tupV, viewN, embB, embT, okR, okC, okL, okEs, ren, renC, renL, renEs, seval, eDoms, eIs]
                refine callA_rule (ref11_after D a hD hF hd hb.1 (box_bound hF hb)) (wkL_refl _) rfl ?_
                rw [hnext, hsome]
                simp +contextual -implicitDefEqProofs (maxSteps := 1000000) only [sm, awpOper, awpDo, evP, evBin, evUn, eqInts, fillA, setCells, cutCells, okElems, AV.natOf, natO, maxA, minA, AV.isInt, evSlc, evLoad, setE, evW, AV.cells, AV.okSt, elemsOf, appBase, AV.isSl, resV, tupV, viewN, embB, embT, okR, okC, okL, okEs, ren, renC, renL, renEs, seval, eIs]
                refine ⟨i + 1, by omega, by omega, [0], by decide, rfl, ?_, ?_⟩
                · rw [hfn]
                  simp +contextual -implicitDefEqProofs (maxSteps := 1000000) only [sm, awpOper, awpDo, evP, evBin, evUn, eqInts, fillA, setCells, cutCells, okElems, AV.natOf, natO, maxA, minA, AV.isInt, evSlc, evLoad, setE, evW, AV.cells, AV.okSt, elemsOf, appBase, AV.isSl, resV, tupV, viewN, embB, embT, okR, okC, okL, okEs, ren, renC, renL, renEs, seval, eCon, eIs]
                · rw [hfn]
                  simp +contextual -implicitDefEqProofs (maxSteps := 1000000) only [sm, awpOper, awpDo, evP, evBin, evUn, eqInts, fillA, setCells, cutCells, okElems, AV.natOf, natO, maxA, minA, AV.isInt, evSlc, evLoad, setE, evW, AV.cells, AV.okSt, elemsOf, appBase, AV.isSl, resV, tupV, viewN, embB, embT, okR, okC, okL, okEs, ren, renC, renL, renEs, seval]
              · have hfn : (L.take (i + 1)).filter h = (L.take i).filter h ++ [a] := by rw [← hts, List.filter_append]; simp [hha]
                generalize hF1 : (L.take i).filter h = F1 at hfn hfl ⊢
                have hfl2 : F1.length + 1 = (F1 ++ [a]).length := by simp
                have c1 : (F1.length + 1) * 24 ≤ 140737488355328 := by omega
                have c2 : F1.length + 1 ≤ maxLen := by unfold maxLen; omega
                simp +contextual -implicitDefEqProofs (maxSteps := 1000000) only [sm, awpOper, awpDo, evP, evBin, evUn, eqInts, fillA, setCells, cutCells, okElems, AV.natOf, natO, maxA, minA, AV.isInt, evSlc, evLoad, setE, evW, AV.cells, AV.okSt, elemsOf, appBase, AV.isSl, resV, tupV, viewN, embB, embT, okR, okC, okL, okEs, ren, renC, renL, renEs, seval, eDoms, eIs, c1, c2]
                refine callA_rule (ref11_after D a hD hF hd hb.1 (box_bound hF hb)) (wkL_refl _) rfl ?_
                rw [hnext, hsome]
                simp +contextual -implicitDefEqProofs (maxSteps := 1000000) only [sm, awpOper, awpDo, evP, evBin, evUn, eqInts, fillA, setCells, cutCells, okElems, AV.natOf, natO, maxA, minA, AV.isInt, evSlc, evLoad, setE, evW, AV.cells, AV.okSt, elemsOf, appBase, AV.isSl, resV, tupV, viewN, embB, embT, okR, okC, okL, okEs, ren, renC, renL, renEs, seval, eIs]
                refine ⟨i + 1, by omega, by omega, [1], by decide, rfl, ?_, ?_⟩
                · rw [hfn]
                  simp +contextual -implicitDefEqProofs (maxSteps := 1000000) only [sm, awpOper, awpDo, evP, evBin, evUn, eqInts, fillA, setCells, cutCells, okElems, AV.natOf, natO, maxA, minA, AV.isInt, evSlc, evLoad, setE, evW, AV.cells, AV.okSt, elemsOf, appBase, AV.isSl, resV, tupV, viewN, embB, embT, okR, okC, okL, okEs, ren, renC, renL, renEs, seval]
                · rw [hfn]
                  rw [← hfl2]
                  clear hfl2
                  simp +contextual -implicitDefEqProofs (maxSteps := 1000000) only [sm, awpOper, awpDo, evP, evBin, evUn, eqInts, fillA, setCells, cutCells, okElems, AV.natOf, natO, maxA, minA, AV.isInt, evSlc, evLoad, setE, evW, AV.cells, AV.okSt, elemsOf, appBase, AV.isSl, resV, tupV, viewN, embB, embT, okR, okC, okL, okEs, ren, renC, renL, renEs, seval, eCon, eIs]
        · have hin : i = L.length := by omega
          subst hin
          have d1 : decide (L.length < L.length) = false := by simp
          rw [d1, List.take_length]
          have hll : (L.filter h).length ≤ L.length := List.length_filter_le h L
          have u3 : ((L.filter h).map eIs).take (L.filter h).length = (L.filter h).map eIs := by rw [← List.map_take, List.take_length]
          simp +contextual -implicitDefEqProofs (maxSteps := 1000000) only [sm, awpOper, awpDo, evP, evBin, evUn, eqInts, fillA, setCells, cutCells, okElems, AV.natOf, natO, maxA, minA, AV.isInt, evSlc, evLoad, setE, evW, AV.cells, AV.okSt, elemsOf, appBase, AV.isSl, resV, tupV, viewN, embB, embT, okR, okC, okL, okEs, ren, renC, renL, renEs, seval, u3, eIss, eIs, flatL_eIs]
end Go.Proofs.Ytclpkkbamgmooaa
