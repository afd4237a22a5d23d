/- What Least, Opposite, Ends of package touchstoneref12 compute; alive; LinearEnds. -/
import Derived.Test.YtclpkkbamgmooaaWLin4
import Derived.Test.YtclpkkbamgmooaaWRef12a
import Derived.Test.YtclpkkbamgmooaaWLaw08
import Derived.Test.YtclpkkbamgmooaaCRef12
import Derived.Test.YtclpkkbamgmooaaCLinLaw
namespace Go.Proofs.Ytclpkkbamgmooaa
open Av
attribute [local irreducible] awp awpOpers
set_option linter.unusedSimpArgs false
set_option linter.unusedVariables false
set_option maxRecDepth 100000
set_option maxHeartbeats 4000000
/-- numbers and variables as terms -/
def zipT (A X : List Int) : List Tm := List.zip A X
theorem zip_get {A X : List Int} {k : Nat} {a x : Int} (h1 : A[k]? = some a) (h2 : X[k]? = some x) : (zipT A X)[k]? = some (a, x) := by
  unfold zipT
  simp only [List.getElem?_zip_eq_some]
  exact ⟨h1, h2⟩
theorem zip_tX {A X : List Int} {k : Nat} {a x : Int} (h1 : A[k]? = some a) (h2 : X[k]? = some x) : tX (zipT A X) k = (a, x) := by
  unfold tX; rw [zip_get h1 h2]; rfl
theorem zip_len {A X : List Int} (h : A.length ≤ X.length) : (zipT A X).length = A.length := by unfold zipT; simp only [List.length_zip]; omega
theorem term_min {D : List (List Rg)} {a x : Int} (hD : DOk D) (hx : 0 ≤ x ∧ x < D.length) : min (a * (eAt D x).1) (a * (eAt D x).2) = (termE D (a, x)).1 := by
  obtain ⟨_, h4, h5, h6⟩ := eAt_facts hD hx
  rw [min_term h5]
  unfold termE
  simp only
  split <;> rfl
theorem ref12_Least (A X : List Int) (D : List (List Rg)) (hD : DOk D) (hDl : D.length ≤ 64) (hAX : A.length ≤ X.length) (hT : TOk (zipT A X) D) :
    Ctr Try.prog 59 [eIs A, eIs X, eDoms D] [] (.int .i64 (spanK D (zipT A X) A.length).1) [] := by
  have hTl := zip_len hAX
  have hT32 := hT.1
  refine call_pure Try.func59 Try.call59 e_ref12_Least ?_
  simp +contextual -implicitDefEqProofs (maxSteps := 1000000) only [c_ref12_Least, eIs, eDoms, sm, awpOper, awpDo, evP, evBin, evUn, eqInts, fillA, setCells, cutCells, okElems, AV.natOf, natO, maxA, minA, AV.isInt, evSlc, evLoad, setE, evW, AV.cells, AV.okSt, elemsOf, appBase, AV.isSl, resV, tupV, viewN, embB, embT, okR, okC, okL, okEs, ren, renC, renL, renEs, seval]
  refine loop_rule (fun k : Nat => k ≤ A.length) (fun k => tm 45 [(0, .list 1 (A.map eI)), (1, .list 1 (X.map eI)), (2, .list 1 (D.map eRgs)), (7, .int .i64 (spanK D (zipT A X) k).1), (8, .int .i64 k)]) (fun _ => []) (fun k => A.length - k) 0 (Nat.zero_le _) ⟨[], by decide, rfl, ?_, ?_⟩ ?_
  · simp +contextual -implicitDefEqProofs (maxSteps := 1000000) only [sm, awpOper, awpDo, evP, evBin, evUn, eqInts, fillA, setCells, cutCells, okElems, AV.natOf, natO, maxA, minA, AV.isInt, evSlc, evLoad, setE, evW, AV.cells, AV.okSt, elemsOf, appBase, AV.isSl, resV, tupV, viewN, embB, embT, okR, okC, okL, okEs, ren, renC, renL, renEs, seval]
  · simp +contextual -implicitDefEqProofs (maxSteps := 1000000) only [sm, awpOper, awpDo, evP, evBin, evUn, eqInts, fillA, setCells, cutCells, okElems, AV.natOf, natO, maxA, minA, AV.isInt, evSlc, evLoad, setE, evW, AV.cells, AV.okSt, elemsOf, appBase, AV.isSl, resV, tupV, viewN, embB, embT, okR, okC, okL, okEs, ren, renC, renL, renEs, seval, Int.natCast_zero, spanK]
  · intro k hk
    by_cases hlt : k < A.length
    · have hlt' : (k : Int) < (A.length : Int) := by omega
      have e2 : IntKind.i64.wrap ((k : Int) + 1) = ((k + 1 : Nat) : Int) := by rw [wrap_i64] <;> omega
      obtain ⟨a, ha⟩ : ∃ r, A[k]? = some r := ⟨_, List.getElem?_eq_getElem hlt⟩
      obtain ⟨x, hx⟩ : ∃ r, X[k]? = some r := ⟨_, List.getElem?_eq_getElem (by omega)⟩
      have et := zip_tX ha hx
      obtain ⟨b1, b2⟩ := hT.2 k (by omega)
      have hsb := span_bound hD hT (k := k) (by omega)
      have htb := term_bound hD hT (k := k) (by omega)
      have hS : spanK D (zipT A X) (k + 1) = ((spanK D (zipT A X) k).1 + (termE D (tX (zipT A X) k)).1, (spanK D (zipT A X) k).2 + (termE D (tX (zipT A X) k)).2) := rfl
      rw [et] at b1 b2 htb hS
      simp only at b1 b2
      have hmin := term_min (a := a) hD b2
      have hr := row_get b2
      have h0 := b2.1
      have hdr := dom_right (hD _ b2.1 b2.2)
      have hl1 := right_length hdr.1
      obtain ⟨_, e3, e4, e5⟩ := eAt_facts hD b2
      have m1 := mul_bound (a := a) (b := (eAt D x).1) b1 (by omega)
      have m2 := mul_bound (a := a) (b := (eAt D x).2) b1 (by omega)
      have w1 : IntKind.i64.wrap (a * (eAt D x).1) = a * (eAt D x).1 := by rw [wrap_i64] <;> omega
      have w2 : IntKind.i64.wrap (a * (eAt D x).2) = a * (eAt D x).2 := by rw [wrap_i64] <;> omega
      have w3 : IntKind.i64.wrap ((spanK D (zipT A X) k).1 + (termE D (a, x)).1) = (spanK D (zipT A X) k).1 + (termE D (a, x)).1 := by rw [wrap_i64] <;> omega
      have q1 : (endsV (rowOf D x)).1 = (eAt D x).1 := rfl
      have q2 : (endsV (rowOf D x)).2 = (eAt D x).2 := rfl
      simp +contextual -implicitDefEqProofs (maxSteps := 1000000) only [sm, awpOper, awpDo, evP, evBin, evUn, eqInts, fillA, setCells, cutCells, okElems, AV.natOf, natO, maxA, minA, AV.isInt, evSlc, evLoad, setE, evW, AV.cells, AV.okSt, elemsOf, appBase, AV.isSl, resV, tupV, viewN, embB, embT, okR, okC, okL, okEs, ren, renC, renL, renEs, seval, hlt', ha, hx, h0, hr]
      refine callA_rule (ref12_Lo _ hdr.1 hdr.2) (wkL_refl _) rfl ?_
      simp +contextual -implicitDefEqProofs (maxSteps := 1000000) only [sm, awpOper, awpDo, evP, evBin, evUn, eqInts, fillA, setCells, cutCells, okElems, AV.natOf, natO, maxA, minA, AV.isInt, evSlc, evLoad, setE, evW, AV.cells, AV.okSt, elemsOf, appBase, AV.isSl, resV, tupV, viewN, embB, embT, okR, okC, okL, okEs, ren, renC, renL, renEs, seval, ha, hx, h0, hr]
      refine callA_rule (ref12_Hi _ hdr.1 hdr.2 (by omega)) (wkL_refl _) rfl ?_
      simp +contextual -implicitDefEqProofs (maxSteps := 1000000) only [sm, awpOper, awpDo, evP, evBin, evUn, eqInts, fillA, setCells, cutCells, okElems, AV.natOf, natO, maxA, minA, AV.isInt, evSlc, evLoad, setE, evW, AV.cells, AV.okSt, elemsOf, appBase, AV.isSl, resV, tupV, viewN, embB, embT, okR, okC, okL, okEs, ren, renC, renL, renEs, seval, q1, q2, w1, w2, hmin, w3, e2]
      refine ⟨k + 1, by omega, by omega, [], by decide, rfl, ?_, ?_⟩
      · simp +contextual -implicitDefEqProofs (maxSteps := 1000000) only [sm, awpOper, awpDo, evP, evBin, evUn, eqInts, fillA, setCells, cutCells, okElems, AV.natOf, natO, maxA, minA, AV.isInt, evSlc, evLoad, setE, evW, AV.cells, AV.okSt, elemsOf, appBase, AV.isSl, resV, tupV, viewN, embB, embT, okR, okC, okL, okEs, ren, renC, renL, renEs, seval]
      · simp +contextual -implicitDefEqProofs (maxSteps := 1000000) only [sm, awpOper, awpDo, evP, evBin, evUn, eqInts, fillA, setCells, cutCells, okElems, AV.natOf, natO, maxA, minA, AV.isInt, evSlc, evLoad, setE, evW, AV.cells, AV.okSt, elemsOf, appBase, AV.isSl, resV, tupV, viewN, embB, embT, okR, okC, okL, okEs, ren, renC, renL, renEs, seval, hS]
    · have hkn : k = A.length := by omega
      subst hkn
      simp +contextual -implicitDefEqProofs (maxSteps := 1000000) only [sm, awpOper, awpDo, evP, evBin, evUn, eqInts, fillA, setCells, cutCells, okElems, AV.natOf, natO, maxA, minA, AV.isInt, evSlc, evLoad, setE, evW, AV.cells, AV.okSt, elemsOf, appBase, AV.isSl, resV, tupV, viewN, embB, embT, okR, okC, okL, okEs, ren, renC, renL, renEs, seval, Int.lt_irrefl]
theorem ref12_Opposite (A : List Int) (hA : A.length ≤ 1000000000000) (hb : ∀ a ∈ A, -1048576 ≤ a ∧ a ≤ 1048576) : Ctr Try.prog 60 [eIs A] [] (eIs (A.map fun a => -a)) [] := by
  obtain ⟨T, hT⟩ : ∃ T, (A.map fun a => -a) = T := ⟨_, rfl⟩
  have hTl : T.length = A.length := by rw [← hT, List.length_map]
  have hTk : ∀ k a, A[k]? = some a → T[k]? = some (-a) := fun k a h => by rw [← hT, List.getElem?_map, h]; rfl
  rw [hT]
  refine call_pure Try.func60 Try.call60 e_ref12_Opposite ?_
  simp +contextual -implicitDefEqProofs (maxSteps := 1000000) only [c_ref12_Opposite, eIs, sm, awpOper, awpDo, evP, evBin, evUn, eqInts, fillA, setCells, cutCells, okElems, AV.natOf, natO, maxA, minA, AV.isInt, evSlc, evLoad, setE, evW, AV.cells, AV.okSt, elemsOf, appBase, AV.isSl, resV, tupV, viewN, embB, embT, okR, okC, okL, okEs, ren, renC, renL, renEs, seval]
  refine loop_ruleV [(3, 1)] (fun k : Nat => k ≤ A.length) (fun k => tm 20 [(0, .list 1 (A.map eI)), (3, .sl 1 0 0 k), (4, .int .i64 k)]) (fun k => [some (1, (T.take k).map eI)]) (fun k => A.length - k) 0 (by simp +contextual -implicitDefEqProofs (maxSteps := 1000000) only [sm, awpOper, awpDo, evP, evBin, evUn, eqInts, fillA, setCells, cutCells, okElems, AV.natOf, natO, maxA, minA, AV.isInt, evSlc, evLoad, setE, evW, AV.cells, AV.okSt, elemsOf, appBase, AV.isSl, resV, tupV, viewN, embB, embT, okR, okC, okL, okEs, ren, renC, renL, renEs, seval]) (Nat.zero_le _) ⟨[0], by decide, rfl, ?_, ?_⟩ ?_
  · simp +contextual -implicitDefEqProofs (maxSteps := 1000000) only [sm, awpOper, awpDo, evP, evBin, evUn, eqInts, fillA, setCells, cutCells, okElems, AV.natOf, natO, maxA, minA, AV.isInt, evSlc, evLoad, setE, evW, AV.cells, AV.okSt, elemsOf, appBase, AV.isSl, resV, tupV, viewN, embB, embT, okR, okC, okL, okEs, ren, renC, renL, renEs, seval]
  · simp +contextual -implicitDefEqProofs (maxSteps := 1000000) only [sm, awpOper, awpDo, evP, evBin, evUn, eqInts, fillA, setCells, cutCells, okElems, AV.natOf, natO, maxA, minA, AV.isInt, evSlc, evLoad, setE, evW, AV.cells, AV.okSt, elemsOf, appBase, AV.isSl, resV, tupV, viewN, embB, embT, okR, okC, okL, okEs, ren, renC, renL, renEs, seval, Int.natCast_zero]
  · intro k hk
    have hkl : (T.take k).length = k := by rw [List.length_take]; omega
    by_cases hlt : k < A.length
    · have hlt' : (k : Int) < (A.length : Int) := by omega
      have e2 : IntKind.i64.wrap ((k : Int) + 1) = ((k + 1 : Nat) : Int) := by rw [wrap_i64] <;> omega
      obtain ⟨a, ha⟩ : ∃ r, A[k]? = some r := ⟨_, List.getElem?_eq_getElem hlt⟩
      have hab := hb a (List.mem_of_getElem? ha)
      have w1 : IntKind.i64.wrap (0 - a) = -a := by rw [wrap_i64] <;> omega
      have hs := take_snoc (hTk k a ha)
      have c1 : (k + 1) * 8 ≤ 140737488355328 := by omega
      have c2 : k + 1 ≤ maxLen := by unfold maxLen; omega
      simp +contextual -implicitDefEqProofs (maxSteps := 1000000) only [sm, awpOper, awpDo, evP, evBin, evUn, eqInts, fillA, setCells, cutCells, okElems, AV.natOf, natO, maxA, minA, AV.isInt, evSlc, evLoad, setE, evW, AV.cells, AV.okSt, elemsOf, appBase, AV.isSl, resV, tupV, viewN, embB, embT, okR, okC, okL, okEs, ren, renC, renL, renEs, seval, hlt', ha, w1, hkl, c1, c2, hs, e2]
      refine ⟨k + 1, by omega, by omega, [1], by decide, rfl, ?_, ?_⟩
      · simp +contextual -implicitDefEqProofs (maxSteps := 1000000) only [sm, awpOper, awpDo, evP, evBin, evUn, eqInts, fillA, setCells, cutCells, okElems, AV.natOf, natO, maxA, minA, AV.isInt, evSlc, evLoad, setE, evW, AV.cells, AV.okSt, elemsOf, appBase, AV.isSl, resV, tupV, viewN, embB, embT, okR, okC, okL, okEs, ren, renC, renL, renEs, seval]
      · simp +contextual -implicitDefEqProofs (maxSteps := 1000000) only [sm, awpOper, awpDo, evP, evBin, evUn, eqInts, fillA, setCells, cutCells, okElems, AV.natOf, natO, maxA, minA, AV.isInt, evSlc, evLoad, setE, evW, AV.cells, AV.okSt, elemsOf, appBase, AV.isSl, resV, tupV, viewN, embB, embT, okR, okC, okL, okEs, ren, renC, renL, renEs, seval]
    · have hkn : k = A.length := by omega
      subst hkn
      have t0 : T.take A.length = T := by rw [← hTl, List.take_length]
      rw [t0]
      have t1 : List.take A.length (T.map eI) = T.map eI := by rw [← hTl]; exact take_map _ _
      simp +contextual -implicitDefEqProofs (maxSteps := 1000000) only [sm, awpOper, awpDo, evP, evBin, evUn, eqInts, fillA, setCells, cutCells, okElems, AV.natOf, natO, maxA, minA, AV.isInt, evSlc, evLoad, setE, evW, AV.cells, AV.okSt, elemsOf, appBase, AV.isSl, resV, tupV, viewN, embB, embT, okR, okC, okL, okEs, ren, renC, renL, renEs, seval, Int.lt_irrefl, t1, hTl]
theorem zip_opp (A X : List Int) : zipT (A.map fun a => -a) X = opp (zipT A X) := by
  unfold zipT opp
  induction A generalizing X with
  | nil => rfl
  | cons a l ih => cases X with
    | nil => rfl
    | cons x m => simp only [List.map_cons, List.zip_cons_cons, ih]
theorem opp_span {D : List (List Rg)} {T : List Tm} : ∀ {k : Nat}, k ≤ T.length → (spanK D (opp T) k).1 = -(spanK D T k).2
  | 0, _ => by simp [spanK]
  | k + 1, h => by
    have ih := opp_span (D := D) (T := T) (k := k) (by omega)
    have e : tX (opp T) k = (-(tX T k).1, (tX T k).2) := by
      conv => lhs; unfold tX
      rw [opp_get (by omega)]; rfl
    unfold spanK
    simp only [ih, e]
    have ht : (termE D (-(tX T k).1, (tX T k).2)).1 = -(termE D (tX T k)).2 := by
      unfold termE
      simp only
      generalize (tX T k).1 = a
      generalize (eAt D (tX T k).2).1 = lo
      generalize (eAt D (tX T k).2).2 = hi
      by_cases h1 : a < 0
      · rw [if_neg (by omega), if_pos h1]; simp only [Int.neg_mul]
      · by_cases h2 : a = 0
        · subst h2; simp
        · rw [if_pos (by omega), if_neg h1]; simp only [Int.neg_mul]
    rw [ht]
    omega
theorem ref12_Ends (c : Con) (D : List (List Rg)) (hD : D.length ≤ 1000000000000) (hd : ∀ d ∈ D, d.length ≤ 1000000000000) (hc : conFits c) :
    Ctr Try.prog 29 [eCon c, eDoms D] [] (.tuple [.agg [.int .i64 (lendsL c D).1.1, .int .i64 (lendsL c D).1.2], .bool (lendsL c D).2]) [] := by
  obtain ⟨K, X, A, C⟩ := c
  refine call_pure Try.func29 Try.call29 e_ref12_Ends ?_
  simp +contextual -implicitDefEqProofs (maxSteps := 1000000) only [c_ref12_Ends, eCon, eIs, eDoms, sm, awpOper, awpDo, evP, evBin, evUn, eqInts, fillA, setCells, cutCells, okElems, AV.natOf, natO, maxA, minA, AV.isInt, evSlc, evLoad, setE, evW, AV.cells, AV.okSt, elemsOf, appBase, AV.isSl, resV, tupV, viewN, embB, embT, okR, okC, okL, okEs, ren, renC, renL, renEs, seval]
  refine callA_rule (ref12_Fit (K, X, A, C) D hD hd hc) (wkL_refl _) rfl ?_
  have hfit : fitB (K, X, A, C) D = modB (D, [(K, X, A, C)], 0, 0) := rfl
  rw [hfit]
  have hno : ¬ (modB (D, [(K, X, A, C)], 0, 0) = true ∧ 1 ≤ K ∧ K ≤ 6) → lendsL (K, X, A, C) D = ((0, 0), false) := fun h => by unfold lendsL; rw [if_neg h]
  cases hm : modB (D, [(K, X, A, C)], 0, 0)
  · rw [hno (by simp [hm])]
    simp +contextual -implicitDefEqProofs (maxSteps := 1000000) only [sm, awpOper, awpDo, evP, evBin, evUn, eqInts, fillA, setCells, cutCells, okElems, AV.natOf, natO, maxA, minA, AV.isInt, evSlc, evLoad, setE, evW, AV.cells, AV.okSt, elemsOf, appBase, AV.isSl, resV, tupV, viewN, embB, embT, okR, okC, okL, okEs, ren, renC, renL, renEs, seval]
  by_cases k1 : K < 1
  · rw [hno (by rintro ⟨_, h, _⟩; omega)]
    simp +contextual -implicitDefEqProofs (maxSteps := 1000000) only [sm, awpOper, awpDo, evP, evBin, evUn, eqInts, fillA, setCells, cutCells, okElems, AV.natOf, natO, maxA, minA, AV.isInt, evSlc, evLoad, setE, evW, AV.cells, AV.okSt, elemsOf, appBase, AV.isSl, resV, tupV, viewN, embB, embT, okR, okC, okL, okEs, ren, renC, renL, renEs, seval, eCon, eIs, k1]
  by_cases k2 : 6 < K
  · rw [hno (by rintro ⟨_, _, h⟩; omega)]
    simp +contextual -implicitDefEqProofs (maxSteps := 1000000) only [sm, awpOper, awpDo, evP, evBin, evUn, eqInts, fillA, setCells, cutCells, okElems, AV.natOf, natO, maxA, minA, AV.isInt, evSlc, evLoad, setE, evW, AV.cells, AV.okSt, elemsOf, appBase, AV.isSl, resV, tupV, viewN, embB, embT, okR, okC, okL, okEs, ren, renC, renL, renEs, seval, eCon, eIs, k1, k2]
  obtain ⟨f1, f2, f3, f4, f5, f6⟩ := sum_facts hm (by simp only; omega)
  simp only at f4 f5 f6
  have hzt : termsOf (K, X, A, C) = zipT A X := rfl
  have hyes : lendsL (K, X, A, C) D = (spanK D (termsOf (K, X, A, C)) (termsOf (K, X, A, C)).length, true) := by unfold lendsL; rw [if_pos ⟨hm, by simp only; omega, by simp only; omega⟩]
  rw [hyes]
  rw [hzt] at f3 ⊢
  have hzl := zip_len f5
  have hAb : ∀ a ∈ A, -1048576 ≤ a ∧ a ≤ 1048576 := fun a ha => by
    obtain ⟨k, hk, rfl⟩ := List.getElem_of_mem ha
    have h1 : A[k]? = some A[k] := List.getElem?_eq_getElem hk
    obtain ⟨x, hx⟩ : ∃ r, X[k]? = some r := ⟨_, List.getElem?_eq_getElem (by omega)⟩
    have := (f3.2 k (by omega)).1
    rw [zip_tX h1 hx] at this
    exact this
  have hop := opp_ok (E := D) f3 rfl
  have hsb := span_bound f2 f3 (Nat.le_refl _)
  have hT32 := f3.1
  have hos := opp_span (D := D) (T := zipT A X) (Nat.le_refl _)
  have w1 : IntKind.i64.wrap (0 - -(spanK D (zipT A X) (zipT A X).length).2) = (spanK D (zipT A X) (zipT A X).length).2 := by rw [wrap_i64] <;> omega
  simp +contextual -implicitDefEqProofs (maxSteps := 1000000) only [sm, awpOper, awpDo, evP, evBin, evUn, eqInts, fillA, setCells, cutCells, okElems, AV.natOf, natO, maxA, minA, AV.isInt, evSlc, evLoad, setE, evW, AV.cells, AV.okSt, elemsOf, appBase, AV.isSl, resV, tupV, viewN, embB, embT, okR, okC, okL, okEs, ren, renC, renL, renEs, seval, eCon, eIs, k1, k2]
  refine callA_rule (ref12_Least A X D f2 f1 f5 f3) (wkL_refl _) rfl ?_
  simp +contextual -implicitDefEqProofs (maxSteps := 1000000) only [sm, awpOper, awpDo, evP, evBin, evUn, eqInts, fillA, setCells, cutCells, okElems, AV.natOf, natO, maxA, minA, AV.isInt, evSlc, evLoad, setE, evW, AV.cells, AV.okSt, elemsOf, appBase, AV.isSl, resV, tupV, viewN, embB, embT, okR, okC, okL, okEs, ren, renC, renL, renEs, seval, eCon, eIs]
  refine callA_rule (ref12_Opposite A (by omega) hAb) (wkL_refl _) rfl ?_
  simp +contextual -implicitDefEqProofs (maxSteps := 1000000) only [sm, awpOper, awpDo, evP, evBin, evUn, eqInts, fillA, setCells, cutCells, okElems, AV.natOf, natO, maxA, minA, AV.isInt, evSlc, evLoad, setE, evW, AV.cells, AV.okSt, elemsOf, appBase, AV.isSl, resV, tupV, viewN, embB, embT, okR, okC, okL, okEs, ren, renC, renL, renEs, seval, eCon, eIs]
  refine callA_rule (ref12_Least (A.map fun a => -a) X D f2 f1 (by rw [List.length_map]; exact f5) (by rw [zip_opp]; exact hop)) (wkL_refl _) rfl ?_
  rw [zip_opp, List.length_map, ← hzl, hos]
  simp +contextual -implicitDefEqProofs (maxSteps := 1000000) only [sm, awpOper, awpDo, evP, evBin, evUn, eqInts, fillA, setCells, cutCells, okElems, AV.natOf, natO, maxA, minA, AV.isInt, evSlc, evLoad, setE, evW, AV.cells, AV.okSt, elemsOf, appBase, AV.isSl, resV, tupV, viewN, embB, embT, okR, okC, okL, okEs, ren, renC, renL, renEs, seval, w1]
set_option maxRecDepth 100000 in
theorem lalive_1 : linearL (1, [0, 1], [1, 1], 9) [[(0, 5)], [(0, 5)]] = ([[(4, 5)], [(4, 5)]], 0) := by decide +kernel
theorem lalive_2 : linearL (2, [0], [1], -1) [[(0, 5)], [(0, 5)]] = ([], 12) := by decide +kernel
theorem lalive_3 : lendsL (1, [0, 1], [1, 1], 9) [[(0, 5)], [(0, 5)]] = ((0, 10), true) := by decide +kernel
theorem law12_alive : Ctr Try.prog 25 [] [] (.bool true) [] := by
  refine call_pure Try.func25 Try.call25 e_law12_alive ?_
  simp +contextual -implicitDefEqProofs (maxSteps := 1000000) only [c_law12_alive, sm, awpOper, awpDo, evP, evBin, evUn, eqInts, fillA, setCells, cutCells, okElems, AV.natOf, natO, maxA, minA, AV.isInt, evSlc, evLoad, setE, evW, AV.cells, AV.okSt, elemsOf, appBase, AV.isSl, resV, tupV, viewN, embB, embT, okR, okC, okL, okEs, ren, renC, renL, renEs, seval]
  refine callA_rule (linear_Narrow (1, [0, 1], [1, 1], 9) [[(0, 5)], [(0, 5)]] (by decide) (by decide) ⟨by decide, by decide⟩ (by decide)) (wkL_refl _) rfl ?_
  rw [lalive_1]
  simp +contextual -implicitDefEqProofs (maxSteps := 1000000) only [sm, awpOper, awpDo, evP, evBin, evUn, eqInts, fillA, setCells, cutCells, okElems, AV.natOf, natO, maxA, minA, AV.isInt, evSlc, evLoad, setE, evW, AV.cells, AV.okSt, elemsOf, appBase, AV.isSl, resV, tupV, viewN, embB, embT, okR, okC, okL, okEs, ren, renC, renL, renEs, seval, eDoms]
  refine callA_rule (linear_Ends (1, [0, 1], [1, 1], 9) [[(0, 5)], [(0, 5)]] (by decide) (by decide) ⟨by decide, by decide⟩) (wkL_refl _) rfl ?_
  rw [lalive_3]
  simp +contextual -implicitDefEqProofs (maxSteps := 1000000) only [sm, awpOper, awpDo, evP, evBin, evUn, eqInts, fillA, setCells, cutCells, okElems, AV.natOf, natO, maxA, minA, AV.isInt, evSlc, evLoad, setE, evW, AV.cells, AV.okSt, elemsOf, appBase, AV.isSl, resV, tupV, viewN, embB, embT, okR, okC, okL, okEs, ren, renC, renL, renEs, seval]
  refine callA_rule (linear_Narrow (2, [0], [1], -1) [[(0, 5)], [(0, 5)]] (by decide) (by decide) ⟨by decide, by decide⟩ (by decide)) (wkL_refl _) rfl ?_
  rw [lalive_2]
  simp +contextual -implicitDefEqProofs (maxSteps := 1000000) only [sm, awpOper, awpDo, evP, evBin, evUn, eqInts, fillA, setCells, cutCells, okElems, AV.natOf, natO, maxA, minA, AV.isInt, evSlc, evLoad, setE, evW, AV.cells, AV.okSt, elemsOf, appBase, AV.isSl, resV, tupV, viewN, embB, embT, okR, okC, okL, okEs, ren, renC, renL, renEs, seval, eDoms, eRgs, eRg]
  refine callA_rule (law08_Ranges [(4, 5)] [(4, 5)] (by decide)) (wkL_refl _) rfl ?_
  simp +contextual -implicitDefEqProofs (maxSteps := 1000000) only [sm, awpOper, awpDo, evP, evBin, evUn, eqInts, fillA, setCells, cutCells, okElems, AV.natOf, natO, maxA, minA, AV.isInt, evSlc, evLoad, setE, evW, AV.cells, AV.okSt, elemsOf, appBase, AV.isSl, resV, tupV, viewN, embB, embT, okR, okC, okL, okEs, ren, renC, renL, renEs, seval]
theorem fits_facts {c : Con} {D : List (List Rg)} (h : fitsB c D = true) : D.length ≤ 100 ∧ (∀ d ∈ D, d.length ≤ 400) ∧ c.2.1.length ≤ 200 ∧ c.2.2.1.length ≤ 200 := by
  simp only [fitsB, smallB, con200, len400, Bool.and_eq_true, decide_eq_true_eq, List.all_eq_true] at h
  obtain ⟨⟨⟨⟨_, _⟩, h1⟩, h2⟩, h3⟩ := h
  exact ⟨h3, h1, (h2 c (by simp)).1, (h2 c (by simp)).2⟩
theorem law_LinearEnds (c : Con) (D : List (List Rg)) : Ctr Try.prog 8 [eCon c, eDoms D] [] (.bool true) [] := by
  obtain ⟨K, X, A, C⟩ := c
  refine call_pure Try.func8 Try.call8 e_law12_LinearEnds ?_
  simp +contextual -implicitDefEqProofs (maxSteps := 1000000) only [c_law12_LinearEnds, eCon, eIs, eDoms, sm, awpOper, awpDo, evP, evBin, evUn, eqInts, fillA, setCells, cutCells, okElems, AV.natOf, natO, maxA, minA, AV.isInt, evSlc, evLoad, setE, evW, AV.cells, AV.okSt, elemsOf, appBase, AV.isSl, resV, tupV, viewN, embB, embT, okR, okC, okL, okEs, ren, renC, renL, renEs, seval]
  refine callA_rule law12_alive (wkL_refl _) rfl ?_
  simp +contextual -implicitDefEqProofs (maxSteps := 1000000) only [sm, awpOper, awpDo, evP, evBin, evUn, eqInts, fillA, setCells, cutCells, okElems, AV.natOf, natO, maxA, minA, AV.isInt, evSlc, evLoad, setE, evW, AV.cells, AV.okSt, elemsOf, appBase, AV.isSl, resV, tupV, viewN, embB, embT, okR, okC, okL, okEs, ren, renC, renL, renEs, seval, eCon, eIs]
  refine callA_rule (law12_Fits (K, X, A, C) D) (wkL_refl _) rfl ?_
  cases hF : fitsB (K, X, A, C) D
  · simp +contextual -implicitDefEqProofs (maxSteps := 1000000) only [sm, awpOper, awpDo, evP, evBin, evUn, eqInts, fillA, setCells, cutCells, okElems, AV.natOf, natO, maxA, minA, AV.isInt, evSlc, evLoad, setE, evW, AV.cells, AV.okSt, elemsOf, appBase, AV.isSl, resV, tupV, viewN, embB, embT, okR, okC, okL, okEs, ren, renC, renL, renEs, seval]
  obtain ⟨s1, s2, s3, s4⟩ := fits_facts hF
  simp only at s3 s4
  have hd : ∀ d ∈ D, d.length ≤ 1000000000000 := fun d h => by have := s2 d h; omega
  simp +contextual -implicitDefEqProofs (maxSteps := 1000000) only [sm, awpOper, awpDo, evP, evBin, evUn, eqInts, fillA, setCells, cutCells, okElems, AV.natOf, natO, maxA, minA, AV.isInt, evSlc, evLoad, setE, evW, AV.cells, AV.okSt, elemsOf, appBase, AV.isSl, resV, tupV, viewN, embB, embT, okR, okC, okL, okEs, ren, renC, renL, renEs, seval, eCon, eIs]
  refine callA_rule (linear_Ends (K, X, A, C) D (by omega) hd ⟨by simp only; omega, by simp only; omega⟩) (wkL_refl _) rfl ?_
  simp +contextual -implicitDefEqProofs (maxSteps := 1000000) only [sm, awpOper, awpDo, evP, evBin, evUn, eqInts, fillA, setCells, cutCells, okElems, AV.natOf, natO, maxA, minA, AV.isInt, evSlc, evLoad, setE, evW, AV.cells, AV.okSt, elemsOf, appBase, AV.isSl, resV, tupV, viewN, embB, embT, okR, okC, okL, okEs, ren, renC, renL, renEs, seval, eCon, eIs]
  refine callA_rule (ref12_Ends (K, X, A, C) D (by omega) hd ⟨by simp only; omega, by simp only; omega⟩) (wkL_refl _) rfl ?_
  generalize (lendsL (K, X, A, C) D).1.1 = p
  generalize (lendsL (K, X, A, C) D).1.2 = q
  cases (lendsL (K, X, A, C) D).2 <;> simp +contextual -implicitDefEqProofs (maxSteps := 1000000) only [sm, awpOper, awpDo, evP, evBin, evUn, eqInts, fillA, setCells, cutCells, okElems, AV.natOf, natO, maxA, minA, AV.isInt, evSlc, evLoad, setE, evW, AV.cells, AV.okSt, elemsOf, appBase, AV.isSl, resV, tupV, viewN, embB, embT, okR, okC, okL, okEs, ren, renC, renL, renEs, seval] <;> try rfl
end Go.Proofs.Ytclpkkbamgmooaa
