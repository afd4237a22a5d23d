/- WholeClause. -/
import Derived.Test.YtbhigfllanblpaaWLogic4
import Derived.Test.YtbhigfllanblpaaGRef08
import Derived.Test.YtbhigfllanblpaaGRef12
import Derived.Test.YtbhigfllanblpaaWFrz
import Derived.Test.YtbhigfllanblpaaPlWClause
import Derived.Test.YtbhigfllanblpaaCWClause
namespace Go.Proofs.Ytbhigfllanblpaa
open Av
attribute [local irreducible] awp awpOpers
set_option linter.unusedSimpArgs false
set_option linter.unusedVariables false
set_option maxRecDepth 100000
set_option maxHeartbeats 4000000
theorem narrow_own1 (X : List Int) (D : List (List Rg)) (hX : X.length ≤ 1000) (hD : D.length ≤ 1000000000000) (hd : ∀ d ∈ D, d.length ≤ 1000000000000) (t1 : List.take X.length (X.map eI) = X.map eI) (t2 : List.take X.length (List.drop 0 (X.map eI)) = X.map eI) : Ctr Try.prog 17 [.agg [.int .i64 13, .sl 1 0 0 X.length, .nils, .int .i64 0], eDoms D] [some (1, X.map eI)] (.tuple [eDoms (logicL (13, X, [], 0) D).1, .int .i64 (logicL (13, X, [], 0) D).2]) [none] := by
  refine ctr_frz [] [0] (ctr_more (bs := [none]) (logic_Narrow (13, X, [], 0) D hD hd ⟨by simp only; omega, by simp⟩) rfl rfl) rfl ?_ ?_
  · intro k hk
    have : k = 0 := by simp at hk; omega
    subst this; simp
  · intro j v v' hv hv'
    have hj : j < 2 := by
      rcases Nat.lt_or_ge j 2 with h | h
      · exact h
      · rw [List.getElem?_eq_none (by simpa using h)] at hv; cases hv
    have hcs : j = 0 ∨ j = 1 := by omega
    rcases hcs with rfl | rfl
    · injection hv with hv; injection hv' with hv'; subst hv; subst hv'
      right
      simp +contextual -implicitDefEqProofs (maxSteps := 1000000) only [sm, sn, seval, eCon, eIs, killL, t1, t2]
    · injection hv with hv; injection hv' with hv'; subst hv; subst hv'
      left; exact wk_refl _
theorem narrow_own2 (X A : List Int) (D : List (List Rg)) (hX : X.length ≤ 1000) (hA : A.length ≤ 1000) (hD : D.length ≤ 1000000000000) (hd : ∀ d ∈ D, d.length ≤ 1000000000000) (t1 : List.take A.length (A.map eI) = A.map eI) (t2 : List.take A.length (List.drop 0 (A.map eI)) = A.map eI) : Ctr Try.prog 17 [.agg [.int .i64 11, .list 1 (X.map eI), .sl 1 0 0 A.length, .int .i64 0], eDoms D] [some (1, A.map eI)] (.tuple [eDoms (logicL (11, X, A, 0) D).1, .int .i64 (logicL (11, X, A, 0) D).2]) [none] := by
  refine ctr_frz [] [0] (ctr_more (bs := [none]) (logic_Narrow (11, X, A, 0) D hD hd ⟨by simp only; omega, by simp only; omega⟩) rfl rfl) rfl ?_ ?_
  · intro k hk
    have : k = 0 := by simp at hk; omega
    subst this; simp
  · intro j v v' hv hv'
    have hj : j < 2 := by
      rcases Nat.lt_or_ge j 2 with h | h
      · exact h
      · rw [List.getElem?_eq_none (by simpa using h)] at hv; cases hv
    have hcs : j = 0 ∨ j = 1 := by omega
    rcases hcs with rfl | rfl
    · injection hv with hv; injection hv' with hv'; subst hv; subst hv'
      right
      simp +contextual -implicitDefEqProofs (maxSteps := 1000000) only [sm, sn, seval, eCon, eIs, killL, t1, t2]
    · injection hv with hv; injection hv' with hv'; subst hv; subst hv'
      left; exact wk_refl _
theorem wclause_1 : logicL (13, [0, 1], [], 0) [[(0, 1)], [(1, 1)]] = ([[(1, 1)], [(1, 1)]], 0) := by decide +kernel
def ones (k : Nat) : List Int := List.replicate k 1
theorem ones_len (k : Nat) : (ones k).length = k := List.length_replicate
theorem wclause_mod {X : List Int} {f : Int} {D : List (List Rg)} (hm : modB (D, [(13, X ++ [f], [], 0)], 0, 0) = true) : modB (D, [(11, X, ones X.length, 0)], 0, 0) = true := by
  unfold ones
  simp only [modB, mayB, Bool.and_eq_true, decide_eq_true_eq, List.all_eq_true, List.mem_singleton, forall_eq] at hm ⊢
  obtain ⟨⟨⟨⟨m1, m2⟩, m3⟩, m4⟩, m5⟩ := hm
  obtain ⟨⟨⟨⟨⟨h1, h2⟩, h3⟩, h4⟩, h5⟩, h6⟩ := m4
  refine ⟨⟨⟨⟨m1, by simp⟩, m3⟩, ⟨⟨⟨⟨⟨?_, ?_⟩, h3⟩, ?_⟩, ?_⟩, ?_⟩⟩, m5⟩
  · simp [formedB, kindB, shp, countsB]
  · simp at h2; omega
  · simp
  · have e1 : (shp 11).2.2.2.2 = 2 := by decide
    have e2 : (shp 13).2.2.2.2 = 2 := by decide
    rw [e1]
    rw [e2] at h5
    unfold xsOk at h5 ⊢
    rw [List.all_eq_true] at h5 ⊢
    intro i hi
    simp only [List.mem_range] at hi
    have h := h5 i (by simp; omega)
    unfold xOk at h ⊢
    rw [List.getElem?_append_left hi] at h
    simpa using h
  · intro a ha
    have := List.eq_of_mem_replicate ha
    subst this
    decide
theorem wclause_same {X : List Int} {f : Int} {D : List (List Rg)} (hm : modB (D, [(13, X ++ [f], [], 0)], 0, 0) = true) (hf : (endsV (rowOf D f)).1 = 1) :
    logicL (11, X, ones X.length, 0) D = logicL (13, X ++ [f], [], 0) D ∧ (logicL (13, X ++ [f], [], 0) D).1.length ≤ 1000000000000 ∧ ∀ d ∈ (logicL (13, X ++ [f], [], 0) D).1, d.length ≤ 1000000000000 := by
  have hm2 := wclause_mod hm
  unfold ones at hm2 ⊢
  obtain ⟨f1, f2, f3⟩ := one_facts hm
  obtain ⟨g1, g2, hI, g4, g5⟩ := may_facts f3
  obtain ⟨-, -, hI2, -, -⟩ := may_facts (one_facts hm2).2.2
  have hT := may_tri (one_facts hm2).2.2 f2 (show (shp 11).2.2.2.2 = 2 by decide)
  have hT' := may_tri f3 f2 (show (shp 13).2.2.2.2 = 2 by decide)
  simp only at hI hT hT' hI2
  have hfr : tri (rowOf D f) := by
    have := hT' X.length (by simp)
    rwa [xat_end] at this
  have hlv : lv (rowOf D f) = 1 := by
    rcases hfr with h | h | h <;> rw [h] at hf ⊢ <;> revert hf <;> decide
  have key := or_clause (D := D) (X := X) (f := f) (A := List.replicate X.length 1) (by simp) (fun i hi => by unfold xat; simp [hi]) hT hlv
  have e13 : logicL (13, X ++ [f], [], 0) D = finO (bothO D (X ++ [f]) 0) := by
    rw [logic_same]; unfold logicR; rw [if_pos hm]; simp
  have e11 : logicL (11, X, List.replicate X.length 1, 0) D = finO (clauseO D X (List.replicate X.length 1)) := by
    rw [logic_same]; unfold logicR; rw [if_pos hm2]; simp
  rw [e13, e11, key]
  refine ⟨rfl, ?_⟩
  cases hc : clauseO D X (List.replicate X.length 1) with
  | none => simp [finO]
  | some E =>
    have hDk : DOk D := fun x h0 h1 => f2 _ (row_mem ⟨h0, h1⟩)
    have hle := shrink_clause (le_refl_of hDk) hI2 hT (fun i hi => .inl (by unfold xat; simp at hi; simp [hi])) (by simp) hc
    refine ⟨by have := hle.1; simp only [finO]; omega, fun d hd => ?_⟩
    simp only [finO] at hd
    obtain ⟨i, hi, rfl⟩ := List.getElem_of_mem hd
    have hx : 0 ≤ (i : Int) ∧ (i : Int) < E.length := by omega
    have h3 := (hle.2 i hx.1 (by have := hle.1; omega)).1
    have e : rowOf E (i : Int) = E[i] := by
      have := row_get hx
      rw [Int.toNat_natCast, List.getElem?_eq_getElem hi] at this
      injection this with this
      exact this.symm
    rw [e] at h3
    have := right_length h3
    show (E[i]).length ≤ _
    omega
theorem law_WholeClause (X : List Int) (f : Int) (D : List (List Rg)) : Ctr Try.prog 5 [eIs X, .int .i64 f, eDoms D] [] (.bool true) [] := by
  refine call_pure Try.func5 Try.call5 e_top_WholeClause ?_
  have hN := logic_Narrow (13, [0, 1], [], 0) [[(0, 1)], [(1, 1)]] (by decide) (by decide) ⟨by decide, by decide⟩
  rw [wclause_1] at hN
  simp +contextual -implicitDefEqProofs (maxSteps := 1000000) only [c_top_WholeClause, eIs, eDoms, sm, sn, seval]
  refine callM_rule [] hN (by decide) ?_ ?_ ?_ ?_ ?_ ?_
  · simp +contextual -implicitDefEqProofs (maxSteps := 1000000) only [sm, sn, seval]
  · simp +contextual -implicitDefEqProofs (maxSteps := 1000000) only [sm, sn, seval, eCon, eIs, eI, eDoms, eRgs, eRg]
  · simp +contextual -implicitDefEqProofs (maxSteps := 1000000) only [sm, sn, seval, eCon, eIs, eI, eDoms, eRgs, eRg]
    try rfl
  · simp +contextual -implicitDefEqProofs (maxSteps := 1000000) only [sm, sn, seval, eDoms]
  · simp +contextual -implicitDefEqProofs (maxSteps := 1000000) only [sm, sn, seval, eDoms]
  simp +contextual -implicitDefEqProofs (maxSteps := 1000000) only [sm, sn, seval, eDoms, eRgs, eRg]
  refine callA_rule (law08_Ranges [(1, 1)] [(1, 1)] (by decide)) (wkL_refl _) rfl ?_
  by_cases h31 : 31 < (X.length : Int)
  · simp +contextual -implicitDefEqProofs (maxSteps := 1000000) only [sm, sn, seval, h31]
  have hX : X.length ≤ 31 := by omega
  have c1 : X.length * 8 ≤ 140737488355328 := by omega
  have c2 : X.length ≤ maxLen := by unfold maxLen; omega
  have c3 : (X.length + 1) * 8 ≤ 140737488355328 := by omega
  have c4 : X.length + 1 ≤ maxLen := by unfold maxLen; omega
  have hap : X.map eI ++ [AV.int .i64 f] = (X ++ [f]).map eI := by simp [eI]
  have hl1 : (X ++ [f]).length = X.length + 1 := by simp
  simp +contextual -implicitDefEqProofs (maxSteps := 1000000) only [sm, sn, seval, h31, c1, c2, c3, c4, Nat.le_refl, Nat.zero_add, hap]
  refine loop_ruleF [(3, 2, 1)] [] (fun k : Nat => k ≤ X.length) (fun k => tm 102 [(1, .int .i64 f), (2, .list 1 (D.map eRgs)), (10, .ptr 4 1 0 0), (11, .ptr 4 2 0 0), (55, .int .i64 X.length), (56, .int .i64 k)])
    (fun k => [some (1, (X ++ [f]).map eI), some (4, [.agg [.int .i64 13, .sl 1 0 0 (X.length + 1), .nils, .int .i64 0]]), some (4, [.agg [.int .i64 11, .list 1 (X.map eI), .sl 1 3 0 k, .int .i64 0]]), some (1, (ones k).map eI)]) (fun k => X.length - k) 0 (by simp +contextual -implicitDefEqProofs (maxSteps := 1000000) only [sm, sn, seval]) rfl (Nat.zero_le _) ⟨[1, 2, 3, 4], by decide, rfl, ?_, ?_⟩ ?_
  · simp +contextual -implicitDefEqProofs (maxSteps := 1000000) only [sm, sn, seval]
    try rfl
  · simp +contextual -implicitDefEqProofs (maxSteps := 1000000) only [sm, sn, seval, Int.natCast_zero]
    try rfl
  · intro k hk
    by_cases hlt : k < X.length
    · have hlt' : (k : Int) < (X.length : Int) := by omega
      have e2 : IntKind.i64.wrap ((k : Int) + 1) = ((k + 1 : Nat) : Int) := by rw [wrap_i64] <;> omega
      have d1 : (k + 1) * 8 ≤ 140737488355328 := by omega
      have d2 : k + 1 ≤ maxLen := by unfold maxLen; omega
      have hrep : (ones k).map eI ++ [AV.int .i64 1] = (ones (k + 1)).map eI := by unfold ones; rw [List.replicate_succ', List.map_append]; rfl
      have hrl : (ones k).length = k := ones_len k
      simp +contextual -implicitDefEqProofs (maxSteps := 1000000) only [sm, sn, seval, hlt', e2, d1, d2, hrep, hrl]
      refine ⟨k + 1, by omega, by omega, [0, 1, 2, 4], by decide, rfl, ?_, ?_⟩
      · simp +contextual -implicitDefEqProofs (maxSteps := 1000000) only [sm, sn, seval]
        try rfl
      · simp +contextual -implicitDefEqProofs (maxSteps := 1000000) only [sm, sn, seval]
        try rfl
    · have hkn : k = X.length := by omega
      subst hkn
      have t1 : List.take (X ++ [f]).length ((X ++ [f]).map eI) = (X ++ [f]).map eI := take_map _ _
      have t1' : List.take (X.length + 1) ((X ++ [f]).map eI) = (X ++ [f]).map eI := by rw [← hl1]; exact t1
      have t2 : List.take (X ++ [f]).length (List.drop 0 ((X ++ [f]).map eI)) = (X ++ [f]).map eI := take_map _ _
      have hR : (ones X.length).length = X.length := ones_len _
      have u1 : List.take (ones X.length).length ((ones X.length).map eI) = (ones X.length).map eI := take_map _ _
      have u2 : List.take (ones X.length).length (List.drop 0 ((ones X.length).map eI)) = (ones X.length).map eI := take_map _ _
      simp +contextual -implicitDefEqProofs (maxSteps := 1000000) only [sm, sn, seval, Int.lt_irrefl]
      refine callV_rule (law12_Fits (13, X ++ [f], [], 0) D) ?_ rfl ?_
      · simp +contextual -implicitDefEqProofs (maxSteps := 1000000) only [sm, sn, seval, eCon, eIs, eDoms, t1']
      cases hFt : fitsB (13, X ++ [f], [], 0) D
      · simp +contextual -implicitDefEqProofs (maxSteps := 1000000) only [sm, sn, seval]
      obtain ⟨s1, s2, s3, s4⟩ := fits_facts hFt
      have hd : ∀ d ∈ D, d.length ≤ 1000000000000 := fun d h => by have := s2 d h; omega
      simp +contextual -implicitDefEqProofs (maxSteps := 1000000) only [sm, sn, seval]
      refine callV_rule (ref12_Fit (13, X ++ [f], [], 0) D (by omega) hd ⟨by simp only; omega, by simp⟩) ?_ rfl ?_
      · simp +contextual -implicitDefEqProofs (maxSteps := 1000000) only [sm, sn, seval, eCon, eIs, eDoms, t1']
      cases hm : fitB (13, X ++ [f], [], 0) D
      · simp +contextual -implicitDefEqProofs (maxSteps := 1000000) only [sm, sn, seval]
      have hm : modB (D, [(13, X ++ [f], [], 0)], 0, 0) = true := hm
      obtain ⟨f1, f2, f3⟩ := one_facts hm
      have hI := (may_facts f3).2.2.1
      simp only at hI
      have hin := hI X.length (by simp)
      rw [xat_end] at hin
      have hr := row_get hin
      have h0 := hin.1
      have hfn : f.toNat < D.length := by omega
      have hrow := dom_right (f2 _ (row_mem hin))
      simp +contextual -implicitDefEqProofs (maxSteps := 1000000) only [sm, sn, seval, hr, h0, hfn]
      refine callA_rule (ref12_Lo (rowOf D f) hrow.1 hrow.2) (by simp +contextual -implicitDefEqProofs (maxSteps := 1000000) only [sm, sn, seval, eRgs]) rfl ?_
      by_cases hf1 : (endsV (rowOf D f)).1 = 1
      · obtain ⟨w1, w2, w3⟩ := wclause_same hm hf1
        have n1 := narrow_own1 (X ++ [f]) D (by omega) (by omega) hd t1 t2
        have n2 := narrow_own2 X (ones X.length) D (by omega) (by omega) (by omega) hd u1 u2
        rw [w1] at n2
        rw [hl1] at n1
        rw [hR] at n2
        generalize logicL (13, X ++ [f], [], 0) D = r at n1 n2 w2 w3
        obtain ⟨x1, e1⟩ := r
        simp only at w2 w3 n1 n2
        simp +contextual -implicitDefEqProofs (maxSteps := 1000000) only [sm, sn, seval, hf1]
        refine callM_rule [0] n1 (by decide) ?_ ?_ ?_ ?_ ?_ ?_
        · simp +contextual -implicitDefEqProofs (maxSteps := 1000000) only [sm, sn, seval]
          try rfl
        · simp +contextual -implicitDefEqProofs (maxSteps := 1000000) only [sm, sn, seval, eDoms]
        · simp +contextual -implicitDefEqProofs (maxSteps := 1000000) only [sm, sn, seval, eDoms]
          try rfl
        · simp +contextual -implicitDefEqProofs (maxSteps := 1000000) only [sm, sn, seval, eDoms]
        · simp +contextual -implicitDefEqProofs (maxSteps := 1000000) only [sm, sn, seval, eDoms]
        simp +contextual -implicitDefEqProofs (maxSteps := 1000000) only [sm, sn, seval, eDoms]
        refine callM_rule [3] n2 (by decide) ?_ ?_ ?_ ?_ ?_ ?_
        · simp +contextual -implicitDefEqProofs (maxSteps := 1000000) only [sm, sn, seval]
          try rfl
        · simp +contextual -implicitDefEqProofs (maxSteps := 1000000) only [sm, sn, seval, eDoms]
        · simp +contextual -implicitDefEqProofs (maxSteps := 1000000) only [sm, sn, seval, eDoms]
          try rfl
        · simp +contextual -implicitDefEqProofs (maxSteps := 1000000) only [sm, sn, seval, eDoms]
        · simp +contextual -implicitDefEqProofs (maxSteps := 1000000) only [sm, sn, seval, eDoms]
        simp +contextual -implicitDefEqProofs (maxSteps := 1000000) only [sm, sn, seval, eDoms]
        refine callA_rule (law08_Doms x1 x1 (by omega) (fun d h => by have := w3 d h; omega)) (by simp +contextual -implicitDefEqProofs (maxSteps := 1000000) only [sm, sn, seval, eDoms]) rfl ?_
        simp +contextual -implicitDefEqProofs (maxSteps := 1000000) only [sm, sn, seval]
      · simp +contextual -implicitDefEqProofs (maxSteps := 1000000) only [sm, sn, seval, hf1]
end Go.Proofs.Ytbhigfllanblpaa
