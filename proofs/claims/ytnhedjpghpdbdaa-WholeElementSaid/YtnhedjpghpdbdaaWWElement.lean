/- WholeElement. -/
import Derived.Test.YtnhedjpghpdbdaaGSet
import Derived.Test.YtnhedjpghpdbdaaWElem5
import Derived.Test.YtnhedjpghpdbdaaWElem3
import Derived.Test.YtnhedjpghpdbdaaGRef08
import Derived.Test.YtnhedjpghpdbdaaGRef12
import Derived.Test.YtnhedjpghpdbdaaWFrz
import Derived.Test.YtnhedjpghpdbdaaPlWElem
import Derived.Test.YtnhedjpghpdbdaaCWElement
namespace Go.Proofs.Ytnhedjpghpdbdaa
open Av
attribute [local irreducible] awp awpOpers
set_option linter.unusedSimpArgs false
set_option linter.unusedVariables false
set_option maxRecDepth 100000
set_option maxHeartbeats 4000000
theorem ewide_own1 (K : Int) (X A : List Int) (C : Int) (a : AV) (D : List (List Rg)) (ha : wk (eIs A) a) (hX : X.length ≤ 1000) (hA : A.length ≤ 1000) (hD : D.length ≤ 1000000000000) (hd : ∀ d ∈ D, d.length ≤ 1000000000000) :
    Ctr Try.prog 13 [.agg [.int .i64 K, .sl 1 0 0 X.length, a, .int .i64 C], eDoms D] [some (1, X.map eI)] (.tuple [eDoms (elemL (K, X, A, C) D).1, .int .i64 (elemL (K, X, A, C) D).2]) [none] := by
  have t1 : List.take X.length (X.map eI) = X.map eI := take_map _ _
  refine ctr_frz [] [0] (ctr_more (bs := [none]) (elem_Narrow (K, X, A, C) D hD hd ⟨by simp only; omega, by simp only; omega⟩) rfl rfl) rfl ?_ ?_
  · intro k hk
    have : k = 0 := by simp at hk; omega
    subst this; simp
  · intro j v v' hv hv'
    have hj : j < 2 := by
      rcases Nat.lt_or_ge j 2 with h | h
      · exact h
      · rw [List.getElem?_eq_none (by simpa using h)] at hv; cases hv
    have hcs : j = 0 ∨ j = 1 := by omega
    rcases hcs with rfl | rfl
    · injection hv with hv; injection hv' with hv'; subst hv; subst hv'
      right
      unfold eIs at ha
      have hf : a.flat = true := by
        cases A <;> cases a <;> first | rfl | (simp [wk] at ha)
      simp +contextual -implicitDefEqProofs (maxSteps := 1000000) only [sm, sn, sxx, seval, eCon, eIs, killL, t1, hf]
      exact ha
    · injection hv with hv; injection hv' with hv'; subst hv; subst hv'
      left; exact wk_refl _
theorem ewide_own2 (X : List Int) (D : List (List Rg)) (hX : X.length ≤ 1000) (hD : D.length ≤ 1000000000000) (hd : ∀ d ∈ D, d.length ≤ 1000000000000) :
    Ctr Try.prog 13 [.agg [.int .i64 17, .sl 1 0 0 X.length, .nils, .int .i64 0], .sl 1 1 0 D.length] [some (1, X.map eI), some (1, D.map eRgs)] (.tuple [eDoms (elemL (17, X, [], 0) D).1, .int .i64 (elemL (17, X, [], 0) D).2]) [none, none] := by
  have t1 : List.take X.length (X.map eI) = X.map eI := take_map _ _
  have t2 : List.take D.length (D.map eRgs) = D.map eRgs := take_map _ _
  refine ctr_frz [] [0, 1] (ctr_more (bs := [none, none]) (elem_Narrow (17, X, [], 0) D hD hd ⟨by simp only; omega, by simp⟩) rfl rfl) rfl ?_ ?_
  · intro k hk
    have : k = 0 ∨ k = 1 := by simp at hk; omega
    rcases this with rfl | rfl <;> simp
  · intro j v v' hv hv'
    have hj : j < 2 := by
      rcases Nat.lt_or_ge j 2 with h | h
      · exact h
      · rw [List.getElem?_eq_none (by simpa using h)] at hv; cases hv
    have hcs : j = 0 ∨ j = 1 := by omega
    rcases hcs with rfl | rfl
    · injection hv with hv; injection hv' with hv'; subst hv; subst hv'
      right
      simp +contextual -implicitDefEqProofs (maxSteps := 1000000) only [sm, sn, sxx, seval, eCon, eIs, killL, t1, t2]
    · injection hv with hv; injection hv' with hv'; subst hv; subst hv'
      right
      simp +contextual -implicitDefEqProofs (maxSteps := 1000000) only [sm, sn, sxx, seval, eDoms, killL, t1, t2]
theorem welem_1 : elemL (16, [0, 1], [5, 7], 0) [[(1, 2)], [(7, 7)]] = ([[(2, 2)], [(7, 7)]], 0) := by decide +kernel
theorem oneRow_snoc {A : List Int} {k : Nat} {a : Int} (D : List (List Rg)) (h : A[k]? = some a) : (D ++ (A.take k).map oneRow).map eRgs ++ [AV.list 2 [.agg [.int .i64 a, .int .i64 a]]] = (D ++ (A.take (k + 1)).map oneRow).map eRgs := by
  rw [← take_snoc h]
  simp [eRgs, eRg, oneRow]
theorem law_WholeElement (c : Con) (D : List (List Rg)) : Ctr Try.prog 4 [eCon c, eDoms D] [] (.bool true) [] := by
  refine call_pure Try.func4 Try.call4 e_top_WholeElement ?_
  obtain ⟨K, Xs, A, C⟩ := c
  have hN := ewide_own1 16 [0, 1] [5, 7] 0 (eIs [5, 7]) [[(1, 2)], [(7, 7)]] (wk_refl _) (by decide) (by decide) (by decide) (by decide)
  rw [welem_1] at hN
  simp +contextual -implicitDefEqProofs (maxSteps := 1000000) only [c_top_WholeElement, eCon, eIs, eDoms, sm, sn, sxx, seval]
  refine callM_rule [1] hN (by decide) ?_ ?_ ?_ ?_ ?_ ?_
  · simp +contextual -implicitDefEqProofs (maxSteps := 1000000) only [sm, sn, sxx, seval, eI]
  · simp +contextual -implicitDefEqProofs (maxSteps := 1000000) only [sm, sn, sxx, seval, eCon, eIs, eI, eDoms, eRgs, eRg]
  · simp +contextual -implicitDefEqProofs (maxSteps := 1000000) only [sm, sn, sxx, seval, eCon, eIs, eI, eDoms, eRgs, eRg]
    try rfl
  · simp +contextual -implicitDefEqProofs (maxSteps := 1000000) only [sm, sn, sxx, seval, eDoms]
  · simp +contextual -implicitDefEqProofs (maxSteps := 1000000) only [sm, sn, sxx, seval, eDoms]
  simp +contextual -implicitDefEqProofs (maxSteps := 1000000) only [sm, sn, sxx, seval, eDoms, eRgs, eRg]
  refine callA_rule (law08_Ranges [(2, 2)] [(2, 2)] (by decide)) (wkL_refl _) rfl ?_
  by_cases hK : K = 16
  rotate_left
  · simp +contextual -implicitDefEqProofs (maxSteps := 1000000) only [sm, sn, sxx, seval, hK]
  subst hK
  by_cases hX : Xs.length = 2
  rotate_left
  · have hX' : ((Xs.length : Int) = 2) = False := by simp only [eq_iff_iff, iff_false]; omega
    simp +contextual -implicitDefEqProofs (maxSteps := 1000000) only [sm, sn, sxx, seval, hX']
  obtain ⟨i, r, rfl⟩ : ∃ i r, Xs = [i, r] := by
    match Xs, hX with
    | [i, r], _ => exact ⟨i, r, rfl⟩
  by_cases hir : i = r
  · subst hir
    simp +contextual -implicitDefEqProofs (maxSteps := 1000000) only [sm, sn, sxx, seval, eI]
  simp +contextual -implicitDefEqProofs (maxSteps := 1000000) only [sm, sn, sxx, seval, eI, hir]
  refine callA_rule (law12_Fits (16, [i, r], A, C) D) ?_ rfl ?_
  · simp +contextual -implicitDefEqProofs (maxSteps := 1000000) only [sm, sn, sxx, seval, eCon, eIs, eDoms, eI]
  cases hFt : fitsB (16, [i, r], A, C) D
  · simp +contextual -implicitDefEqProofs (maxSteps := 1000000) only [sm, sn, sxx, seval]
  obtain ⟨s1, s2, s3, s4⟩ := fits_facts hFt
  simp only at s3 s4
  have hd : ∀ d ∈ D, d.length ≤ 1000000000000 := fun d h => by have := s2 d h; omega
  simp +contextual -implicitDefEqProofs (maxSteps := 1000000) only [sm, sn, sxx, seval]
  refine callA_rule (ref12_Fit (16, [i, r], A, C) D (by omega) hd ⟨by simp, by simp only; omega⟩) ?_ rfl ?_
  · simp +contextual -implicitDefEqProofs (maxSteps := 1000000) only [sm, sn, sxx, seval, eCon, eIs, eDoms, eI]
  cases hm : fitB (16, [i, r], A, C) D
  · simp +contextual -implicitDefEqProofs (maxSteps := 1000000) only [sm, sn, sxx, seval]
  have hm : modB (D, [(16, [i, r], A, C)], 0, 0) = true := hm
  by_cases hA : 30 < (A.length : Int)
  · simp +contextual -implicitDefEqProofs (maxSteps := 1000000) only [sm, sn, sxx, seval, hA]
  have hDl := (one_facts hm).1
  have w1 : IntKind.i64.wrap ((D.length : Int) + (A.length : Int)) = (D.length : Int) + (A.length : Int) := by rw [wrap_i64] <;> omega
  by_cases hDA : 64 < (D.length : Int) + (A.length : Int)
  · simp +contextual -implicitDefEqProofs (maxSteps := 1000000) only [sm, sn, sxx, seval, hA, hDA, w1]
  have hA' : A.length ≤ 30 := by omega
  have hDA' : D.length + A.length ≤ 64 := by omega
  obtain ⟨E, hEl, hEr, e16, e17⟩ := elem_vars hm hA' hDA' hir
  have hEd := right_rows hEr
  have n1 := elem_Narrow (16, [i, r], A, C) D (by omega) hd ⟨by simp, by simp only; omega⟩
  have n2 := ewide_own2 (vX i r D.length A.length) (allD D A) (by rw [vX_len]; omega) (by unfold allD; rw [List.length_append, List.length_map]; omega)
    (by
      intro d hd'
      unfold allD at hd'
      rcases List.mem_append.1 hd' with h | h
      · exact hd d h
      · obtain ⟨a, -, rfl⟩ := List.mem_map.1 h
        simp [oneRow])
  rw [e16] at n1
  rw [e17, vX_len, show (allD D A).length = D.length + A.length from by unfold allD; rw [List.length_append, List.length_map]] at n2
  have c1 : D.length * 24 ≤ 140737488355328 := by omega
  have c2 : D.length ≤ maxLen := by unfold maxLen; omega
  simp +contextual -implicitDefEqProofs (maxSteps := 1000000) only [sm, sn, sxx, seval, hA, hDA, w1, c1, c2]
  refine loop_rule (fun k : Nat => k ≤ A.length) (fun k => tm 165 [(1, .list 1 (D.map eRgs)), (2, .ptr 4 0 0 0), (8, .ptr 4 1 0 0), (9, .sl 1 3 0 (D.length + k)), (100, .list 1 (A.map eI)), (101, .int .i64 A.length), (102, .int .i64 k)])
    (fun k => [some (4, [.agg [.int .i64 16, .list 1 [.int .i64 i, .int .i64 r], .list 1 (A.map eI), .int .i64 C]]), some (4, [.agg [.int .i64 17, .sl 1 2 0 (k + 1), .nils, .int .i64 0]]), some (1, (xsE i D.length k).map eI), some (1, (D ++ (A.take k).map oneRow).map eRgs)]) (fun k => A.length - k) 0 (Nat.zero_le _) ⟨[0, 3, 2, 4], by decide, rfl, ?_, ?_⟩ ?_
  · simp +contextual -implicitDefEqProofs (maxSteps := 1000000) only [sm, sn, sxx, seval, List.take_zero, List.map_nil, List.append_nil]
    try rfl
  · simp +contextual -implicitDefEqProofs (maxSteps := 1000000) only [sm, sn, sxx, seval, Int.natCast_zero]
    try rfl
  · intro k hk
    have hxl := xsE_len i D.length k
    have hal : (D ++ (A.take k).map oneRow).length = D.length + k := by rw [List.length_append, List.length_map, List.length_take]; omega
    by_cases hlt : k < A.length
    · have hlt' : (k : Int) < (A.length : Int) := by omega
      have e2 : IntKind.i64.wrap ((k : Int) + 1) = ((k + 1 : Nat) : Int) := by rw [wrap_i64] <;> omega
      obtain ⟨a, ha⟩ : ∃ a, A[k]? = some a := ⟨_, List.getElem?_eq_getElem hlt⟩
      have hs1 : (xsE i D.length k).map eI ++ [AV.int .i64 ((D.length + k : Nat) : Int)] = (xsE i D.length (k + 1)).map eI := by rw [xsE_step]; simp [eI]
      have hs2 := oneRow_snoc D ha
      have d1 : (k + 1 + 1) * 8 ≤ 140737488355328 := by omega
      have d2 : k + 1 + 1 ≤ maxLen := by unfold maxLen; omega
      have d3 : (D.length + k + 1) * 24 ≤ 140737488355328 := by omega
      have d4 : D.length + k + 1 ≤ maxLen := by unfold maxLen; omega
      simp +contextual -implicitDefEqProofs (maxSteps := 1000000) only [sm, sn, sxx, seval, hlt', ha, e2, hxl, hal, d1, d2, d3, d4, hs1, hs2]
      refine ⟨k + 1, by omega, by omega, [0, 1, 5, 6], by decide, rfl, ?_, ?_⟩
      · simp +contextual -implicitDefEqProofs (maxSteps := 1000000) only [sm, sn, sxx, seval]
        try rfl
      · simp +contextual -implicitDefEqProofs (maxSteps := 1000000) only [sm, sn, sxx, seval]
        try rfl
    · have hkn : k = A.length := by omega
      subst hkn
      have ht : D ++ (A.take A.length).map oneRow = allD D A := by rw [List.take_length]; rfl
      rw [ht] at hal ⊢
      have hs1 : (xsE i D.length A.length).map eI ++ [AV.int .i64 r] = (vX i r D.length A.length).map eI := by unfold vX; simp [eI]
      have d1 : (A.length + 1 + 1) * 8 ≤ 140737488355328 := by omega
      have d2 : A.length + 1 + 1 ≤ maxLen := by unfold maxLen; omega
      simp +contextual -implicitDefEqProofs (maxSteps := 1000000) only [sm, sn, sxx, seval, Int.lt_irrefl, hxl, d1, d2, hs1]
      refine callM_rule [] n1 (by decide) ?_ ?_ ?_ ?_ ?_ ?_
      · simp +contextual -implicitDefEqProofs (maxSteps := 1000000) only [sm, sn, sxx, seval]
      · simp +contextual -implicitDefEqProofs (maxSteps := 1000000) only [sm, sn, sxx, seval, eCon, eIs, eI, eDoms]
      · simp +contextual -implicitDefEqProofs (maxSteps := 1000000) only [sm, sn, sxx, seval, eCon, eIs, eI, eDoms]
        try rfl
      · simp +contextual -implicitDefEqProofs (maxSteps := 1000000) only [sm, sn, sxx, seval, eDoms]
      · simp +contextual -implicitDefEqProofs (maxSteps := 1000000) only [sm, sn, sxx, seval, eDoms]
      simp +contextual -implicitDefEqProofs (maxSteps := 1000000) only [sm, sn, sxx, seval, eDoms]
      refine callM_rule [5, 3] n2 (by decide) ?_ ?_ ?_ ?_ ?_ ?_
      · simp +contextual -implicitDefEqProofs (maxSteps := 1000000) only [sm, sn, sxx, seval]
        try rfl
      · simp +contextual -implicitDefEqProofs (maxSteps := 1000000) only [sm, sn, sxx, seval, eDoms]
      · simp +contextual -implicitDefEqProofs (maxSteps := 1000000) only [sm, sn, sxx, seval, eDoms]
        try rfl
      · simp +contextual -implicitDefEqProofs (maxSteps := 1000000) only [sm, sn, sxx, seval, eDoms]
      · simp +contextual -implicitDefEqProofs (maxSteps := 1000000) only [sm, sn, sxx, seval, eDoms]
      unfold finE
      cases hw : wholeB E
      · simp +contextual -implicitDefEqProofs (maxSteps := 1000000) only [sm, sn, sxx, seval, tell, eDoms]
      · have hl2 : (E ++ A.map oneRow).length = D.length + A.length := by rw [List.length_append, List.length_map, hEl]
        have ht2 : List.take D.length ((E ++ A.map oneRow).map eRgs) = E.map eRgs := by
          rw [← List.map_take, List.take_append_of_le_length (by omega), ← hEl, List.take_length]
        have hle : D.length ≤ D.length + A.length := by omega
        simp +contextual -implicitDefEqProofs (maxSteps := 1000000) only [sm, sn, sxx, seval, tell, eDoms, hl2, hal, hle, ht2, Nat.zero_le]
        refine callA_rule (law08_Doms E E (by omega) (fun d h => by have := hEd d h; omega)) (by simp +contextual -implicitDefEqProofs (maxSteps := 1000000) only [sm, sn, sxx, seval, eDoms]) rfl ?_
        simp +contextual -implicitDefEqProofs (maxSteps := 1000000) only [sm, sn, sxx, seval]
end Go.Proofs.Ytnhedjpghpdbdaa
