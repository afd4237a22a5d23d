/- tasks.Narrow: its rows are its caller's own. -/
import Derived.Test.YtnhedjpghpdbdaaWTask4
import Derived.Test.YtnhedjpghpdbdaaWOther
import Derived.Test.YtnhedjpghpdbdaaCTasksNO
namespace Go.Proofs.Ytnhedjpghpdbdaa
open Av
attribute [local irreducible] awp awpOpers
set_option linter.unusedSimpArgs false
set_option linter.unusedVariables false
set_option maxRecDepth 100000
set_option maxHeartbeats 4000000
theorem tasks_NarrowO (c : Con) (D G : List (List Rg)) (hD : D.length ≤ 1000000000000) (hd : ∀ d ∈ D, d.length ≤ 1000000000000) (hc : conFits c) (hG : tasksL c D = (G, 0)) :
    Ctr Try.prog 20 [eCon c, eDoms D] [] (.tuple [.sl 1 0 0 G.length, .int .i64 0]) (some (1, rowsM 1 G G.length) :: rowB G) := by
  obtain ⟨K, X, A, C⟩ := c
  refine call_box Try.func20 Try.call20 e_tasks_NarrowO ?_
  cases hm : modB (D, [(K, X, A, C)], 0, 0)
  · have hno := tasks_of_no (K, X, A, C) D hD hd hc 2 (.inl ⟨hm, rfl⟩)
    have hres : tasksL (K, X, A, C) D = ([], 2) := by unfold tasksL; rw [if_neg (by simp [hm])]
    rw [hres] at hG
    simp at hG
  by_cases hK : K = 19
  rotate_left
  · have hno := tasks_of_no (K, X, A, C) D hD hd hc 10 (.inr ⟨hm, hK, rfl⟩)
    have hres : tasksL (K, X, A, C) D = ([], 10) := by unfold tasksL; rw [if_pos hm, if_neg hK]
    rw [hres] at hG
    simp at hG
  subst hK
  obtain ⟨f1, hDk, h32, hI, hAl, hT⟩ := task_facts hm
  have hof := tasks_of_yes X A C D hm
  have hEl := edRows_len D X
  have hov := fun XX => shop_over (edRows D X) A XX C hT
  have hpl := fun k hk => shop_place (edRows D X) A X C k hT hk
  have hg : ∀ k, k < (edRows D X).length → (tkL (edRows D X) A X)[k]? = some ((edAt (edRows D X) k).1, (edAt (edRows D X) k).2, xat A k, needT (edRows D X) A k, xat X k) := fun k hk => tkL_get X hk
  have hl := tkL_len (edRows D X) A X
  have hres : tasksL (19, X, A, C) D = if overT (edRows D X) A C = true then ([], 12) else tell (tasksN (edRows D X) A C D X X.length, wholeB (tasksN (edRows D X) A C D X X.length)) := by
    unfold tasksL
    rw [if_pos hm, if_pos rfl]
  rw [hres] at hG
  clear hres
  generalize edRows D X = E at hof hEl hT hov hpl hg hl hG ⊢
  rw [shB_eq, hEl] at hof
  have hov' := hov X
  simp only [shopP_eq] at hov' hpl
  rw [hEl] at hl
  have htk : List.take X.length ((tkL E A X).map eTk) = (tkL E A X).map eTk := by
    have := take_map eTk (tkL E A X)
    rwa [hl] at this
  generalize tkL E A X = L at hof hov' hpl hg hl htk ⊢
  clear hov
  simp +contextual -implicitDefEqProofs (maxSteps := 1000000) only [c_tasks_NarrowO, eCon, eIs, eDoms, sm, sn, sxx, seval]
  refine callO_rule hof rfl (by simp +contextual -implicitDefEqProofs (maxSteps := 1000000) only [sm, sn, sxx, seval, eCon, eIs, eDoms]) ?_ ?_ ?_
  · simp +contextual -implicitDefEqProofs (maxSteps := 1000000) only [sm, sn, sxx, seval]
  · simp +contextual -implicitDefEqProofs (maxSteps := 1000000) only [sm, sn, sxx, seval, flatL_eTk]
  simp +contextual -implicitDefEqProofs (maxSteps := 1000000) only [sm, sn, sxx, seval, flatL_eTk]
  refine callV_rule hov' ?_ rfl ?_
  · simp +contextual -implicitDefEqProofs (maxSteps := 1000000) only [sm, sn, sxx, seval, hl, htk, flatL_eTk]
  cases ho : overT E A C
  rotate_left
  · rw [ho] at hG
    simp at hG
  rw [ho] at hG
  simp only [Bool.false_eq_true, if_false] at hG
  simp +contextual -implicitDefEqProofs (maxSteps := 1000000) only [sm, sn, sxx, seval]
  refine callO_rule (clone_doms D hD) rfl (wkL_refl _) rfl ?_ ?_
  · simp +contextual -implicitDefEqProofs (maxSteps := 1000000) only [sm, sn, sxx, seval]
  simp +contextual -implicitDefEqProofs (maxSteps := 1000000) only [sm, sn, sxx, seval, eCon, eIs]
  refine loop_rule (fun k : Nat => k ≤ X.length) (fun k => tm 78 [(6, .ptr 2 0 0 0), (8, .sl 1 2 0 D.length), (29, .sl 5 1 0 X.length), (30, .int .i64 X.length), (31, .int .i64 k)])
    (fun k => [some (2, [.agg [.sl 5 1 0 X.length, .int .i64 C]]), some (5, L.map eTk), some (1, (tasksN E A C D X k).map eRgs)]) (fun k => X.length - k) 0 (Nat.zero_le _) ⟨[1, 2, 3], by decide, rfl, ?_, ?_⟩ ?_
  · simp +contextual -implicitDefEqProofs (maxSteps := 1000000) only [sm, sn, sxx, seval, tasksN, flatL_eTk]
  · simp +contextual -implicitDefEqProofs (maxSteps := 1000000) only [sm, sn, sxx, seval, Int.natCast_zero]
  intro k hk
  by_cases hlt : k < X.length
  · have hlt' : (k : Int) < (X.length : Int) := by omega
    have e2 : IntKind.i64.wrap ((k : Int) + 1) = ((k + 1 : Nat) : Int) := by rw [wrap_i64] <;> omega
    have hkl : k < L.length := by omega
    have hx := hg k (by omega)
    have hin := hI k hlt
    have hFl := tasksN_len E A C D X k
    have hFd := tasksN_rows (E := E) (A := A) (C := C) (X := X) hd k
    have hnx : tasksN E A C D X (k + 1) = if 0 < needT E A k then (tasksN E A C D X k).set (xat X k).toNat (cutS (placeT E A C k).1 (placeT E A C k).2 (rowOf (tasksN E A C D X k) (xat X k))) else tasksN E A C D X k := rfl
    have hpk := hpl k (by omega)
    generalize (edAt E k).1 = a1 at hx
    generalize (edAt E k).2 = a2 at hx
    generalize needT E A k = nd at hx hnx
    by_cases hnd : 0 < nd
    · rw [if_pos hnd] at hnx
      obtain ⟨⟨t1, t2⟩, ht⟩ : ∃ y, placeT E A C k = y := ⟨_, rfl⟩
      rw [ht] at hnx hpk
      simp only at hnx
      generalize tasksN E A C D X k = F at hFl hFd hnx ⊢
      have hr := row_get (D := F) (x := xat X k) (by omega)
      have hrl : (rowOf F (xat X k)).length ≤ 1000000000000 := hFd _ (List.mem_of_getElem? hr)
      have h0 := hin.1
      have hxn : (xat X k).toNat < D.length := by omega
      generalize xat X k = x at hx hin hnx hr hrl h0 hxn ⊢
      generalize rowOf F x = row at hnx hr hrl ⊢
      simp +contextual -implicitDefEqProofs (maxSteps := 1000000) only [sm, sn, sxx, seval, hlt', hlt, hkl, hl, hx, om_Tk, hnd, flatL_eTk]
      refine callV_rule hpk ?_ rfl ?_
      · simp +contextual -implicitDefEqProofs (maxSteps := 1000000) only [sm, sn, sxx, seval, hl, htk, flatL_eTk]
      simp +contextual -implicitDefEqProofs (maxSteps := 1000000) only [sm, sn, sxx, seval, eRg, hFl, h0, hr, hxn]
      refine callA_rule (set_Cut row t1 t2 hrl) (wkL_refl _) rfl ?_
      simp +contextual -implicitDefEqProofs (maxSteps := 1000000) only [sm, sn, sxx, seval, eRgs, hFl, h0, hr, hxn, e2, set_rowT, List.length_map]
      refine ⟨k + 1, by omega, by omega, [0, 1, 2], by decide, rfl, ?_, ?_⟩
      · simp +contextual -implicitDefEqProofs (maxSteps := 1000000) only [sm, sn, sxx, seval, hnx, flatL_eTk]
        try rfl
      · simp +contextual -implicitDefEqProofs (maxSteps := 1000000) only [sm, sn, sxx, seval]
    · rw [if_neg hnd] at hnx
      simp +contextual -implicitDefEqProofs (maxSteps := 1000000) only [sm, sn, sxx, seval, hlt', hlt, hkl, hl, hx, om_Tk, hnd, flatL_eTk, e2]
      refine ⟨k + 1, by omega, by omega, [0, 1, 2], by decide, rfl, ?_, ?_⟩
      · simp +contextual -implicitDefEqProofs (maxSteps := 1000000) only [sm, sn, sxx, seval, hnx, flatL_eTk]
        try rfl
      · simp +contextual -implicitDefEqProofs (maxSteps := 1000000) only [sm, sn, sxx, seval]
  · have hkn : k = X.length := by omega
    subst hkn
    have hFl := tasksN_len E A C D X X.length
    have hFd := tasksN_rows (E := E) (A := A) (C := C) (X := X) hd X.length
    generalize tasksN E A C D X X.length = F at hFl hFd hG ⊢
    have hEG : F = G ∧ wholeB F = true := by
      cases hw : wholeB F <;> rw [hw] at hG <;> simp [tell] at hG
      exact ⟨hG, rfl⟩
    obtain ⟨rfl, hw⟩ := hEG
    have hne : ∀ (k : Nat) (r : List Rg), F[k]? = some r → ¬ ((r.length : Int) = 0) := by
      intro k r hr h0
      have h0' : r.length = 0 := by omega
      unfold wholeB at hw
      have : F.any (fun d => decide (d.length = 0)) = true := List.any_eq_true.2 ⟨r, List.mem_of_getElem? hr, by simp [h0']⟩
      rw [this] at hw
      cases hw
    rw [← hFl]
    have hB0 : rowB [] = [] := rfl
    have hz0 := rowsM_zero 1 F
    simp +contextual -implicitDefEqProofs (maxSteps := 1000000) only [sm, sn, sxx, seval, Int.lt_irrefl]
    refine loop_rule (fun k : Nat => k ≤ F.length) (fun k => tm 78 [(8, .sl 1 0 0 F.length), (58, .int .i64 F.length), (59, .int .i64 k)])
      (fun k => some (1, rowsM 1 F k) :: rowB (F.take k)) (fun k => F.length - k) 0 (Nat.zero_le _) ⟨[2], by decide, rfl, ?_, ?_⟩ ?_
    · simp +contextual -implicitDefEqProofs (maxSteps := 1000000) only [sm, sn, sxx, seval, hB0, hz0]
      try rfl
    · simp +contextual -implicitDefEqProofs (maxSteps := 1000000) only [sm, sn, sxx, seval, Int.natCast_zero, hB0]
      try rfl
    · intro k hk
      have hRl : (rowB (F.take k)).length = k := by rw [rowB_len, List.length_take]; omega
      by_cases hlt : k < F.length
      · obtain ⟨r, hr⟩ : ∃ r, F[k]? = some r := ⟨_, List.getElem?_eq_getElem hlt⟩
        have hlt' : (k : Int) < (F.length : Int) := by omega
        have e2 : IntKind.i64.wrap ((k : Int) + 1) = ((k + 1 : Nat) : Int) := by rw [wrap_i64] <;> omega
        have hrs := rowsM_at (b := 1) hr
        have hrm := rowsM_len 1 F k
        have h0' := hne k r hr
        simp +contextual -implicitDefEqProofs (maxSteps := 1000000) only [sm, sn, sxx, seval, eRgs, hlt', hlt, hr, hrs, hrm, hRl, h0']
        have hCl := clone_rgsO r (hFd r (List.mem_of_getElem? hr))
        refine callO_rule hCl rfl (wkL_refl _) rfl ?_ ?_
        · simp +contextual -implicitDefEqProofs (maxSteps := 1000000) only [sm, sn, sxx, seval]
        simp +contextual -implicitDefEqProofs (maxSteps := 1000000) only [sm, sn, sxx, seval, eRgs, hlt', hlt, hr, hrs, hrm, hRl, e2]
        have hset : (rowsM 1 F k).set k (.sl 2 (k + 1) 0 r.length) = rowsM 1 F (k + 1) := by rw [show k + 1 = 1 + k by omega, rowsM_set hr, Nat.add_comm]
        have hsn : rowB (F.take k) ++ [some (2, r.map eRg)] = rowB (F.take (k + 1)) := by rw [rowB_snoc, List.take_add_one, hr]; rfl
        rw [hset, hsn]
        have hRl' : (rowB (F.take (k + 1))).length = k + 1 := by rw [rowB_len, List.length_take]; omega
        refine ⟨k + 1, by omega, by omega, Emb_same (Nat.zero_le _) ?_ ?_⟩
        · simp only [List.length_cons, hRl', okBx, Bool.and_eq_true]
          exact ⟨rowsM_ok (by omega), okBx_flat _ (rowB_flat _)⟩
        · simp only [List.length_cons, hRl']
          have q0 : 0 < k + 1 + 1 := by omega
          simp +contextual -implicitDefEqProofs (maxSteps := 1000000) only [sm, sn, sxx, seval, getN_range, q0]
          try rfl
      · have hkn : k = F.length := by omega
        subst hkn
        have tt : F.take F.length = F := List.take_length
        have hrm := rowsM_len 1 F F.length
        rw [tt] at hRl ⊢
        simp +contextual -implicitDefEqProofs (maxSteps := 1000000) only [sm, sn, sxx, seval, Int.lt_irrefl]
        have hlF := rowB_len F
        refine ⟨[], 0 :: List.range' 1 F.length, ?_, ?_, by rw [hlF]; omega, rfl⟩
        · rw [List.nodup_cons]
          exact ⟨by simp [List.mem_range']; intro x _; omega, List.nodup_range'⟩
        · rw [hlF]
          have hren : wkEs (renEs (0 :: List.range' 1 F.length) (rowsM 1 F F.length)) (rowsM 1 F F.length) := by
            refine rowsM_reW (p := 1) (q := 1) fun x hx => getN_eq _ _ _ ?_
            rw [Nat.add_comm 1 x, List.getElem?_cons_succ, List.getElem?_range' hx]
            congr 1; omega
          refine emb_own rfl hren (rowsM_ok (by omega)) ?_
          have := emb_rows (n := F.length + 1) (ix := 0 :: List.range' 1 F.length) (bx := some (1, rowsM 1 F F.length) :: rowB F) (rowB F) 1 (rowB_flat F) (fun j _ => bxGet_pre [_] (rowB F) j) (by simp only [List.length_cons]; omega)
          rwa [hlF] at this
end Go.Proofs.Ytnhedjpghpdbdaa
