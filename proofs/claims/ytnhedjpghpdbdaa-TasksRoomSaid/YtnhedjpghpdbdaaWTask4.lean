/- What tasks.Narrow and tasks.Load compute. -/
import Derived.Test.YtnhedjpghpdbdaaWTask2
import Derived.Test.YtnhedjpghpdbdaaWPlace3
import Derived.Test.YtnhedjpghpdbdaaGSet
import Derived.Test.YtnhedjpghpdbdaaCTasksN
namespace Go.Proofs.Ytnhedjpghpdbdaa
open Av
attribute [local irreducible] awp awpOpers
set_option linter.unusedSimpArgs false
set_option linter.unusedVariables false
set_option maxRecDepth 100000
set_option maxHeartbeats 4000000
theorem rows_sameT {F : List (List Rg)} {k : Nat} {r : List Rg} (h : F[k]? = some r) : (F.map eRgs).set k (.list 2 (r.map eRg)) = F.map eRgs := by
  apply List.ext_getElem?
  intro j
  by_cases hj : j = k
  · subst hj
    have hl := (List.getElem?_eq_some_iff.1 h).1
    rw [List.getElem?_set_self (by rw [List.length_map]; exact hl), List.getElem?_map, h]; rfl
  · rw [List.getElem?_set_ne (fun e => hj e.symm)]
theorem set_rowT (F : List (List Rg)) (k : Nat) (r : List Rg) : (F.map eRgs).set k (.list 2 (r.map eRg)) = (F.set k r).map eRgs := by rw [List.map_set]; rfl
theorem tasksN_rows {E : List Rg} {A : List Int} {C : Int} {D : List (List Rg)} {X : List Int} {n : Nat} (h : ∀ d ∈ D, d.length ≤ n) : ∀ k, ∀ d ∈ tasksN E A C D X k, d.length ≤ n
  | 0 => h
  | k + 1 => fun d hd => by
    unfold tasksN at hd
    split at hd
    · rcases List.mem_or_eq_of_mem_set hd with h1 | rfl
      · exact tasksN_rows h k d h1
      · have ih := tasksN_rows (E := E) (A := A) (C := C) (X := X) h k
        refine Nat.le_trans (cutS_length _ _ _) ?_
        unfold rowOf
        cases hr : (tasksN E A C D X k)[(xat X k).toNat]? with
        | none => simp
        | some r => exact ih r (List.mem_of_getElem? hr)
    · exact tasksN_rows h k d hd
theorem tasks_Narrow (c : Con) (D : List (List Rg)) (hD : D.length ≤ 1000000000000) (hd : ∀ d ∈ D, d.length ≤ 1000000000000) (hc : conFits c) :
    Ctr Try.prog 20 [eCon c, eDoms D] [] (.tuple [eDoms (tasksL c D).1, .int .i64 (tasksL c D).2]) [] := by
  obtain ⟨K, X, A, C⟩ := c
  refine call_pure Try.func20 Try.call20 e_tasks_Narrow ?_
  cases hm : modB (D, [(K, X, A, C)], 0, 0)
  · have hno := tasks_of_no (K, X, A, C) D hD hd hc 2 (.inl ⟨hm, rfl⟩)
    have hres : tasksL (K, X, A, C) D = ([], 2) := by unfold tasksL; rw [if_neg (by simp [hm])]
    rw [hres]
    simp +contextual -implicitDefEqProofs (maxSteps := 1000000) only [c_tasks_Narrow, eCon, eIs, eDoms, sm, sn, sxx, seval]
    refine callO_rule hno rfl (by simp +contextual -implicitDefEqProofs (maxSteps := 1000000) only [sm, sn, sxx, seval, eCon, eIs, eDoms]) rfl rfl ?_
    simp +contextual -implicitDefEqProofs (maxSteps := 1000000) only [sm, sn, sxx, seval, eDoms]
  by_cases hK : K = 19
  rotate_left
  · have hno := tasks_of_no (K, X, A, C) D hD hd hc 10 (.inr ⟨hm, hK, rfl⟩)
    have hres : tasksL (K, X, A, C) D = ([], 10) := by unfold tasksL; rw [if_pos hm, if_neg hK]
    rw [hres]
    simp +contextual -implicitDefEqProofs (maxSteps := 1000000) only [c_tasks_Narrow, eCon, eIs, eDoms, sm, sn, sxx, seval]
    refine callO_rule hno rfl (by simp +contextual -implicitDefEqProofs (maxSteps := 1000000) only [sm, sn, sxx, seval, eCon, eIs, eDoms]) rfl rfl ?_
    simp +contextual -implicitDefEqProofs (maxSteps := 1000000) only [sm, sn, sxx, seval, eDoms]
  subst hK
  obtain ⟨f1, hDk, h32, hI, hAl, hT⟩ := task_facts hm
  have hof := tasks_of_yes X A C D hm
  have hEl := edRows_len D X
  have hov := fun XX => shop_over (edRows D X) A XX C hT
  have hpl := fun k hk => shop_place (edRows D X) A X C k hT hk
  have hg : ∀ k, k < (edRows D X).length → (tkL (edRows D X) A X)[k]? = some ((edAt (edRows D X) k).1, (edAt (edRows D X) k).2, xat A k, needT (edRows D X) A k, xat X k) := fun k hk => tkL_get X hk
  have hl := tkL_len (edRows D X) A X
  have hres : tasksL (19, X, A, C) D = if overT (edRows D X) A C = true then ([], 12) else tell (tasksN (edRows D X) A C D X X.length, wholeB (tasksN (edRows D X) A C D X X.length)) := by
    unfold tasksL
    rw [if_pos hm, if_pos rfl]
  rw [hres]
  generalize edRows D X = E at hof hEl hT hov hpl hg hl ⊢
  rw [shB_eq, hEl] at hof
  have hov' := hov X
  simp only [shopP_eq] at hov' hpl
  rw [hEl] at hl
  have htk : List.take X.length ((tkL E A X).map eTk) = (tkL E A X).map eTk := by
    have := take_map eTk (tkL E A X)
    rwa [hl] at this
  generalize tkL E A X = L at hof hov' hpl hg hl htk ⊢
  clear hov
  simp +contextual -implicitDefEqProofs (maxSteps := 1000000) only [c_tasks_Narrow, eCon, eIs, eDoms, sm, sn, sxx, seval]
  refine callO_rule hof rfl (by simp +contextual -implicitDefEqProofs (maxSteps := 1000000) only [sm, sn, sxx, seval, eCon, eIs, eDoms]) ?_ ?_ ?_
  · simp +contextual -implicitDefEqProofs (maxSteps := 1000000) only [sm, sn, sxx, seval]
  · simp +contextual -implicitDefEqProofs (maxSteps := 1000000) only [sm, sn, sxx, seval, flatL_eTk]
  simp +contextual -implicitDefEqProofs (maxSteps := 1000000) only [sm, sn, sxx, seval, flatL_eTk]
  refine callV_rule hov' ?_ rfl ?_
  · simp +contextual -implicitDefEqProofs (maxSteps := 1000000) only [sm, sn, sxx, seval, hl, htk, flatL_eTk]
  cases ho : overT E A C
  rotate_left
  · simp +contextual -implicitDefEqProofs (maxSteps := 1000000) only [sm, sn, sxx, seval, eDoms]
  simp +contextual -implicitDefEqProofs (maxSteps := 1000000) only [sm, sn, sxx, seval]
  refine callO_rule (clone_doms D hD) rfl (wkL_refl _) rfl ?_ ?_
  · simp +contextual -implicitDefEqProofs (maxSteps := 1000000) only [sm, sn, sxx, seval]
  simp +contextual -implicitDefEqProofs (maxSteps := 1000000) only [sm, sn, sxx, seval, eCon, eIs]
  refine loop_rule (fun k : Nat => k ≤ X.length) (fun k => tm 78 [(6, .ptr 2 0 0 0), (8, .sl 1 2 0 D.length), (29, .sl 5 1 0 X.length), (30, .int .i64 X.length), (31, .int .i64 k)])
    (fun k => [some (2, [.agg [.sl 5 1 0 X.length, .int .i64 C]]), some (5, L.map eTk), some (1, (tasksN E A C D X k).map eRgs)]) (fun k => X.length - k) 0 (Nat.zero_le _) ⟨[1, 2, 3], by decide, rfl, ?_, ?_⟩ ?_
  · simp +contextual -implicitDefEqProofs (maxSteps := 1000000) only [sm, sn, sxx, seval, tasksN, flatL_eTk]
  · simp +contextual -implicitDefEqProofs (maxSteps := 1000000) only [sm, sn, sxx, seval, Int.natCast_zero]
  intro k hk
  by_cases hlt : k < X.length
  · have hlt' : (k : Int) < (X.length : Int) := by omega
    have e2 : IntKind.i64.wrap ((k : Int) + 1) = ((k + 1 : Nat) : Int) := by rw [wrap_i64] <;> omega
    have hkl : k < L.length := by omega
    have hx := hg k (by omega)
    have hin := hI k hlt
    have hFl := tasksN_len E A C D X k
    have hFd := tasksN_rows (E := E) (A := A) (C := C) (X := X) hd k
    have hnx : tasksN E A C D X (k + 1) = if 0 < needT E A k then (tasksN E A C D X k).set (xat X k).toNat (cutS (placeT E A C k).1 (placeT E A C k).2 (rowOf (tasksN E A C D X k) (xat X k))) else tasksN E A C D X k := rfl
    have hpk := hpl k (by omega)
    generalize (edAt E k).1 = a1 at hx
    generalize (edAt E k).2 = a2 at hx
    generalize needT E A k = nd at hx hnx
    by_cases hnd : 0 < nd
    · rw [if_pos hnd] at hnx
      obtain ⟨⟨t1, t2⟩, ht⟩ : ∃ y, placeT E A C k = y := ⟨_, rfl⟩
      rw [ht] at hnx hpk
      simp only at hnx
      generalize tasksN E A C D X k = F at hFl hFd hnx ⊢
      have hr := row_get (D := F) (x := xat X k) (by omega)
      have hrl : (rowOf F (xat X k)).length ≤ 1000000000000 := hFd _ (List.mem_of_getElem? hr)
      have h0 := hin.1
      have hxn : (xat X k).toNat < D.length := by omega
      generalize xat X k = x at hx hin hnx hr hrl h0 hxn ⊢
      generalize rowOf F x = row at hnx hr hrl ⊢
      simp +contextual -implicitDefEqProofs (maxSteps := 1000000) only [sm, sn, sxx, seval, hlt', hlt, hkl, hl, hx, om_Tk, hnd, flatL_eTk]
      refine callV_rule hpk ?_ rfl ?_
      · simp +contextual -implicitDefEqProofs (maxSteps := 1000000) only [sm, sn, sxx, seval, hl, htk, flatL_eTk]
      simp +contextual -implicitDefEqProofs (maxSteps := 1000000) only [sm, sn, sxx, seval, eRg, hFl, h0, hr, hxn]
      refine callA_rule (set_Cut row t1 t2 hrl) (wkL_refl _) rfl ?_
      simp +contextual -implicitDefEqProofs (maxSteps := 1000000) only [sm, sn, sxx, seval, eRgs, hFl, h0, hr, hxn, e2, set_rowT, List.length_map]
      refine ⟨k + 1, by omega, by omega, [0, 1, 2], by decide, rfl, ?_, ?_⟩
      · simp +contextual -implicitDefEqProofs (maxSteps := 1000000) only [sm, sn, sxx, seval, hnx, flatL_eTk]
        try rfl
      · simp +contextual -implicitDefEqProofs (maxSteps := 1000000) only [sm, sn, sxx, seval]
    · rw [if_neg hnd] at hnx
      simp +contextual -implicitDefEqProofs (maxSteps := 1000000) only [sm, sn, sxx, seval, hlt', hlt, hkl, hl, hx, om_Tk, hnd, flatL_eTk, e2]
      refine ⟨k + 1, by omega, by omega, [0, 1, 2], by decide, rfl, ?_, ?_⟩
      · simp +contextual -implicitDefEqProofs (maxSteps := 1000000) only [sm, sn, sxx, seval, hnx, flatL_eTk]
        try rfl
      · simp +contextual -implicitDefEqProofs (maxSteps := 1000000) only [sm, sn, sxx, seval]
  · have hkn : k = X.length := by omega
    subst hkn
    have hFl := tasksN_len E A C D X X.length
    have hFd := tasksN_rows (E := E) (A := A) (C := C) (X := X) hd X.length
    generalize tasksN E A C D X X.length = F at hFl hFd ⊢
    rw [← hFl]
    simp +contextual -implicitDefEqProofs (maxSteps := 1000000) only [sm, sn, sxx, seval, Int.lt_irrefl]
    refine loop_rule (fun k : Nat => k ≤ F.length ∧ ∀ (j : Nat) x, j < k → F[j]? = some x → (fun d : List Rg => !decide (d.length = 0)) x = true) (fun k => tm 78 [(8, .sl 1 0 0 F.length), (58, .int .i64 F.length), (59, .int .i64 k)]) (fun k => [some (1, F.map eRgs)]) (fun k => F.length - k) 0 ⟨by omega, by omega⟩ ⟨[2], by decide, rfl, ?_, ?_⟩ ?_
    · simp +contextual -implicitDefEqProofs (maxSteps := 1000000) only [sm, sn, sxx, seval]
    · simp +contextual -implicitDefEqProofs (maxSteps := 1000000) only [sm, sn, sxx, seval, Int.natCast_zero]
    · rintro k ⟨hk, hok⟩
      by_cases hlt : k < F.length
      · obtain ⟨r, hx⟩ : ∃ r, F[k]? = some r := ⟨_, List.getElem?_eq_getElem hlt⟩
        have hlt' : (k : Int) < (F.length : Int) := by omega
        have e2 : IntKind.i64.wrap ((k : Int) + 1) = ((k + 1 : Nat) : Int) := by rw [wrap_i64] <;> omega
        by_cases h0 : r.length = 0
        · have hno := listall_no (p := fun d : List Rg => !decide (d.length = 0)) hx (by simp [h0])
          have hw : wholeB F = false := by
            unfold wholeB
            rw [← List.not_any_eq_all_not] at hno
            simpa using hno
          rw [hw]
          have h0' : (r.length : Int) = 0 := by omega
          simp +contextual -implicitDefEqProofs (maxSteps := 1000000) only [sm, sn, sxx, seval, hlt', hlt, hx, h0', tell, eDoms]
        · have h0' : ¬ (r.length : Int) = 0 := by omega
          have hrs := rows_sameT hx
          simp +contextual -implicitDefEqProofs (maxSteps := 1000000) only [sm, sn, sxx, seval, hlt', hlt, hx, h0']
          refine callA_rule (clone_rgs r (hFd r (List.mem_of_getElem? hx))) (wkL_refl _) rfl ?_
          simp +contextual -implicitDefEqProofs (maxSteps := 1000000) only [sm, sn, sxx, seval, hlt', hlt, hx, eRgs, hrs, e2]
          refine ⟨k + 1, ⟨by omega, ?_⟩, by omega, [0], by decide, rfl, ?_, ?_⟩
          · intro j y hj hy
            rcases Nat.lt_succ_iff_lt_or_eq.1 hj with h | rfl
            · first | exact hok j y h hy | simpa using hok j y h hy
            · rw [hx] at hy; injection hy with hy; subst hy; simp [h0]
          · simp +contextual -implicitDefEqProofs (maxSteps := 1000000) only [sm, sn, sxx, seval]
          · simp +contextual -implicitDefEqProofs (maxSteps := 1000000) only [sm, sn, sxx, seval]
      · have hke : k = F.length := by omega
        subst hke
        have hall := listall_yes hok
        have hw : wholeB F = true := by
          unfold wholeB
          rw [← List.not_any_eq_all_not] at hall
          simpa using hall
        rw [hw]
        simp +contextual -implicitDefEqProofs (maxSteps := 1000000) only [sm, sn, sxx, seval, Int.lt_irrefl, tell, eDoms]
/-- what is needed at a time, by all tasks -/
def loadL (c : Con) (D : List (List Rg)) (t : Int) : Int × Bool :=
  if modB (D, [c], 0, 0) = true then (if c.1 = 19 then (ldV (edRows D c.2.1) c.2.2.1 (-1) t, true) else (0, false)) else (0, false)
theorem tasks_Load (c : Con) (D : List (List Rg)) (t : Int) (hD : D.length ≤ 1000000000000) (hd : ∀ d ∈ D, d.length ≤ 1000000000000) (hc : conFits c) :
    Ctr Try.prog 27 [eCon c, eDoms D, .int .i64 t] [] (.tuple [.int .i64 (loadL c D t).1, .bool (loadL c D t).2]) [] := by
  obtain ⟨K, X, A, C⟩ := c
  refine call_pure Try.func27 Try.call27 e_tasks_Load ?_
  cases hm : modB (D, [(K, X, A, C)], 0, 0)
  · have hno := tasks_of_no (K, X, A, C) D hD hd hc 2 (.inl ⟨hm, rfl⟩)
    have hres : loadL (K, X, A, C) D t = (0, false) := by unfold loadL; rw [if_neg (by simp [hm])]
    rw [hres]
    simp +contextual -implicitDefEqProofs (maxSteps := 1000000) only [c_tasks_Load, eCon, eIs, eDoms, sm, sn, sxx, seval]
    refine callO_rule hno rfl (by simp +contextual -implicitDefEqProofs (maxSteps := 1000000) only [sm, sn, sxx, seval, eCon, eIs, eDoms]) rfl rfl ?_
    simp +contextual -implicitDefEqProofs (maxSteps := 1000000) only [sm, sn, sxx, seval, eDoms]
  by_cases hK : K = 19
  rotate_left
  · have hno := tasks_of_no (K, X, A, C) D hD hd hc 10 (.inr ⟨hm, hK, rfl⟩)
    have hres : loadL (K, X, A, C) D t = (0, false) := by unfold loadL; rw [if_pos hm, if_neg hK]
    rw [hres]
    simp +contextual -implicitDefEqProofs (maxSteps := 1000000) only [c_tasks_Load, eCon, eIs, eDoms, sm, sn, sxx, seval]
    refine callO_rule hno rfl (by simp +contextual -implicitDefEqProofs (maxSteps := 1000000) only [sm, sn, sxx, seval, eCon, eIs, eDoms]) rfl rfl ?_
    simp +contextual -implicitDefEqProofs (maxSteps := 1000000) only [sm, sn, sxx, seval, eDoms]
  subst hK
  obtain ⟨f1, hDk, h32, hI, hAl, hT⟩ := task_facts hm
  have hof := tasks_of_yes X A C D hm
  have hEl := edRows_len D X
  have hld := shop_load (edRows D X) A X C (-1) t hT
  have hl := tkL_len (edRows D X) A X
  have hres : loadL (19, X, A, C) D t = (ldV (edRows D X) A (-1) t, true) := by unfold loadL; rw [if_pos hm, if_pos rfl]
  rw [hres]
  generalize edRows D X = E at hof hEl hT hld hl ⊢
  rw [shB_eq, hEl] at hof
  simp only [shopP_eq] at hld
  rw [hEl] at hl
  have htk : List.take X.length ((tkL E A X).map eTk) = (tkL E A X).map eTk := by
    have := take_map eTk (tkL E A X)
    rwa [hl] at this
  generalize tkL E A X = L at hof hld hl htk ⊢
  simp +contextual -implicitDefEqProofs (maxSteps := 1000000) only [c_tasks_Load, eCon, eIs, eDoms, sm, sn, sxx, seval]
  refine callO_rule hof rfl (by simp +contextual -implicitDefEqProofs (maxSteps := 1000000) only [sm, sn, sxx, seval, eCon, eIs, eDoms]) ?_ ?_ ?_
  · simp +contextual -implicitDefEqProofs (maxSteps := 1000000) only [sm, sn, sxx, seval]
  · simp +contextual -implicitDefEqProofs (maxSteps := 1000000) only [sm, sn, sxx, seval, flatL_eTk]
  simp +contextual -implicitDefEqProofs (maxSteps := 1000000) only [sm, sn, sxx, seval, flatL_eTk]
  refine callV_rule hld ?_ rfl ?_
  · simp +contextual -implicitDefEqProofs (maxSteps := 1000000) only [sm, sn, sxx, seval, hl, htk, flatL_eTk]
  simp +contextual -implicitDefEqProofs (maxSteps := 1000000) only [sm, sn, sxx, seval]
end Go.Proofs.Ytnhedjpghpdbdaa
