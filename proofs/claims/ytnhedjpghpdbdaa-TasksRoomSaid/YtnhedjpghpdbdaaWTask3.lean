/- What tasks.tight computes. -/
import Derived.Test.YtnhedjpghpdbdaaWTask1
import Derived.Test.YtnhedjpghpdbdaaWComp2
import Derived.Test.YtnhedjpghpdbdaaWSortI
namespace Go.Proofs.Ytnhedjpghpdbdaa
open Av
attribute [local irreducible] awp awpOpers
set_option linter.unusedSimpArgs false
set_option linter.unusedVariables false
set_option maxRecDepth 100000
set_option maxHeartbeats 4000000
theorem sortT_eq (l : List Int) : sortI l = sortT l := rfl
theorem sortT_len (l : List Int) : (sortT l).length = l.length := by unfold sortT; exact List.length_mergeSort l
theorem strN_len (E : List Rg) (A : List Int) (C : Int) (i : Nat) (ms : List Int) : ∀ k, (strN E A C i ms k).length ≤ k
  | 0 => Nat.le_refl _
  | k + 1 => by
    have := strN_len E A C i ms k
    unfold strN
    rw [List.length_append]
    split <;> simp <;> omega
theorem marks_val {E : List Rg} {A : List Int} {C : Int} (h : TaskOk E A C) (i : Nat) (k : Nat) : -2097152 ≤ xat (marksV E A i) k ∧ xat (marksV E A i) k ≤ 2097152 := by
  unfold xat
  cases hg : (marksV E A i)[k]? with
  | none => simp
  | some v => exact marks_in h v ((marksV_mem E A i v).1 (List.mem_of_getElem? hg))
theorem shop_tight (E : List Rg) (A X : List Int) (C : Int) (i : Nat) (h : TaskOk E A C) (hi : i < E.length) : Ctr Try.prog 84 [shopP E A X C, .int .i64 i] [] (.list 2 ((tightT E A C i).map eRg)) [] := by
  refine call_pure Try.func84 Try.call84 e_tasks_shop_tight ?_
  have hn := h.1
  have hl := tkL_len E A X
  have hld := fun t => shop_load E A X C i t h
  have hg : ∀ k, k < E.length → (tkL E A X)[k]? = some ((edAt E k).1, (edAt E k).2, xat A k, needT E A k, xat X k) := fun k hk => tkL_get X hk
  simp +contextual -implicitDefEqProofs (maxSteps := 1000000) only [c_tasks_shop_tight, shopP_eq, sm, sn, sxx, seval, hl]
  simp only [shopP_eq] at hld
  generalize tkL E A X = L at hl hg hld ⊢
  refine loop_ruleV [(5, 1)] (fun k : Nat => k ≤ E.length) (fun k => tm 87 [(0, .rptr [.list 5 (L.map eTk), .int .i64 C]), (1, .int .i64 i), (5, .sl 1 0 0 (marksN E A i k).length), (15, .list 5 (L.map eTk)), (16, .int .i64 E.length), (17, .int .i64 k)]) (fun k => [some (1, (marksN E A i k).map eI)]) (fun k => E.length - k) 0 (by simp +contextual -implicitDefEqProofs (maxSteps := 1000000) only [sm, sn, sxx, seval]) (Nat.zero_le _) ⟨[0], by decide, rfl, ?_, ?_⟩ ?_
  · simp +contextual -implicitDefEqProofs (maxSteps := 1000000) only [sm, sn, sxx, seval, marksN, List.map_nil, List.length_nil]
  · simp +contextual -implicitDefEqProofs (maxSteps := 1000000) only [sm, sn, sxx, seval, Int.natCast_zero, marksN, List.map_nil, List.length_nil]
  intro k hk
  have hml := marksN_len E A i k
  by_cases hlt : k < E.length
  · have hlt' : (k : Int) < (E.length : Int) := by omega
    have e2 : IntKind.i64.wrap ((k : Int) + 1) = ((k + 1 : Nat) : Int) := by rw [wrap_i64] <;> omega
    have hx := hg k hlt
    have hsu := task_sure (edAt E k).1 (edAt E k).2 (xat A k) (needT E A k) (xat X k) (sure_wrap h k)
    have hst : marksN E A i (k + 1) = marksN E A i k ++ markAt E A i k := rfl
    unfold markAt at hst
    generalize (edAt E k).1 = a1 at hx hsu hst
    generalize (edAt E k).2 = a2 at hx hsu hst
    simp +contextual -implicitDefEqProofs (maxSteps := 1000000) only [sm, sn, sxx, seval, hlt', hlt, hl, hx, om_Tk]
    refine callA_rule hsu (by simp +contextual -implicitDefEqProofs (maxSteps := 1000000) only [sm, sn, sxx, seval]) rfl ?_
    by_cases hki : k = i
    · have hki' : (k : Int) = (i : Int) := by omega
      rw [if_neg (fun h => h.1 hki), List.append_nil] at hst
      simp +contextual -implicitDefEqProofs (maxSteps := 1000000) only [sm, sn, sxx, seval, hki', e2]
      refine ⟨k + 1, by omega, by omega, [0], by decide, rfl, ?_, ?_⟩
      · simp +contextual -implicitDefEqProofs (maxSteps := 1000000) only [sm, sn, sxx, seval, hst]
      · rw [← hki']
        simp +contextual -implicitDefEqProofs (maxSteps := 1000000) only [sm, sn, sxx, seval, hst, e2]
    · have hki' : ¬ (k : Int) = (i : Int) := by omega
      by_cases hsr : a2 < a1 + xat A k
      · rw [if_pos ⟨hki, hsr⟩] at hst
        have c1 : ((marksN E A i k).length + 2) * 8 ≤ 140737488355328 := by omega
        have c2 : (marksN E A i k).length + 2 ≤ maxLen := by unfold maxLen; omega
        have hsn : (marksN E A i k).map eI ++ [AV.int .i64 a2, AV.int .i64 (a1 + xat A k)] = (marksN E A i (k + 1)).map eI := by rw [hst]; simp [eI]
        have hln : (marksN E A i (k + 1)).length = (marksN E A i k).length + 2 := by rw [hst, List.length_append]; rfl
        simp +contextual -implicitDefEqProofs (maxSteps := 1000000) only [sm, sn, sxx, seval, hki', hsr, c1, c2, hsn, e2]
        refine ⟨k + 1, by omega, by omega, [2], by decide, rfl, ?_, ?_⟩
        · simp +contextual -implicitDefEqProofs (maxSteps := 1000000) only [sm, sn, sxx, seval, hln]
        · simp +contextual -implicitDefEqProofs (maxSteps := 1000000) only [sm, sn, sxx, seval, hln]
      · rw [if_neg (fun h => hsr h.2), List.append_nil] at hst
        simp +contextual -implicitDefEqProofs (maxSteps := 1000000) only [sm, sn, sxx, seval, hki', hsr, e2]
        refine ⟨k + 1, by omega, by omega, [0], by decide, rfl, ?_, ?_⟩
        · simp +contextual -implicitDefEqProofs (maxSteps := 1000000) only [sm, sn, sxx, seval, hst]
        · simp +contextual -implicitDefEqProofs (maxSteps := 1000000) only [sm, sn, sxx, seval, hst]
  · have hkn : k = E.length := by omega
    subst hkn
    have hS := sorti_ctr (marksN E A i E.length) (by omega)
    rw [sortT_eq] at hS
    have hC := compact_def (sortT (marksN E A i E.length)) (by rw [sortT_len]; omega)
    rw [sortT_len] at hC
    have hmv : compL (sortT (marksN E A i E.length)) = marksV E A i := rfl
    rw [hmv] at hC
    have hMl := marksV_len E A i
    have hMb := marks_val h i
    have hti : tightT E A C i = strN E A C i (marksV E A i) ((marksV E A i).length - 1) := rfl
    have hSl := strN_len E A C i (marksV E A i)
    have hSs : ∀ k, strN E A C i (marksV E A i) (k + 1) = strN E A C i (marksV E A i) k ++ if C < ldV E A i (xat (marksV E A i) k) + needT E A i then [(xat (marksV E A i) k, xat (marksV E A i) (k + 1))] else [] := fun k => rfl
    have hS0 : strN E A C i (marksV E A i) 0 = [] := rfl
    rw [hti]
    generalize sortT (marksN E A i E.length) = s1 at hS hC
    generalize marksV E A i = ms at hC hMl hMb hSl hSs hS0 ⊢
    generalize strN E A C i ms = sF at hSl hSs hS0 ⊢
    simp +contextual -implicitDefEqProofs (maxSteps := 1000000) only [sm, sn, sxx, seval, Int.lt_irrefl]
    refine callM_rule [0] hS (by decide) ?_ ?_ ?_ ?_ ?_ ?_
    · simp +contextual -implicitDefEqProofs (maxSteps := 1000000) only [sm, sn, sxx, seval]
    · simp +contextual -implicitDefEqProofs (maxSteps := 1000000) only [sm, sn, sxx, seval]
    · simp +contextual -implicitDefEqProofs (maxSteps := 1000000) only [sm, sn, sxx, seval]
    · simp +contextual -implicitDefEqProofs (maxSteps := 1000000) only [sm, sn, sxx, seval]
    · simp +contextual -implicitDefEqProofs (maxSteps := 1000000) only [sm, sn, sxx, seval]
    simp +contextual -implicitDefEqProofs (maxSteps := 1000000) only [sm, sn, sxx, seval]
    refine callM_rule [0] hC (by decide) ?_ ?_ ?_ ?_ ?_ ?_
    · simp +contextual -implicitDefEqProofs (maxSteps := 1000000) only [sm, sn, sxx, seval]
    · simp +contextual -implicitDefEqProofs (maxSteps := 1000000) only [sm, sn, sxx, seval]
    · simp +contextual -implicitDefEqProofs (maxSteps := 1000000) only [sm, sn, sxx, seval]
    · simp +contextual -implicitDefEqProofs (maxSteps := 1000000) only [sm, sn, sxx, seval]
    · simp +contextual -implicitDefEqProofs (maxSteps := 1000000) only [sm, sn, sxx, seval]
    simp +contextual -implicitDefEqProofs (maxSteps := 1000000) only [sm, sn, sxx, seval]
    have hti2 : (L)[i]? = some ((edAt E i).1, (edAt E i).2, xat A i, needT E A i, xat X i) := hg i hi
    have b2 := task_at h (E.length + i)
    have hnd : needT E A i = xat A (E.length + i) := rfl
    have hCb := h.2.2.2.1
    generalize (edAt E i).1 = a1 at hti2
    generalize (edAt E i).2 = a2 at hti2
    refine loop_ruleV [(10, 2)] (fun j : Nat => j ≤ ms.length - 1) (fun j => tm 87 [(0, .rptr [.list 5 (L.map eTk), .int .i64 C]), (1, .int .i64 i), (5, .sl 1 0 0 ms.length), (10, .sl 2 1 0 (sF j).length), (11, .int .i64 ((j + 1 : Nat) : Int))]) (fun j => [some (1, ms.map eI), some (2, (sF j).map eRg)]) (fun j => ms.length - j) 0 (by simp +contextual -implicitDefEqProofs (maxSteps := 1000000) only [sm, sn, sxx, seval]) (Nat.zero_le _) ⟨[0, 1], by decide, rfl, ?_, ?_⟩ ?_
    · simp +contextual -implicitDefEqProofs (maxSteps := 1000000) only [sm, sn, sxx, seval, hS0, List.map_nil, List.length_nil]
    · simp +contextual -implicitDefEqProofs (maxSteps := 1000000) only [sm, sn, sxx, seval, hS0, Int.natCast_one, Nat.zero_add, List.length_nil, List.map_nil]
    intro j hj
    have hsl := hSl j
    by_cases hlt : j + 1 < ms.length
    · have hlt' : ((j + 1 : Nat) : Int) < (ms.length : Int) := by omega
      have e3 : IntKind.i64.wrap (((j + 1 : Nat) : Int) - 1) = (j : Int) := by rw [wrap_i64] <;> omega
      have e4 : IntKind.i64.wrap (((j + 1 : Nat) : Int) + 1) = ((j + 1 + 1 : Nat) : Int) := by rw [wrap_i64] <;> omega
      have g0 := xat_get (X := ms) (i := j) (by omega)
      have g1 := xat_get (X := ms) (i := j + 1) hlt
      have hjl : j < ms.length := by omega
      have hst := hSs j
      have b1 := ldV_bound h i (xat ms j)
      have w1 : IntKind.i64.wrap (ldV E A i (xat ms j) + needT E A i) = ldV E A i (xat ms j) + needT E A i := by rw [wrap_i64] <;> omega
      simp +contextual -implicitDefEqProofs (maxSteps := 1000000) only [sm, sn, sxx, seval, hlt', e3, g0, hjl]
      refine callA_rule (hld (xat ms j)) (by simp +contextual -implicitDefEqProofs (maxSteps := 1000000) only [sm, sn, sxx, seval]) rfl ?_
      by_cases hc : C < ldV E A i (xat ms j) + needT E A i
      · rw [if_pos hc] at hst
        have c1 : ((sF j).length + 1) * 16 ≤ 140737488355328 := by omega
        have c2 : (sF j).length + 1 ≤ maxLen := by unfold maxLen; omega
        have hsn : (sF j).map eRg ++ [AV.agg [.int .i64 (xat ms j), .int .i64 (xat ms (j + 1))]] = (sF (j + 1)).map eRg := by rw [hst]; simp [eRg]
        have hln : (sF (j + 1)).length = (sF j).length + 1 := by rw [hst, List.length_append]; rfl
        simp +contextual -implicitDefEqProofs (maxSteps := 1000000) only [sm, sn, sxx, seval, hti2, hi, hl, om_Tk, w1, hc, e3, e4, g0, g1, hjl, hlt, c1, c2, hsn]
        refine ⟨j + 1, by omega, by omega, [0, 2], by decide, rfl, ?_, ?_⟩
        · simp +contextual -implicitDefEqProofs (maxSteps := 1000000) only [sm, sn, sxx, seval, hln]
        · simp +contextual -implicitDefEqProofs (maxSteps := 1000000) only [sm, sn, sxx, seval, hln]
      · rw [if_neg hc, List.append_nil] at hst
        simp +contextual -implicitDefEqProofs (maxSteps := 1000000) only [sm, sn, sxx, seval, hti2, hi, hl, om_Tk, w1, hc, e4]
        refine ⟨j + 1, by omega, by omega, [0, 1], by decide, rfl, ?_, ?_⟩
        · simp +contextual -implicitDefEqProofs (maxSteps := 1000000) only [sm, sn, sxx, seval, hst]
        · simp +contextual -implicitDefEqProofs (maxSteps := 1000000) only [sm, sn, sxx, seval, hst]
    · have hlt' : ¬ ((j + 1 : Nat) : Int) < (ms.length : Int) := by omega
      have hje : j = ms.length - 1 := by omega
      have ht : List.take (sF j).length ((sF j).map eRg) = (sF j).map eRg := take_map _ _
      rw [← hje]
      simp +contextual -implicitDefEqProofs (maxSteps := 1000000) only [sm, sn, sxx, seval, hlt', ht]
end Go.Proofs.Ytnhedjpghpdbdaa
