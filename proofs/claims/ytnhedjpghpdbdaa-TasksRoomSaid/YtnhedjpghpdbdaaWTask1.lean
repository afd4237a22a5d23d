/- What the functions of package tasks compute: sure, at, load, over. -/
import Derived.Test.YtnhedjpghpdbdaaPlTask2
import Derived.Test.YtnhedjpghpdbdaaCTasks
namespace Go.Proofs.Ytnhedjpghpdbdaa
open Av
attribute [local irreducible] awp awpOpers
set_option linter.unusedSimpArgs false
set_option linter.unusedVariables false
set_option maxRecDepth 100000
set_option maxHeartbeats 4000000
abbrev Tsk := Int × Int × Int × Int × Int
def eTk (t : Tsk) : AV := .agg [.int .i64 t.1, .int .i64 t.2.1, .int .i64 t.2.2.1, .int .i64 t.2.2.2.1, .int .i64 t.2.2.2.2]
def tkAt (E : List Rg) (A X : List Int) (k : Nat) : Tsk := ((edAt E k).1, (edAt E k).2, xat A k, needT E A k, xat X k)
def tkL (E : List Rg) (A X : List Int) : List Tsk := (List.range E.length).map (tkAt E A X)
theorem tkL_len (E : List Rg) (A X : List Int) : (tkL E A X).length = E.length := by unfold tkL; simp
theorem tkL_get {E : List Rg} {A : List Int} (X : List Int) {k : Nat} (h : k < E.length) : (tkL E A X)[k]? = some ((edAt E k).1, (edAt E k).2, xat A k, needT E A k, xat X k) := by
  unfold tkL; rw [List.getElem?_map, List.getElem?_range h]; rfl
theorem om_Tk (a b c d e : Int) : Option.map eTk (some (a, b, c, d, e)) = some (.agg [.int .i64 a, .int .i64 b, .int .i64 c, .int .i64 d, .int .i64 e]) := rfl
theorem flatL_eTk (l : List Tsk) : flatL (l.map eTk) = true := flatL_map _ (fun _ => rfl) l
/-- a shop, as those see it that only read it -/
def shopP (E : List Rg) (A X : List Int) (C : Int) : AV := .rptr [.list 5 ((tkL E A X).map eTk), .int .i64 C]
theorem shopP_eq (E : List Rg) (A X : List Int) (C : Int) : shopP E A X C = .rptr [.list 5 ((tkL E A X).map eTk), .int .i64 C] := rfl
theorem task_sure (a b c d e : Int) (hw : IntKind.i64.wrap (a + c) = a + c) : Ctr Try.prog 120 [.agg [.int .i64 a, .int .i64 b, .int .i64 c, .int .i64 d, .int .i64 e]] [] (.tuple [.int .i64 b, .int .i64 (a + c)]) [] := by
  refine call_pure Try.func120 Try.call120 e_tasks_task_sure ?_
  simp +contextual -implicitDefEqProofs (maxSteps := 1000000) only [c_tasks_task_sure, sm, sn, sxx, seval, hw]
theorem task_at_ctr (a b c d e t : Int) (hw : IntKind.i64.wrap (a + c) = a + c) : Ctr Try.prog 95 [.agg [.int .i64 a, .int .i64 b, .int .i64 c, .int .i64 d, .int .i64 e], .int .i64 t] [] (.bool (decide (b ≤ t) && decide (t < a + c))) [] := by
  refine call_pure Try.func95 Try.call95 e_tasks_task_at ?_
  simp +contextual -implicitDefEqProofs (maxSteps := 1000000) only [c_tasks_task_at, sm, sn, sxx, seval]
  refine callA_rule (task_sure a b c d e hw) (wkL_refl _) rfl ?_
  by_cases h1 : b ≤ t
  · by_cases h2 : t < a + c
    · simp +contextual -implicitDefEqProofs (maxSteps := 1000000) only [sm, sn, sxx, seval, h1, h2]
    · simp +contextual -implicitDefEqProofs (maxSteps := 1000000) only [sm, sn, sxx, seval, h1, h2]
  · simp +contextual -implicitDefEqProofs (maxSteps := 1000000) only [sm, sn, sxx, seval, h1]
theorem sure_wrap {E : List Rg} {A : List Int} {C : Int} (h : TaskOk E A C) (k : Nat) : IntKind.i64.wrap ((edAt E k).1 + xat A k) = (edAt E k).1 + xat A k := by
  have := task_rg h k
  have := task_at h k
  rw [wrap_i64] <;> omega
theorem shop_load (E : List Rg) (A X : List Int) (C but t : Int) (h : TaskOk E A C) : Ctr Try.prog 56 [shopP E A X C, .int .i64 t, .int .i64 but] [] (.int .i64 (ldV E A but t)) [] := by
  refine call_pure Try.func56 Try.call56 e_tasks_shop_load ?_
  have hn := h.1
  have hl := tkL_len E A X
  have hg : ∀ k, k < E.length → (tkL E A X)[k]? = some ((edAt E k).1, (edAt E k).2, xat A k, needT E A k, xat X k) := fun k hk => tkL_get X hk
  simp +contextual -implicitDefEqProofs (maxSteps := 1000000) only [c_tasks_shop_load, shopP_eq, sm, sn, sxx, seval, hl]
  generalize tkL E A X = L at hl hg ⊢
  refine loop_rule (fun k : Nat => k ≤ E.length) (fun k => tm 34 [(1, .int .i64 t), (2, .int .i64 but), (7, .int .i64 (ldN E A but t k)), (13, .list 5 (L.map eTk)), (14, .int .i64 E.length), (15, .int .i64 k)]) (fun k => []) (fun k => E.length - k) 0 (Nat.zero_le _) ⟨[], by decide, rfl, ?_, ?_⟩ ?_
  · simp +contextual -implicitDefEqProofs (maxSteps := 1000000) only [sm, sn, sxx, seval]
  · simp +contextual -implicitDefEqProofs (maxSteps := 1000000) only [sm, sn, sxx, seval, Int.natCast_zero, ldN]
  · intro k hk
    by_cases hlt : k < E.length
    · have hlt' : (k : Int) < (E.length : Int) := by omega
      have e2 : IntKind.i64.wrap ((k : Int) + 1) = ((k + 1 : Nat) : Int) := by rw [wrap_i64] <;> omega
      have hx := hg k hlt
      have b1 := ldN_bound h but t k
      have b2 := task_at h (E.length + k)
      have w1 : IntKind.i64.wrap (ldN E A but t k + needT E A k) = ldN E A but t k + needT E A k := by unfold needT; rw [wrap_i64] <;> omega
      have hst : ldN E A but t (k + 1) = ldN E A but t k + if (k : Int) ≠ but ∧ sureT E A k t = true then needT E A k else 0 := rfl
      have hat := task_at_ctr (edAt E k).1 (edAt E k).2 (xat A k) (needT E A k) (xat X k) t (sure_wrap h k)
      have hsu : (decide ((edAt E k).2 ≤ t) && decide (t < (edAt E k).1 + xat A k)) = sureT E A k t := rfl
      rw [hsu] at hat
      generalize (edAt E k).1 = a1 at hx hat
      generalize (edAt E k).2 = a2 at hx hat
      by_cases hb : (k : Int) = but
      · rw [if_neg (fun h => h.1 hb), Int.add_zero] at hst
        subst hb
        simp +contextual -implicitDefEqProofs (maxSteps := 1000000) only [sm, sn, sxx, seval, hlt', hlt, hl, hx, om_Tk, e2]
        refine ⟨k + 1, by omega, by omega, [], by decide, rfl, ?_, ?_⟩
        · simp +contextual -implicitDefEqProofs (maxSteps := 1000000) only [sm, sn, sxx, seval]
        · simp +contextual -implicitDefEqProofs (maxSteps := 1000000) only [sm, sn, sxx, seval, hst]
      · simp +contextual -implicitDefEqProofs (maxSteps := 1000000) only [sm, sn, sxx, seval, hlt', hlt, hl, hx, om_Tk, hb]
        refine callA_rule hat (by simp +contextual -implicitDefEqProofs (maxSteps := 1000000) only [sm, sn, sxx, seval]) rfl ?_
        cases hs : sureT E A k t
        · rw [if_neg (fun h => by rw [hs] at h; exact absurd h.2 (by simp)), Int.add_zero] at hst
          simp +contextual -implicitDefEqProofs (maxSteps := 1000000) only [sm, sn, sxx, seval, e2]
          refine ⟨k + 1, by omega, by omega, [], by decide, rfl, ?_, ?_⟩
          · simp +contextual -implicitDefEqProofs (maxSteps := 1000000) only [sm, sn, sxx, seval]
          · simp +contextual -implicitDefEqProofs (maxSteps := 1000000) only [sm, sn, sxx, seval, hst]
        · rw [if_pos ⟨hb, hs⟩] at hst
          simp +contextual -implicitDefEqProofs (maxSteps := 1000000) only [sm, sn, sxx, seval, e2, w1]
          refine ⟨k + 1, by omega, by omega, [], by decide, rfl, ?_, ?_⟩
          · simp +contextual -implicitDefEqProofs (maxSteps := 1000000) only [sm, sn, sxx, seval]
          · simp +contextual -implicitDefEqProofs (maxSteps := 1000000) only [sm, sn, sxx, seval, hst]
    · have hkn : k = E.length := by omega
      subst hkn
      simp +contextual -implicitDefEqProofs (maxSteps := 1000000) only [sm, sn, sxx, seval, Int.lt_irrefl, ldV]
theorem shop_over (E : List Rg) (A X : List Int) (C : Int) (h : TaskOk E A C) : Ctr Try.prog 41 [shopP E A X C] [] (.bool (overT E A C)) [] := by
  refine call_pure Try.func41 Try.call41 e_tasks_shop_over ?_
  have hn := h.1
  have hl := tkL_len E A X
  have hld := fun t => shop_load E A X C (-1) t h
  have hg : ∀ k, k < E.length → (tkL E A X)[k]? = some ((edAt E k).1, (edAt E k).2, xat A k, needT E A k, xat X k) := fun k hk => tkL_get X hk
  simp +contextual -implicitDefEqProofs (maxSteps := 1000000) only [c_tasks_shop_over, shopP_eq, sm, sn, sxx, seval, hl]
  simp only [shopP_eq] at hld
  generalize tkL E A X = L at hl hg hld ⊢
  refine loop_rule (fun k : Nat => k ≤ E.length ∧ ∀ j, j < k → (fun j => !decide (C < ldV E A (-1) (edAt E j).2)) j = true) (fun k => tm 24 [(0, .rptr [.list 5 (L.map eTk), .int .i64 C]), (8, .list 5 (L.map eTk)), (9, .int .i64 E.length), (10, .int .i64 k)]) (fun k => []) (fun k => E.length - k) 0 ⟨by omega, by omega⟩ ⟨[], by decide, rfl, ?_, ?_⟩ ?_
  · simp +contextual -implicitDefEqProofs (maxSteps := 1000000) only [sm, sn, sxx, seval]
  · simp +contextual -implicitDefEqProofs (maxSteps := 1000000) only [sm, sn, sxx, seval, Int.natCast_zero]
  · rintro k ⟨hk, hok⟩
    by_cases hlt : k < E.length
    · have hlt' : (k : Int) < ((E.length : Nat) : Int) := by omega
      have e2 : IntKind.i64.wrap ((k : Int) + 1) = ((k + 1 : Nat) : Int) := by rw [wrap_i64] <;> omega
      have hx := hg k hlt
      by_cases hc : C < ldV E A (-1) (edAt E k).2
      · have hno : overT E A C = true := by
          unfold overT
          rw [List.any_eq_true]
          exact ⟨k, List.mem_range.2 hlt, decide_eq_true hc⟩
        rw [hno]
        simp +contextual -implicitDefEqProofs (maxSteps := 1000000) only [sm, sn, sxx, seval, hlt', hlt, hl, hx, om_Tk]
        refine callA_rule (hld (edAt E k).2) (by simp +contextual -implicitDefEqProofs (maxSteps := 1000000) only [sm, sn, sxx, seval]) rfl ?_
        simp +contextual -implicitDefEqProofs (maxSteps := 1000000) only [sm, sn, sxx, seval, hc]
      · simp +contextual -implicitDefEqProofs (maxSteps := 1000000) only [sm, sn, sxx, seval, hlt', hlt, hl, hx, om_Tk]
        refine callA_rule (hld (edAt E k).2) (by simp +contextual -implicitDefEqProofs (maxSteps := 1000000) only [sm, sn, sxx, seval]) rfl ?_
        simp +contextual -implicitDefEqProofs (maxSteps := 1000000) only [sm, sn, sxx, seval, hc, e2]
        refine ⟨k + 1, ⟨by omega, ?_⟩, by omega, [], by decide, rfl, ?_, ?_⟩
        · intro j hj
          rcases Nat.lt_succ_iff_lt_or_eq.1 hj with h | rfl
          · first | exact hok j h | simpa using hok j h
          · simp [hc]
        · simp +contextual -implicitDefEqProofs (maxSteps := 1000000) only [sm, sn, sxx, seval]
        · simp +contextual -implicitDefEqProofs (maxSteps := 1000000) only [sm, sn, sxx, seval]
    · have hke : k = E.length := by omega
      subst hke
      have hall := hok
      have hu : overT E A C = false := by
        unfold overT
        rw [List.any_eq_false]
        intro j hj
        have := hall j (List.mem_range.1 hj)
        simpa using this
      rw [hu]
      simp +contextual -implicitDefEqProofs (maxSteps := 1000000) only [sm, sn, sxx, seval, Int.lt_irrefl]
end Go.Proofs.Ytnhedjpghpdbdaa
