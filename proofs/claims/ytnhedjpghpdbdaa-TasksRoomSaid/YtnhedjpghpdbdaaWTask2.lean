/- What tasks.of computes. -/
import Derived.Test.YtnhedjpghpdbdaaWTask1
import Derived.Test.YtnhedjpghpdbdaaGSet
import Derived.Test.YtnhedjpghpdbdaaGMod
namespace Go.Proofs.Ytnhedjpghpdbdaa
open Av
attribute [local irreducible] awp awpOpers
set_option linter.unusedSimpArgs false
set_option linter.unusedVariables false
set_option maxRecDepth 100000
set_option maxHeartbeats 4000000
theorem tasks_of_no (c : Con) (D : List (List Rg)) (hD : D.length ≤ 1000000000000) (hd : ∀ d ∈ D, d.length ≤ 1000000000000) (hc : conFits c) (e : Int) (he : modB (D, [c], 0, 0) = false ∧ e = 2 ∨ modB (D, [c], 0, 0) = true ∧ c.1 ≠ 19 ∧ e = 10) :
    Ctr Try.prog 40 [eCon c, eDoms D] [] (.tuple [.nilp, .int .i64 e]) [] := by
  obtain ⟨K, X, A, C⟩ := c
  refine call_pure Try.func40 Try.call40 e_tasks_of ?_
  simp +contextual -implicitDefEqProofs (maxSteps := 1000000) only [c_tasks_of, eCon, eIs, eDoms, sm, sn, sxx, seval]
  refine callA_rule (model_Right (D, [(K, X, A, C)], 0, 0) hD hd (by simp) (by simpa using hc)) (by simp +contextual -implicitDefEqProofs (maxSteps := 1000000) only [sm, sn, sxx, seval, eMod, eCons, eCon, eIs, eDoms, List.map_cons, List.map_nil]) rfl ?_
  rcases he with ⟨hm, rfl⟩ | ⟨hm, hK, rfl⟩
  · rw [hm]
    simp +contextual -implicitDefEqProofs (maxSteps := 1000000) only [sm, sn, sxx, seval]
  · rw [hm]
    simp only at hK
    simp +contextual -implicitDefEqProofs (maxSteps := 1000000) only [sm, sn, sxx, seval, hK, eCon, eIs]
/-- a shop's boxes -/
def shB (E : List Rg) (A X : List Int) (C : Int) : Bx := [some (2, [.agg [.sl 5 1 0 E.length, .int .i64 C]]), some (5, (tkL E A X).map eTk)]
theorem shB_eq (E : List Rg) (A X : List Int) (C : Int) : shB E A X C = [some (2, [.agg [.sl 5 1 0 E.length, .int .i64 C]]), some (5, (tkL E A X).map eTk)] := rfl
theorem tasks_of_yes (X A : List Int) (C : Int) (D : List (List Rg)) (hm : modB (D, [(19, X, A, C)], 0, 0) = true) :
    Ctr Try.prog 40 [eCon (19, X, A, C), eDoms D] [] (.tuple [.ptr 2 0 0 0, .int .i64 0]) (shB (edRows D X) A X C) := by
  refine call_box Try.func40 Try.call40 e_tasks_of ?_
  obtain ⟨f1, hDk, h32, hI, hAl, hT⟩ := task_facts hm
  have hdm := (one_facts hm).2.1
  have hd : ∀ d ∈ D, d.length ≤ 1000000000000 := fun d h => by have := dom_len (hdm d h); omega
  have hl := tkL_len (edRows D X) A X
  rw [edRows_len] at hl
  have hg : ∀ k, k < X.length → (tkL (edRows D X) A X)[k]? = some ((endsV (rowOf D (xat X k))).1, (endsV (rowOf D (xat X k))).2, xat A k, xat A (X.length + k), xat X k) := fun k hk => by
    rw [tkL_get X (by rw [edRows_len]; exact hk), edRows_at hk]
    unfold needT
    rw [edRows_len]
  rw [shB_eq, edRows_len]
  simp +contextual -implicitDefEqProofs (maxSteps := 1000000) only [c_tasks_of, eCon, eIs, eDoms, sm, sn, sxx, seval]
  refine callA_rule (model_Right (D, [(19, X, A, C)], 0, 0) (by simp only; omega) hd (by simp) (by simp [conFits]; omega)) (by simp +contextual -implicitDefEqProofs (maxSteps := 1000000) only [sm, sn, sxx, seval, eMod, eCons, eCon, eIs, eDoms, List.map_cons, List.map_nil]) rfl ?_
  rw [hm]
  generalize tkL (edRows D X) A X = L at hl hg ⊢
  simp +contextual -implicitDefEqProofs (maxSteps := 1000000) only [sm, sn, sxx, seval, eCon, eIs]
  refine loop_ruleF [(1, 0, 5)] [] (fun k : Nat => k ≤ X.length) (fun k => tm 75 [(1, .list 1 (D.map eRgs)), (2, .ptr 4 0 0 0), (6, .ptr 2 1 0 0), (7, .int .i64 X.length), (31, .list 1 (X.map eI)), (32, .int .i64 X.length), (33, .int .i64 k)])
    (fun k => [some (4, [eCon (19, X, A, C)]), some (2, [.agg [.sl 5 2 0 k, .int .i64 C]]), some (5, (L.take k).map eTk)]) (fun k => X.length - k) 0 (by simp +contextual -implicitDefEqProofs (maxSteps := 1000000) only [sm, sn, sxx, seval, eCon, eIs]) rfl (Nat.zero_le _) ⟨[0, 1, 2], by decide, rfl, ?_, ?_⟩ ?_
  · simp +contextual -implicitDefEqProofs (maxSteps := 1000000) only [sm, sn, sxx, seval, eCon, eIs]
  · simp +contextual -implicitDefEqProofs (maxSteps := 1000000) only [sm, sn, sxx, seval, Int.natCast_zero]
  intro k hk
  have htl : (L.take k).length = k := by rw [List.length_take]; omega
  by_cases hlt : k < X.length
  · have hlt' : (k : Int) < (X.length : Int) := by omega
    have e2 : IntKind.i64.wrap ((k : Int) + 1) = ((k + 1 : Nat) : Int) := by rw [wrap_i64] <;> omega
    have c1 : (k + 1) * 40 ≤ 140737488355328 := by omega
    have c2 : k + 1 ≤ maxLen := by unfold maxLen; omega
    have hx := xat_get hlt
    have hin := hI k hlt
    have hr := row_get hin
    have h0 := hin.1
    have hlen := hd _ (row_mem hin)
    have ha : A[k]? = some (xat A k) := xat_get (by omega)
    have hb : A[X.length + k]? = some (xat A (X.length + k)) := xat_get (by omega)
    have hla : (k : Int) < (A.length : Int) := by omega
    have w2 : IntKind.i64.wrap ((X.length : Int) + (k : Int)) = ((X.length + k : Nat) : Int) := by rw [wrap_i64] <;> omega
    have hla2 : k < A.length := by omega
    have hlb2 : X.length + k < A.length := by omega
    have hs := take_snoc (hg k hlt)
    have hEn := set_Ends (rowOf D (xat X k)) hlen
    obtain ⟨⟨p, q⟩, hpq⟩ : ∃ y, endsV (rowOf D (xat X k)) = y := ⟨_, rfl⟩
    rw [hpq] at hs hEn
    have hsn : (L.take k).map eTk ++ [AV.agg [.int .i64 p, .int .i64 q, .int .i64 (xat A k), .int .i64 (xat A (X.length + k)), .int .i64 (xat X k)]] = (L.take (k + 1)).map eTk := by
      rw [← hs, List.map_append]; rfl
    simp +contextual -implicitDefEqProofs (maxSteps := 1000000) only [sm, sn, sxx, seval, eCon, eIs, hlt', hlt, hx, h0, hr]
    refine callA_rule hEn (by simp +contextual -implicitDefEqProofs (maxSteps := 1000000) only [sm, sn, sxx, seval, eRgs]) rfl ?_
    simp +contextual -implicitDefEqProofs (maxSteps := 1000000) only [sm, sn, sxx, seval, eCon, eIs, eRg, ha, hb, hla2, hlb2, w2, e2, htl, c1, c2, hsn]
    refine ⟨k + 1, by omega, by omega, [0, 1, 4], by decide, rfl, ?_, ?_⟩
    · simp +contextual -implicitDefEqProofs (maxSteps := 1000000) only [sm, sn, sxx, seval, eCon, eIs, flatL_eTk]
    · simp +contextual -implicitDefEqProofs (maxSteps := 1000000) only [sm, sn, sxx, seval]
  · have hkn : k = X.length := by omega
    subst hkn
    have ht : L.take X.length = L := by rw [← hl, List.take_length]
    rw [ht]
    simp +contextual -implicitDefEqProofs (maxSteps := 1000000) only [sm, sn, sxx, seval, Int.lt_irrefl, flatL_eTk]
    refine ⟨[], [1, 2], by decide, ?_⟩
    simp +contextual -implicitDefEqProofs (maxSteps := 1000000) only [sm, sn, sxx, seval, flatL_eTk]
    try rfl
end Go.Proofs.Ytnhedjpghpdbdaa
