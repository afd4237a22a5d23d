/- Rows that are owned: slices.Clone of a row; domains of which some rows are owned. -/
import Derived.Test.YtnhedjpghpdbdaaWRows
import Derived.Test.YtnhedjpghpdbdaaGSet
namespace Go.Proofs.Ytnhedjpghpdbdaa
open Av
attribute [local irreducible] awp awpOpers
set_option linter.unusedSimpArgs false
set_option linter.unusedVariables false
set_option maxRecDepth 100000
set_option maxHeartbeats 4000000
theorem clone_rgsO (l : List Rg) (hl : l.length ≤ 1000000000000) : Ctr Try.prog 37 [eRgs l] [] (.sl 2 0 0 l.length) [some (2, l.map eRg)] := by
  refine call_box Try.func37 Try.call37 e_slices_Clone_sRange_Range ?_
  by_cases h0 : l = []
  · subst h0
    simp +contextual -implicitDefEqProofs (maxSteps := 1000000) only [c_slices_Clone_sRange_Range, eRgs, sm, sn, sxx, seval, Nat.zero_le]
    refine ⟨⟨[], [0], by decide, ?_⟩, [2], [0], by decide, ?_⟩
    · simp +contextual -implicitDefEqProofs (maxSteps := 1000000) only [sm, sn, sxx, seval]
    · simp +contextual -implicitDefEqProofs (maxSteps := 1000000) only [sm, sn, sxx, seval]
  · have hnn : (AV.list 2 (l.map eRg)).nonNil = true := by
      cases l with
      | nil => exact absurd rfl h0
      | cons a b => rfl
    have c1 : l.length * 16 ≤ 140737488355328 := by omega
    have c2 : l.length ≤ maxLen := by unfold maxLen; omega
    simp +contextual -implicitDefEqProofs (maxSteps := 1000000) only [c_slices_Clone_sRange_Range, eRgs, sm, sn, sxx, seval, hnn, c1, c2, Nat.le_refl]
    refine ⟨[], [0], by decide, ?_⟩
    simp +contextual -implicitDefEqProofs (maxSteps := 1000000) only [sm, sn, sxx, seval]
/-- rows: the first k owned, in boxes from b on -/
def rowsM (b : Nat) (F : List (List Rg)) (k : Nat) : List AV := (List.range F.length).map fun x => if x < k then .sl 2 (b + x) 0 ((F[x]?).getD []).length else eRgs ((F[x]?).getD [])
theorem rowsM_len (b : Nat) (F : List (List Rg)) (k : Nat) : (rowsM b F k).length = F.length := by unfold rowsM; simp
theorem rowsM_get {b : Nat} {F : List (List Rg)} {k x : Nat} (h : x < F.length) : (rowsM b F k)[x]? = some (if x < k then .sl 2 (b + x) 0 ((F[x]?).getD []).length else eRgs ((F[x]?).getD [])) := by
  unfold rowsM
  rw [List.getElem?_map, List.getElem?_range h]
  rfl
theorem rowsM_zero (b : Nat) (F : List (List Rg)) : rowsM b F 0 = F.map eRgs := by
  apply List.ext_getElem?
  intro x
  by_cases h : x < F.length
  · rw [rowsM_get h, if_neg (by omega), List.getElem?_map, List.getElem?_eq_getElem h]
    rfl
  · rw [List.getElem?_eq_none (by rw [rowsM_len]; omega), List.getElem?_eq_none (by simp; omega)]
theorem rowsM_at {b : Nat} {F : List (List Rg)} {k : Nat} {r : List Rg} (h : F[k]? = some r) : (rowsM b F k)[k]? = some (eRgs r) := by
  have hk := (List.getElem?_eq_some_iff.1 h).1
  rw [rowsM_get hk, if_neg (by omega), h]
  rfl
theorem rowsM_set {b : Nat} {F : List (List Rg)} {k : Nat} {r : List Rg} (h : F[k]? = some r) : (rowsM b F k).set k (.sl 2 (b + k) 0 r.length) = rowsM b F (k + 1) := by
  have hk := (List.getElem?_eq_some_iff.1 h).1
  apply List.ext_getElem?
  intro x
  by_cases hx : x < F.length
  · by_cases hxk : x = k
    · subst hxk
      rw [List.getElem?_set_self (by rw [rowsM_len]; exact hk), rowsM_get hx, if_pos (by omega), h]
      rfl
    · rw [List.getElem?_set_ne (fun e => hxk e.symm), rowsM_get hx, rowsM_get hx]
      by_cases h1 : x < k
      · rw [if_pos h1, if_pos (by omega)]
      · rw [if_neg h1, if_neg (by omega)]
  · rw [List.getElem?_eq_none (by rw [List.length_set, rowsM_len]; omega), List.getElem?_eq_none (by rw [rowsM_len]; omega)]
theorem okBx_flat {n : Nat} : ∀ R : Bx, FlatB R → okBx n R = true
  | [], _ => rfl
  | none :: R, h => okBx_flat R (flatB_cons h)
  | some (sz, es) :: R, h => by
    have hf : flatL es = true := h 0 sz es rfl
    simp only [okBx, Bool.and_eq_true]
    exact ⟨by unfold okEs; rw [hf], okBx_flat R (flatB_cons h)⟩
theorem rowsM_ok {b : Nat} {F : List (List Rg)} {k n : Nat} (h : b + k ≤ n) : okEs n (rowsM b F k) = true := by
  unfold okEs
  split
  · rfl
  · rw [List.all_eq_true]
    intro v hv
    unfold rowsM at hv
    rw [List.mem_map] at hv
    obtain ⟨x, -, rfl⟩ := hv
    split
    · simp only [okC, okL, decide_eq_true_eq]; omega
    · rfl
theorem rowsM_ren (F : List (List Rg)) : wkEs (renEs (1 :: List.range' 3 F.length) (rowsM 1 F F.length)) (rowsM 3 F F.length) := by
  have hm : (rowsM 1 F F.length).map (renC (1 :: List.range' 3 F.length)) = rowsM 3 F F.length := by
    unfold rowsM
    rw [List.map_map]
    refine List.map_congr_left fun x hx => ?_
    have hx : x < F.length := by simpa using hx
    simp only [Function.comp_apply, if_pos hx]
    have hg : getN (1 :: List.range' 3 F.length) (1 + x) = 3 + x := getN_eq _ _ _ (by rw [Nat.add_comm 1 x, List.getElem?_cons_succ, List.getElem?_range' hx]; simp)
    simp only [renC, renL, hg]
  unfold renEs
  split
  · rename_i hf
    by_cases h0 : F.length = 0
    · have : F = [] := List.length_eq_zero_iff.1 h0
      subst this
      exact wkEs_refl _
    · exfalso
      have hmem := List.mem_of_getElem? (rowsM_get (b := 1) (F := F) (k := F.length) (x := 0) (by omega))
      have := flatL_mem hf _ hmem
      rw [if_pos (by omega)] at this
      cases this
  · rw [hm]
    exact wkEs_refl _
theorem okC_rgs (n : Nat) (r : List Rg) : okC n (eRgs r) = true := by unfold eRgs okC; rfl
end Go.Proofs.Ytnhedjpghpdbdaa
