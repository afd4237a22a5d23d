/- What elem.Narrow computes. -/
import Derived.Test.YtnhedjpghpdbdaaWElem4
import Derived.Test.YtnhedjpghpdbdaaPlElem2
import Derived.Test.YtnhedjpghpdbdaaGMod
import Derived.Test.YtnhedjpghpdbdaaGSet
namespace Go.Proofs.Ytnhedjpghpdbdaa
open Av
attribute [local irreducible] awp awpOpers
set_option linter.unusedSimpArgs false
set_option linter.unusedVariables false
set_option maxRecDepth 100000
set_option maxHeartbeats 4000000
theorem elem_Narrow (c : Con) (D : List (List Rg)) (hD : D.length ≤ 1000000000000) (hd : ∀ d ∈ D, d.length ≤ 1000000000000) (hc : conFits c) :
    Ctr Try.prog 13 [eCon c, eDoms D] [] (.tuple [eDoms (elemL c D).1, .int .i64 (elemL c D).2]) [] := by
  obtain ⟨K, X, A, C⟩ := c
  refine call_pure Try.func13 Try.call13 e_elem_Narrow ?_
  simp +contextual -implicitDefEqProofs (maxSteps := 1000000) only [c_elem_Narrow, eCon, eIs, eDoms, sm, sn, sxx, seval]
  refine callA_rule (model_Right (D, [(K, X, A, C)], 0, 0) hD hd (by simp) (by simpa using hc)) (by simp +contextual -implicitDefEqProofs (maxSteps := 1000000) only [sm, sn, sxx, seval, eMod, eCons, eCon, eIs, eDoms, List.map_cons, List.map_nil]) rfl ?_
  cases hm : modB (D, [(K, X, A, C)], 0, 0)
  · have hres : elemL (K, X, A, C) D = ([], 2) := by
      unfold elemL
      rw [if_neg (by simp [hm])]
    rw [hres]
    simp +contextual -implicitDefEqProofs (maxSteps := 1000000) only [sm, sn, sxx, seval, eDoms]
  by_cases hK : K = 16
  · subst hK
    have hres : elemL (16, X, A, C) D = finE (narE (xat X 0) (lastV0 X) ((chsA A).filter (keepC (rowOf D (xat X 0)) (rowOf D (lastV0 X)))) D) := by
      unfold elemL
      rw [if_pos hm]
      rfl
    rw [hres]
    obtain ⟨L, hL⟩ : ∃ L, chsA A = L := ⟨_, rfl⟩
    obtain ⟨hX2, hAl, hX32, hi, hr, hdm, hAk⟩ := tab_facts hm
    have hd2 : ∀ d ∈ D, d.length ≤ 2000000 := fun d h => by have := dom_len (hdm d h); omega
    obtain ⟨hLl, hLc, hLk, hLg⟩ := chsA_facts hAl hAk
    rw [hL] at hLl hLc hLk hLg
    have ho := elem_of_tab X A C D hD (by omega) (by omega) (by omega)
    rw [hL] at ho
    have hn := elem_narrow (xat X 0) (lastV0 X) L D hi hr hd2 hLc hLl hLk hLg
    rw [hL]
    obtain ⟨E1, hE1⟩ : ∃ E1, narE (xat X 0) (lastV0 X) (L.filter (keepC (rowOf D (xat X 0)) (rowOf D (lastV0 X)))) D = E1 := ⟨_, rfl⟩
    have hE1l : E1.length = D.length := by rw [← hE1]; exact narE_len _ _ _ _
    have hE1r : ∀ d ∈ E1, rightB d = true := by rw [← hE1]; exact narE_right hi hr hdm (fun c h => hLk c (List.mem_filter.1 h).1) (fun c h => hLg c (List.mem_filter.1 h).1)
    have hE1d := right_rows hE1r
    rw [hE1] at hn
    rw [hE1]
    generalize L.filter (keepC (rowOf D (xat X 0)) (rowOf D (lastV0 X))) = K0 at hn ⊢
    rw [elB_eq] at ho
    rw [elB_eq, elB_eq, hE1l] at hn
    generalize xat X 0 = i at hn ho ⊢
    generalize lastV0 X = r at hn ho ⊢
    simp +contextual -implicitDefEqProofs (maxSteps := 1000000) only [sm, sn, sxx, seval, eCon, eIs]
    refine callO_rule ho rfl (by simp +contextual -implicitDefEqProofs (maxSteps := 1000000) only [sm, sn, sxx, seval, eCon, eIs, eDoms]) ?_ ?_ ?_
    · simp +contextual -implicitDefEqProofs (maxSteps := 1000000) only [sm, sn, sxx, seval]
    · simp +contextual -implicitDefEqProofs (maxSteps := 1000000) only [sm, sn, sxx, seval, eCh_flat]
    simp +contextual -implicitDefEqProofs (maxSteps := 1000000) only [sm, sn, sxx, seval, eCh_flat]
    refine callM_rule [1, 2, 3] hn (by decide) ?_ ?_ ?_ ?_ ?_ ?_
    · simp +contextual -implicitDefEqProofs (maxSteps := 1000000) only [sm, sn, sxx, seval, eCh_flat]
    · simp +contextual -implicitDefEqProofs (maxSteps := 1000000) only [sm, sn, sxx, seval]
    · simp +contextual -implicitDefEqProofs (maxSteps := 1000000) only [sm, sn, sxx, seval]
    · simp +contextual -implicitDefEqProofs (maxSteps := 1000000) only [sm, sn, sxx, seval]
    · simp +contextual -implicitDefEqProofs (maxSteps := 1000000) only [sm, sn, sxx, seval, eCh_flat]
    simp +contextual -implicitDefEqProofs (maxSteps := 1000000) only [sm, sn, sxx, seval, eCh_flat, eCon, eIs]
    refine loop_ruleV [(8, 1)] (fun k : Nat => k ≤ D.length ∧ ∀ (j : Nat) x, j < k → E1[j]? = some x → (fun d : List Rg => !decide (d.length = 0)) x = true) (fun k => tm 53 [(8, .sl 1 1 0 k), (37, .sl 1 0 0 D.length), (38, .int .i64 D.length), (39, .int .i64 k)]) (fun k => [some (1, E1.map eRgs), some (1, (E1.take k).map eRgs)]) (fun k => D.length - k) 0 (by simp +contextual -implicitDefEqProofs (maxSteps := 1000000) only [sm, sn, sxx, seval]) ⟨by omega, by omega⟩ ⟨[3, 4], by decide, rfl, ?_, ?_⟩ ?_
    · simp +contextual -implicitDefEqProofs (maxSteps := 1000000) only [sm, sn, sxx, seval]
    · simp +contextual -implicitDefEqProofs (maxSteps := 1000000) only [sm, sn, sxx, seval, Int.natCast_zero]
    rintro k ⟨hk, hok⟩
    have hkl : (E1.take k).length = k := by rw [List.length_take]; omega
    by_cases hlt : k < D.length
    · have hlt' : (k : Int) < (D.length : Int) := by omega
      have e2 : IntKind.i64.wrap ((k : Int) + 1) = ((k + 1 : Nat) : Int) := by rw [wrap_i64] <;> omega
      obtain ⟨w, hx⟩ : ∃ w, E1[k]? = some w := ⟨_, List.getElem?_eq_getElem (by omega)⟩
      by_cases h0 : w.length = 0
      · have hno := listall_no (p := fun d : List Rg => !decide (d.length = 0)) hx (by simp [h0])
        have hw : wholeB E1 = false := by
          unfold wholeB
          rw [← List.not_any_eq_all_not] at hno
          simpa using hno
        have h0' : (w.length : Int) = 0 := by omega
        unfold finE
        rw [hw]
        simp +contextual -implicitDefEqProofs (maxSteps := 1000000) only [sm, sn, sxx, seval, hlt', hlt, hx, eRgs, h0', tell, eDoms]
      · have h0' : ¬ (w.length : Int) = 0 := by omega
        have hs := take_snoc hx
        have c1 : (k + 1) * 24 ≤ 140737488355328 := by omega
        have c2 : k + 1 ≤ maxLen := by unfold maxLen; omega
        simp +contextual -implicitDefEqProofs (maxSteps := 1000000) only [sm, sn, sxx, seval, hlt', hlt, hx, eRgs, h0']
        refine callA_rule (clone_rgs w (hE1d w (List.mem_of_getElem? hx))) (by simp +contextual -implicitDefEqProofs (maxSteps := 1000000) only [sm, sn, sxx, seval, eRgs]) rfl ?_
        simp +contextual -implicitDefEqProofs (maxSteps := 1000000) only [sm, sn, sxx, seval, eRgs, hkl, c1, c2, hs, e2]
        refine ⟨k + 1, ⟨by omega, ?_⟩, by omega, [0, 2], by decide, rfl, ?_, ?_⟩
        · intro j y hj hy
          rcases Nat.lt_succ_iff_lt_or_eq.1 hj with h | rfl
          · first | exact hok j y h hy | simpa using hok j y h hy
          · rw [hx] at hy; injection hy with hy; subst hy; simp [h0]
        · simp +contextual -implicitDefEqProofs (maxSteps := 1000000) only [sm, sn, sxx, seval]
        · simp +contextual -implicitDefEqProofs (maxSteps := 1000000) only [sm, sn, sxx, seval]
    · have hkn : k = D.length := by omega
      subst hkn
      have hall := listall_yes (l := E1) (by rw [hE1l]; exact hok)
      have hw : wholeB E1 = true := by
        unfold wholeB
        rw [← List.not_any_eq_all_not] at hall
        simpa using hall
      have ht : E1.take D.length = E1 := by rw [← hE1l, List.take_length]
      have ht2 : List.take D.length (E1.map eRgs) = E1.map eRgs := by rw [← hE1l]; exact take_map _ _
      unfold finE
      rw [hw, ht]
      simp +contextual -implicitDefEqProofs (maxSteps := 1000000) only [sm, sn, sxx, seval, Int.lt_irrefl, tell, eDoms, ht2, hE1l]
  by_cases hK : K = 17
  · subst hK
    have hres : elemL (17, X, A, C) D = finE (choE X (xat X 0) (lastV0 X) (narE (xat X 0) (lastV0 X) ((chsX D ((X.take (X.length - 1)).drop 1)).filter (keepC (rowOf D (xat X 0)) (rowOf D (lastV0 X)))) D)) := by
      unfold elemL
      rw [if_pos hm]
      rfl
    rw [hres]
    obtain ⟨L, hL⟩ : ∃ L, chsX D ((X.take (X.length - 1)).drop 1) = L := ⟨_, rfl⟩
    obtain ⟨hX3, hA0, hX32, hI, hi, hr, hdm⟩ := var_facts hm
    have hd2 : ∀ d ∈ D, d.length ≤ 2000000 := fun d h => by have := dom_len (hdm d h); omega
    obtain ⟨hLl, hLc, hLk, hLg⟩ := chsX_facts hX3 hX32 hI hdm
    rw [hL] at hLl hLc hLk hLg
    have ho := elem_of_var X A C D hD (by omega) (by omega) (by omega) hX3 hI
    rw [hL] at ho
    have hn := elem_narrow (xat X 0) (lastV0 X) L D hi hr hd2 hLc hLl hLk hLg
    rw [hL]
    obtain ⟨E1, hE1⟩ : ∃ E1, narE (xat X 0) (lastV0 X) (L.filter (keepC (rowOf D (xat X 0)) (rowOf D (lastV0 X)))) D = E1 := ⟨_, rfl⟩
    have hE1l : E1.length = D.length := by rw [← hE1]; exact narE_len _ _ _ _
    have hE1r : ∀ d ∈ E1, rightB d = true := by rw [← hE1]; exact narE_right hi hr hdm (fun c h => hLk c (List.mem_filter.1 h).1) (fun c h => hLg c (List.mem_filter.1 h).1)
    have hE1d := right_rows hE1r
    have hvo := var_one (p := keepC (rowOf D (xat X 0)) (rowOf D (lastV0 X))) hX3 hX32 hI hi hr hdm
    rw [hL, hE1] at hvo
    have hch := elem_chosen X (xat X 0) (lastV0 X) (L.filter (keepC (rowOf D (xat X 0)) (rowOf D (lastV0 X)))) E1 (by omega) (by omega) hE1d (fun a b => by rw [hE1l]; exact hvo a b)
    rw [hE1] at hn
    rw [hE1]
    generalize L.filter (keepC (rowOf D (xat X 0)) (rowOf D (lastV0 X))) = K0 at hn hch ⊢
    rw [elB_eq] at ho
    rw [elB_eq, elB_eq, hE1l] at hn
    generalize xat X 0 = i at hn ho hch ⊢
    generalize lastV0 X = r at hn ho hch ⊢
    simp +contextual -implicitDefEqProofs (maxSteps := 1000000) only [sm, sn, sxx, seval, eCon, eIs]
    refine callO_rule ho rfl (by simp +contextual -implicitDefEqProofs (maxSteps := 1000000) only [sm, sn, sxx, seval, eCon, eIs, eDoms]) ?_ ?_ ?_
    · simp +contextual -implicitDefEqProofs (maxSteps := 1000000) only [sm, sn, sxx, seval]
    · simp +contextual -implicitDefEqProofs (maxSteps := 1000000) only [sm, sn, sxx, seval, eCh_flat]
    simp +contextual -implicitDefEqProofs (maxSteps := 1000000) only [sm, sn, sxx, seval, eCh_flat]
    refine callM_rule [1, 2, 3] hn (by decide) ?_ ?_ ?_ ?_ ?_ ?_
    · simp +contextual -implicitDefEqProofs (maxSteps := 1000000) only [sm, sn, sxx, seval, eCh_flat]
    · simp +contextual -implicitDefEqProofs (maxSteps := 1000000) only [sm, sn, sxx, seval]
    · simp +contextual -implicitDefEqProofs (maxSteps := 1000000) only [sm, sn, sxx, seval]
    · simp +contextual -implicitDefEqProofs (maxSteps := 1000000) only [sm, sn, sxx, seval]
    · simp +contextual -implicitDefEqProofs (maxSteps := 1000000) only [sm, sn, sxx, seval, eCh_flat]
    simp +contextual -implicitDefEqProofs (maxSteps := 1000000) only [sm, sn, sxx, seval, eCh_flat, eCon, eIs]
    obtain ⟨E2, hE2⟩ : ∃ E2, choE X i r E1 = E2 := ⟨_, rfl⟩
    have hE2l : E2.length = D.length := by rw [← hE2, choE_len, hE1l]
    have hE2d : ∀ d ∈ E2, d.length ≤ 1000000000000 := by rw [← hE2]; exact right_rows (choE_right hE1r)
    rw [elB_eq, elB_eq, hE2, hE2l, hE1l] at hch
    rw [hE2]
    refine callM_rule [1, 2, 3] hch (by decide) ?_ ?_ ?_ ?_ ?_ ?_
    · simp +contextual -implicitDefEqProofs (maxSteps := 1000000) only [sm, sn, sxx, seval, eCh_flat]
    · simp +contextual -implicitDefEqProofs (maxSteps := 1000000) only [sm, sn, sxx, seval]
    · simp +contextual -implicitDefEqProofs (maxSteps := 1000000) only [sm, sn, sxx, seval]
    · simp +contextual -implicitDefEqProofs (maxSteps := 1000000) only [sm, sn, sxx, seval]
    · simp +contextual -implicitDefEqProofs (maxSteps := 1000000) only [sm, sn, sxx, seval, eCh_flat]
    simp +contextual -implicitDefEqProofs (maxSteps := 1000000) only [sm, sn, sxx, seval, eCh_flat]
    refine loop_ruleV [(8, 1)] (fun k : Nat => k ≤ D.length ∧ ∀ (j : Nat) x, j < k → E2[j]? = some x → (fun d : List Rg => !decide (d.length = 0)) x = true) (fun k => tm 53 [(8, .sl 1 1 0 k), (37, .sl 1 0 0 D.length), (38, .int .i64 D.length), (39, .int .i64 k)]) (fun k => [some (1, E2.map eRgs), some (1, (E2.take k).map eRgs)]) (fun k => D.length - k) 0 (by simp +contextual -implicitDefEqProofs (maxSteps := 1000000) only [sm, sn, sxx, seval]) ⟨by omega, by omega⟩ ⟨[3, 4], by decide, rfl, ?_, ?_⟩ ?_
    · simp +contextual -implicitDefEqProofs (maxSteps := 1000000) only [sm, sn, sxx, seval]
    · simp +contextual -implicitDefEqProofs (maxSteps := 1000000) only [sm, sn, sxx, seval, Int.natCast_zero]
    rintro k ⟨hk, hok⟩
    have hkl : (E2.take k).length = k := by rw [List.length_take]; omega
    by_cases hlt : k < D.length
    · have hlt' : (k : Int) < (D.length : Int) := by omega
      have e2 : IntKind.i64.wrap ((k : Int) + 1) = ((k + 1 : Nat) : Int) := by rw [wrap_i64] <;> omega
      obtain ⟨w, hx⟩ : ∃ w, E2[k]? = some w := ⟨_, List.getElem?_eq_getElem (by omega)⟩
      by_cases h0 : w.length = 0
      · have hno := listall_no (p := fun d : List Rg => !decide (d.length = 0)) hx (by simp [h0])
        have hw : wholeB E2 = false := by
          unfold wholeB
          rw [← List.not_any_eq_all_not] at hno
          simpa using hno
        have h0' : (w.length : Int) = 0 := by omega
        unfold finE
        rw [hw]
        simp +contextual -implicitDefEqProofs (maxSteps := 1000000) only [sm, sn, sxx, seval, hlt', hlt, hx, eRgs, h0', tell, eDoms]
      · have h0' : ¬ (w.length : Int) = 0 := by omega
        have hs := take_snoc hx
        have c1 : (k + 1) * 24 ≤ 140737488355328 := by omega
        have c2 : k + 1 ≤ maxLen := by unfold maxLen; omega
        simp +contextual -implicitDefEqProofs (maxSteps := 1000000) only [sm, sn, sxx, seval, hlt', hlt, hx, eRgs, h0']
        refine callA_rule (clone_rgs w (hE2d w (List.mem_of_getElem? hx))) (by simp +contextual -implicitDefEqProofs (maxSteps := 1000000) only [sm, sn, sxx, seval, eRgs]) rfl ?_
        simp +contextual -implicitDefEqProofs (maxSteps := 1000000) only [sm, sn, sxx, seval, eRgs, hkl, c1, c2, hs, e2]
        refine ⟨k + 1, ⟨by omega, ?_⟩, by omega, [0, 2], by decide, rfl, ?_, ?_⟩
        · intro j y hj hy
          rcases Nat.lt_succ_iff_lt_or_eq.1 hj with h | rfl
          · first | exact hok j y h hy | simpa using hok j y h hy
          · rw [hx] at hy; injection hy with hy; subst hy; simp [h0]
        · simp +contextual -implicitDefEqProofs (maxSteps := 1000000) only [sm, sn, sxx, seval]
        · simp +contextual -implicitDefEqProofs (maxSteps := 1000000) only [sm, sn, sxx, seval]
    · have hkn : k = D.length := by omega
      subst hkn
      have hall := listall_yes (l := E2) (by rw [hE2l]; exact hok)
      have hw : wholeB E2 = true := by
        unfold wholeB
        rw [← List.not_any_eq_all_not] at hall
        simpa using hall
      have ht : E2.take D.length = E2 := by rw [← hE2l, List.take_length]
      have ht2 : List.take D.length (E2.map eRgs) = E2.map eRgs := by rw [← hE2l]; exact take_map _ _
      unfold finE
      rw [hw, ht]
      simp +contextual -implicitDefEqProofs (maxSteps := 1000000) only [sm, sn, sxx, seval, Int.lt_irrefl, tell, eDoms, ht2, hE2l]
  have hres : elemL (K, X, A, C) D = ([], 10) := by
    unfold elemL
    rw [if_pos hm]
    rename_i h16
    rw [if_neg h16, if_neg hK]
  rw [hres]
  rename_i h16
  simp +contextual -implicitDefEqProofs (maxSteps := 1000000) only [sm, sn, sxx, seval, eCon, eIs]
  refine callO_rule (elem_of_no K X A C D h16 hK) rfl (by simp +contextual -implicitDefEqProofs (maxSteps := 1000000) only [sm, sn, sxx, seval, eCon, eIs, eDoms]) rfl rfl ?_
  simp +contextual -implicitDefEqProofs (maxSteps := 1000000) only [sm, sn, sxx, seval, eDoms]
end Go.Proofs.Ytnhedjpghpdbdaa
