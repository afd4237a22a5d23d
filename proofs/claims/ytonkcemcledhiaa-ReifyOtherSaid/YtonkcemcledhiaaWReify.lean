/- What the functions of package reify compute. -/
import Derived.Test.YtonkcemcledhiaaAv3
import Derived.Test.YtonkcemcledhiaaPlReify
import Derived.Test.YtonkcemcledhiaaCReify
namespace Go.Proofs.Ytonkcemcledhiaa
open Av
attribute [local irreducible] awp awpOpers
set_option linter.unusedSimpArgs false
set_option linter.unusedVariables false
set_option maxRecDepth 100000
set_option maxHeartbeats 4000000
/-- a sum with its flag, in a box -/
def flB (c : Con) (D : List (List Rg)) : Bx := [some (7, [.agg [.int .i64 c.1, .list 1 ((headX c).map eI), .list 1 (c.2.2.1.map eI), .int .i64 c.2.2.2, .int .i64 c.1, .int .i64 (flagX c), .list 1 (D.map eRgs)]])]
theorem flB_eq (c : Con) (D : List (List Rg)) : flB c D = [some (7, [.agg [.int .i64 c.1, .list 1 ((headX c).map eI), .list 1 (c.2.2.1.map eI), .int .i64 c.2.2.2, .int .i64 c.1, .int .i64 (flagX c), .list 1 (D.map eRgs)]])] := rfl
theorem mod_rows {c : Con} {D : List (List Rg)} (hm : modB (D, [c], 0, 0) = true) : ∀ d ∈ D, d.length ≤ 1000000000000 := fun d hd => by
  have := dom_len ((one_facts hm).2.1 d hd)
  omega
theorem reify_plain (c : Con) (D : List (List Rg)) (hK : 4 ≤ c.1 ∧ c.1 ≤ 6) (hm : modB (D, [c], 0, 0) = true) (k : Int) (hk : 1 ≤ k ∧ k ≤ 3) : Ctr Try.prog 133 [.ptr 7 0 0 0, .int .i64 k] (flB c D) (.tuple [eDoms (linearL (k, headX c, c.2.2.1, c.2.2.2) D).1, .int .i64 (linearL (k, headX c, c.2.2.1, c.2.2.2) D).2]) (flB c D) := by
  refine call_boxF Try.func133 Try.call133 e_reify_flagged_plain ?_
  have hcon : ∃ K X A C, c = (K, X, A, C) := ⟨c.1, c.2.1, c.2.2.1, c.2.2.2, rfl⟩
  obtain ⟨f1, f2, f3, f4, f5, f6⟩ := sum_facts hm (by omega)
  have hd := mod_rows hm
  have hhl := head_len hK hm
  have hxl := reif_len hK hm
  obtain ⟨hf, hft⟩ := flag_facts hK hm
  simp +contextual -implicitDefEqProofs (maxSteps := 1000000) only [c_reify_flagged_plain, flB_eq, sm, sn, sxx, seval]
  refine callA_rule (linear_Narrow (k, headX c, c.2.2.1, c.2.2.2) D (by omega) hd ⟨by simp only; omega, by simp only; omega⟩ hk) (by simp +contextual -implicitDefEqProofs (maxSteps := 1000000) only [sm, sn, sxx, seval, eCon, eIs, eDoms]) rfl ?_
  generalize (linearL (k, headX c, c.2.2.1, c.2.2.2) D).1 = x1
  generalize (linearL (k, headX c, c.2.2.1, c.2.2.2) D).2 = x2
  simp +contextual -implicitDefEqProofs (maxSteps := 1000000) only [sm, sn, sxx, seval, eDoms, h_normal, h_ret]
  refine ⟨[0], by decide, rfl, ?_, ?_⟩
  · simp +contextual -implicitDefEqProofs (maxSteps := 1000000) only [sm, sn, sxx, seval, flB_eq, eDoms, eIs]
  · simp +contextual -implicitDefEqProofs (maxSteps := 1000000) only [sm, sn, sxx, seval, eDoms, killL]
theorem plain_is {c : Con} {D : List (List Rg)} (hK : 4 ≤ c.1 ∧ c.1 ≤ 6) (hm : modB (D, [c], 0, 0) = true) : linearL (1, headX c, c.2.2.1, c.2.2.2) D = tell (isS D (termsOf c) c.2.2.2) := by
  unfold linearL
  rw [if_pos (mod_plain hK hm ⟨by omega, by omega⟩), terms_head 1 hK hm]
  rfl
theorem plain_most {c : Con} {D : List (List Rg)} (hK : 4 ≤ c.1 ∧ c.1 ≤ 6) (hm : modB (D, [c], 0, 0) = true) : linearL (2, headX c, c.2.2.1, c.2.2.2) D = tell (mostS D (termsOf c) c.2.2.2) := by
  unfold linearL
  rw [if_pos (mod_plain hK hm ⟨by omega, by omega⟩), terms_head 2 hK hm]
  rfl
theorem plain_not {c : Con} {D : List (List Rg)} (hK : 4 ≤ c.1 ∧ c.1 ≤ 6) (hm : modB (D, [c], 0, 0) = true) : linearL (3, headX c, c.2.2.1, c.2.2.2) D = tell (notS D (termsOf c) c.2.2.2) := by
  unfold linearL
  rw [if_pos (mod_plain hK hm ⟨by omega, by omega⟩), terms_head 3 hK hm]
  rfl
theorem plain_ends {c : Con} {D : List (List Rg)} (hK : 4 ≤ c.1 ∧ c.1 ≤ 6) (hm : modB (D, [c], 0, 0) = true) : lendsL (2, headX c, c.2.2.1, c.2.2.2) D = (spanK D (termsOf c) (termsOf c).length, true) := by
  unfold lendsL
  rw [if_pos ⟨mod_plain hK hm ⟨by omega, by omega⟩, by simp only; omega, by simp only; omega⟩, terms_head 2 hK hm]
theorem tell_0 (E : List (List Rg)) : tell (E, true) = (E, 0) := rfl
theorem tell_12 (E : List (List Rg)) : tell (E, false) = ([], 12) := rfl
theorem reify_lose (c : Con) (D : List (List Rg)) (hK : 4 ≤ c.1 ∧ c.1 ≤ 6) (hm : modB (D, [c], 0, 0) = true) (v : Int) (hv : -10 ≤ v ∧ v ≤ 10) : Ctr Try.prog 135 [.ptr 7 0 0 0, .int .i64 v] (flB c D) (.tuple [eDoms (tell (loseS D (flagX c) v)).1, .int .i64 (tell (loseS D (flagX c) v)).2]) (flB c D) := by
  refine call_boxF Try.func135 Try.call135 e_reify_flagged_lose ?_
  have hcon : ∃ K X A C, c = (K, X, A, C) := ⟨c.1, c.2.1, c.2.2.1, c.2.2.2, rfl⟩
  obtain ⟨f1, f2, f3, f4, f5, f6⟩ := sum_facts hm (by omega)
  have hd := mod_rows hm
  have hhl := head_len hK hm
  have hxl := reif_len hK hm
  obtain ⟨hf, hft⟩ := flag_facts hK hm
  simp +contextual -implicitDefEqProofs (maxSteps := 1000000) only [c_reify_flagged_lose, flB_eq, sm, sn, sxx, seval]
  refine callO_rule (clone_doms D (by omega)) rfl (wkL_refl _) rfl ?_ ?_
  · simp +contextual -implicitDefEqProofs (maxSteps := 1000000) only [sm, sn, sxx, seval]
  have hr := row_get hf
  have h0 := hf.1
  have hxn : (flagX c).toNat < D.length := by omega
  have hl := hd _ (row_mem hf)
  have hS : loseS D (flagX c) v = (D.set (flagX c).toNat (withoutS v (rowOf D (flagX c))), decide (0 < (withoutS v (rowOf D (flagX c))).length)) := by
    unfold loseS
    rw [wholeB_set (dok_pos f2) hf]
  rw [hS]
  clear hS
  generalize hfx : flagX c = x at hf hr h0 hxn hl ⊢
  simp +contextual -implicitDefEqProofs (maxSteps := 1000000) only [sm, sn, sxx, seval, hfx, hr, h0, hxn]
  refine callA_rule (set_Without (rowOf D x) v hl (by omega)) (wkL_refl _) rfl ?_
  generalize withoutS v (rowOf D x) = r'
  have hs' : (D.map eRgs).set x.toNat (.list 2 (r'.map eRg)) = (D.set x.toNat r').map eRgs := set_rows2 D _ r'
  have hg : (D.set x.toNat r')[x.toNat]? = some r' := List.getElem?_set_self hxn
  have hEl : (D.set x.toNat r').length = D.length := List.length_set
  generalize D.set x.toNat r' = E at hs' hg hEl ⊢
  have t1 : List.take D.length (E.map eRgs) = E.map eRgs := by rw [← hEl]; exact take_map _ _
  by_cases h : r'.length = 0
  · have h' : (r'.length : Int) = 0 := by omega
    have hb : decide (0 < r'.length) = false := by simp [h]
    rw [hb]
    simp +contextual -implicitDefEqProofs (maxSteps := 1000000) only [sm, sn, sxx, seval, eRgs, hfx, hr, h0, hxn, hs', hg, h', h_normal, h_ret, tell_12]
    refine ⟨[0], by decide, rfl, ?_, ?_⟩
    · simp +contextual -implicitDefEqProofs (maxSteps := 1000000) only [sm, sn, sxx, seval, flB_eq, eDoms, eIs]
    · simp +contextual -implicitDefEqProofs (maxSteps := 1000000) only [sm, sn, sxx, seval, eDoms, killL]
  · have h' : ((r'.length : Int) = 0) = False := by simp only [eq_iff_iff, iff_false]; omega
    have hb : decide (0 < r'.length) = true := by simp; omega
    rw [hb]
    simp +contextual -implicitDefEqProofs (maxSteps := 1000000) only [sm, sn, sxx, seval, eRgs, hfx, hr, h0, hxn, hs', hg, h', h_normal, h_ret, tell_0, hEl]
    refine ⟨[0], by decide, rfl, ?_, ?_⟩
    · simp +contextual -implicitDefEqProofs (maxSteps := 1000000) only [sm, sn, sxx, seval, flB_eq, eDoms, eIs]
    · simp +contextual -implicitDefEqProofs (maxSteps := 1000000) only [sm, sn, sxx, seval, eDoms, killL, hEl, t1]
theorem reify_open (c : Con) (D : List (List Rg)) (hK : 4 ≤ c.1 ∧ c.1 ≤ 6) (hm : modB (D, [c], 0, 0) = true) : Ctr Try.prog 95 [.ptr 7 0 0 0] (flB c D) (.tuple [eDoms (tell (openS c.1 D (termsOf c) c.2.2.2 (flagX c))).1, .int .i64 (tell (openS c.1 D (termsOf c) c.2.2.2 (flagX c))).2]) (flB c D) := by
  refine call_boxF Try.func95 Try.call95 e_reify_flagged_open ?_
  have hcon : ∃ K X A C, c = (K, X, A, C) := ⟨c.1, c.2.1, c.2.2.1, c.2.2.2, rfl⟩
  obtain ⟨f1, f2, f3, f4, f5, f6⟩ := sum_facts hm (by omega)
  have hd := mod_rows hm
  have hhl := head_len hK hm
  have hxl := reif_len hK hm
  obtain ⟨hf, hft⟩ := flag_facts hK hm
  simp +contextual -implicitDefEqProofs (maxSteps := 1000000) only [c_reify_flagged_open, flB_eq, sm, sn, sxx, seval]
  refine callA_rule (linear_Ends (2, headX c, c.2.2.1, c.2.2.2) D (by omega) hd ⟨by simp only; omega, by simp only; omega⟩) (by simp +contextual -implicitDefEqProofs (maxSteps := 1000000) only [sm, sn, sxx, seval, eCon, eIs, eDoms]) rfl ?_
  rw [plain_ends hK hm]
  have hO : openS c.1 D (termsOf c) c.2.2.2 (flagX c) = if c.2.2.2 < (spanK D (termsOf c) (termsOf c).length).1 ∨ (c.1 = 4 ∧ (spanK D (termsOf c) (termsOf c).length).2 < c.2.2.2) then loseS D (flagX c) 1
    else if (c.1 = 5 ∧ (spanK D (termsOf c) (termsOf c).length).2 ≤ c.2.2.2) ∨ (c.1 = 4 ∧ (spanK D (termsOf c) (termsOf c).length).1 = c.2.2.2 ∧ (spanK D (termsOf c) (termsOf c).length).2 = c.2.2.2) then loseS D (flagX c) 0 else (D, true) := rfl
  rw [hO]
  generalize (spanK D (termsOf c) (termsOf c).length).1 = lo
  generalize (spanK D (termsOf c) (termsOf c).length).2 = hi
  have hL1 := reify_lose c D hK hm 1 (by omega)
  have hL0 := reify_lose c D hK hm 0 (by omega)
  obtain ⟨s1, hs1⟩ : ∃ s, loseS D (flagX c) 1 = s := ⟨_, rfl⟩
  obtain ⟨s0, hs0⟩ : ∃ s, loseS D (flagX c) 0 = s := ⟨_, rfl⟩
  rw [hs1] at hL1 ⊢
  rw [hs0] at hL0 ⊢
  generalize hKK : c.1 = K at hK ⊢
  generalize hCC : c.2.2.2 = C
  by_cases k4 : K = 4
  · subst k4
    by_cases n1 : C < lo
    · rw [if_pos (.inl n1)]
      have n0 : ¬ lo = C := by omega
      simp +contextual -implicitDefEqProofs (maxSteps := 1000000) only [sm, sn, sxx, seval, flB_eq, h_normal, h_ret, tell_0, eDoms, hKK, hCC, n1, n0]
      refine callM_rule [0] (hL1) (by decide) ?_ ?_ ?_ ?_ ?_ ?_
      · simp +contextual -implicitDefEqProofs (maxSteps := 1000000) only [sm, sn, sxx, seval, flB_eq, h_normal, h_ret, tell_0, eDoms, hKK, hCC]
        try rfl
      · simp +contextual -implicitDefEqProofs (maxSteps := 1000000) only [sm, sn, sxx, seval, flB_eq, h_normal, h_ret, tell_0, eDoms, hKK, hCC]
      · simp +contextual -implicitDefEqProofs (maxSteps := 1000000) only [sm, sn, sxx, seval, flB_eq, h_normal, h_ret, tell_0, eDoms, hKK, hCC, eDoms, eIs]
        try rfl
      · simp +contextual -implicitDefEqProofs (maxSteps := 1000000) only [sm, sn, sxx, seval, flB_eq, eDoms, hKK, hCC]
      · simp +contextual -implicitDefEqProofs (maxSteps := 1000000) only [sm, sn, sxx, seval, flB_eq, h_normal, h_ret, tell_0, eDoms, hKK, hCC]
      · try simp only [hKK, hCC]
        generalize (tell s1).1 = y1
        generalize (tell s1).2 = y2
        simp +contextual -implicitDefEqProofs (maxSteps := 1000000) only [sm, sn, sxx, seval, flB_eq, eDoms, h_normal, h_ret, hKK, hCC]
        refine ⟨[0], by decide, rfl, ?_, ?_⟩
        · simp +contextual -implicitDefEqProofs (maxSteps := 1000000) only [sm, sn, sxx, seval, flB_eq, h_normal, h_ret, tell_0, eDoms, hKK, hCC, eDoms, eIs]
        · simp +contextual -implicitDefEqProofs (maxSteps := 1000000) only [sm, sn, sxx, seval, eDoms, killL, tell_0, hKK, hCC]
    · by_cases n2 : hi < C
      · rw [if_pos (.inr ⟨rfl, n2⟩)]
        have n0 : ¬ hi = C := by omega
        by_cases n3 : lo = C
        · simp +contextual -implicitDefEqProofs (maxSteps := 1000000) only [sm, sn, sxx, seval, flB_eq, h_normal, h_ret, tell_0, eDoms, hKK, hCC, n1, n2, n0, n3, Int.lt_irrefl]
          refine callM_rule [0] (hL1) (by decide) ?_ ?_ ?_ ?_ ?_ ?_
          · simp +contextual -implicitDefEqProofs (maxSteps := 1000000) only [sm, sn, sxx, seval, flB_eq, h_normal, h_ret, tell_0, eDoms, hKK, hCC]
            try rfl
          · simp +contextual -implicitDefEqProofs (maxSteps := 1000000) only [sm, sn, sxx, seval, flB_eq, h_normal, h_ret, tell_0, eDoms, hKK, hCC]
          · simp +contextual -implicitDefEqProofs (maxSteps := 1000000) only [sm, sn, sxx, seval, flB_eq, h_normal, h_ret, tell_0, eDoms, hKK, hCC, eDoms, eIs]
            try rfl
          · simp +contextual -implicitDefEqProofs (maxSteps := 1000000) only [sm, sn, sxx, seval, flB_eq, eDoms, hKK, hCC]
          · simp +contextual -implicitDefEqProofs (maxSteps := 1000000) only [sm, sn, sxx, seval, flB_eq, h_normal, h_ret, tell_0, eDoms, hKK, hCC]
          · try simp only [hKK, hCC]
            generalize (tell s1).1 = y1
            generalize (tell s1).2 = y2
            simp +contextual -implicitDefEqProofs (maxSteps := 1000000) only [sm, sn, sxx, seval, flB_eq, eDoms, h_normal, h_ret, hKK, hCC]
            refine ⟨[0], by decide, rfl, ?_, ?_⟩
            · simp +contextual -implicitDefEqProofs (maxSteps := 1000000) only [sm, sn, sxx, seval, flB_eq, h_normal, h_ret, tell_0, eDoms, hKK, hCC, eDoms, eIs]
            · simp +contextual -implicitDefEqProofs (maxSteps := 1000000) only [sm, sn, sxx, seval, eDoms, killL, tell_0, hKK, hCC]
        · simp +contextual -implicitDefEqProofs (maxSteps := 1000000) only [sm, sn, sxx, seval, flB_eq, h_normal, h_ret, tell_0, eDoms, hKK, hCC, n1, n2, n0, n3]
          refine callM_rule [0] (hL1) (by decide) ?_ ?_ ?_ ?_ ?_ ?_
          · simp +contextual -implicitDefEqProofs (maxSteps := 1000000) only [sm, sn, sxx, seval, flB_eq, h_normal, h_ret, tell_0, eDoms, hKK, hCC]
            try rfl
          · simp +contextual -implicitDefEqProofs (maxSteps := 1000000) only [sm, sn, sxx, seval, flB_eq, h_normal, h_ret, tell_0, eDoms, hKK, hCC]
          · simp +contextual -implicitDefEqProofs (maxSteps := 1000000) only [sm, sn, sxx, seval, flB_eq, h_normal, h_ret, tell_0, eDoms, hKK, hCC, eDoms, eIs]
            try rfl
          · simp +contextual -implicitDefEqProofs (maxSteps := 1000000) only [sm, sn, sxx, seval, flB_eq, eDoms, hKK, hCC]
          · simp +contextual -implicitDefEqProofs (maxSteps := 1000000) only [sm, sn, sxx, seval, flB_eq, h_normal, h_ret, tell_0, eDoms, hKK, hCC]
          · try simp only [hKK, hCC]
            generalize (tell s1).1 = y1
            generalize (tell s1).2 = y2
            simp +contextual -implicitDefEqProofs (maxSteps := 1000000) only [sm, sn, sxx, seval, flB_eq, eDoms, h_normal, h_ret, hKK, hCC]
            refine ⟨[0], by decide, rfl, ?_, ?_⟩
            · simp +contextual -implicitDefEqProofs (maxSteps := 1000000) only [sm, sn, sxx, seval, flB_eq, h_normal, h_ret, tell_0, eDoms, hKK, hCC, eDoms, eIs]
            · simp +contextual -implicitDefEqProofs (maxSteps := 1000000) only [sm, sn, sxx, seval, eDoms, killL, tell_0, hKK, hCC]
      · rw [if_neg (by omega)]
        by_cases n3 : lo = C
        · subst n3
          by_cases n4 : hi = lo
          · subst n4
            rw [if_pos (.inr ⟨rfl, rfl, rfl⟩)]
            simp +contextual -implicitDefEqProofs (maxSteps := 1000000) only [sm, sn, sxx, seval, flB_eq, h_normal, h_ret, tell_0, eDoms, hKK, hCC, Int.lt_irrefl]
            refine callM_rule [0] (hL0) (by decide) ?_ ?_ ?_ ?_ ?_ ?_
            · simp +contextual -implicitDefEqProofs (maxSteps := 1000000) only [sm, sn, sxx, seval, flB_eq, h_normal, h_ret, tell_0, eDoms, hKK, hCC]
              try rfl
            · simp +contextual -implicitDefEqProofs (maxSteps := 1000000) only [sm, sn, sxx, seval, flB_eq, h_normal, h_ret, tell_0, eDoms, hKK, hCC]
            · simp +contextual -implicitDefEqProofs (maxSteps := 1000000) only [sm, sn, sxx, seval, flB_eq, h_normal, h_ret, tell_0, eDoms, hKK, hCC, eDoms, eIs]
              try rfl
            · simp +contextual -implicitDefEqProofs (maxSteps := 1000000) only [sm, sn, sxx, seval, flB_eq, eDoms, hKK, hCC]
            · simp +contextual -implicitDefEqProofs (maxSteps := 1000000) only [sm, sn, sxx, seval, flB_eq, h_normal, h_ret, tell_0, eDoms, hKK, hCC]
            · try simp only [hKK, hCC]
              generalize (tell s0).1 = y1
              generalize (tell s0).2 = y2
              simp +contextual -implicitDefEqProofs (maxSteps := 1000000) only [sm, sn, sxx, seval, flB_eq, eDoms, h_normal, h_ret, hKK, hCC]
              refine ⟨[0], by decide, rfl, ?_, ?_⟩
              · simp +contextual -implicitDefEqProofs (maxSteps := 1000000) only [sm, sn, sxx, seval, flB_eq, h_normal, h_ret, tell_0, eDoms, hKK, hCC, eDoms, eIs]
              · simp +contextual -implicitDefEqProofs (maxSteps := 1000000) only [sm, sn, sxx, seval, eDoms, killL, tell_0, hKK, hCC]
          · rw [if_neg (by omega)]
            simp +contextual -implicitDefEqProofs (maxSteps := 1000000) only [sm, sn, sxx, seval, flB_eq, h_normal, h_ret, tell_0, eDoms, hKK, hCC, Int.lt_irrefl, n2, n4]
            refine ⟨[0], by decide, rfl, ?_, ?_⟩
            · simp +contextual -implicitDefEqProofs (maxSteps := 1000000) only [sm, sn, sxx, seval, flB_eq, h_normal, h_ret, tell_0, eDoms, hKK, hCC, eDoms, eIs]
            · simp +contextual -implicitDefEqProofs (maxSteps := 1000000) only [sm, sn, sxx, seval, eDoms, killL, tell_0, hKK, hCC]
        · rw [if_neg (by omega)]
          simp +contextual -implicitDefEqProofs (maxSteps := 1000000) only [sm, sn, sxx, seval, flB_eq, h_normal, h_ret, tell_0, eDoms, hKK, hCC, n1, n2, n3]
          refine ⟨[0], by decide, rfl, ?_, ?_⟩
          · simp +contextual -implicitDefEqProofs (maxSteps := 1000000) only [sm, sn, sxx, seval, flB_eq, h_normal, h_ret, tell_0, eDoms, hKK, hCC, eDoms, eIs]
          · simp +contextual -implicitDefEqProofs (maxSteps := 1000000) only [sm, sn, sxx, seval, eDoms, killL, tell_0, hKK, hCC]
  · by_cases n1 : C < lo
    · rw [if_pos (.inl n1)]
      simp +contextual -implicitDefEqProofs (maxSteps := 1000000) only [sm, sn, sxx, seval, flB_eq, h_normal, h_ret, tell_0, eDoms, hKK, hCC, k4, n1]
      refine callM_rule [0] (hL1) (by decide) ?_ ?_ ?_ ?_ ?_ ?_
      · simp +contextual -implicitDefEqProofs (maxSteps := 1000000) only [sm, sn, sxx, seval, flB_eq, h_normal, h_ret, tell_0, eDoms, hKK, hCC]
        try rfl
      · simp +contextual -implicitDefEqProofs (maxSteps := 1000000) only [sm, sn, sxx, seval, flB_eq, h_normal, h_ret, tell_0, eDoms, hKK, hCC]
      · simp +contextual -implicitDefEqProofs (maxSteps := 1000000) only [sm, sn, sxx, seval, flB_eq, h_normal, h_ret, tell_0, eDoms, hKK, hCC, eDoms, eIs]
        try rfl
      · simp +contextual -implicitDefEqProofs (maxSteps := 1000000) only [sm, sn, sxx, seval, flB_eq, eDoms, hKK, hCC]
      · simp +contextual -implicitDefEqProofs (maxSteps := 1000000) only [sm, sn, sxx, seval, flB_eq, h_normal, h_ret, tell_0, eDoms, hKK, hCC]
      · try simp only [hKK, hCC]
        generalize (tell s1).1 = y1
        generalize (tell s1).2 = y2
        simp +contextual -implicitDefEqProofs (maxSteps := 1000000) only [sm, sn, sxx, seval, flB_eq, eDoms, h_normal, h_ret, hKK, hCC]
        refine ⟨[0], by decide, rfl, ?_, ?_⟩
        · simp +contextual -implicitDefEqProofs (maxSteps := 1000000) only [sm, sn, sxx, seval, flB_eq, h_normal, h_ret, tell_0, eDoms, hKK, hCC, eDoms, eIs]
        · simp +contextual -implicitDefEqProofs (maxSteps := 1000000) only [sm, sn, sxx, seval, eDoms, killL, tell_0, hKK, hCC]
    · rw [if_neg (by omega)]
      by_cases n2 : hi ≤ C
      · by_cases k5 : K = 5
        · rw [if_pos (.inl ⟨k5, n2⟩)]
          subst k5
          simp +contextual -implicitDefEqProofs (maxSteps := 1000000) only [sm, sn, sxx, seval, flB_eq, h_normal, h_ret, tell_0, eDoms, hKK, hCC, k4, n1, n2]
          refine callM_rule [0] (hL0) (by decide) ?_ ?_ ?_ ?_ ?_ ?_
          · simp +contextual -implicitDefEqProofs (maxSteps := 1000000) only [sm, sn, sxx, seval, flB_eq, h_normal, h_ret, tell_0, eDoms, hKK, hCC]
            try rfl
          · simp +contextual -implicitDefEqProofs (maxSteps := 1000000) only [sm, sn, sxx, seval, flB_eq, h_normal, h_ret, tell_0, eDoms, hKK, hCC]
          · simp +contextual -implicitDefEqProofs (maxSteps := 1000000) only [sm, sn, sxx, seval, flB_eq, h_normal, h_ret, tell_0, eDoms, hKK, hCC, eDoms, eIs]
            try rfl
          · simp +contextual -implicitDefEqProofs (maxSteps := 1000000) only [sm, sn, sxx, seval, flB_eq, eDoms, hKK, hCC]
          · simp +contextual -implicitDefEqProofs (maxSteps := 1000000) only [sm, sn, sxx, seval, flB_eq, h_normal, h_ret, tell_0, eDoms, hKK, hCC]
          · try simp only [hKK, hCC]
            generalize (tell s0).1 = y1
            generalize (tell s0).2 = y2
            simp +contextual -implicitDefEqProofs (maxSteps := 1000000) only [sm, sn, sxx, seval, flB_eq, eDoms, h_normal, h_ret, hKK, hCC]
            refine ⟨[0], by decide, rfl, ?_, ?_⟩
            · simp +contextual -implicitDefEqProofs (maxSteps := 1000000) only [sm, sn, sxx, seval, flB_eq, h_normal, h_ret, tell_0, eDoms, hKK, hCC, eDoms, eIs]
            · simp +contextual -implicitDefEqProofs (maxSteps := 1000000) only [sm, sn, sxx, seval, eDoms, killL, tell_0, hKK, hCC]
        · rw [if_neg (by omega)]
          have k6 : K = 6 := by omega
          subst k6
          simp +contextual -implicitDefEqProofs (maxSteps := 1000000) only [sm, sn, sxx, seval, flB_eq, h_normal, h_ret, tell_0, eDoms, hKK, hCC, k4, n1, n2]
          refine ⟨[0], by decide, rfl, ?_, ?_⟩
          · simp +contextual -implicitDefEqProofs (maxSteps := 1000000) only [sm, sn, sxx, seval, flB_eq, h_normal, h_ret, tell_0, eDoms, hKK, hCC, eDoms, eIs]
          · simp +contextual -implicitDefEqProofs (maxSteps := 1000000) only [sm, sn, sxx, seval, eDoms, killL, tell_0, hKK, hCC]
      · rw [if_neg (by omega)]
        simp +contextual -implicitDefEqProofs (maxSteps := 1000000) only [sm, sn, sxx, seval, flB_eq, h_normal, h_ret, tell_0, eDoms, hKK, hCC, k4, n1, n2]
        refine ⟨[0], by decide, rfl, ?_, ?_⟩
        · simp +contextual -implicitDefEqProofs (maxSteps := 1000000) only [sm, sn, sxx, seval, flB_eq, h_normal, h_ret, tell_0, eDoms, hKK, hCC, eDoms, eIs]
        · simp +contextual -implicitDefEqProofs (maxSteps := 1000000) only [sm, sn, sxx, seval, eDoms, killL, tell_0, hKK, hCC]
theorem reify_set1 (c : Con) (D : List (List Rg)) (hK : 4 ≤ c.1 ∧ c.1 ≤ 6) (hm : modB (D, [c], 0, 0) = true) : Ctr Try.prog 93 [.ptr 7 0 0 0] (flB c D) (.tuple [eDoms (tell (set1S c.1 D (termsOf c) c.2.2.2)).1, .int .i64 (tell (set1S c.1 D (termsOf c) c.2.2.2)).2]) (flB c D) := by
  refine call_boxF Try.func93 Try.call93 e_reify_flagged_set1 ?_
  have hP1 := reify_plain c D hK hm 1 (by omega)
  have hP2 := reify_plain c D hK hm 2 (by omega)
  rw [plain_is hK hm] at hP1
  rw [plain_most hK hm] at hP2
  unfold set1S
  generalize isS D (termsOf c) c.2.2.2 = s1 at hP1 ⊢
  generalize mostS D (termsOf c) c.2.2.2 = s2 at hP2 ⊢
  generalize hKK : c.1 = K at hK ⊢
  by_cases k4 : K = 4
  · subst k4
    rw [if_pos rfl]
    simp +contextual -implicitDefEqProofs (maxSteps := 1000000) only [c_reify_flagged_set1, flB_eq, sm, sn, sxx, seval, hKK]
    refine callM_rule [0] (hP1) (by decide) ?_ ?_ ?_ ?_ ?_ ?_
    · simp +contextual -implicitDefEqProofs (maxSteps := 1000000) only [sm, sn, sxx, seval, flB_eq, hKK]
      try rfl
    · simp +contextual -implicitDefEqProofs (maxSteps := 1000000) only [sm, sn, sxx, seval, flB_eq, hKK]
    · simp +contextual -implicitDefEqProofs (maxSteps := 1000000) only [sm, sn, sxx, seval, flB_eq, hKK, eDoms, eIs]
      try rfl
    · simp +contextual -implicitDefEqProofs (maxSteps := 1000000) only [sm, sn, sxx, seval, flB_eq, eDoms, hKK]
    · simp +contextual -implicitDefEqProofs (maxSteps := 1000000) only [sm, sn, sxx, seval, flB_eq, hKK]
    · generalize (tell s1).1 = y1
      generalize (tell s1).2 = y2
      simp +contextual -implicitDefEqProofs (maxSteps := 1000000) only [sm, sn, sxx, seval, flB_eq, eDoms, h_normal, h_ret, hKK]
      refine ⟨[0], by decide, rfl, ?_, ?_⟩
      · simp +contextual -implicitDefEqProofs (maxSteps := 1000000) only [sm, sn, sxx, seval, flB_eq, hKK, eDoms, eIs]
      · simp +contextual -implicitDefEqProofs (maxSteps := 1000000) only [sm, sn, sxx, seval, eDoms, killL]
  · rw [if_neg k4]
    simp +contextual -implicitDefEqProofs (maxSteps := 1000000) only [c_reify_flagged_set1, flB_eq, sm, sn, sxx, seval, hKK, k4]
    refine callM_rule [0] (hP2) (by decide) ?_ ?_ ?_ ?_ ?_ ?_
    · simp +contextual -implicitDefEqProofs (maxSteps := 1000000) only [sm, sn, sxx, seval, flB_eq, hKK]
      try rfl
    · simp +contextual -implicitDefEqProofs (maxSteps := 1000000) only [sm, sn, sxx, seval, flB_eq, hKK]
    · simp +contextual -implicitDefEqProofs (maxSteps := 1000000) only [sm, sn, sxx, seval, flB_eq, hKK, eDoms, eIs]
      try rfl
    · simp +contextual -implicitDefEqProofs (maxSteps := 1000000) only [sm, sn, sxx, seval, flB_eq, eDoms, hKK]
    · simp +contextual -implicitDefEqProofs (maxSteps := 1000000) only [sm, sn, sxx, seval, flB_eq, hKK]
    · generalize (tell s2).1 = y1
      generalize (tell s2).2 = y2
      simp +contextual -implicitDefEqProofs (maxSteps := 1000000) only [sm, sn, sxx, seval, flB_eq, eDoms, h_normal, h_ret, hKK]
      refine ⟨[0], by decide, rfl, ?_, ?_⟩
      · simp +contextual -implicitDefEqProofs (maxSteps := 1000000) only [sm, sn, sxx, seval, flB_eq, hKK, eDoms, eIs]
      · simp +contextual -implicitDefEqProofs (maxSteps := 1000000) only [sm, sn, sxx, seval, eDoms, killL]
theorem most_mono {D : List (List Rg)} {T : List Tm} {room : Int} (hD : DOk D) (hT : TOk T D) {k : Nat} : ∀ {n : Nat}, k ≤ n → n ≤ T.length → LeD (mostK D T room n) (mostK D T room k)
  | 0, h, _ => by
    have : k = 0 := by omega
    subst this
    exact (most_le hD hT (Nat.zero_le _)).self
  | n + 1, h, hn => by
    by_cases e : k = n + 1
    · subst e; exact (most_le hD hT hn).self
    · have ih := most_mono (room := room) hD hT (k := k) (n := n) (by omega) (by omega)
      obtain ⟨_, hx⟩ := hT.2 n (by omega)
      have hl := (most_le (room := room) hD hT (k := n) (by omega))
      have hk := (most_le (room := room) hD hT (k := k) (by omega)).1
      have h1 := hl.2 _ hx.1 hx.2
      have h2 := le_rowd ih (x := (tX T n).2) (by rw [hk]; exact hx)
      have e1 : mostK D T room (n + 1) = (mostK D T room n).set (tX T n).2.toNat (cutS (cutOf D room (tX T n)).1 (cutOf D room (tX T n)).2 (rowOf (mostK D T room n) (tX T n).2)) := rfl
      rw [e1]
      exact le_setrow ih (by rw [hk]; exact hx) ((cut_sub h1.1 _ _).trans h2)
theorem sub_empty {r : List Rg} (h : Sub r []) : r = [] := by
  cases r with
  | nil => rfl
  | cons a l =>
    exfalso
    have := right_rg h.1 (k := 0) (x := a.1) (y := a.2) rfl
    exact mem_nil a.1 (h.2.2 a.1 ⟨a, by simp, Int.le_refl _, this.1⟩)
theorem most_empty {D : List (List Rg)} {T : List Tm} {room : Int} (hD : DOk D) (hT : TOk T D) {k : Nat} (hk : k ≤ T.length) {x : Int} (hx : 0 ≤ x ∧ x < D.length) (h : rowOf (mostK D T room k) x = []) : wholeB (mostK D T room T.length) = false := by
  have h1 := most_mono (room := room) hD hT hk (Nat.le_refl _)
  have h2 := (most_le (room := room) hD hT hk).1
  have h3 := (most_le (room := room) hD hT (Nat.le_refl T.length)).1
  have h4 := le_rowd h1 (x := x) (by rw [h2]; exact hx)
  rw [h] at h4
  have h5 := sub_empty h4
  have h6 := row_mem (D := mostK D T room T.length) (x := x) (by rw [h3]; exact hx)
  rw [h5] at h6
  unfold wholeB
  have : (mostK D T room T.length).any (fun d => decide (d.length = 0)) = true := List.any_eq_true.2 ⟨[], h6, by simp⟩
  rw [this]; rfl
theorem reify_more (c : Con) (D : List (List Rg)) (hK : 4 ≤ c.1 ∧ c.1 ≤ 6) (hm : modB (D, [c], 0, 0) = true) : Ctr Try.prog 134 [.ptr 7 0 0 0] (flB c D) (.tuple [eDoms (tell (mostS D (opp (termsOf c)) (-c.2.2.2 - 1))).1, .int .i64 (tell (mostS D (opp (termsOf c)) (-c.2.2.2 - 1))).2]) (flB c D) := by
  refine call_boxF Try.func134 Try.call134 e_reify_flagged_more ?_
  have hcon : ∃ K X A C, c = (K, X, A, C) := ⟨c.1, c.2.1, c.2.2.1, c.2.2.2, rfl⟩
  obtain ⟨f1, f2, f3, f4, f5, f6⟩ := sum_facts hm (by omega)
  have hd := mod_rows hm
  have hhl := head_len hK hm
  have hxl := reif_len hK hm
  obtain ⟨hf, hft⟩ := flag_facts hK hm
  simp +contextual -implicitDefEqProofs (maxSteps := 1000000) only [c_reify_flagged_more, flB_eq, sm, sn, sxx, seval]
  refine callA_rule (linear_Ends (2, headX c, c.2.2.1, c.2.2.2) D (by omega) hd ⟨by simp only; omega, by simp only; omega⟩) (by simp +contextual -implicitDefEqProofs (maxSteps := 1000000) only [sm, sn, sxx, seval, eCon, eIs, eDoms]) rfl ?_
  rw [plain_ends hK hm]
  have hTl : (termsOf c).length = c.2.2.1.length := by unfold termsOf; simp only [List.length_zip]; omega
  have hsb := span_bound f2 f3 (Nat.le_refl (termsOf c).length)
  have hos := opp_span (D := D) (Nat.le_refl (termsOf c).length)
  have hoT := opp_ok f3 (E := D) rfl
  have h32 := f3.1
  obtain ⟨n, hn⟩ : ∃ n, -c.2.2.2 - 1 = n := ⟨_, rfl⟩
  rw [hn]
  have hM : ∀ room, n - (spanK D (opp (termsOf c)) (opp (termsOf c)).length).1 = room → mostS D (opp (termsOf c)) n = if room < 0 then (D, false) else (mostK D (opp (termsOf c)) room (opp (termsOf c)).length, wholeB (mostK D (opp (termsOf c)) room (opp (termsOf c)).length)) := fun room h => by unfold mostS; rw [h]
  have w1 : IntKind.i64.wrap ((spanK D (termsOf c) (termsOf c).length).2 - c.2.2.2) = (spanK D (termsOf c) (termsOf c).length).2 - c.2.2.2 := by rw [wrap_i64] <;> omega
  have w2 : IntKind.i64.wrap ((spanK D (termsOf c) (termsOf c).length).2 - c.2.2.2 - 1) = (spanK D (termsOf c) (termsOf c).length).2 - c.2.2.2 - 1 := by rw [wrap_i64] <;> omega
  rw [hM ((spanK D (termsOf c) (termsOf c).length).2 - c.2.2.2 - 1) (by rw [opp_length, hos]; omega)]
  clear hM
  generalize (spanK D (termsOf c) (termsOf c).length).1 = lo0
  generalize (spanK D (termsOf c) (termsOf c).length).2 = hi0 at hsb w1 w2 ⊢
  generalize hroom : hi0 - c.2.2.2 - 1 = room at w2 ⊢
  by_cases hneg : room < 0
  · rw [if_pos hneg]
    simp +contextual -implicitDefEqProofs (maxSteps := 1000000) only [sm, sn, sxx, seval, w1, w2, hroom, hneg, h_normal, h_ret, tell_12, eDoms]
    refine ⟨[0], by decide, rfl, ?_, ?_⟩
    · simp +contextual -implicitDefEqProofs (maxSteps := 1000000) only [sm, sn, sxx, seval, flB_eq, eDoms, eIs]
    · simp +contextual -implicitDefEqProofs (maxSteps := 1000000) only [sm, sn, sxx, seval, eDoms, killL, tell_12]
  rw [if_neg hneg]
  simp +contextual -implicitDefEqProofs (maxSteps := 1000000) only [sm, sn, sxx, seval, w1, w2, hroom, hneg]
  refine callO_rule (clone_doms D (by omega)) rfl (wkL_refl _) rfl ?_ ?_
  · simp +contextual -implicitDefEqProofs (maxSteps := 1000000) only [sm, sn, sxx, seval]
  have htX : ∀ k, k < c.2.2.1.length → tX (termsOf c) k = (xat c.2.2.1 k, xat (headX c) k) := fun k hk => by
    have h1 := xat_get (X := c.2.2.1) (i := k) hk
    have h2 : c.2.1[k]? = some (xat (headX c) k) := by
      have := xat_get (X := headX c) (i := k) (by omega)
      have e : (headX c)[k]? = c.2.1[k]? := by unfold headX; rw [List.getElem?_take, if_pos (by omega)]
      rw [← e]; exact this
    have h3 : (termsOf c)[k]? = some (xat c.2.2.1 k, xat (headX c) k) := by
      unfold termsOf
      rw [List.getElem?_zip_eq_some]; exact ⟨h1, h2⟩
    unfold tX; rw [h3]; rfl
  generalize termsOf c = T at *
  have hol := opp_length T
  simp +contextual -implicitDefEqProofs (maxSteps := 1000000) only [sm, sn, sxx, seval]
  refine loop_rule (fun k : Nat => k ≤ c.2.2.1.length ∧ wholeB (mostK D (opp T) room k) = true) (fun k => tm 115 [(0, .ptr 7 0 0 0), (4, .ptr 4 1 0 0), (7, .int .i64 room), (8, .sl 1 3 0 D.length), (45, .list 1 (c.2.2.1.map eI)), (46, .int .i64 c.2.2.1.length), (47, .int .i64 k)])
    (fun k => flB c D ++ [some (4, [.agg [.int .i64 2, .list 1 ((headX c).map eI), .list 1 (c.2.2.1.map eI), .int .i64 c.2.2.2]]), none, some (1, (mostK D (opp T) room k).map eRgs)]) (fun k => c.2.2.1.length - k) 0 ⟨Nat.zero_le _, whole_of f2⟩ ⟨[0, 1, 2, 3], by decide, rfl, ?_, ?_⟩ ?_
  · simp +contextual -implicitDefEqProofs (maxSteps := 1000000) only [sm, sn, sxx, seval, flB_eq, mostK]
  · simp +contextual -implicitDefEqProofs (maxSteps := 1000000) only [sm, sn, sxx, seval, Int.natCast_zero, flB_eq]
  · rintro k ⟨hk, hwh⟩
    have hle := most_le (room := room) f2 hoT (k := k) (by omega)
    have hEl := hle.1
    by_cases hlt : k < c.2.2.1.length
    · have hlt' : (k : Int) < (c.2.2.1.length : Int) := by omega
      have e2 : IntKind.i64.wrap ((k : Int) + 1) = ((k + 1 : Nat) : Int) := by rw [wrap_i64] <;> omega
      have hta := htX k hlt
      have hto := opp_at (T := T) (k := k) (by omega)
      rw [hta] at hto
      simp only at hto
      have ha := xat_get (X := c.2.2.1) (i := k) hlt
      have hxx := xat_get (X := headX c) (i := k) (by omega)
      obtain ⟨b1, b2⟩ := f3.2 k (by omega)
      rw [hta] at b1 b2
      simp only at b1 b2
      have hM : mostK D (opp T) room (k + 1) = (mostK D (opp T) room k).set (tX (opp T) k).2.toNat (cutS (cutOf D room (tX (opp T) k)).1 (cutOf D room (tX (opp T) k)).2 (rowOf (mostK D (opp T) room k) (tX (opp T) k).2)) := rfl
      rw [hto] at hM
      simp only at hM
      have hemp := most_empty (room := room) f2 hoT (k := k + 1) (by omega) b2
      have hpos := whole_pos hwh
      have hr := row_get b2
      have hr0 := row_get (D := mostK D (opp T) room k) (x := xat (headX c) k) (by omega)
      obtain ⟨_, e3, e4, e5⟩ := eAt_facts f2 b2
      have hdr := dom_right (f2 _ b2.1 b2.2)
      have hl1 := right_length hdr.1
      have hl2 := right_length (hle.2 _ b2.1 b2.2).1
      have h0 := b2.1
      have hxn : (xat (headX c) k).toNat < (mostK D (opp T) room k).length := by omega
      have hxn2 : (xat (headX c) k).toNat < D.length := by omega
      have he : endsV (rowOf D (xat (headX c) k)) = ((eAt D (xat (headX c) k)).1, (eAt D (xat (headX c) k)).2) := rfl
      have hrow : ∀ r, rowOf ((mostK D (opp T) room k).set (xat (headX c) k).toNat r) (xat (headX c) k) = r := fun r => by rw [row_set b2.1 (by omega) b2.1, if_pos rfl]
      have hws : ∀ r, wholeB ((mostK D (opp T) room k).set (xat (headX c) k).toNat r) = decide (0 < r.length) := fun r => wholeB_set hpos (by omega)
      unfold cutOf at hM
      generalize xat c.2.2.1 k = a at ha b1 hM ⊢
      generalize xat (headX c) k = x at hxx b2 hM hemp hr hr0 e3 e4 e5 hdr hl1 hl2 h0 hxn hxn2 he hrow hws ⊢
      generalize hlo : (eAt D x).1 = lo at e3 e4 hM he ⊢
      generalize hhi : (eAt D x).2 = hi at e4 e5 hM he ⊢
      generalize rowOf D x = r at hr hl1 hdr he ⊢
      generalize rowOf (mostK D (opp T) room k) x = r0 at hr0 hl2 hM ⊢
      simp +contextual -implicitDefEqProofs (maxSteps := 1000000) only [sm, sn, sxx, seval, flB_eq, hlt', ha, hxx, hr, h0, hxn2]
      refine callA_rule (set_Ends r (by omega)) (wkL_refl _) rfl ?_
      rw [he]
      by_cases ha : 0 < a
      · obtain ⟨d1, d2⟩ := tdiv_bound (r := room) ha (by omega)
        have ha0 : ¬ a = 0 := by omega
        have w1 : IntKind.i64.wrap (room.tdiv a) = room.tdiv a := by rw [wrap_i64] <;> omega
        have w2 : IntKind.i64.wrap (hi - room.tdiv a) = hi - room.tdiv a := by rw [wrap_i64] <;> omega
        rw [if_neg (by omega), if_pos (by omega), Int.neg_neg] at hM
        simp +contextual -implicitDefEqProofs (maxSteps := 1000000) only [sm, sn, sxx, seval, eRg, ha, ha0, w1, w2, h0, hxn, hxn2, hr0, hEl]
        refine callA_rule (set_Cut r0 (max lo (hi - room.tdiv a)) hi (by omega)) (wkL_refl _) rfl ?_
        generalize hnew : cutS (max lo (hi - room.tdiv a)) hi r0 = r' at hM ⊢
        have hle2 := most_le (room := room) f2 hoT (k := k + 1) (by omega)
        rw [hM] at hemp hle2
        have hset : ((mostK D (opp T) room k).map eRgs).set x.toNat (.list 2 (r'.map eRg)) = ((mostK D (opp T) room k).set x.toNat r').map eRgs := set_rows2 _ _ _
        have hg : ((mostK D (opp T) room k).set x.toNat r')[x.toNat]? = some r' := List.getElem?_set_self hxn
        have hEl2 : ((mostK D (opp T) room k).set x.toNat r').length = D.length := hle2.1
        have hw2 := hws r'
        have hrw := hrow r'
        by_cases h : r'.length = 0
        · have h' : (r'.length : Int) = 0 := by omega
          have hr' : r' = [] := List.eq_nil_of_length_eq_zero h
          rw [hemp (by rw [hrw]; exact hr')]
          simp +contextual -implicitDefEqProofs (maxSteps := 1000000) only [sm, sn, sxx, seval, eRgs, flB_eq, hset, hr0, hg, hEl, hEl2, h0, hxn, hxn2, h', h_normal, h_ret, tell_12, eDoms]
          refine ⟨[0], by decide, rfl, ?_, ?_⟩
          · simp +contextual -implicitDefEqProofs (maxSteps := 1000000) only [sm, sn, sxx, seval, flB_eq]
          · simp +contextual -implicitDefEqProofs (maxSteps := 1000000) only [sm, sn, sxx, seval, eDoms, killL]
        · have h' : ((r'.length : Int) = 0) = False := by simp only [eq_iff_iff, iff_false]; omega
          simp +contextual -implicitDefEqProofs (maxSteps := 1000000) only [sm, sn, sxx, seval, eRgs, flB_eq, hset, hr0, hg, hEl, hEl2, h0, hxn, hxn2, h', e2]
          refine ⟨k + 1, ⟨by omega, by rw [hM, hw2]; simp; omega⟩, by omega, [0, 1, 2, 3], by decide, rfl, ?_, ?_⟩
          · simp +contextual -implicitDefEqProofs (maxSteps := 1000000) only [sm, sn, sxx, seval, flB_eq, hM]
          · simp +contextual -implicitDefEqProofs (maxSteps := 1000000) only [sm, sn, sxx, seval]
      · by_cases hb2 : a < 0
        · obtain ⟨d1, d2⟩ := tdiv_bound (r := room) (a := -a) (by omega) (by omega)
          have ha0 : ¬ -a = 0 := by omega
          have w0 : IntKind.i64.wrap (0 - a) = -a := by rw [wrap_i64] <;> omega
          have w1 : IntKind.i64.wrap (room.tdiv (-a)) = room.tdiv (-a) := by rw [wrap_i64] <;> omega
          have w2 : IntKind.i64.wrap (lo + room.tdiv (-a)) = lo + room.tdiv (-a) := by rw [wrap_i64] <;> omega
          rw [if_pos (by omega)] at hM
          simp +contextual -implicitDefEqProofs (maxSteps := 1000000) only [sm, sn, sxx, seval, eRg, ha, hb2, ha0, w0, w1, w2, h0, hxn, hxn2, hr0, hEl]
          refine callA_rule (set_Cut r0 lo (min hi (lo + room.tdiv (-a))) (by omega)) (wkL_refl _) rfl ?_
          generalize hnew : cutS lo (min hi (lo + room.tdiv (-a))) r0 = r' at hM ⊢
          have hle2 := most_le (room := room) f2 hoT (k := k + 1) (by omega)
          rw [hM] at hemp hle2
          have hset : ((mostK D (opp T) room k).map eRgs).set x.toNat (.list 2 (r'.map eRg)) = ((mostK D (opp T) room k).set x.toNat r').map eRgs := set_rows2 _ _ _
          have hg : ((mostK D (opp T) room k).set x.toNat r')[x.toNat]? = some r' := List.getElem?_set_self hxn
          have hEl2 : ((mostK D (opp T) room k).set x.toNat r').length = D.length := hle2.1
          have hw2 := hws r'
          have hrw := hrow r'
          by_cases h : r'.length = 0
          · have h' : (r'.length : Int) = 0 := by omega
            have hr' : r' = [] := List.eq_nil_of_length_eq_zero h
            rw [hemp (by rw [hrw]; exact hr')]
            simp +contextual -implicitDefEqProofs (maxSteps := 1000000) only [sm, sn, sxx, seval, eRgs, flB_eq, hset, hr0, hg, hEl, hEl2, h0, hxn, hxn2, h', h_normal, h_ret, tell_12, eDoms]
            refine ⟨[0], by decide, rfl, ?_, ?_⟩
            · simp +contextual -implicitDefEqProofs (maxSteps := 1000000) only [sm, sn, sxx, seval, flB_eq]
            · simp +contextual -implicitDefEqProofs (maxSteps := 1000000) only [sm, sn, sxx, seval, eDoms, killL]
          · have h' : ((r'.length : Int) = 0) = False := by simp only [eq_iff_iff, iff_false]; omega
            simp +contextual -implicitDefEqProofs (maxSteps := 1000000) only [sm, sn, sxx, seval, eRgs, flB_eq, hset, hr0, hg, hEl, hEl2, h0, hxn, hxn2, h', e2]
            refine ⟨k + 1, ⟨by omega, by rw [hM, hw2]; simp; omega⟩, by omega, [0, 1, 2, 3], by decide, rfl, ?_, ?_⟩
            · simp +contextual -implicitDefEqProofs (maxSteps := 1000000) only [sm, sn, sxx, seval, flB_eq, hM]
            · simp +contextual -implicitDefEqProofs (maxSteps := 1000000) only [sm, sn, sxx, seval]
        · rw [if_neg (by omega), if_neg (by omega)] at hM
          have hp : eAt D x = (lo, hi) := Prod.ext hlo hhi
          rw [hp] at hM
          simp +contextual -implicitDefEqProofs (maxSteps := 1000000) only [sm, sn, sxx, seval, eRg, ha, hb2, h0, hxn, hxn2, hr0, hEl]
          refine callA_rule (set_Cut r0 lo hi (by omega)) (wkL_refl _) rfl ?_
          generalize hnew : cutS lo hi r0 = r' at hM ⊢
          have hle2 := most_le (room := room) f2 hoT (k := k + 1) (by omega)
          rw [hM] at hemp hle2
          have hset : ((mostK D (opp T) room k).map eRgs).set x.toNat (.list 2 (r'.map eRg)) = ((mostK D (opp T) room k).set x.toNat r').map eRgs := set_rows2 _ _ _
          have hg : ((mostK D (opp T) room k).set x.toNat r')[x.toNat]? = some r' := List.getElem?_set_self hxn
          have hEl2 : ((mostK D (opp T) room k).set x.toNat r').length = D.length := hle2.1
          have hw2 := hws r'
          have hrw := hrow r'
          by_cases h : r'.length = 0
          · have h' : (r'.length : Int) = 0 := by omega
            have hr' : r' = [] := List.eq_nil_of_length_eq_zero h
            rw [hemp (by rw [hrw]; exact hr')]
            simp +contextual -implicitDefEqProofs (maxSteps := 1000000) only [sm, sn, sxx, seval, eRgs, flB_eq, hset, hr0, hg, hEl, hEl2, h0, hxn, hxn2, h', h_normal, h_ret, tell_12, eDoms]
            refine ⟨[0], by decide, rfl, ?_, ?_⟩
            · simp +contextual -implicitDefEqProofs (maxSteps := 1000000) only [sm, sn, sxx, seval, flB_eq]
            · simp +contextual -implicitDefEqProofs (maxSteps := 1000000) only [sm, sn, sxx, seval, eDoms, killL]
          · have h' : ((r'.length : Int) = 0) = False := by simp only [eq_iff_iff, iff_false]; omega
            simp +contextual -implicitDefEqProofs (maxSteps := 1000000) only [sm, sn, sxx, seval, eRgs, flB_eq, hset, hr0, hg, hEl, hEl2, h0, hxn, hxn2, h', e2]
            refine ⟨k + 1, ⟨by omega, by rw [hM, hw2]; simp; omega⟩, by omega, [0, 1, 2, 3], by decide, rfl, ?_, ?_⟩
            · simp +contextual -implicitDefEqProofs (maxSteps := 1000000) only [sm, sn, sxx, seval, flB_eq, hM]
            · simp +contextual -implicitDefEqProofs (maxSteps := 1000000) only [sm, sn, sxx, seval]
    · have hkn : k = c.2.2.1.length := by omega
      subst hkn
      have hkT : c.2.2.1.length = (opp T).length := by omega
      rw [hkT] at hwh
      rw [hwh, ← hkT]
      have t1 : List.take D.length ((mostK D (opp T) room c.2.2.1.length).map eRgs) = (mostK D (opp T) room c.2.2.1.length).map eRgs := by rw [← hEl]; exact take_map _ _
      simp +contextual -implicitDefEqProofs (maxSteps := 1000000) only [sm, sn, sxx, seval, flB_eq, Int.lt_irrefl, h_normal, h_ret, tell_0, eDoms, hEl]
      refine ⟨[0], by decide, rfl, ?_, ?_⟩
      · simp +contextual -implicitDefEqProofs (maxSteps := 1000000) only [sm, sn, sxx, seval, flB_eq]
      · simp +contextual -implicitDefEqProofs (maxSteps := 1000000) only [sm, sn, sxx, seval, eDoms, killL, hEl, t1]
theorem reify_set0 (c : Con) (D : List (List Rg)) (hK : 4 ≤ c.1 ∧ c.1 ≤ 6) (hm : modB (D, [c], 0, 0) = true) : Ctr Try.prog 94 [.ptr 7 0 0 0] (flB c D) (.tuple [eDoms (tell (set0S c.1 D (termsOf c) c.2.2.2 (flagX c))).1, .int .i64 (tell (set0S c.1 D (termsOf c) c.2.2.2 (flagX c))).2]) (flB c D) := by
  refine call_boxF Try.func94 Try.call94 e_reify_flagged_set0 ?_
  have hP1 := reify_plain c D hK hm 3 (by omega)
  have hP2 := reify_more c D hK hm
  have hP3 := reify_open c D hK hm
  rw [plain_not hK hm] at hP1
  unfold set0S
  generalize notS D (termsOf c) c.2.2.2 = s1 at hP1 ⊢
  generalize mostS D (opp (termsOf c)) (-c.2.2.2 - 1) = s2 at hP2 ⊢
  generalize openS c.1 D (termsOf c) c.2.2.2 (flagX c) = s3 at hP3 ⊢
  generalize hKK : c.1 = K at hK ⊢
  by_cases k4 : K = 4
  · subst k4
    rw [if_pos rfl]
    simp +contextual -implicitDefEqProofs (maxSteps := 1000000) only [c_reify_flagged_set0, flB_eq, sm, sn, sxx, seval, hKK]
    refine callM_rule [0] (hP1) (by decide) ?_ ?_ ?_ ?_ ?_ ?_
    · simp +contextual -implicitDefEqProofs (maxSteps := 1000000) only [sm, sn, sxx, seval, flB_eq, hKK]
      try rfl
    · simp +contextual -implicitDefEqProofs (maxSteps := 1000000) only [sm, sn, sxx, seval, flB_eq, hKK]
    · simp +contextual -implicitDefEqProofs (maxSteps := 1000000) only [sm, sn, sxx, seval, flB_eq, hKK, eDoms, eIs]
      try rfl
    · simp +contextual -implicitDefEqProofs (maxSteps := 1000000) only [sm, sn, sxx, seval, flB_eq, eDoms, hKK]
    · simp +contextual -implicitDefEqProofs (maxSteps := 1000000) only [sm, sn, sxx, seval, flB_eq, hKK]
    · generalize (tell s1).1 = y1
      generalize (tell s1).2 = y2
      simp +contextual -implicitDefEqProofs (maxSteps := 1000000) only [sm, sn, sxx, seval, flB_eq, eDoms, h_normal, h_ret, hKK]
      refine ⟨[0], by decide, rfl, ?_, ?_⟩
      · simp +contextual -implicitDefEqProofs (maxSteps := 1000000) only [sm, sn, sxx, seval, flB_eq, hKK, eDoms, eIs]
      · simp +contextual -implicitDefEqProofs (maxSteps := 1000000) only [sm, sn, sxx, seval, eDoms, killL]
  · rw [if_neg k4]
    by_cases k5 : K = 5
    · subst k5
      rw [if_pos rfl]
      simp +contextual -implicitDefEqProofs (maxSteps := 1000000) only [c_reify_flagged_set0, flB_eq, sm, sn, sxx, seval, hKK]
      refine callM_rule [0] (hP2) (by decide) ?_ ?_ ?_ ?_ ?_ ?_
      · simp +contextual -implicitDefEqProofs (maxSteps := 1000000) only [sm, sn, sxx, seval, flB_eq, hKK]
        try rfl
      · simp +contextual -implicitDefEqProofs (maxSteps := 1000000) only [sm, sn, sxx, seval, flB_eq, hKK]
      · simp +contextual -implicitDefEqProofs (maxSteps := 1000000) only [sm, sn, sxx, seval, flB_eq, hKK, eDoms, eIs]
        try rfl
      · simp +contextual -implicitDefEqProofs (maxSteps := 1000000) only [sm, sn, sxx, seval, flB_eq, eDoms, hKK]
      · simp +contextual -implicitDefEqProofs (maxSteps := 1000000) only [sm, sn, sxx, seval, flB_eq, hKK]
      · generalize (tell s2).1 = y1
        generalize (tell s2).2 = y2
        simp +contextual -implicitDefEqProofs (maxSteps := 1000000) only [sm, sn, sxx, seval, flB_eq, eDoms, h_normal, h_ret, hKK]
        refine ⟨[0], by decide, rfl, ?_, ?_⟩
        · simp +contextual -implicitDefEqProofs (maxSteps := 1000000) only [sm, sn, sxx, seval, flB_eq, hKK, eDoms, eIs]
        · simp +contextual -implicitDefEqProofs (maxSteps := 1000000) only [sm, sn, sxx, seval, eDoms, killL]
    · rw [if_neg k5]
      simp +contextual -implicitDefEqProofs (maxSteps := 1000000) only [c_reify_flagged_set0, flB_eq, sm, sn, sxx, seval, hKK, k4, k5]
      refine callM_rule [0] (hP3) (by decide) ?_ ?_ ?_ ?_ ?_ ?_
      · simp +contextual -implicitDefEqProofs (maxSteps := 1000000) only [sm, sn, sxx, seval, flB_eq, hKK]
        try rfl
      · simp +contextual -implicitDefEqProofs (maxSteps := 1000000) only [sm, sn, sxx, seval, flB_eq, hKK]
      · simp +contextual -implicitDefEqProofs (maxSteps := 1000000) only [sm, sn, sxx, seval, flB_eq, hKK, eDoms, eIs]
        try rfl
      · simp +contextual -implicitDefEqProofs (maxSteps := 1000000) only [sm, sn, sxx, seval, flB_eq, eDoms, hKK]
      · simp +contextual -implicitDefEqProofs (maxSteps := 1000000) only [sm, sn, sxx, seval, flB_eq, hKK]
      · generalize (tell s3).1 = y1
        generalize (tell s3).2 = y2
        simp +contextual -implicitDefEqProofs (maxSteps := 1000000) only [sm, sn, sxx, seval, flB_eq, eDoms, h_normal, h_ret, hKK]
        refine ⟨[0], by decide, rfl, ?_, ?_⟩
        · simp +contextual -implicitDefEqProofs (maxSteps := 1000000) only [sm, sn, sxx, seval, flB_eq, hKK, eDoms, eIs]
        · simp +contextual -implicitDefEqProofs (maxSteps := 1000000) only [sm, sn, sxx, seval, eDoms, killL]
theorem reify_narrow (c : Con) (D : List (List Rg)) (hK : 4 ≤ c.1 ∧ c.1 ≤ 6) (hm : modB (D, [c], 0, 0) = true) : Ctr Try.prog 55 [.ptr 7 0 0 0] (flB c D) (.tuple [eDoms (tell (reifyS c.1 D (termsOf c) c.2.2.2 (flagX c))).1, .int .i64 (tell (reifyS c.1 D (termsOf c) c.2.2.2 (flagX c))).2]) (flB c D) := by
  refine call_boxF Try.func55 Try.call55 e_reify_flagged_narrow ?_
  have hcon : ∃ K X A C, c = (K, X, A, C) := ⟨c.1, c.2.1, c.2.2.1, c.2.2.2, rfl⟩
  obtain ⟨f1, f2, f3, f4, f5, f6⟩ := sum_facts hm (by omega)
  have hd := mod_rows hm
  have hhl := head_len hK hm
  have hxl := reif_len hK hm
  obtain ⟨hf, hft⟩ := flag_facts hK hm
  have hP1 := reify_set1 c D hK hm
  have hP2 := reify_set0 c D hK hm
  have hP3 := reify_open c D hK hm
  unfold reifyS
  generalize set1S c.1 D (termsOf c) c.2.2.2 = s1 at hP1 ⊢
  generalize set0S c.1 D (termsOf c) c.2.2.2 (flagX c) = s2 at hP2 ⊢
  generalize openS c.1 D (termsOf c) c.2.2.2 (flagX c) = s3 at hP3 ⊢
  have hr := row_get hf
  have h0 := hf.1
  have hxn : (flagX c).toNat < D.length := by omega
  have hl := hd _ (row_mem hf)
  have he : endsV (rowOf D (flagX c)) = ((eAt D (flagX c)).1, (eAt D (flagX c)).2) := rfl
  simp +contextual -implicitDefEqProofs (maxSteps := 1000000) only [c_reify_flagged_narrow, flB_eq, sm, sn, sxx, seval, hr, h0, hxn]
  refine callA_rule (set_Ends (rowOf D (flagX c)) hl) (wkL_refl _) rfl ?_
  rw [he]
  generalize (eAt D (flagX c)).1 = lo
  generalize (eAt D (flagX c)).2 = hi
  have hKK : c.1 = c.1 := rfl
  by_cases k1 : lo = 1
  · rw [if_pos k1]
    simp +contextual -implicitDefEqProofs (maxSteps := 1000000) only [sm, sn, sxx, seval, eRg, flB_eq, k1]
    refine callM_rule [0] (hP1) (by decide) ?_ ?_ ?_ ?_ ?_ ?_
    · simp +contextual -implicitDefEqProofs (maxSteps := 1000000) only [sm, sn, sxx, seval, flB_eq, hKK]
      try rfl
    · simp +contextual -implicitDefEqProofs (maxSteps := 1000000) only [sm, sn, sxx, seval, flB_eq, hKK]
    · simp +contextual -implicitDefEqProofs (maxSteps := 1000000) only [sm, sn, sxx, seval, flB_eq, hKK, eDoms, eIs]
      try rfl
    · simp +contextual -implicitDefEqProofs (maxSteps := 1000000) only [sm, sn, sxx, seval, flB_eq, eDoms, hKK]
    · simp +contextual -implicitDefEqProofs (maxSteps := 1000000) only [sm, sn, sxx, seval, flB_eq, hKK]
    · generalize (tell s1).1 = y1
      generalize (tell s1).2 = y2
      simp +contextual -implicitDefEqProofs (maxSteps := 1000000) only [sm, sn, sxx, seval, flB_eq, eDoms, h_normal, h_ret, hKK]
      refine ⟨[0], by decide, rfl, ?_, ?_⟩
      · simp +contextual -implicitDefEqProofs (maxSteps := 1000000) only [sm, sn, sxx, seval, flB_eq, hKK, eDoms, eIs]
      · simp +contextual -implicitDefEqProofs (maxSteps := 1000000) only [sm, sn, sxx, seval, eDoms, killL]
  · rw [if_neg k1]
    by_cases k0 : hi = 0
    · rw [if_pos k0]
      simp +contextual -implicitDefEqProofs (maxSteps := 1000000) only [sm, sn, sxx, seval, eRg, flB_eq, k1, k0]
      refine callM_rule [0] (hP2) (by decide) ?_ ?_ ?_ ?_ ?_ ?_
      · simp +contextual -implicitDefEqProofs (maxSteps := 1000000) only [sm, sn, sxx, seval, flB_eq, hKK]
        try rfl
      · simp +contextual -implicitDefEqProofs (maxSteps := 1000000) only [sm, sn, sxx, seval, flB_eq, hKK]
      · simp +contextual -implicitDefEqProofs (maxSteps := 1000000) only [sm, sn, sxx, seval, flB_eq, hKK, eDoms, eIs]
        try rfl
      · simp +contextual -implicitDefEqProofs (maxSteps := 1000000) only [sm, sn, sxx, seval, flB_eq, eDoms, hKK]
      · simp +contextual -implicitDefEqProofs (maxSteps := 1000000) only [sm, sn, sxx, seval, flB_eq, hKK]
      · generalize (tell s2).1 = y1
        generalize (tell s2).2 = y2
        simp +contextual -implicitDefEqProofs (maxSteps := 1000000) only [sm, sn, sxx, seval, flB_eq, eDoms, h_normal, h_ret, hKK]
        refine ⟨[0], by decide, rfl, ?_, ?_⟩
        · simp +contextual -implicitDefEqProofs (maxSteps := 1000000) only [sm, sn, sxx, seval, flB_eq, hKK, eDoms, eIs]
        · simp +contextual -implicitDefEqProofs (maxSteps := 1000000) only [sm, sn, sxx, seval, eDoms, killL]
    · rw [if_neg k0]
      simp +contextual -implicitDefEqProofs (maxSteps := 1000000) only [sm, sn, sxx, seval, eRg, flB_eq, k1, k0]
      refine callM_rule [0] (hP3) (by decide) ?_ ?_ ?_ ?_ ?_ ?_
      · simp +contextual -implicitDefEqProofs (maxSteps := 1000000) only [sm, sn, sxx, seval, flB_eq, hKK]
        try rfl
      · simp +contextual -implicitDefEqProofs (maxSteps := 1000000) only [sm, sn, sxx, seval, flB_eq, hKK]
      · simp +contextual -implicitDefEqProofs (maxSteps := 1000000) only [sm, sn, sxx, seval, flB_eq, hKK, eDoms, eIs]
        try rfl
      · simp +contextual -implicitDefEqProofs (maxSteps := 1000000) only [sm, sn, sxx, seval, flB_eq, eDoms, hKK]
      · simp +contextual -implicitDefEqProofs (maxSteps := 1000000) only [sm, sn, sxx, seval, flB_eq, hKK]
      · generalize (tell s3).1 = y1
        generalize (tell s3).2 = y2
        simp +contextual -implicitDefEqProofs (maxSteps := 1000000) only [sm, sn, sxx, seval, flB_eq, eDoms, h_normal, h_ret, hKK]
        refine ⟨[0], by decide, rfl, ?_, ?_⟩
        · simp +contextual -implicitDefEqProofs (maxSteps := 1000000) only [sm, sn, sxx, seval, flB_eq, hKK, eDoms, eIs]
        · simp +contextual -implicitDefEqProofs (maxSteps := 1000000) only [sm, sn, sxx, seval, eDoms, killL]
theorem reify_Narrow (c : Con) (D : List (List Rg)) (hD : D.length ≤ 1000000000000) (hd : ∀ d ∈ D, d.length ≤ 1000000000000) (hc : conFits c) :
    Ctr Try.prog 26 [eCon c, eDoms D] [] (.tuple [eDoms (reifyL c D).1, .int .i64 (reifyL c D).2]) [] := by
  obtain ⟨K, X, A, C⟩ := c
  refine call_pure Try.func26 Try.call26 e_reify_Narrow ?_
  simp +contextual -implicitDefEqProofs (maxSteps := 1000000) only [c_reify_Narrow, eCon, eIs, eDoms, sm, sn, sxx, seval]
  refine callA_rule (model_Right (D, [(K, X, A, C)], 0, 0) hD hd (by simp) (by simpa using hc)) (wkL_refl _) rfl ?_
  cases hm : modB (D, [(K, X, A, C)], 0, 0)
  · have hres : reifyL (K, X, A, C) D = ([], 2) := by
      unfold reifyL
      rw [if_neg (by simp [hm])]
    rw [hres]
    simp +contextual -implicitDefEqProofs (maxSteps := 1000000) only [sm, sn, sxx, seval, eDoms]
  by_cases k1 : K < 4
  · have hres : reifyL (K, X, A, C) D = ([], 10) := by
      unfold reifyL
      rw [if_pos hm, if_neg (by simp only; omega)]
    rw [hres]
    simp +contextual -implicitDefEqProofs (maxSteps := 1000000) only [sm, sn, sxx, seval, eCon, eIs, eDoms, k1]
  by_cases k2 : 6 < K
  · have hres : reifyL (K, X, A, C) D = ([], 10) := by
      unfold reifyL
      rw [if_pos hm, if_neg (by simp only; omega)]
    rw [hres]
    simp +contextual -implicitDefEqProofs (maxSteps := 1000000) only [sm, sn, sxx, seval, eCon, eIs, eDoms, k1, k2]
  have hK : 4 ≤ K ∧ K ≤ 6 := by omega
  have hN := reify_narrow (K, X, A, C) D hK hm
  obtain ⟨f1, f2, f3, f4, f5, f6⟩ := sum_facts hm (by simp only; omega)
  have hxl := reif_len (c := (K, X, A, C)) hK hm
  obtain ⟨hf, hft⟩ := flag_facts (c := (K, X, A, C)) hK hm
  simp only at f4 f5 f6 hxl
  have e1 : IntKind.i64.wrap ((X.length : Int) - 1) = ((X.length - 1 : Nat) : Int) := by rw [wrap_i64] <;> omega
  have hx := xat_get (X := X) (i := X.length - 1) (by omega)
  have hle1 : X.length - 1 ≤ X.length := by omega
  have ht : List.take (X.length - 1) (X.map eI) = (headX (K, X, A, C)).map eI := by unfold headX; rw [List.map_take]
  have hfl : flagX (K, X, A, C) = xat X (X.length - 1) := rfl
  have hres : reifyL (K, X, A, C) D = tell (reifyS K D (termsOf (K, X, A, C)) C (flagX (K, X, A, C))) := by
    unfold reifyL
    rw [if_pos hm, if_pos hK]
  obtain ⟨E, b, hs⟩ : ∃ E b, reifyS K D (termsOf (K, X, A, C)) C (flagX (K, X, A, C)) = (E, b) := ⟨_, _, rfl⟩
  obtain ⟨hl1, hl2⟩ := reifyS_le f2 f3 hf hs
  rw [hs] at hN
  rw [hres, hs]
  simp +contextual -implicitDefEqProofs (maxSteps := 1000000) only [sm, sn, sxx, seval, eCon, eIs, k1, k2, e1, hx, hle1, ht, Nat.zero_le]
  refine callM_rule [1] hN (by decide) ?_ ?_ ?_ ?_ ?_ ?_
  · simp +contextual -implicitDefEqProofs (maxSteps := 1000000) only [sm, sn, sxx, seval, flB_eq, hfl]
    try rfl
  · simp +contextual -implicitDefEqProofs (maxSteps := 1000000) only [sm, sn, sxx, seval, flB_eq]
  · simp +contextual -implicitDefEqProofs (maxSteps := 1000000) only [sm, sn, sxx, seval, flB_eq, eDoms, eIs]
    try rfl
  · simp +contextual -implicitDefEqProofs (maxSteps := 1000000) only [sm, sn, sxx, seval, flB_eq, eDoms]
  · simp +contextual -implicitDefEqProofs (maxSteps := 1000000) only [sm, sn, sxx, seval, flB_eq]
  cases b
  · simp +contextual -implicitDefEqProofs (maxSteps := 1000000) only [sm, sn, sxx, seval, flB_eq, tell_12, eDoms]
  · have hEl := hl1.1
    have hEd := le_rows hl1
    simp +contextual -implicitDefEqProofs (maxSteps := 1000000) only [sm, sn, sxx, seval, flB_eq, tell_0, eDoms]
    refine loop_ruleV [(10, 1)] (fun k : Nat => k ≤ E.length) (fun k => tm 73 [(10, .sl 1 0 0 k), (60, .list 1 (E.map eRgs)), (61, .int .i64 E.length), (62, .int .i64 k)]) (fun k => [some (1, (E.take k).map eRgs)]) (fun k => E.length - k) 0 (by simp +contextual -implicitDefEqProofs (maxSteps := 1000000) only [sm, sn, sxx, seval]) (Nat.zero_le _) ⟨[2], by decide, rfl, ?_, ?_⟩ ?_
    · simp +contextual -implicitDefEqProofs (maxSteps := 1000000) only [sm, sn, sxx, seval]
    · simp +contextual -implicitDefEqProofs (maxSteps := 1000000) only [sm, sn, sxx, seval, Int.natCast_zero]
    · intro k hk
      have hkl : (E.take k).length = k := by rw [List.length_take]; omega
      by_cases hlt : k < E.length
      · have hlt' : (k : Int) < (E.length : Int) := by omega
        have e2 : IntKind.i64.wrap ((k : Int) + 1) = ((k + 1 : Nat) : Int) := by rw [wrap_i64] <;> omega
        obtain ⟨r, hr⟩ : ∃ r, E[k]? = some r := ⟨_, List.getElem?_eq_getElem hlt⟩
        have hs := take_snoc hr
        have c1 : (k + 1) * 24 ≤ 140737488355328 := by omega
        have c2 : k + 1 ≤ maxLen := by unfold maxLen; omega
        simp +contextual -implicitDefEqProofs (maxSteps := 1000000) only [sm, sn, sxx, seval, hlt', hlt, hr]
        refine callA_rule (clone_rgs r (hEd r (List.mem_of_getElem? hr))) (wkL_refl _) rfl ?_
        simp +contextual -implicitDefEqProofs (maxSteps := 1000000) only [sm, sn, sxx, seval, eRgs, hkl, c1, c2, hs, e2]
        refine ⟨k + 1, by omega, by omega, [1], by decide, rfl, ?_, ?_⟩
        · simp +contextual -implicitDefEqProofs (maxSteps := 1000000) only [sm, sn, sxx, seval]
        · simp +contextual -implicitDefEqProofs (maxSteps := 1000000) only [sm, sn, sxx, seval]
      · have hkn : k = E.length := by omega
        subst hkn
        rw [List.take_length]
        have t1 : List.take E.length (E.map eRgs) = E.map eRgs := take_map _ _
        simp +contextual -implicitDefEqProofs (maxSteps := 1000000) only [sm, sn, sxx, seval, Int.lt_irrefl, t1]
end Go.Proofs.Ytonkcemcledhiaa
