/- logic.Narrow: its rows are its caller's own. -/
import Derived.Test.YtonkcemcledhiaaWLogic4
import Derived.Test.YtonkcemcledhiaaWRows2
import Derived.Test.YtonkcemcledhiaaCLogicN
namespace Go.Proofs.Ytonkcemcledhiaa
open Av
attribute [local irreducible] awp awpOpers
set_option linter.unusedSimpArgs false
set_option linter.unusedVariables false
set_option maxRecDepth 100000
set_option maxHeartbeats 4000000
theorem logic_NarrowO (c : Con) (D G : List (List Rg)) (hD : D.length ≤ 1000000000000) (hd : ∀ d ∈ D, d.length ≤ 1000000000000) (hc : conFits c) (hF' : logicL c D = (G, 0)) :
    Ctr Try.prog 17 [eCon c, eDoms D] [] (.tuple [.sl 1 0 0 G.length, .int .i64 0]) (some (1, rowsM 1 G G.length) :: rowB G) := by
  obtain ⟨K, X, A, C⟩ := c
  refine call_box Try.func17 Try.call17 e_logic_NarrowO ?_
  simp +contextual -implicitDefEqProofs (maxSteps := 1000000) only [c_logic_NarrowO, eCon, eIs, eDoms, sm, sn, sxx, seval]
  refine callA_rule (model_Right (D, [(K, X, A, C)], 0, 0) hD hd (by simp) (by simpa using hc)) (wkL_refl _) rfl ?_
  cases hm : modB (D, [(K, X, A, C)], 0, 0)
  · have hres : logicL (K, X, A, C) D = ([], 2) := by
      unfold logicL
      rw [if_neg (by simp [hm])]
    rw [hres] at hF'
    simp at hF'
  obtain ⟨f1, f2, f3⟩ := one_facts hm
  obtain ⟨g1, g2, hI, g4, g5⟩ := may_facts f3
  obtain ⟨l1, l2, l3⟩ := may_len f3
  simp only at l1 l2 l3 hI g2
  simp +contextual -implicitDefEqProofs (maxSteps := 1000000) only [sm, sn, sxx, seval]
  refine callO_rule (clone_doms D hD) rfl (wkL_refl _) rfl ?_ ?_
  · simp +contextual -implicitDefEqProofs (maxSteps := 1000000) only [sm, sn, sxx, seval]
  by_cases hK : K = 11
  · subst hK
    obtain ⟨F, b, hF⟩ : ∃ F b, clauseS D X A = (F, b) := ⟨_, _, rfl⟩
    obtain ⟨hF2, hFl⟩ := ok_clause hI hd hF
    have hres : logicL (11, X, A, C) D = fin (F, b) := by
      unfold logicL
      rw [if_pos hm]
      simp only
      rw [hF]
      rfl
    simp +contextual -implicitDefEqProofs (maxSteps := 1000000) only [sm, sn, sxx, seval, eCon, eIs]
    refine callM_rule [2, 1] (logic_clause X A D hI hd (by omega) (l1 rfl).1.symm hF) (by decide) ?_ ?_ ?_ ?_ ?_ ?_
    · simp +contextual -implicitDefEqProofs (maxSteps := 1000000) only [sm, sn, sxx, seval, bits_eq]
      try rfl
    · simp +contextual -implicitDefEqProofs (maxSteps := 1000000) only [sm, sn, sxx, seval, bits_eq]
    · simp +contextual -implicitDefEqProofs (maxSteps := 1000000) only [sm, sn, sxx, seval, bits_eq, eIs]
      try rfl
    · simp +contextual -implicitDefEqProofs (maxSteps := 1000000) only [sm, sn, sxx, seval, bits_eq]
    · simp +contextual -implicitDefEqProofs (maxSteps := 1000000) only [sm, sn, sxx, seval, bits_eq]
    · simp +contextual -implicitDefEqProofs (maxSteps := 1000000) only [sm, sn, sxx, seval, bits_eq, eCon, eIs]
      cases b
      · have hres2 := hres
        rw [hF'] at hres2
        simp only [fin, Prod.mk.injEq] at hres2
        obtain ⟨hFF, -⟩ := hres2
        subst hFF
        have hB0 : rowB [] = [] := rfl
        have hz0 := rowsM_zero 3 G
        simp +contextual -implicitDefEqProofs (maxSteps := 1000000) only [sm, sn, sxx, seval]
        refine loop_rule (fun k : Nat => k ≤ G.length) (fun k => tm 68 [(6, .ptr 3 2 0 0), (48, .sl 1 1 0 G.length), (49, .int .i64 G.length), (50, .int .i64 k)])
          (fun k => some (4, [eCon (11, X, A, C)]) :: some (1, rowsM 3 G k) :: some (3, [.agg [.list 1 (X.map eI), .sl 1 1 0 G.length, .bool false]]) :: rowB (G.take k)) (fun k => G.length - k) 0 (Nat.zero_le _) ⟨[0, 1, 2], by decide, rfl, ?_, ?_⟩ ?_
        · simp +contextual -implicitDefEqProofs (maxSteps := 1000000) only [sm, sn, sxx, seval, eCon, eIs, hB0, hz0]
          try rfl
        · simp +contextual -implicitDefEqProofs (maxSteps := 1000000) only [sm, sn, sxx, seval, Int.natCast_zero, hB0]
          try rfl
        · intro k hk
          have hRl : (rowB (G.take k)).length = k := by rw [rowB_len, List.length_take]; omega
          by_cases hlt : k < G.length
          · obtain ⟨r, hr⟩ : ∃ r, G[k]? = some r := ⟨_, List.getElem?_eq_getElem hlt⟩
            have hlt' : (k : Int) < (G.length : Int) := by omega
            have e2 : IntKind.i64.wrap ((k : Int) + 1) = ((k + 1 : Nat) : Int) := by rw [wrap_i64] <;> omega
            have hrs := rowsM_at (b := 3) hr
            have hrm := rowsM_len 3 G k
            simp +contextual -implicitDefEqProofs (maxSteps := 1000000) only [sm, sn, sxx, seval, hlt', hlt, hr, hrs, hrm]
            simp +contextual -implicitDefEqProofs (maxSteps := 1000000) only [sm, sn, sxx, seval, eRgs, hlt', hlt, hr, hrs, hrm, hRl]
            have hCl := clone_rgsO r (hF2 r (List.mem_of_getElem? hr))
            refine callO_rule hCl rfl (wkL_refl _) rfl ?_ ?_
            · simp +contextual -implicitDefEqProofs (maxSteps := 1000000) only [sm, sn, sxx, seval]
            simp +contextual -implicitDefEqProofs (maxSteps := 1000000) only [sm, sn, sxx, seval, eRgs, hlt', hlt, hr, hrs, hrm, hRl, e2]
            have hset : (rowsM 3 G k).set k (.sl 2 (k + 1 + 1 + 1) 0 r.length) = rowsM 3 G (k + 1) := by rw [show k + 1 + 1 + 1 = 3 + k by omega]; exact rowsM_set hr
            have hsn : rowB (G.take k) ++ [some (2, r.map eRg)] = rowB (G.take (k + 1)) := by rw [rowB_snoc, List.take_add_one, hr]; rfl
            rw [hset, hsn]
            have hRl' : (rowB (G.take (k + 1))).length = k + 1 := by rw [rowB_len, List.length_take]; omega
            refine ⟨k + 1, by omega, by omega, Emb_same (Nat.zero_le _) ?_ ?_⟩
            · simp only [List.length_cons, hRl', okBx, Bool.and_eq_true]
              exact ⟨rfl, rowsM_ok (by omega), by simp [okEs, flatL, AV.flat, okC, okL], okBx_flat _ (rowB_flat _)⟩
            · simp only [List.length_cons, hRl']
              have q1 : 1 < k + 1 + 1 + 1 + 1 := by omega
              have q2 : 2 < k + 1 + 1 + 1 + 1 := by omega
              simp +contextual -implicitDefEqProofs (maxSteps := 1000000) only [sm, sn, sxx, seval, getN_range, q1, q2]
              try rfl
          · have hkn : k = G.length := by omega
            subst hkn
            have tt : G.take G.length = G := List.take_length
            have hrm := rowsM_len 3 G G.length
            rw [tt] at hRl ⊢
            simp +contextual -implicitDefEqProofs (maxSteps := 1000000) only [sm, sn, sxx, seval, Int.lt_irrefl]
            have hlF := rowB_len G
            refine ⟨[], 1 :: List.range' 3 G.length, ?_, ?_, by rw [hlF]; omega, rfl⟩
            · rw [List.nodup_cons]
              exact ⟨by simp [List.mem_range']; intro x _; omega, List.nodup_range'⟩
            · rw [hlF]
              refine ⟨⟨rfl, rowsM_ren G⟩, rowsM_ok (by omega), ?_⟩
              have := emb_rows (n := G.length + 1) (ix := 1 :: List.range' 3 G.length) (bx := some (4, [eCon (11, X, A, C)]) :: some (1, rowsM 3 G G.length) :: some (3, [.agg [.list 1 (X.map eI), .sl 1 1 0 G.length, .bool false]]) :: rowB G) (rowB G) 3 (rowB_flat G) (fun j _ => bxGet_pre [_, _, _] (rowB G) j) (by simp only [List.length_cons]; omega)
              rwa [hlF] at this
      · rw [hF'] at hres
        simp [fin] at hres
  by_cases hK : K = 12
  · subst hK
    obtain ⟨F, b, hF⟩ : ∃ F b, allS D X 1 = (F, b) := ⟨_, _, rfl⟩
    obtain ⟨hF2, hFl⟩ := ok_all hI hd hF
    have hres : logicL (12, X, A, C) D = fin (F, b) := by
      unfold logicL
      rw [if_pos hm]
      simp only
      rw [hF]
      rfl
    simp +contextual -implicitDefEqProofs (maxSteps := 1000000) only [sm, sn, sxx, seval, eCon, eIs]
    refine callM_rule [2, 1] (logic_all X D 1 (.inr rfl) hI hd (by omega) (l2 (.inl rfl)) hF) (by decide) ?_ ?_ ?_ ?_ ?_ ?_
    · simp +contextual -implicitDefEqProofs (maxSteps := 1000000) only [sm, sn, sxx, seval, bits_eq]
      try rfl
    · simp +contextual -implicitDefEqProofs (maxSteps := 1000000) only [sm, sn, sxx, seval, bits_eq]
    · simp +contextual -implicitDefEqProofs (maxSteps := 1000000) only [sm, sn, sxx, seval, bits_eq, eIs]
      try rfl
    · simp +contextual -implicitDefEqProofs (maxSteps := 1000000) only [sm, sn, sxx, seval, bits_eq]
    · simp +contextual -implicitDefEqProofs (maxSteps := 1000000) only [sm, sn, sxx, seval, bits_eq]
    · simp +contextual -implicitDefEqProofs (maxSteps := 1000000) only [sm, sn, sxx, seval, bits_eq, eCon, eIs]
      cases b
      · have hres2 := hres
        rw [hF'] at hres2
        simp only [fin, Prod.mk.injEq] at hres2
        obtain ⟨hFF, -⟩ := hres2
        subst hFF
        have hB0 : rowB [] = [] := rfl
        have hz0 := rowsM_zero 3 G
        simp +contextual -implicitDefEqProofs (maxSteps := 1000000) only [sm, sn, sxx, seval]
        refine loop_rule (fun k : Nat => k ≤ G.length) (fun k => tm 68 [(6, .ptr 3 2 0 0), (48, .sl 1 1 0 G.length), (49, .int .i64 G.length), (50, .int .i64 k)])
          (fun k => some (4, [eCon (12, X, A, C)]) :: some (1, rowsM 3 G k) :: some (3, [.agg [.list 1 (X.map eI), .sl 1 1 0 G.length, .bool false]]) :: rowB (G.take k)) (fun k => G.length - k) 0 (Nat.zero_le _) ⟨[0, 1, 2], by decide, rfl, ?_, ?_⟩ ?_
        · simp +contextual -implicitDefEqProofs (maxSteps := 1000000) only [sm, sn, sxx, seval, eCon, eIs, hB0, hz0]
          try rfl
        · simp +contextual -implicitDefEqProofs (maxSteps := 1000000) only [sm, sn, sxx, seval, Int.natCast_zero, hB0]
          try rfl
        · intro k hk
          have hRl : (rowB (G.take k)).length = k := by rw [rowB_len, List.length_take]; omega
          by_cases hlt : k < G.length
          · obtain ⟨r, hr⟩ : ∃ r, G[k]? = some r := ⟨_, List.getElem?_eq_getElem hlt⟩
            have hlt' : (k : Int) < (G.length : Int) := by omega
            have e2 : IntKind.i64.wrap ((k : Int) + 1) = ((k + 1 : Nat) : Int) := by rw [wrap_i64] <;> omega
            have hrs := rowsM_at (b := 3) hr
            have hrm := rowsM_len 3 G k
            simp +contextual -implicitDefEqProofs (maxSteps := 1000000) only [sm, sn, sxx, seval, hlt', hlt, hr, hrs, hrm]
            simp +contextual -implicitDefEqProofs (maxSteps := 1000000) only [sm, sn, sxx, seval, eRgs, hlt', hlt, hr, hrs, hrm, hRl]
            have hCl := clone_rgsO r (hF2 r (List.mem_of_getElem? hr))
            refine callO_rule hCl rfl (wkL_refl _) rfl ?_ ?_
            · simp +contextual -implicitDefEqProofs (maxSteps := 1000000) only [sm, sn, sxx, seval]
            simp +contextual -implicitDefEqProofs (maxSteps := 1000000) only [sm, sn, sxx, seval, eRgs, hlt', hlt, hr, hrs, hrm, hRl, e2]
            have hset : (rowsM 3 G k).set k (.sl 2 (k + 1 + 1 + 1) 0 r.length) = rowsM 3 G (k + 1) := by rw [show k + 1 + 1 + 1 = 3 + k by omega]; exact rowsM_set hr
            have hsn : rowB (G.take k) ++ [some (2, r.map eRg)] = rowB (G.take (k + 1)) := by rw [rowB_snoc, List.take_add_one, hr]; rfl
            rw [hset, hsn]
            have hRl' : (rowB (G.take (k + 1))).length = k + 1 := by rw [rowB_len, List.length_take]; omega
            refine ⟨k + 1, by omega, by omega, Emb_same (Nat.zero_le _) ?_ ?_⟩
            · simp only [List.length_cons, hRl', okBx, Bool.and_eq_true]
              exact ⟨rfl, rowsM_ok (by omega), by simp [okEs, flatL, AV.flat, okC, okL], okBx_flat _ (rowB_flat _)⟩
            · simp only [List.length_cons, hRl']
              have q1 : 1 < k + 1 + 1 + 1 + 1 := by omega
              have q2 : 2 < k + 1 + 1 + 1 + 1 := by omega
              simp +contextual -implicitDefEqProofs (maxSteps := 1000000) only [sm, sn, sxx, seval, getN_range, q1, q2]
              try rfl
          · have hkn : k = G.length := by omega
            subst hkn
            have tt : G.take G.length = G := List.take_length
            have hrm := rowsM_len 3 G G.length
            rw [tt] at hRl ⊢
            simp +contextual -implicitDefEqProofs (maxSteps := 1000000) only [sm, sn, sxx, seval, Int.lt_irrefl]
            have hlF := rowB_len G
            refine ⟨[], 1 :: List.range' 3 G.length, ?_, ?_, by rw [hlF]; omega, rfl⟩
            · rw [List.nodup_cons]
              exact ⟨by simp [List.mem_range']; intro x _; omega, List.nodup_range'⟩
            · rw [hlF]
              refine ⟨⟨rfl, rowsM_ren G⟩, rowsM_ok (by omega), ?_⟩
              have := emb_rows (n := G.length + 1) (ix := 1 :: List.range' 3 G.length) (bx := some (4, [eCon (12, X, A, C)]) :: some (1, rowsM 3 G G.length) :: some (3, [.agg [.list 1 (X.map eI), .sl 1 1 0 G.length, .bool false]]) :: rowB G) (rowB G) 3 (rowB_flat G) (fun j _ => bxGet_pre [_, _, _] (rowB G) j) (by simp only [List.length_cons]; omega)
              rwa [hlF] at this
      · rw [hF'] at hres
        simp [fin] at hres
  by_cases hK : K = 13
  · subst hK
    obtain ⟨F, b, hF⟩ : ∃ F b, allS D X 0 = (F, b) := ⟨_, _, rfl⟩
    obtain ⟨hF2, hFl⟩ := ok_all hI hd hF
    have hres : logicL (13, X, A, C) D = fin (F, b) := by
      unfold logicL
      rw [if_pos hm]
      simp only
      rw [hF]
      rfl
    simp +contextual -implicitDefEqProofs (maxSteps := 1000000) only [sm, sn, sxx, seval, eCon, eIs]
    refine callM_rule [2, 1] (logic_all X D 0 (.inl rfl) hI hd (by omega) (l2 (.inr rfl)) hF) (by decide) ?_ ?_ ?_ ?_ ?_ ?_
    · simp +contextual -implicitDefEqProofs (maxSteps := 1000000) only [sm, sn, sxx, seval, bits_eq]
      try rfl
    · simp +contextual -implicitDefEqProofs (maxSteps := 1000000) only [sm, sn, sxx, seval, bits_eq]
    · simp +contextual -implicitDefEqProofs (maxSteps := 1000000) only [sm, sn, sxx, seval, bits_eq, eIs]
      try rfl
    · simp +contextual -implicitDefEqProofs (maxSteps := 1000000) only [sm, sn, sxx, seval, bits_eq]
    · simp +contextual -implicitDefEqProofs (maxSteps := 1000000) only [sm, sn, sxx, seval, bits_eq]
    · simp +contextual -implicitDefEqProofs (maxSteps := 1000000) only [sm, sn, sxx, seval, bits_eq, eCon, eIs]
      cases b
      · have hres2 := hres
        rw [hF'] at hres2
        simp only [fin, Prod.mk.injEq] at hres2
        obtain ⟨hFF, -⟩ := hres2
        subst hFF
        have hB0 : rowB [] = [] := rfl
        have hz0 := rowsM_zero 3 G
        simp +contextual -implicitDefEqProofs (maxSteps := 1000000) only [sm, sn, sxx, seval]
        refine loop_rule (fun k : Nat => k ≤ G.length) (fun k => tm 68 [(6, .ptr 3 2 0 0), (48, .sl 1 1 0 G.length), (49, .int .i64 G.length), (50, .int .i64 k)])
          (fun k => some (4, [eCon (13, X, A, C)]) :: some (1, rowsM 3 G k) :: some (3, [.agg [.list 1 (X.map eI), .sl 1 1 0 G.length, .bool false]]) :: rowB (G.take k)) (fun k => G.length - k) 0 (Nat.zero_le _) ⟨[0, 1, 2], by decide, rfl, ?_, ?_⟩ ?_
        · simp +contextual -implicitDefEqProofs (maxSteps := 1000000) only [sm, sn, sxx, seval, eCon, eIs, hB0, hz0]
          try rfl
        · simp +contextual -implicitDefEqProofs (maxSteps := 1000000) only [sm, sn, sxx, seval, Int.natCast_zero, hB0]
          try rfl
        · intro k hk
          have hRl : (rowB (G.take k)).length = k := by rw [rowB_len, List.length_take]; omega
          by_cases hlt : k < G.length
          · obtain ⟨r, hr⟩ : ∃ r, G[k]? = some r := ⟨_, List.getElem?_eq_getElem hlt⟩
            have hlt' : (k : Int) < (G.length : Int) := by omega
            have e2 : IntKind.i64.wrap ((k : Int) + 1) = ((k + 1 : Nat) : Int) := by rw [wrap_i64] <;> omega
            have hrs := rowsM_at (b := 3) hr
            have hrm := rowsM_len 3 G k
            simp +contextual -implicitDefEqProofs (maxSteps := 1000000) only [sm, sn, sxx, seval, hlt', hlt, hr, hrs, hrm]
            simp +contextual -implicitDefEqProofs (maxSteps := 1000000) only [sm, sn, sxx, seval, eRgs, hlt', hlt, hr, hrs, hrm, hRl]
            have hCl := clone_rgsO r (hF2 r (List.mem_of_getElem? hr))
            refine callO_rule hCl rfl (wkL_refl _) rfl ?_ ?_
            · simp +contextual -implicitDefEqProofs (maxSteps := 1000000) only [sm, sn, sxx, seval]
            simp +contextual -implicitDefEqProofs (maxSteps := 1000000) only [sm, sn, sxx, seval, eRgs, hlt', hlt, hr, hrs, hrm, hRl, e2]
            have hset : (rowsM 3 G k).set k (.sl 2 (k + 1 + 1 + 1) 0 r.length) = rowsM 3 G (k + 1) := by rw [show k + 1 + 1 + 1 = 3 + k by omega]; exact rowsM_set hr
            have hsn : rowB (G.take k) ++ [some (2, r.map eRg)] = rowB (G.take (k + 1)) := by rw [rowB_snoc, List.take_add_one, hr]; rfl
            rw [hset, hsn]
            have hRl' : (rowB (G.take (k + 1))).length = k + 1 := by rw [rowB_len, List.length_take]; omega
            refine ⟨k + 1, by omega, by omega, Emb_same (Nat.zero_le _) ?_ ?_⟩
            · simp only [List.length_cons, hRl', okBx, Bool.and_eq_true]
              exact ⟨rfl, rowsM_ok (by omega), by simp [okEs, flatL, AV.flat, okC, okL], okBx_flat _ (rowB_flat _)⟩
            · simp only [List.length_cons, hRl']
              have q1 : 1 < k + 1 + 1 + 1 + 1 := by omega
              have q2 : 2 < k + 1 + 1 + 1 + 1 := by omega
              simp +contextual -implicitDefEqProofs (maxSteps := 1000000) only [sm, sn, sxx, seval, getN_range, q1, q2]
              try rfl
          · have hkn : k = G.length := by omega
            subst hkn
            have tt : G.take G.length = G := List.take_length
            have hrm := rowsM_len 3 G G.length
            rw [tt] at hRl ⊢
            simp +contextual -implicitDefEqProofs (maxSteps := 1000000) only [sm, sn, sxx, seval, Int.lt_irrefl]
            have hlF := rowB_len G
            refine ⟨[], 1 :: List.range' 3 G.length, ?_, ?_, by rw [hlF]; omega, rfl⟩
            · rw [List.nodup_cons]
              exact ⟨by simp [List.mem_range']; intro x _; omega, List.nodup_range'⟩
            · rw [hlF]
              refine ⟨⟨rfl, rowsM_ren G⟩, rowsM_ok (by omega), ?_⟩
              have := emb_rows (n := G.length + 1) (ix := 1 :: List.range' 3 G.length) (bx := some (4, [eCon (13, X, A, C)]) :: some (1, rowsM 3 G G.length) :: some (3, [.agg [.list 1 (X.map eI), .sl 1 1 0 G.length, .bool false]]) :: rowB G) (rowB G) 3 (rowB_flat G) (fun j _ => bxGet_pre [_, _, _] (rowB G) j) (by simp only [List.length_cons]; omega)
              rwa [hlF] at this
      · rw [hF'] at hres
        simp [fin] at hres
  by_cases hK : K = 14
  · subst hK
    obtain ⟨F, b, hF⟩ : ∃ F b, xorS D X = (F, b) := ⟨_, _, rfl⟩
    obtain ⟨hF2, hFl⟩ := ok_xor hI hd hF
    have hres : logicL (14, X, A, C) D = fin (F, b) := by
      unfold logicL
      rw [if_pos hm]
      simp only
      rw [hF]
      rfl
    simp +contextual -implicitDefEqProofs (maxSteps := 1000000) only [sm, sn, sxx, seval, eCon, eIs]
    refine callM_rule [2, 1] (logic_xor X D hI hd (l3 rfl) hF) (by decide) ?_ ?_ ?_ ?_ ?_ ?_
    · simp +contextual -implicitDefEqProofs (maxSteps := 1000000) only [sm, sn, sxx, seval, bits_eq]
      try rfl
    · simp +contextual -implicitDefEqProofs (maxSteps := 1000000) only [sm, sn, sxx, seval, bits_eq]
    · simp +contextual -implicitDefEqProofs (maxSteps := 1000000) only [sm, sn, sxx, seval, bits_eq, eIs]
      try rfl
    · simp +contextual -implicitDefEqProofs (maxSteps := 1000000) only [sm, sn, sxx, seval, bits_eq]
    · simp +contextual -implicitDefEqProofs (maxSteps := 1000000) only [sm, sn, sxx, seval, bits_eq]
    · simp +contextual -implicitDefEqProofs (maxSteps := 1000000) only [sm, sn, sxx, seval, bits_eq, eCon, eIs]
      cases b
      · have hres2 := hres
        rw [hF'] at hres2
        simp only [fin, Prod.mk.injEq] at hres2
        obtain ⟨hFF, -⟩ := hres2
        subst hFF
        have hB0 : rowB [] = [] := rfl
        have hz0 := rowsM_zero 3 G
        simp +contextual -implicitDefEqProofs (maxSteps := 1000000) only [sm, sn, sxx, seval]
        refine loop_rule (fun k : Nat => k ≤ G.length) (fun k => tm 68 [(6, .ptr 3 2 0 0), (48, .sl 1 1 0 G.length), (49, .int .i64 G.length), (50, .int .i64 k)])
          (fun k => some (4, [eCon (14, X, A, C)]) :: some (1, rowsM 3 G k) :: some (3, [.agg [.list 1 (X.map eI), .sl 1 1 0 G.length, .bool false]]) :: rowB (G.take k)) (fun k => G.length - k) 0 (Nat.zero_le _) ⟨[0, 1, 2], by decide, rfl, ?_, ?_⟩ ?_
        · simp +contextual -implicitDefEqProofs (maxSteps := 1000000) only [sm, sn, sxx, seval, eCon, eIs, hB0, hz0]
          try rfl
        · simp +contextual -implicitDefEqProofs (maxSteps := 1000000) only [sm, sn, sxx, seval, Int.natCast_zero, hB0]
          try rfl
        · intro k hk
          have hRl : (rowB (G.take k)).length = k := by rw [rowB_len, List.length_take]; omega
          by_cases hlt : k < G.length
          · obtain ⟨r, hr⟩ : ∃ r, G[k]? = some r := ⟨_, List.getElem?_eq_getElem hlt⟩
            have hlt' : (k : Int) < (G.length : Int) := by omega
            have e2 : IntKind.i64.wrap ((k : Int) + 1) = ((k + 1 : Nat) : Int) := by rw [wrap_i64] <;> omega
            have hrs := rowsM_at (b := 3) hr
            have hrm := rowsM_len 3 G k
            simp +contextual -implicitDefEqProofs (maxSteps := 1000000) only [sm, sn, sxx, seval, hlt', hlt, hr, hrs, hrm]
            simp +contextual -implicitDefEqProofs (maxSteps := 1000000) only [sm, sn, sxx, seval, eRgs, hlt', hlt, hr, hrs, hrm, hRl]
            have hCl := clone_rgsO r (hF2 r (List.mem_of_getElem? hr))
            refine callO_rule hCl rfl (wkL_refl _) rfl ?_ ?_
            · simp +contextual -implicitDefEqProofs (maxSteps := 1000000) only [sm, sn, sxx, seval]
            simp +contextual -implicitDefEqProofs (maxSteps := 1000000) only [sm, sn, sxx, seval, eRgs, hlt', hlt, hr, hrs, hrm, hRl, e2]
            have hset : (rowsM 3 G k).set k (.sl 2 (k + 1 + 1 + 1) 0 r.length) = rowsM 3 G (k + 1) := by rw [show k + 1 + 1 + 1 = 3 + k by omega]; exact rowsM_set hr
            have hsn : rowB (G.take k) ++ [some (2, r.map eRg)] = rowB (G.take (k + 1)) := by rw [rowB_snoc, List.take_add_one, hr]; rfl
            rw [hset, hsn]
            have hRl' : (rowB (G.take (k + 1))).length = k + 1 := by rw [rowB_len, List.length_take]; omega
            refine ⟨k + 1, by omega, by omega, Emb_same (Nat.zero_le _) ?_ ?_⟩
            · simp only [List.length_cons, hRl', okBx, Bool.and_eq_true]
              exact ⟨rfl, rowsM_ok (by omega), by simp [okEs, flatL, AV.flat, okC, okL], okBx_flat _ (rowB_flat _)⟩
            · simp only [List.length_cons, hRl']
              have q1 : 1 < k + 1 + 1 + 1 + 1 := by omega
              have q2 : 2 < k + 1 + 1 + 1 + 1 := by omega
              simp +contextual -implicitDefEqProofs (maxSteps := 1000000) only [sm, sn, sxx, seval, getN_range, q1, q2]
              try rfl
          · have hkn : k = G.length := by omega
            subst hkn
            have tt : G.take G.length = G := List.take_length
            have hrm := rowsM_len 3 G G.length
            rw [tt] at hRl ⊢
            simp +contextual -implicitDefEqProofs (maxSteps := 1000000) only [sm, sn, sxx, seval, Int.lt_irrefl]
            have hlF := rowB_len G
            refine ⟨[], 1 :: List.range' 3 G.length, ?_, ?_, by rw [hlF]; omega, rfl⟩
            · rw [List.nodup_cons]
              exact ⟨by simp [List.mem_range']; intro x _; omega, List.nodup_range'⟩
            · rw [hlF]
              refine ⟨⟨rfl, rowsM_ren G⟩, rowsM_ok (by omega), ?_⟩
              have := emb_rows (n := G.length + 1) (ix := 1 :: List.range' 3 G.length) (bx := some (4, [eCon (14, X, A, C)]) :: some (1, rowsM 3 G G.length) :: some (3, [.agg [.list 1 (X.map eI), .sl 1 1 0 G.length, .bool false]]) :: rowB G) (rowB G) 3 (rowB_flat G) (fun j _ => bxGet_pre [_, _, _] (rowB G) j) (by simp only [List.length_cons]; omega)
              rwa [hlF] at this
      · rw [hF'] at hres
        simp [fin] at hres
  rename_i k1 k2 k3
  have hres : logicL (K, X, A, C) D = ([], 10) := by
    unfold logicL
    rw [if_pos hm, if_neg k1, if_neg k2, if_neg k3, if_neg hK]
  rw [hres] at hF'
  simp at hF'
end Go.Proofs.Ytonkcemcledhiaa
