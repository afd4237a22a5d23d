/- arith.Narrow: its rows are its caller's own. -/
import Derived.Test.YtonkcemcledhiaaWArith3
import Derived.Test.YtonkcemcledhiaaWRows2
import Derived.Test.YtonkcemcledhiaaCArithN
namespace Go.Proofs.Ytonkcemcledhiaa
open Av
attribute [local irreducible] awp awpOpers
set_option linter.unusedSimpArgs false
set_option linter.unusedVariables false
set_option maxRecDepth 100000
set_option maxHeartbeats 4000000
theorem arith_NarrowO (c : Con) (D G : List (List Rg)) (hD : D.length ≤ 1000000000000) (hd : ∀ d ∈ D, d.length ≤ 1000000000000) (hc : conFits c) (hF : arithL c D = (G, 0)) :
    Ctr Try.prog 29 [eCon c, eDoms D] [] (.tuple [.sl 1 0 0 G.length, .int .i64 0]) (some (1, rowsM 1 G G.length) :: rowB G) := by
  obtain ⟨K, X, A, C⟩ := c
  refine call_box Try.func29 Try.call29 e_arith_NarrowO ?_
  simp +contextual -implicitDefEqProofs (maxSteps := 1000000) only [c_arith_NarrowO, eCon, eIs, eDoms, sm, sn, sxx, seval]
  refine callA_rule (model_Right (D, [(K, X, A, C)], 0, 0) hD hd (by simp) (by simpa using hc)) (wkL_refl _) rfl ?_
  cases hm : modB (D, [(K, X, A, C)], 0, 0)
  · have hres : arithL (K, X, A, C) D = ([], 2) := by
      unfold arithL
      rw [if_neg (by simp [hm])]
    rw [hres] at hF
    simp at hF
  obtain ⟨f1, f2, f3⟩ := one_facts hm
  obtain ⟨g1, g2, hI, g4, g5⟩ := may_facts f3
  simp only at hI g2
  have hDk : DOk D := fun x h0 h1 => f2 _ (row_mem ⟨h0, h1⟩)
  simp +contextual -implicitDefEqProofs (maxSteps := 1000000) only [sm, sn, sxx, seval]
  refine callO_rule (clone_doms D hD) rfl (wkL_refl _) rfl ?_ ?_
  · simp +contextual -implicitDefEqProofs (maxSteps := 1000000) only [sm, sn, sxx, seval]
  by_cases hK : K = 7
  · subst hK
    have hok := arith_ok (c := (7, X, A, C)) (D := D) (by unfold aKind; simp) hm
    have hres : arithL (7, X, A, C) D = tellA (arithS 7 D X) := arith_l (c := (7, X, A, C)) (by unfold aKind; simp) hm
    obtain ⟨hlen, -⟩ := hok
    obtain ⟨-, hlF⟩ := arith_ok (c := (7, X, A, C)) (D := D) (by unfold aKind; simp) hm
    have hidx := arith_idx (c := (7, X, A, C)) (D := D) (by unfold aKind; simp) hm
    obtain ⟨-, -, -, -, i3, i2, -⟩ := hidx
    simp only at i3 i2
    have hcon := arith_times X D (i3 (by simp)).1 hI hDk
    have e : arithS 7 D X = timesA D (xat X 0) (xat X 1) (xat X 2) := by unfold arithS; simp
    simp only at hlen hlF
    rw [e] at hres hlen hlF
    obtain ⟨s, hs⟩ : ∃ s, timesA D (xat X 0) (xat X 1) (xat X 2) = s := ⟨_, rfl⟩
    rw [hs] at hcon hres hlen hlF
    obtain ⟨F, b⟩ := s
    have hok := hlen
    simp only at hlF
    simp +contextual -implicitDefEqProofs (maxSteps := 1000000) only [sm, sn, sxx, seval, eCon, eIs]
    refine callM_rule [2, 1] hcon (by decide) ?_ ?_ ?_ ?_ ?_ ?_
    · simp +contextual -implicitDefEqProofs (maxSteps := 1000000) only [sm, sn, sxx, seval, arB_eq]
      try rfl
    · simp +contextual -implicitDefEqProofs (maxSteps := 1000000) only [sm, sn, sxx, seval, arB_eq]
    · simp +contextual -implicitDefEqProofs (maxSteps := 1000000) only [sm, sn, sxx, seval, arB_eq, eIs, eRgs]
      try rfl
    · simp +contextual -implicitDefEqProofs (maxSteps := 1000000) only [sm, sn, sxx, seval, arB_eq]
    · simp +contextual -implicitDefEqProofs (maxSteps := 1000000) only [sm, sn, sxx, seval, arB_eq, eRgs]
    · simp +contextual -implicitDefEqProofs (maxSteps := 1000000) only [sm, sn, sxx, seval, arB_eq, eCon, eIs]
      cases b
      · rw [tellA_f] at hres
        rw [hres] at hF
        simp only [Prod.mk.injEq] at hF
        obtain ⟨hFF, -⟩ := hF
        subst hFF
        have hF2 : ∀ d ∈ F, d.length ≤ 1000000000000 := by
          rcases hok with h | h
          · exact ok_rows h.2
          · cases h
        have hB0 : rowB [] = [] := rfl
        have hz0 := rowsM_zero 3 F
        simp +contextual -implicitDefEqProofs (maxSteps := 1000000) only [sm, sn, sxx, seval]
        refine loop_rule (fun k : Nat => k ≤ F.length) (fun k => tm 70 [(6, .ptr 3 2 0 0), (50, .sl 1 1 0 F.length), (51, .int .i64 F.length), (52, .int .i64 k)])
          (fun k => some (4, [eCon (7, X, A, C)]) :: some (1, rowsM 3 F k) :: some (3, [.agg [.sl 1 1 0 F.length, .list 1 (X.map eI), .bool false]]) :: rowB (F.take k)) (fun k => F.length - k) 0 (Nat.zero_le _) ⟨[0, 1, 2], by decide, rfl, ?_, ?_⟩ ?_
        · simp +contextual -implicitDefEqProofs (maxSteps := 1000000) only [sm, sn, sxx, seval, eCon, eIs, hB0, hz0]
          try rfl
        · simp +contextual -implicitDefEqProofs (maxSteps := 1000000) only [sm, sn, sxx, seval, Int.natCast_zero, hB0]
          try rfl
        · intro k hk
          have hRl : (rowB (F.take k)).length = k := by rw [rowB_len, List.length_take]; omega
          by_cases hlt : k < F.length
          · obtain ⟨r, hr⟩ : ∃ r, F[k]? = some r := ⟨_, List.getElem?_eq_getElem hlt⟩
            have hlt' : (k : Int) < (F.length : Int) := by omega
            have e2 : IntKind.i64.wrap ((k : Int) + 1) = ((k + 1 : Nat) : Int) := by rw [wrap_i64] <;> omega
            have hrs := rowsM_at (b := 3) hr
            have hrm := rowsM_len 3 F k
            simp +contextual -implicitDefEqProofs (maxSteps := 1000000) only [sm, sn, sxx, seval, hlt', hlt, hr, hrs, hrm]
            simp +contextual -implicitDefEqProofs (maxSteps := 1000000) only [sm, sn, sxx, seval, eRgs, hlt', hlt, hr, hrs, hrm, hRl]
            have hCl := clone_rgsO r (hF2 r (List.mem_of_getElem? hr))
            refine callO_rule hCl rfl (wkL_refl _) rfl ?_ ?_
            · simp +contextual -implicitDefEqProofs (maxSteps := 1000000) only [sm, sn, sxx, seval]
            simp +contextual -implicitDefEqProofs (maxSteps := 1000000) only [sm, sn, sxx, seval, eRgs, hlt', hlt, hr, hrs, hrm, hRl, e2]
            have hset : (rowsM 3 F k).set k (.sl 2 (k + 1 + 1 + 1) 0 r.length) = rowsM 3 F (k + 1) := by rw [show k + 1 + 1 + 1 = 3 + k by omega]; exact rowsM_set hr
            have hsn : rowB (F.take k) ++ [some (2, r.map eRg)] = rowB (F.take (k + 1)) := by rw [rowB_snoc, List.take_add_one, hr]; rfl
            rw [hset, hsn]
            have hRl' : (rowB (F.take (k + 1))).length = k + 1 := by rw [rowB_len, List.length_take]; omega
            refine ⟨k + 1, by omega, by omega, Emb_same (Nat.zero_le _) ?_ ?_⟩
            · simp only [List.length_cons, hRl', okBx, Bool.and_eq_true]
              exact ⟨rfl, rowsM_ok (by omega), by simp [okEs, flatL, AV.flat, okC, okL], okBx_flat _ (rowB_flat _)⟩
            · simp only [List.length_cons, hRl']
              have q1 : 1 < k + 1 + 1 + 1 + 1 := by omega
              have q2 : 2 < k + 1 + 1 + 1 + 1 := by omega
              simp +contextual -implicitDefEqProofs (maxSteps := 1000000) only [sm, sn, sxx, seval, getN_range, q1, q2]
              try rfl
          · have hkn : k = F.length := by omega
            subst hkn
            have tt : F.take F.length = F := List.take_length
            have hrm := rowsM_len 3 F F.length
            rw [tt] at hRl ⊢
            simp +contextual -implicitDefEqProofs (maxSteps := 1000000) only [sm, sn, sxx, seval, Int.lt_irrefl]
            have hlF := rowB_len F
            refine ⟨[], 1 :: List.range' 3 F.length, ?_, ?_, by rw [hlF]; omega, rfl⟩
            · rw [List.nodup_cons]
              exact ⟨by simp [List.mem_range']; intro x _; omega, List.nodup_range'⟩
            · rw [hlF]
              refine ⟨⟨rfl, rowsM_ren F⟩, rowsM_ok (by omega), ?_⟩
              have := emb_rows (n := F.length + 1) (ix := 1 :: List.range' 3 F.length) (bx := some (4, [eCon (7, X, A, C)]) :: some (1, rowsM 3 F F.length) :: some (3, [.agg [.sl 1 1 0 F.length, .list 1 (X.map eI), .bool false]]) :: rowB F) (rowB F) 3 (rowB_flat F) (fun j _ => bxGet_pre [_, _, _] (rowB F) j) (by simp only [List.length_cons]; omega)
              rwa [hlF] at this
      · rw [tellA_t] at hres
        rw [hres] at hF
        simp at hF
  by_cases hK : K = 8
  · subst hK
    have hok := arith_ok (c := (8, X, A, C)) (D := D) (by unfold aKind; simp) hm
    have hres : arithL (8, X, A, C) D = tellA (arithS 8 D X) := arith_l (c := (8, X, A, C)) (by unfold aKind; simp) hm
    obtain ⟨hlen, -⟩ := hok
    obtain ⟨-, hlF⟩ := arith_ok (c := (8, X, A, C)) (D := D) (by unfold aKind; simp) hm
    have hidx := arith_idx (c := (8, X, A, C)) (D := D) (by unfold aKind; simp) hm
    obtain ⟨-, -, -, -, i3, i2, -⟩ := hidx
    simp only at i3 i2
    have hcon := arith_lesser X D (i3 (by simp)).1 hI hDk
    have e : arithS 8 D X = lesserA D (xat X 0) (xat X 1) (xat X 2) := by unfold arithS; simp
    simp only at hlen hlF
    rw [e] at hres hlen hlF
    obtain ⟨s, hs⟩ : ∃ s, lesserA D (xat X 0) (xat X 1) (xat X 2) = s := ⟨_, rfl⟩
    rw [hs] at hcon hres hlen hlF
    obtain ⟨F, b⟩ := s
    have hok := hlen
    simp only at hlF
    simp +contextual -implicitDefEqProofs (maxSteps := 1000000) only [sm, sn, sxx, seval, eCon, eIs]
    refine callM_rule [2, 1] hcon (by decide) ?_ ?_ ?_ ?_ ?_ ?_
    · simp +contextual -implicitDefEqProofs (maxSteps := 1000000) only [sm, sn, sxx, seval, arB_eq]
      try rfl
    · simp +contextual -implicitDefEqProofs (maxSteps := 1000000) only [sm, sn, sxx, seval, arB_eq]
    · simp +contextual -implicitDefEqProofs (maxSteps := 1000000) only [sm, sn, sxx, seval, arB_eq, eIs, eRgs]
      try rfl
    · simp +contextual -implicitDefEqProofs (maxSteps := 1000000) only [sm, sn, sxx, seval, arB_eq]
    · simp +contextual -implicitDefEqProofs (maxSteps := 1000000) only [sm, sn, sxx, seval, arB_eq, eRgs]
    · simp +contextual -implicitDefEqProofs (maxSteps := 1000000) only [sm, sn, sxx, seval, arB_eq, eCon, eIs]
      cases b
      · rw [tellA_f] at hres
        rw [hres] at hF
        simp only [Prod.mk.injEq] at hF
        obtain ⟨hFF, -⟩ := hF
        subst hFF
        have hF2 : ∀ d ∈ F, d.length ≤ 1000000000000 := by
          rcases hok with h | h
          · exact ok_rows h.2
          · cases h
        have hB0 : rowB [] = [] := rfl
        have hz0 := rowsM_zero 3 F
        simp +contextual -implicitDefEqProofs (maxSteps := 1000000) only [sm, sn, sxx, seval]
        refine loop_rule (fun k : Nat => k ≤ F.length) (fun k => tm 70 [(6, .ptr 3 2 0 0), (50, .sl 1 1 0 F.length), (51, .int .i64 F.length), (52, .int .i64 k)])
          (fun k => some (4, [eCon (8, X, A, C)]) :: some (1, rowsM 3 F k) :: some (3, [.agg [.sl 1 1 0 F.length, .list 1 (X.map eI), .bool false]]) :: rowB (F.take k)) (fun k => F.length - k) 0 (Nat.zero_le _) ⟨[0, 1, 2], by decide, rfl, ?_, ?_⟩ ?_
        · simp +contextual -implicitDefEqProofs (maxSteps := 1000000) only [sm, sn, sxx, seval, eCon, eIs, hB0, hz0]
          try rfl
        · simp +contextual -implicitDefEqProofs (maxSteps := 1000000) only [sm, sn, sxx, seval, Int.natCast_zero, hB0]
          try rfl
        · intro k hk
          have hRl : (rowB (F.take k)).length = k := by rw [rowB_len, List.length_take]; omega
          by_cases hlt : k < F.length
          · obtain ⟨r, hr⟩ : ∃ r, F[k]? = some r := ⟨_, List.getElem?_eq_getElem hlt⟩
            have hlt' : (k : Int) < (F.length : Int) := by omega
            have e2 : IntKind.i64.wrap ((k : Int) + 1) = ((k + 1 : Nat) : Int) := by rw [wrap_i64] <;> omega
            have hrs := rowsM_at (b := 3) hr
            have hrm := rowsM_len 3 F k
            simp +contextual -implicitDefEqProofs (maxSteps := 1000000) only [sm, sn, sxx, seval, hlt', hlt, hr, hrs, hrm]
            simp +contextual -implicitDefEqProofs (maxSteps := 1000000) only [sm, sn, sxx, seval, eRgs, hlt', hlt, hr, hrs, hrm, hRl]
            have hCl := clone_rgsO r (hF2 r (List.mem_of_getElem? hr))
            refine callO_rule hCl rfl (wkL_refl _) rfl ?_ ?_
            · simp +contextual -implicitDefEqProofs (maxSteps := 1000000) only [sm, sn, sxx, seval]
            simp +contextual -implicitDefEqProofs (maxSteps := 1000000) only [sm, sn, sxx, seval, eRgs, hlt', hlt, hr, hrs, hrm, hRl, e2]
            have hset : (rowsM 3 F k).set k (.sl 2 (k + 1 + 1 + 1) 0 r.length) = rowsM 3 F (k + 1) := by rw [show k + 1 + 1 + 1 = 3 + k by omega]; exact rowsM_set hr
            have hsn : rowB (F.take k) ++ [some (2, r.map eRg)] = rowB (F.take (k + 1)) := by rw [rowB_snoc, List.take_add_one, hr]; rfl
            rw [hset, hsn]
            have hRl' : (rowB (F.take (k + 1))).length = k + 1 := by rw [rowB_len, List.length_take]; omega
            refine ⟨k + 1, by omega, by omega, Emb_same (Nat.zero_le _) ?_ ?_⟩
            · simp only [List.length_cons, hRl', okBx, Bool.and_eq_true]
              exact ⟨rfl, rowsM_ok (by omega), by simp [okEs, flatL, AV.flat, okC, okL], okBx_flat _ (rowB_flat _)⟩
            · simp only [List.length_cons, hRl']
              have q1 : 1 < k + 1 + 1 + 1 + 1 := by omega
              have q2 : 2 < k + 1 + 1 + 1 + 1 := by omega
              simp +contextual -implicitDefEqProofs (maxSteps := 1000000) only [sm, sn, sxx, seval, getN_range, q1, q2]
              try rfl
          · have hkn : k = F.length := by omega
            subst hkn
            have tt : F.take F.length = F := List.take_length
            have hrm := rowsM_len 3 F F.length
            rw [tt] at hRl ⊢
            simp +contextual -implicitDefEqProofs (maxSteps := 1000000) only [sm, sn, sxx, seval, Int.lt_irrefl]
            have hlF := rowB_len F
            refine ⟨[], 1 :: List.range' 3 F.length, ?_, ?_, by rw [hlF]; omega, rfl⟩
            · rw [List.nodup_cons]
              exact ⟨by simp [List.mem_range']; intro x _; omega, List.nodup_range'⟩
            · rw [hlF]
              refine ⟨⟨rfl, rowsM_ren F⟩, rowsM_ok (by omega), ?_⟩
              have := emb_rows (n := F.length + 1) (ix := 1 :: List.range' 3 F.length) (bx := some (4, [eCon (8, X, A, C)]) :: some (1, rowsM 3 F F.length) :: some (3, [.agg [.sl 1 1 0 F.length, .list 1 (X.map eI), .bool false]]) :: rowB F) (rowB F) 3 (rowB_flat F) (fun j _ => bxGet_pre [_, _, _] (rowB F) j) (by simp only [List.length_cons]; omega)
              rwa [hlF] at this
      · rw [tellA_t] at hres
        rw [hres] at hF
        simp at hF
  by_cases hK : K = 9
  · subst hK
    have hok := arith_ok (c := (9, X, A, C)) (D := D) (by unfold aKind; simp) hm
    have hres : arithL (9, X, A, C) D = tellA (arithS 9 D X) := arith_l (c := (9, X, A, C)) (by unfold aKind; simp) hm
    obtain ⟨hlen, -⟩ := hok
    obtain ⟨-, hlF⟩ := arith_ok (c := (9, X, A, C)) (D := D) (by unfold aKind; simp) hm
    have hidx := arith_idx (c := (9, X, A, C)) (D := D) (by unfold aKind; simp) hm
    obtain ⟨-, -, -, -, i3, i2, -⟩ := hidx
    simp only at i3 i2
    have hcon := arith_greater X D (i3 (by simp)).1 hI hDk
    have e : arithS 9 D X = greaterA D (xat X 0) (xat X 1) (xat X 2) := by unfold arithS; simp
    simp only at hlen hlF
    rw [e] at hres hlen hlF
    obtain ⟨s, hs⟩ : ∃ s, greaterA D (xat X 0) (xat X 1) (xat X 2) = s := ⟨_, rfl⟩
    rw [hs] at hcon hres hlen hlF
    obtain ⟨F, b⟩ := s
    have hok := hlen
    simp only at hlF
    simp +contextual -implicitDefEqProofs (maxSteps := 1000000) only [sm, sn, sxx, seval, eCon, eIs]
    refine callM_rule [2, 1] hcon (by decide) ?_ ?_ ?_ ?_ ?_ ?_
    · simp +contextual -implicitDefEqProofs (maxSteps := 1000000) only [sm, sn, sxx, seval, arB_eq]
      try rfl
    · simp +contextual -implicitDefEqProofs (maxSteps := 1000000) only [sm, sn, sxx, seval, arB_eq]
    · simp +contextual -implicitDefEqProofs (maxSteps := 1000000) only [sm, sn, sxx, seval, arB_eq, eIs, eRgs]
      try rfl
    · simp +contextual -implicitDefEqProofs (maxSteps := 1000000) only [sm, sn, sxx, seval, arB_eq]
    · simp +contextual -implicitDefEqProofs (maxSteps := 1000000) only [sm, sn, sxx, seval, arB_eq, eRgs]
    · simp +contextual -implicitDefEqProofs (maxSteps := 1000000) only [sm, sn, sxx, seval, arB_eq, eCon, eIs]
      cases b
      · rw [tellA_f] at hres
        rw [hres] at hF
        simp only [Prod.mk.injEq] at hF
        obtain ⟨hFF, -⟩ := hF
        subst hFF
        have hF2 : ∀ d ∈ F, d.length ≤ 1000000000000 := by
          rcases hok with h | h
          · exact ok_rows h.2
          · cases h
        have hB0 : rowB [] = [] := rfl
        have hz0 := rowsM_zero 3 F
        simp +contextual -implicitDefEqProofs (maxSteps := 1000000) only [sm, sn, sxx, seval]
        refine loop_rule (fun k : Nat => k ≤ F.length) (fun k => tm 70 [(6, .ptr 3 2 0 0), (50, .sl 1 1 0 F.length), (51, .int .i64 F.length), (52, .int .i64 k)])
          (fun k => some (4, [eCon (9, X, A, C)]) :: some (1, rowsM 3 F k) :: some (3, [.agg [.sl 1 1 0 F.length, .list 1 (X.map eI), .bool false]]) :: rowB (F.take k)) (fun k => F.length - k) 0 (Nat.zero_le _) ⟨[0, 1, 2], by decide, rfl, ?_, ?_⟩ ?_
        · simp +contextual -implicitDefEqProofs (maxSteps := 1000000) only [sm, sn, sxx, seval, eCon, eIs, hB0, hz0]
          try rfl
        · simp +contextual -implicitDefEqProofs (maxSteps := 1000000) only [sm, sn, sxx, seval, Int.natCast_zero, hB0]
          try rfl
        · intro k hk
          have hRl : (rowB (F.take k)).length = k := by rw [rowB_len, List.length_take]; omega
          by_cases hlt : k < F.length
          · obtain ⟨r, hr⟩ : ∃ r, F[k]? = some r := ⟨_, List.getElem?_eq_getElem hlt⟩
            have hlt' : (k : Int) < (F.length : Int) := by omega
            have e2 : IntKind.i64.wrap ((k : Int) + 1) = ((k + 1 : Nat) : Int) := by rw [wrap_i64] <;> omega
            have hrs := rowsM_at (b := 3) hr
            have hrm := rowsM_len 3 F k
            simp +contextual -implicitDefEqProofs (maxSteps := 1000000) only [sm, sn, sxx, seval, hlt', hlt, hr, hrs, hrm]
            simp +contextual -implicitDefEqProofs (maxSteps := 1000000) only [sm, sn, sxx, seval, eRgs, hlt', hlt, hr, hrs, hrm, hRl]
            have hCl := clone_rgsO r (hF2 r (List.mem_of_getElem? hr))
            refine callO_rule hCl rfl (wkL_refl _) rfl ?_ ?_
            · simp +contextual -implicitDefEqProofs (maxSteps := 1000000) only [sm, sn, sxx, seval]
            simp +contextual -implicitDefEqProofs (maxSteps := 1000000) only [sm, sn, sxx, seval, eRgs, hlt', hlt, hr, hrs, hrm, hRl, e2]
            have hset : (rowsM 3 F k).set k (.sl 2 (k + 1 + 1 + 1) 0 r.length) = rowsM 3 F (k + 1) := by rw [show k + 1 + 1 + 1 = 3 + k by omega]; exact rowsM_set hr
            have hsn : rowB (F.take k) ++ [some (2, r.map eRg)] = rowB (F.take (k + 1)) := by rw [rowB_snoc, List.take_add_one, hr]; rfl
            rw [hset, hsn]
            have hRl' : (rowB (F.take (k + 1))).length = k + 1 := by rw [rowB_len, List.length_take]; omega
            refine ⟨k + 1, by omega, by omega, Emb_same (Nat.zero_le _) ?_ ?_⟩
            · simp only [List.length_cons, hRl', okBx, Bool.and_eq_true]
              exact ⟨rfl, rowsM_ok (by omega), by simp [okEs, flatL, AV.flat, okC, okL], okBx_flat _ (rowB_flat _)⟩
            · simp only [List.length_cons, hRl']
              have q1 : 1 < k + 1 + 1 + 1 + 1 := by omega
              have q2 : 2 < k + 1 + 1 + 1 + 1 := by omega
              simp +contextual -implicitDefEqProofs (maxSteps := 1000000) only [sm, sn, sxx, seval, getN_range, q1, q2]
              try rfl
          · have hkn : k = F.length := by omega
            subst hkn
            have tt : F.take F.length = F := List.take_length
            have hrm := rowsM_len 3 F F.length
            rw [tt] at hRl ⊢
            simp +contextual -implicitDefEqProofs (maxSteps := 1000000) only [sm, sn, sxx, seval, Int.lt_irrefl]
            have hlF := rowB_len F
            refine ⟨[], 1 :: List.range' 3 F.length, ?_, ?_, by rw [hlF]; omega, rfl⟩
            · rw [List.nodup_cons]
              exact ⟨by simp [List.mem_range']; intro x _; omega, List.nodup_range'⟩
            · rw [hlF]
              refine ⟨⟨rfl, rowsM_ren F⟩, rowsM_ok (by omega), ?_⟩
              have := emb_rows (n := F.length + 1) (ix := 1 :: List.range' 3 F.length) (bx := some (4, [eCon (9, X, A, C)]) :: some (1, rowsM 3 F F.length) :: some (3, [.agg [.sl 1 1 0 F.length, .list 1 (X.map eI), .bool false]]) :: rowB F) (rowB F) 3 (rowB_flat F) (fun j _ => bxGet_pre [_, _, _] (rowB F) j) (by simp only [List.length_cons]; omega)
              rwa [hlF] at this
      · rw [tellA_t] at hres
        rw [hres] at hF
        simp at hF
  by_cases hK : K = 10
  · subst hK
    have hok := arith_ok (c := (10, X, A, C)) (D := D) (by unfold aKind; simp) hm
    have hres : arithL (10, X, A, C) D = tellA (arithS 10 D X) := arith_l (c := (10, X, A, C)) (by unfold aKind; simp) hm
    obtain ⟨hlen, -⟩ := hok
    obtain ⟨-, hlF⟩ := arith_ok (c := (10, X, A, C)) (D := D) (by unfold aKind; simp) hm
    have hidx := arith_idx (c := (10, X, A, C)) (D := D) (by unfold aKind; simp) hm
    obtain ⟨-, -, -, -, i3, i2, -⟩ := hidx
    simp only at i3 i2
    have hcon := arith_size X D (i2 (by simp)) hI hDk
    have e : arithS 10 D X = sizeA D (xat X 0) (xat X 1) := by unfold arithS; simp
    simp only at hlen hlF
    rw [e] at hres hlen hlF
    obtain ⟨s, hs⟩ : ∃ s, sizeA D (xat X 0) (xat X 1) = s := ⟨_, rfl⟩
    rw [hs] at hcon hres hlen hlF
    obtain ⟨F, b⟩ := s
    have hok := hlen
    simp only at hlF
    simp +contextual -implicitDefEqProofs (maxSteps := 1000000) only [sm, sn, sxx, seval, eCon, eIs]
    refine callM_rule [2, 1] hcon (by decide) ?_ ?_ ?_ ?_ ?_ ?_
    · simp +contextual -implicitDefEqProofs (maxSteps := 1000000) only [sm, sn, sxx, seval, arB_eq]
      try rfl
    · simp +contextual -implicitDefEqProofs (maxSteps := 1000000) only [sm, sn, sxx, seval, arB_eq]
    · simp +contextual -implicitDefEqProofs (maxSteps := 1000000) only [sm, sn, sxx, seval, arB_eq, eIs, eRgs]
      try rfl
    · simp +contextual -implicitDefEqProofs (maxSteps := 1000000) only [sm, sn, sxx, seval, arB_eq]
    · simp +contextual -implicitDefEqProofs (maxSteps := 1000000) only [sm, sn, sxx, seval, arB_eq, eRgs]
    · simp +contextual -implicitDefEqProofs (maxSteps := 1000000) only [sm, sn, sxx, seval, arB_eq, eCon, eIs]
      cases b
      · rw [tellA_f] at hres
        rw [hres] at hF
        simp only [Prod.mk.injEq] at hF
        obtain ⟨hFF, -⟩ := hF
        subst hFF
        have hF2 : ∀ d ∈ F, d.length ≤ 1000000000000 := by
          rcases hok with h | h
          · exact ok_rows h.2
          · cases h
        have hB0 : rowB [] = [] := rfl
        have hz0 := rowsM_zero 3 F
        simp +contextual -implicitDefEqProofs (maxSteps := 1000000) only [sm, sn, sxx, seval]
        refine loop_rule (fun k : Nat => k ≤ F.length) (fun k => tm 70 [(6, .ptr 3 2 0 0), (50, .sl 1 1 0 F.length), (51, .int .i64 F.length), (52, .int .i64 k)])
          (fun k => some (4, [eCon (10, X, A, C)]) :: some (1, rowsM 3 F k) :: some (3, [.agg [.sl 1 1 0 F.length, .list 1 (X.map eI), .bool false]]) :: rowB (F.take k)) (fun k => F.length - k) 0 (Nat.zero_le _) ⟨[0, 1, 2], by decide, rfl, ?_, ?_⟩ ?_
        · simp +contextual -implicitDefEqProofs (maxSteps := 1000000) only [sm, sn, sxx, seval, eCon, eIs, hB0, hz0]
          try rfl
        · simp +contextual -implicitDefEqProofs (maxSteps := 1000000) only [sm, sn, sxx, seval, Int.natCast_zero, hB0]
          try rfl
        · intro k hk
          have hRl : (rowB (F.take k)).length = k := by rw [rowB_len, List.length_take]; omega
          by_cases hlt : k < F.length
          · obtain ⟨r, hr⟩ : ∃ r, F[k]? = some r := ⟨_, List.getElem?_eq_getElem hlt⟩
            have hlt' : (k : Int) < (F.length : Int) := by omega
            have e2 : IntKind.i64.wrap ((k : Int) + 1) = ((k + 1 : Nat) : Int) := by rw [wrap_i64] <;> omega
            have hrs := rowsM_at (b := 3) hr
            have hrm := rowsM_len 3 F k
            simp +contextual -implicitDefEqProofs (maxSteps := 1000000) only [sm, sn, sxx, seval, hlt', hlt, hr, hrs, hrm]
            simp +contextual -implicitDefEqProofs (maxSteps := 1000000) only [sm, sn, sxx, seval, eRgs, hlt', hlt, hr, hrs, hrm, hRl]
            have hCl := clone_rgsO r (hF2 r (List.mem_of_getElem? hr))
            refine callO_rule hCl rfl (wkL_refl _) rfl ?_ ?_
            · simp +contextual -implicitDefEqProofs (maxSteps := 1000000) only [sm, sn, sxx, seval]
            simp +contextual -implicitDefEqProofs (maxSteps := 1000000) only [sm, sn, sxx, seval, eRgs, hlt', hlt, hr, hrs, hrm, hRl, e2]
            have hset : (rowsM 3 F k).set k (.sl 2 (k + 1 + 1 + 1) 0 r.length) = rowsM 3 F (k + 1) := by rw [show k + 1 + 1 + 1 = 3 + k by omega]; exact rowsM_set hr
            have hsn : rowB (F.take k) ++ [some (2, r.map eRg)] = rowB (F.take (k + 1)) := by rw [rowB_snoc, List.take_add_one, hr]; rfl
            rw [hset, hsn]
            have hRl' : (rowB (F.take (k + 1))).length = k + 1 := by rw [rowB_len, List.length_take]; omega
            refine ⟨k + 1, by omega, by omega, Emb_same (Nat.zero_le _) ?_ ?_⟩
            · simp only [List.length_cons, hRl', okBx, Bool.and_eq_true]
              exact ⟨rfl, rowsM_ok (by omega), by simp [okEs, flatL, AV.flat, okC, okL], okBx_flat _ (rowB_flat _)⟩
            · simp only [List.length_cons, hRl']
              have q1 : 1 < k + 1 + 1 + 1 + 1 := by omega
              have q2 : 2 < k + 1 + 1 + 1 + 1 := by omega
              simp +contextual -implicitDefEqProofs (maxSteps := 1000000) only [sm, sn, sxx, seval, getN_range, q1, q2]
              try rfl
          · have hkn : k = F.length := by omega
            subst hkn
            have tt : F.take F.length = F := List.take_length
            have hrm := rowsM_len 3 F F.length
            rw [tt] at hRl ⊢
            simp +contextual -implicitDefEqProofs (maxSteps := 1000000) only [sm, sn, sxx, seval, Int.lt_irrefl]
            have hlF := rowB_len F
            refine ⟨[], 1 :: List.range' 3 F.length, ?_, ?_, by rw [hlF]; omega, rfl⟩
            · rw [List.nodup_cons]
              exact ⟨by simp [List.mem_range']; intro x _; omega, List.nodup_range'⟩
            · rw [hlF]
              refine ⟨⟨rfl, rowsM_ren F⟩, rowsM_ok (by omega), ?_⟩
              have := emb_rows (n := F.length + 1) (ix := 1 :: List.range' 3 F.length) (bx := some (4, [eCon (10, X, A, C)]) :: some (1, rowsM 3 F F.length) :: some (3, [.agg [.sl 1 1 0 F.length, .list 1 (X.map eI), .bool false]]) :: rowB F) (rowB F) 3 (rowB_flat F) (fun j _ => bxGet_pre [_, _, _] (rowB F) j) (by simp only [List.length_cons]; omega)
              rwa [hlF] at this
      · rw [tellA_t] at hres
        rw [hres] at hF
        simp at hF
  by_cases hK : K = 15
  · subst hK
    have hok := arith_ok (c := (15, X, A, C)) (D := D) (by unfold aKind; simp) hm
    have hres : arithL (15, X, A, C) D = tellA (arithS 15 D X) := arith_l (c := (15, X, A, C)) (by unfold aKind; simp) hm
    obtain ⟨hlen, -⟩ := hok
    obtain ⟨-, hlF⟩ := arith_ok (c := (15, X, A, C)) (D := D) (by unfold aKind; simp) hm
    have hidx := arith_idx (c := (15, X, A, C)) (D := D) (by unfold aKind; simp) hm
    obtain ⟨-, -, -, -, i3, i2, -⟩ := hidx
    simp only at i3 i2
    have hcon := arith_same X D (i2 (by simp)) hI hDk
    have e : arithS 15 D X = sameA D (xat X 0) (xat X 1) := by unfold arithS; simp
    simp only at hlen hlF
    rw [e] at hres hlen hlF
    obtain ⟨s, hs⟩ : ∃ s, sameA D (xat X 0) (xat X 1) = s := ⟨_, rfl⟩
    rw [hs] at hcon hres hlen hlF
    obtain ⟨F, b⟩ := s
    have hok := hlen
    simp only at hlF
    simp +contextual -implicitDefEqProofs (maxSteps := 1000000) only [sm, sn, sxx, seval, eCon, eIs]
    refine callM_rule [2, 1] hcon (by decide) ?_ ?_ ?_ ?_ ?_ ?_
    · simp +contextual -implicitDefEqProofs (maxSteps := 1000000) only [sm, sn, sxx, seval, arB_eq]
      try rfl
    · simp +contextual -implicitDefEqProofs (maxSteps := 1000000) only [sm, sn, sxx, seval, arB_eq]
    · simp +contextual -implicitDefEqProofs (maxSteps := 1000000) only [sm, sn, sxx, seval, arB_eq, eIs, eRgs]
      try rfl
    · simp +contextual -implicitDefEqProofs (maxSteps := 1000000) only [sm, sn, sxx, seval, arB_eq]
    · simp +contextual -implicitDefEqProofs (maxSteps := 1000000) only [sm, sn, sxx, seval, arB_eq, eRgs]
    · simp +contextual -implicitDefEqProofs (maxSteps := 1000000) only [sm, sn, sxx, seval, arB_eq, eCon, eIs]
      cases b
      · rw [tellA_f] at hres
        rw [hres] at hF
        simp only [Prod.mk.injEq] at hF
        obtain ⟨hFF, -⟩ := hF
        subst hFF
        have hF2 : ∀ d ∈ F, d.length ≤ 1000000000000 := by
          rcases hok with h | h
          · exact ok_rows h.2
          · cases h
        have hB0 : rowB [] = [] := rfl
        have hz0 := rowsM_zero 3 F
        simp +contextual -implicitDefEqProofs (maxSteps := 1000000) only [sm, sn, sxx, seval]
        refine loop_rule (fun k : Nat => k ≤ F.length) (fun k => tm 70 [(6, .ptr 3 2 0 0), (50, .sl 1 1 0 F.length), (51, .int .i64 F.length), (52, .int .i64 k)])
          (fun k => some (4, [eCon (15, X, A, C)]) :: some (1, rowsM 3 F k) :: some (3, [.agg [.sl 1 1 0 F.length, .list 1 (X.map eI), .bool false]]) :: rowB (F.take k)) (fun k => F.length - k) 0 (Nat.zero_le _) ⟨[0, 1, 2], by decide, rfl, ?_, ?_⟩ ?_
        · simp +contextual -implicitDefEqProofs (maxSteps := 1000000) only [sm, sn, sxx, seval, eCon, eIs, hB0, hz0]
          try rfl
        · simp +contextual -implicitDefEqProofs (maxSteps := 1000000) only [sm, sn, sxx, seval, Int.natCast_zero, hB0]
          try rfl
        · intro k hk
          have hRl : (rowB (F.take k)).length = k := by rw [rowB_len, List.length_take]; omega
          by_cases hlt : k < F.length
          · obtain ⟨r, hr⟩ : ∃ r, F[k]? = some r := ⟨_, List.getElem?_eq_getElem hlt⟩
            have hlt' : (k : Int) < (F.length : Int) := by omega
            have e2 : IntKind.i64.wrap ((k : Int) + 1) = ((k + 1 : Nat) : Int) := by rw [wrap_i64] <;> omega
            have hrs := rowsM_at (b := 3) hr
            have hrm := rowsM_len 3 F k
            simp +contextual -implicitDefEqProofs (maxSteps := 1000000) only [sm, sn, sxx, seval, hlt', hlt, hr, hrs, hrm]
            simp +contextual -implicitDefEqProofs (maxSteps := 1000000) only [sm, sn, sxx, seval, eRgs, hlt', hlt, hr, hrs, hrm, hRl]
            have hCl := clone_rgsO r (hF2 r (List.mem_of_getElem? hr))
            refine callO_rule hCl rfl (wkL_refl _) rfl ?_ ?_
            · simp +contextual -implicitDefEqProofs (maxSteps := 1000000) only [sm, sn, sxx, seval]
            simp +contextual -implicitDefEqProofs (maxSteps := 1000000) only [sm, sn, sxx, seval, eRgs, hlt', hlt, hr, hrs, hrm, hRl, e2]
            have hset : (rowsM 3 F k).set k (.sl 2 (k + 1 + 1 + 1) 0 r.length) = rowsM 3 F (k + 1) := by rw [show k + 1 + 1 + 1 = 3 + k by omega]; exact rowsM_set hr
            have hsn : rowB (F.take k) ++ [some (2, r.map eRg)] = rowB (F.take (k + 1)) := by rw [rowB_snoc, List.take_add_one, hr]; rfl
            rw [hset, hsn]
            have hRl' : (rowB (F.take (k + 1))).length = k + 1 := by rw [rowB_len, List.length_take]; omega
            refine ⟨k + 1, by omega, by omega, Emb_same (Nat.zero_le _) ?_ ?_⟩
            · simp only [List.length_cons, hRl', okBx, Bool.and_eq_true]
              exact ⟨rfl, rowsM_ok (by omega), by simp [okEs, flatL, AV.flat, okC, okL], okBx_flat _ (rowB_flat _)⟩
            · simp only [List.length_cons, hRl']
              have q1 : 1 < k + 1 + 1 + 1 + 1 := by omega
              have q2 : 2 < k + 1 + 1 + 1 + 1 := by omega
              simp +contextual -implicitDefEqProofs (maxSteps := 1000000) only [sm, sn, sxx, seval, getN_range, q1, q2]
              try rfl
          · have hkn : k = F.length := by omega
            subst hkn
            have tt : F.take F.length = F := List.take_length
            have hrm := rowsM_len 3 F F.length
            rw [tt] at hRl ⊢
            simp +contextual -implicitDefEqProofs (maxSteps := 1000000) only [sm, sn, sxx, seval, Int.lt_irrefl]
            have hlF := rowB_len F
            refine ⟨[], 1 :: List.range' 3 F.length, ?_, ?_, by rw [hlF]; omega, rfl⟩
            · rw [List.nodup_cons]
              exact ⟨by simp [List.mem_range']; intro x _; omega, List.nodup_range'⟩
            · rw [hlF]
              refine ⟨⟨rfl, rowsM_ren F⟩, rowsM_ok (by omega), ?_⟩
              have := emb_rows (n := F.length + 1) (ix := 1 :: List.range' 3 F.length) (bx := some (4, [eCon (15, X, A, C)]) :: some (1, rowsM 3 F F.length) :: some (3, [.agg [.sl 1 1 0 F.length, .list 1 (X.map eI), .bool false]]) :: rowB F) (rowB F) 3 (rowB_flat F) (fun j _ => bxGet_pre [_, _, _] (rowB F) j) (by simp only [List.length_cons]; omega)
              rwa [hlF] at this
      · rw [tellA_t] at hres
        rw [hres] at hF
        simp at hF
  rename_i k1 k2 k3 k4
  have hres : arithL (K, X, A, C) D = ([], 10) := by
    unfold arithL
    rw [if_pos hm, if_neg (by simp only; omega)]
  rw [hres] at hF
  simp at hF
end Go.Proofs.Ytonkcemcledhiaa
