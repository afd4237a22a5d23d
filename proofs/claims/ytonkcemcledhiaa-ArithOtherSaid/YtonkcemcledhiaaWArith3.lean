/- What the functions of package arith compute, continued: Narrow. -/
import Derived.Test.YtonkcemcledhiaaWArith2
import Derived.Test.YtonkcemcledhiaaGSet
namespace Go.Proofs.Ytonkcemcledhiaa
open Av
attribute [local irreducible] awp awpOpers
set_option linter.unusedSimpArgs false
set_option linter.unusedVariables false
set_option maxRecDepth 100000
set_option maxHeartbeats 4000000
theorem rows_sameA {F : List (List Rg)} {k : Nat} {r : List Rg} (h : F[k]? = some r) : (F.map eRgs).set k (.list 2 (r.map eRg)) = F.map eRgs := by
  apply List.ext_getElem?
  intro i
  by_cases hi : i = k
  · subst hi
    rw [List.getElem?_set_self (by rw [List.length_map]; exact (List.getElem?_eq_some_iff.1 h).1), List.getElem?_map, h]
    rfl
  · rw [List.getElem?_set_ne (fun e => hi e.symm)]
theorem tellA_f (F : List (List Rg)) : tellA (F, false) = (F, 0) := rfl
theorem tellA_t (F : List (List Rg)) : tellA (F, true) = ([], 12) := rfl
theorem arith_Narrow (c : Con) (D : List (List Rg)) (hD : D.length ≤ 1000000000000) (hd : ∀ d ∈ D, d.length ≤ 1000000000000) (hc : conFits c) :
    Ctr Try.prog 29 [eCon c, eDoms D] [] (.tuple [eDoms (arithL c D).1, .int .i64 (arithL c D).2]) [] := by
  obtain ⟨K, X, A, C⟩ := c
  refine call_pure Try.func29 Try.call29 e_arith_Narrow ?_
  simp +contextual -implicitDefEqProofs (maxSteps := 1000000) only [c_arith_Narrow, eCon, eIs, eDoms, sm, sn, sxx, seval]
  refine callA_rule (model_Right (D, [(K, X, A, C)], 0, 0) hD hd (by simp) (by simpa using hc)) (wkL_refl _) rfl ?_
  cases hm : modB (D, [(K, X, A, C)], 0, 0)
  · have hres : arithL (K, X, A, C) D = ([], 2) := by
      unfold arithL
      rw [if_neg (by simp [hm])]
    rw [hres]
    simp +contextual -implicitDefEqProofs (maxSteps := 1000000) only [sm, sn, sxx, seval, eDoms]
  obtain ⟨f1, f2, f3⟩ := one_facts hm
  obtain ⟨g1, g2, hI, g4, g5⟩ := may_facts f3
  simp only at hI g2
  have hDk : DOk D := fun x h0 h1 => f2 _ (row_mem ⟨h0, h1⟩)
  simp +contextual -implicitDefEqProofs (maxSteps := 1000000) only [sm, sn, sxx, seval]
  refine callO_rule (clone_doms D hD) rfl (wkL_refl _) rfl ?_ ?_
  · simp +contextual -implicitDefEqProofs (maxSteps := 1000000) only [sm, sn, sxx, seval]
  by_cases hK : K = 7
  · subst hK
    have hok := arith_ok (c := (7, X, A, C)) (D := D) (by unfold aKind; simp) hm
    have hres : arithL (7, X, A, C) D = tellA (arithS 7 D X) := arith_l (c := (7, X, A, C)) (by unfold aKind; simp) hm
    obtain ⟨hlen, -⟩ := hok
    obtain ⟨-, hlF⟩ := arith_ok (c := (7, X, A, C)) (D := D) (by unfold aKind; simp) hm
    have hidx := arith_idx (c := (7, X, A, C)) (D := D) (by unfold aKind; simp) hm
    obtain ⟨-, -, -, -, i3, i2, -⟩ := hidx
    simp only at i3 i2
    have hcon := arith_times X D (i3 (by simp)).1 hI hDk
    have e : arithS 7 D X = timesA D (xat X 0) (xat X 1) (xat X 2) := by unfold arithS; simp
    simp only at hlen hlF
    rw [e] at hres hlen hlF
    obtain ⟨s, hs⟩ : ∃ s, timesA D (xat X 0) (xat X 1) (xat X 2) = s := ⟨_, rfl⟩
    rw [hs] at hcon hres hlen hlF
    obtain ⟨F, b⟩ := s
    have hok := hlen
    simp only at hlF
    simp +contextual -implicitDefEqProofs (maxSteps := 1000000) only [sm, sn, sxx, seval, eCon, eIs]
    refine callM_rule [2, 1] hcon (by decide) ?_ ?_ ?_ ?_ ?_ ?_
    · simp +contextual -implicitDefEqProofs (maxSteps := 1000000) only [sm, sn, sxx, seval, arB_eq]
      try rfl
    · simp +contextual -implicitDefEqProofs (maxSteps := 1000000) only [sm, sn, sxx, seval, arB_eq]
    · simp +contextual -implicitDefEqProofs (maxSteps := 1000000) only [sm, sn, sxx, seval, arB_eq, eIs, eRgs]
      try rfl
    · simp +contextual -implicitDefEqProofs (maxSteps := 1000000) only [sm, sn, sxx, seval, arB_eq]
    · simp +contextual -implicitDefEqProofs (maxSteps := 1000000) only [sm, sn, sxx, seval, arB_eq, eRgs]
    · simp +contextual -implicitDefEqProofs (maxSteps := 1000000) only [sm, sn, sxx, seval, arB_eq, eCon, eIs]
      cases b
      · have hF2 : ∀ d ∈ F, d.length ≤ 1000000000000 := by
          rcases hok with h | h
          · exact ok_rows h.2
          · cases h
        rw [tellA_f] at hres
        simp +contextual -implicitDefEqProofs (maxSteps := 1000000) only [sm, sn, sxx, seval]
        refine loop_rule (fun k : Nat => k ≤ F.length) (fun k => tm 70 [(6, .ptr 3 2 0 0), (50, .sl 1 1 0 F.length), (51, .int .i64 F.length), (52, .int .i64 k)])
          (fun _ => [some (4, [eCon (7, X, A, C)]), some (1, F.map eRgs), some (3, [.agg [.sl 1 1 0 F.length, .list 1 (X.map eI), .bool false]])]) (fun k => F.length - k) 0 (Nat.zero_le _) ⟨[0, 1, 2], by decide, rfl, ?_, ?_⟩ ?_
        · simp +contextual -implicitDefEqProofs (maxSteps := 1000000) only [sm, sn, sxx, seval, eCon, eIs]
          try rfl
        · simp +contextual -implicitDefEqProofs (maxSteps := 1000000) only [sm, sn, sxx, seval, Int.natCast_zero]
          try rfl
        · intro k hk
          by_cases hlt : k < F.length
          · obtain ⟨r, hr⟩ : ∃ r, F[k]? = some r := ⟨_, List.getElem?_eq_getElem hlt⟩
            have hlt' : (k : Int) < (F.length : Int) := by omega
            have e2 : IntKind.i64.wrap ((k : Int) + 1) = ((k + 1 : Nat) : Int) := by rw [wrap_i64] <;> omega
            have hrs := rows_sameA hr
            simp +contextual -implicitDefEqProofs (maxSteps := 1000000) only [sm, sn, sxx, seval, hlt', hlt, hr]
            refine callA_rule (clone_rgs r (hF2 r (List.mem_of_getElem? hr))) (wkL_refl _) rfl ?_
            simp +contextual -implicitDefEqProofs (maxSteps := 1000000) only [sm, sn, sxx, seval, hlt', hlt, hr, eRgs, hrs, e2]
            refine ⟨k + 1, by omega, by omega, [0, 1, 2], by decide, rfl, ?_, ?_⟩
            · simp +contextual -implicitDefEqProofs (maxSteps := 1000000) only [sm, sn, sxx, seval, eCon, eIs]
              try rfl
            · simp +contextual -implicitDefEqProofs (maxSteps := 1000000) only [sm, sn, sxx, seval]
              try rfl
          · have : k = F.length := by omega
            subst this
            rw [hres]
            simp +contextual -implicitDefEqProofs (maxSteps := 1000000) only [sm, sn, sxx, seval, Int.lt_irrefl, eDoms]
      · rw [tellA_t] at hres
        rw [hres]
        simp +contextual -implicitDefEqProofs (maxSteps := 1000000) only [sm, sn, sxx, seval, eDoms]
  by_cases hK : K = 8
  · subst hK
    have hok := arith_ok (c := (8, X, A, C)) (D := D) (by unfold aKind; simp) hm
    have hres : arithL (8, X, A, C) D = tellA (arithS 8 D X) := arith_l (c := (8, X, A, C)) (by unfold aKind; simp) hm
    obtain ⟨hlen, -⟩ := hok
    obtain ⟨-, hlF⟩ := arith_ok (c := (8, X, A, C)) (D := D) (by unfold aKind; simp) hm
    have hidx := arith_idx (c := (8, X, A, C)) (D := D) (by unfold aKind; simp) hm
    obtain ⟨-, -, -, -, i3, i2, -⟩ := hidx
    simp only at i3 i2
    have hcon := arith_lesser X D (i3 (by simp)).1 hI hDk
    have e : arithS 8 D X = lesserA D (xat X 0) (xat X 1) (xat X 2) := by unfold arithS; simp
    simp only at hlen hlF
    rw [e] at hres hlen hlF
    obtain ⟨s, hs⟩ : ∃ s, lesserA D (xat X 0) (xat X 1) (xat X 2) = s := ⟨_, rfl⟩
    rw [hs] at hcon hres hlen hlF
    obtain ⟨F, b⟩ := s
    have hok := hlen
    simp only at hlF
    simp +contextual -implicitDefEqProofs (maxSteps := 1000000) only [sm, sn, sxx, seval, eCon, eIs]
    refine callM_rule [2, 1] hcon (by decide) ?_ ?_ ?_ ?_ ?_ ?_
    · simp +contextual -implicitDefEqProofs (maxSteps := 1000000) only [sm, sn, sxx, seval, arB_eq]
      try rfl
    · simp +contextual -implicitDefEqProofs (maxSteps := 1000000) only [sm, sn, sxx, seval, arB_eq]
    · simp +contextual -implicitDefEqProofs (maxSteps := 1000000) only [sm, sn, sxx, seval, arB_eq, eIs, eRgs]
      try rfl
    · simp +contextual -implicitDefEqProofs (maxSteps := 1000000) only [sm, sn, sxx, seval, arB_eq]
    · simp +contextual -implicitDefEqProofs (maxSteps := 1000000) only [sm, sn, sxx, seval, arB_eq, eRgs]
    · simp +contextual -implicitDefEqProofs (maxSteps := 1000000) only [sm, sn, sxx, seval, arB_eq, eCon, eIs]
      cases b
      · have hF2 : ∀ d ∈ F, d.length ≤ 1000000000000 := by
          rcases hok with h | h
          · exact ok_rows h.2
          · cases h
        rw [tellA_f] at hres
        simp +contextual -implicitDefEqProofs (maxSteps := 1000000) only [sm, sn, sxx, seval]
        refine loop_rule (fun k : Nat => k ≤ F.length) (fun k => tm 70 [(6, .ptr 3 2 0 0), (50, .sl 1 1 0 F.length), (51, .int .i64 F.length), (52, .int .i64 k)])
          (fun _ => [some (4, [eCon (8, X, A, C)]), some (1, F.map eRgs), some (3, [.agg [.sl 1 1 0 F.length, .list 1 (X.map eI), .bool false]])]) (fun k => F.length - k) 0 (Nat.zero_le _) ⟨[0, 1, 2], by decide, rfl, ?_, ?_⟩ ?_
        · simp +contextual -implicitDefEqProofs (maxSteps := 1000000) only [sm, sn, sxx, seval, eCon, eIs]
          try rfl
        · simp +contextual -implicitDefEqProofs (maxSteps := 1000000) only [sm, sn, sxx, seval, Int.natCast_zero]
          try rfl
        · intro k hk
          by_cases hlt : k < F.length
          · obtain ⟨r, hr⟩ : ∃ r, F[k]? = some r := ⟨_, List.getElem?_eq_getElem hlt⟩
            have hlt' : (k : Int) < (F.length : Int) := by omega
            have e2 : IntKind.i64.wrap ((k : Int) + 1) = ((k + 1 : Nat) : Int) := by rw [wrap_i64] <;> omega
            have hrs := rows_sameA hr
            simp +contextual -implicitDefEqProofs (maxSteps := 1000000) only [sm, sn, sxx, seval, hlt', hlt, hr]
            refine callA_rule (clone_rgs r (hF2 r (List.mem_of_getElem? hr))) (wkL_refl _) rfl ?_
            simp +contextual -implicitDefEqProofs (maxSteps := 1000000) only [sm, sn, sxx, seval, hlt', hlt, hr, eRgs, hrs, e2]
            refine ⟨k + 1, by omega, by omega, [0, 1, 2], by decide, rfl, ?_, ?_⟩
            · simp +contextual -implicitDefEqProofs (maxSteps := 1000000) only [sm, sn, sxx, seval, eCon, eIs]
              try rfl
            · simp +contextual -implicitDefEqProofs (maxSteps := 1000000) only [sm, sn, sxx, seval]
              try rfl
          · have : k = F.length := by omega
            subst this
            rw [hres]
            simp +contextual -implicitDefEqProofs (maxSteps := 1000000) only [sm, sn, sxx, seval, Int.lt_irrefl, eDoms]
      · rw [tellA_t] at hres
        rw [hres]
        simp +contextual -implicitDefEqProofs (maxSteps := 1000000) only [sm, sn, sxx, seval, eDoms]
  by_cases hK : K = 9
  · subst hK
    have hok := arith_ok (c := (9, X, A, C)) (D := D) (by unfold aKind; simp) hm
    have hres : arithL (9, X, A, C) D = tellA (arithS 9 D X) := arith_l (c := (9, X, A, C)) (by unfold aKind; simp) hm
    obtain ⟨hlen, -⟩ := hok
    obtain ⟨-, hlF⟩ := arith_ok (c := (9, X, A, C)) (D := D) (by unfold aKind; simp) hm
    have hidx := arith_idx (c := (9, X, A, C)) (D := D) (by unfold aKind; simp) hm
    obtain ⟨-, -, -, -, i3, i2, -⟩ := hidx
    simp only at i3 i2
    have hcon := arith_greater X D (i3 (by simp)).1 hI hDk
    have e : arithS 9 D X = greaterA D (xat X 0) (xat X 1) (xat X 2) := by unfold arithS; simp
    simp only at hlen hlF
    rw [e] at hres hlen hlF
    obtain ⟨s, hs⟩ : ∃ s, greaterA D (xat X 0) (xat X 1) (xat X 2) = s := ⟨_, rfl⟩
    rw [hs] at hcon hres hlen hlF
    obtain ⟨F, b⟩ := s
    have hok := hlen
    simp only at hlF
    simp +contextual -implicitDefEqProofs (maxSteps := 1000000) only [sm, sn, sxx, seval, eCon, eIs]
    refine callM_rule [2, 1] hcon (by decide) ?_ ?_ ?_ ?_ ?_ ?_
    · simp +contextual -implicitDefEqProofs (maxSteps := 1000000) only [sm, sn, sxx, seval, arB_eq]
      try rfl
    · simp +contextual -implicitDefEqProofs (maxSteps := 1000000) only [sm, sn, sxx, seval, arB_eq]
    · simp +contextual -implicitDefEqProofs (maxSteps := 1000000) only [sm, sn, sxx, seval, arB_eq, eIs, eRgs]
      try rfl
    · simp +contextual -implicitDefEqProofs (maxSteps := 1000000) only [sm, sn, sxx, seval, arB_eq]
    · simp +contextual -implicitDefEqProofs (maxSteps := 1000000) only [sm, sn, sxx, seval, arB_eq, eRgs]
    · simp +contextual -implicitDefEqProofs (maxSteps := 1000000) only [sm, sn, sxx, seval, arB_eq, eCon, eIs]
      cases b
      · have hF2 : ∀ d ∈ F, d.length ≤ 1000000000000 := by
          rcases hok with h | h
          · exact ok_rows h.2
          · cases h
        rw [tellA_f] at hres
        simp +contextual -implicitDefEqProofs (maxSteps := 1000000) only [sm, sn, sxx, seval]
        refine loop_rule (fun k : Nat => k ≤ F.length) (fun k => tm 70 [(6, .ptr 3 2 0 0), (50, .sl 1 1 0 F.length), (51, .int .i64 F.length), (52, .int .i64 k)])
          (fun _ => [some (4, [eCon (9, X, A, C)]), some (1, F.map eRgs), some (3, [.agg [.sl 1 1 0 F.length, .list 1 (X.map eI), .bool false]])]) (fun k => F.length - k) 0 (Nat.zero_le _) ⟨[0, 1, 2], by decide, rfl, ?_, ?_⟩ ?_
        · simp +contextual -implicitDefEqProofs (maxSteps := 1000000) only [sm, sn, sxx, seval, eCon, eIs]
          try rfl
        · simp +contextual -implicitDefEqProofs (maxSteps := 1000000) only [sm, sn, sxx, seval, Int.natCast_zero]
          try rfl
        · intro k hk
          by_cases hlt : k < F.length
          · obtain ⟨r, hr⟩ : ∃ r, F[k]? = some r := ⟨_, List.getElem?_eq_getElem hlt⟩
            have hlt' : (k : Int) < (F.length : Int) := by omega
            have e2 : IntKind.i64.wrap ((k : Int) + 1) = ((k + 1 : Nat) : Int) := by rw [wrap_i64] <;> omega
            have hrs := rows_sameA hr
            simp +contextual -implicitDefEqProofs (maxSteps := 1000000) only [sm, sn, sxx, seval, hlt', hlt, hr]
            refine callA_rule (clone_rgs r (hF2 r (List.mem_of_getElem? hr))) (wkL_refl _) rfl ?_
            simp +contextual -implicitDefEqProofs (maxSteps := 1000000) only [sm, sn, sxx, seval, hlt', hlt, hr, eRgs, hrs, e2]
            refine ⟨k + 1, by omega, by omega, [0, 1, 2], by decide, rfl, ?_, ?_⟩
            · simp +contextual -implicitDefEqProofs (maxSteps := 1000000) only [sm, sn, sxx, seval, eCon, eIs]
              try rfl
            · simp +contextual -implicitDefEqProofs (maxSteps := 1000000) only [sm, sn, sxx, seval]
              try rfl
          · have : k = F.length := by omega
            subst this
            rw [hres]
            simp +contextual -implicitDefEqProofs (maxSteps := 1000000) only [sm, sn, sxx, seval, Int.lt_irrefl, eDoms]
      · rw [tellA_t] at hres
        rw [hres]
        simp +contextual -implicitDefEqProofs (maxSteps := 1000000) only [sm, sn, sxx, seval, eDoms]
  by_cases hK : K = 10
  · subst hK
    have hok := arith_ok (c := (10, X, A, C)) (D := D) (by unfold aKind; simp) hm
    have hres : arithL (10, X, A, C) D = tellA (arithS 10 D X) := arith_l (c := (10, X, A, C)) (by unfold aKind; simp) hm
    obtain ⟨hlen, -⟩ := hok
    obtain ⟨-, hlF⟩ := arith_ok (c := (10, X, A, C)) (D := D) (by unfold aKind; simp) hm
    have hidx := arith_idx (c := (10, X, A, C)) (D := D) (by unfold aKind; simp) hm
    obtain ⟨-, -, -, -, i3, i2, -⟩ := hidx
    simp only at i3 i2
    have hcon := arith_size X D (i2 (by simp)) hI hDk
    have e : arithS 10 D X = sizeA D (xat X 0) (xat X 1) := by unfold arithS; simp
    simp only at hlen hlF
    rw [e] at hres hlen hlF
    obtain ⟨s, hs⟩ : ∃ s, sizeA D (xat X 0) (xat X 1) = s := ⟨_, rfl⟩
    rw [hs] at hcon hres hlen hlF
    obtain ⟨F, b⟩ := s
    have hok := hlen
    simp only at hlF
    simp +contextual -implicitDefEqProofs (maxSteps := 1000000) only [sm, sn, sxx, seval, eCon, eIs]
    refine callM_rule [2, 1] hcon (by decide) ?_ ?_ ?_ ?_ ?_ ?_
    · simp +contextual -implicitDefEqProofs (maxSteps := 1000000) only [sm, sn, sxx, seval, arB_eq]
      try rfl
    · simp +contextual -implicitDefEqProofs (maxSteps := 1000000) only [sm, sn, sxx, seval, arB_eq]
    · simp +contextual -implicitDefEqProofs (maxSteps := 1000000) only [sm, sn, sxx, seval, arB_eq, eIs, eRgs]
      try rfl
    · simp +contextual -implicitDefEqProofs (maxSteps := 1000000) only [sm, sn, sxx, seval, arB_eq]
    · simp +contextual -implicitDefEqProofs (maxSteps := 1000000) only [sm, sn, sxx, seval, arB_eq, eRgs]
    · simp +contextual -implicitDefEqProofs (maxSteps := 1000000) only [sm, sn, sxx, seval, arB_eq, eCon, eIs]
      cases b
      · have hF2 : ∀ d ∈ F, d.length ≤ 1000000000000 := by
          rcases hok with h | h
          · exact ok_rows h.2
          · cases h
        rw [tellA_f] at hres
        simp +contextual -implicitDefEqProofs (maxSteps := 1000000) only [sm, sn, sxx, seval]
        refine loop_rule (fun k : Nat => k ≤ F.length) (fun k => tm 70 [(6, .ptr 3 2 0 0), (50, .sl 1 1 0 F.length), (51, .int .i64 F.length), (52, .int .i64 k)])
          (fun _ => [some (4, [eCon (10, X, A, C)]), some (1, F.map eRgs), some (3, [.agg [.sl 1 1 0 F.length, .list 1 (X.map eI), .bool false]])]) (fun k => F.length - k) 0 (Nat.zero_le _) ⟨[0, 1, 2], by decide, rfl, ?_, ?_⟩ ?_
        · simp +contextual -implicitDefEqProofs (maxSteps := 1000000) only [sm, sn, sxx, seval, eCon, eIs]
          try rfl
        · simp +contextual -implicitDefEqProofs (maxSteps := 1000000) only [sm, sn, sxx, seval, Int.natCast_zero]
          try rfl
        · intro k hk
          by_cases hlt : k < F.length
          · obtain ⟨r, hr⟩ : ∃ r, F[k]? = some r := ⟨_, List.getElem?_eq_getElem hlt⟩
            have hlt' : (k : Int) < (F.length : Int) := by omega
            have e2 : IntKind.i64.wrap ((k : Int) + 1) = ((k + 1 : Nat) : Int) := by rw [wrap_i64] <;> omega
            have hrs := rows_sameA hr
            simp +contextual -implicitDefEqProofs (maxSteps := 1000000) only [sm, sn, sxx, seval, hlt', hlt, hr]
            refine callA_rule (clone_rgs r (hF2 r (List.mem_of_getElem? hr))) (wkL_refl _) rfl ?_
            simp +contextual -implicitDefEqProofs (maxSteps := 1000000) only [sm, sn, sxx, seval, hlt', hlt, hr, eRgs, hrs, e2]
            refine ⟨k + 1, by omega, by omega, [0, 1, 2], by decide, rfl, ?_, ?_⟩
            · simp +contextual -implicitDefEqProofs (maxSteps := 1000000) only [sm, sn, sxx, seval, eCon, eIs]
              try rfl
            · simp +contextual -implicitDefEqProofs (maxSteps := 1000000) only [sm, sn, sxx, seval]
              try rfl
          · have : k = F.length := by omega
            subst this
            rw [hres]
            simp +contextual -implicitDefEqProofs (maxSteps := 1000000) only [sm, sn, sxx, seval, Int.lt_irrefl, eDoms]
      · rw [tellA_t] at hres
        rw [hres]
        simp +contextual -implicitDefEqProofs (maxSteps := 1000000) only [sm, sn, sxx, seval, eDoms]
  by_cases hK : K = 15
  · subst hK
    have hok := arith_ok (c := (15, X, A, C)) (D := D) (by unfold aKind; simp) hm
    have hres : arithL (15, X, A, C) D = tellA (arithS 15 D X) := arith_l (c := (15, X, A, C)) (by unfold aKind; simp) hm
    obtain ⟨hlen, -⟩ := hok
    obtain ⟨-, hlF⟩ := arith_ok (c := (15, X, A, C)) (D := D) (by unfold aKind; simp) hm
    have hidx := arith_idx (c := (15, X, A, C)) (D := D) (by unfold aKind; simp) hm
    obtain ⟨-, -, -, -, i3, i2, -⟩ := hidx
    simp only at i3 i2
    have hcon := arith_same X D (i2 (by simp)) hI hDk
    have e : arithS 15 D X = sameA D (xat X 0) (xat X 1) := by unfold arithS; simp
    simp only at hlen hlF
    rw [e] at hres hlen hlF
    obtain ⟨s, hs⟩ : ∃ s, sameA D (xat X 0) (xat X 1) = s := ⟨_, rfl⟩
    rw [hs] at hcon hres hlen hlF
    obtain ⟨F, b⟩ := s
    have hok := hlen
    simp only at hlF
    simp +contextual -implicitDefEqProofs (maxSteps := 1000000) only [sm, sn, sxx, seval, eCon, eIs]
    refine callM_rule [2, 1] hcon (by decide) ?_ ?_ ?_ ?_ ?_ ?_
    · simp +contextual -implicitDefEqProofs (maxSteps := 1000000) only [sm, sn, sxx, seval, arB_eq]
      try rfl
    · simp +contextual -implicitDefEqProofs (maxSteps := 1000000) only [sm, sn, sxx, seval, arB_eq]
    · simp +contextual -implicitDefEqProofs (maxSteps := 1000000) only [sm, sn, sxx, seval, arB_eq, eIs, eRgs]
      try rfl
    · simp +contextual -implicitDefEqProofs (maxSteps := 1000000) only [sm, sn, sxx, seval, arB_eq]
    · simp +contextual -implicitDefEqProofs (maxSteps := 1000000) only [sm, sn, sxx, seval, arB_eq, eRgs]
    · simp +contextual -implicitDefEqProofs (maxSteps := 1000000) only [sm, sn, sxx, seval, arB_eq, eCon, eIs]
      cases b
      · have hF2 : ∀ d ∈ F, d.length ≤ 1000000000000 := by
          rcases hok with h | h
          · exact ok_rows h.2
          · cases h
        rw [tellA_f] at hres
        simp +contextual -implicitDefEqProofs (maxSteps := 1000000) only [sm, sn, sxx, seval]
        refine loop_rule (fun k : Nat => k ≤ F.length) (fun k => tm 70 [(6, .ptr 3 2 0 0), (50, .sl 1 1 0 F.length), (51, .int .i64 F.length), (52, .int .i64 k)])
          (fun _ => [some (4, [eCon (15, X, A, C)]), some (1, F.map eRgs), some (3, [.agg [.sl 1 1 0 F.length, .list 1 (X.map eI), .bool false]])]) (fun k => F.length - k) 0 (Nat.zero_le _) ⟨[0, 1, 2], by decide, rfl, ?_, ?_⟩ ?_
        · simp +contextual -implicitDefEqProofs (maxSteps := 1000000) only [sm, sn, sxx, seval, eCon, eIs]
          try rfl
        · simp +contextual -implicitDefEqProofs (maxSteps := 1000000) only [sm, sn, sxx, seval, Int.natCast_zero]
          try rfl
        · intro k hk
          by_cases hlt : k < F.length
          · obtain ⟨r, hr⟩ : ∃ r, F[k]? = some r := ⟨_, List.getElem?_eq_getElem hlt⟩
            have hlt' : (k : Int) < (F.length : Int) := by omega
            have e2 : IntKind.i64.wrap ((k : Int) + 1) = ((k + 1 : Nat) : Int) := by rw [wrap_i64] <;> omega
            have hrs := rows_sameA hr
            simp +contextual -implicitDefEqProofs (maxSteps := 1000000) only [sm, sn, sxx, seval, hlt', hlt, hr]
            refine callA_rule (clone_rgs r (hF2 r (List.mem_of_getElem? hr))) (wkL_refl _) rfl ?_
            simp +contextual -implicitDefEqProofs (maxSteps := 1000000) only [sm, sn, sxx, seval, hlt', hlt, hr, eRgs, hrs, e2]
            refine ⟨k + 1, by omega, by omega, [0, 1, 2], by decide, rfl, ?_, ?_⟩
            · simp +contextual -implicitDefEqProofs (maxSteps := 1000000) only [sm, sn, sxx, seval, eCon, eIs]
              try rfl
            · simp +contextual -implicitDefEqProofs (maxSteps := 1000000) only [sm, sn, sxx, seval]
              try rfl
          · have : k = F.length := by omega
            subst this
            rw [hres]
            simp +contextual -implicitDefEqProofs (maxSteps := 1000000) only [sm, sn, sxx, seval, Int.lt_irrefl, eDoms]
      · rw [tellA_t] at hres
        rw [hres]
        simp +contextual -implicitDefEqProofs (maxSteps := 1000000) only [sm, sn, sxx, seval, eDoms]
  rename_i k1 k2 k3 k4
  have hres : arithL (K, X, A, C) D = ([], 10) := by
    unfold arithL
    rw [if_pos hm, if_neg (by simp only; omega)]
  rw [hres]
  simp +contextual -implicitDefEqProofs (maxSteps := 1000000) only [sm, sn, sxx, seval, eCon, eIs, k1, k2, k3, k4, hK, eDoms]
end Go.Proofs.Ytonkcemcledhiaa
