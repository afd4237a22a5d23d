/- What the functions of package logic compute, continued: Narrow. -/
import Derived.Test.YtonkcemcledhiaaWLogic3
import Derived.Test.YtonkcemcledhiaaGMod
import Derived.Test.YtonkcemcledhiaaGSet
namespace Go.Proofs.Ytonkcemcledhiaa
open Av
attribute [local irreducible] awp awpOpers
set_option linter.unusedSimpArgs false
set_option linter.unusedVariables false
set_option maxRecDepth 100000
set_option maxHeartbeats 4000000
theorem rows_same {F : List (List Rg)} {k : Nat} {r : List Rg} (h : F[k]? = some r) : (F.map eRgs).set k (.list 2 (r.map eRg)) = F.map eRgs := by
  apply List.ext_getElem?
  intro i
  by_cases hi : i = k
  · subst hi
    rw [List.getElem?_set_self (by rw [List.length_map]; exact (List.getElem?_eq_some_iff.1 h).1), List.getElem?_map, h]
    rfl
  · rw [List.getElem?_set_ne (fun e => hi e.symm)]
theorem ok_clause {X A : List Int} {D F : List (List Rg)} {b : Bool} (hI : InD D X) (hd : ∀ d ∈ D, d.length ≤ 1000000000000) (hs : clauseS D X A = (F, b)) : (∀ d ∈ F, d.length ≤ 1000000000000) ∧ F.length = D.length := by
  unfold clauseS at hs
  split at hs
  · simp only [Prod.mk.injEq] at hs; obtain ⟨rfl, -⟩ := hs; exact ⟨hd, rfl⟩
  · split at hs
    · simp only [Prod.mk.injEq] at hs; obtain ⟨rfl, -⟩ := hs; exact ⟨hd, rfl⟩
    · split at hs
      · exact (ok_setS hI hd hs).2
      · simp only [Prod.mk.injEq] at hs; obtain ⟨rfl, -⟩ := hs; exact ⟨hd, rfl⟩
theorem ok_ev {X : List Int} {D : List (List Rg)} {v : Int} (hI : InD D X) (hd : ∀ d ∈ D, d.length ≤ 1000000000000) : ∀ (n : Nat), InD (evS D X v n).1 X ∧ (∀ d ∈ (evS D X v n).1, d.length ≤ 1000000000000) ∧ (evS D X v n).1.length = D.length
  | 0 => ⟨hI, hd, rfl⟩
  | n + 1 => by
    obtain ⟨h1, h2, h3⟩ := ok_ev (v := v) hI hd n
    obtain ⟨q1, q2, q3⟩ := ok_setS (E := (evS D X v (n + 1)).1) (b' := (evS D X v (n + 1)).2) (x := xat X n) (v := v) (bad := (evS D X v n).2) h1 h2 rfl
    exact ⟨q1, q2, q3.trans h3⟩
theorem ok_all {X : List Int} {D F : List (List Rg)} {yes : Int} {b : Bool} (hI : InD D X) (hd : ∀ d ∈ D, d.length ≤ 1000000000000) (hs : allS D X yes = (F, b)) : (∀ d ∈ F, d.length ≤ 1000000000000) ∧ F.length = D.length := by
  obtain ⟨E, b', hE⟩ : ∃ E b', firstS D X yes = (E, b') := ⟨_, _, rfl⟩
  have key : InD E X ∧ (∀ d ∈ E, d.length ≤ 1000000000000) ∧ E.length = D.length := by
    unfold firstS at hE
    split at hE
    · exact ok_setS hI hd hE
    · split at hE
      · exact ok_setS hI hd hE
      · simp only [Prod.mk.injEq] at hE; obtain ⟨rfl, -⟩ := hE; exact ⟨hI, hd, rfl⟩
  obtain ⟨kI, kd, kl⟩ := key
  unfold allS at hs
  rw [hE] at hs
  cases b'
  · simp only at hs
    unfold restS at hs
    split at hs
    · have := (ok_ev (v := yes) kI kd (X.length - 1)).2
      rw [hs] at this
      exact ⟨this.1, this.2.trans kl⟩
    · split at hs
      · split at hs
        · simp only [Prod.mk.injEq] at hs; obtain ⟨rfl, -⟩ := hs; exact ⟨kd, kl⟩
        · split at hs
          · exact ⟨(ok_setS kI kd hs).2.1, (ok_setS kI kd hs).2.2.trans kl⟩
          · simp only [Prod.mk.injEq] at hs; obtain ⟨rfl, -⟩ := hs; exact ⟨kd, kl⟩
      · simp only [Prod.mk.injEq] at hs; obtain ⟨rfl, -⟩ := hs; exact ⟨kd, kl⟩
  · simp only [Prod.mk.injEq] at hs; obtain ⟨rfl, -⟩ := hs; exact ⟨kd, kl⟩
theorem ok_xor {X : List Int} {D F : List (List Rg)} {b : Bool} (hI : InD D X) (hd : ∀ d ∈ D, d.length ≤ 1000000000000) (hs : xorS D X = (F, b)) : (∀ d ∈ F, d.length ≤ 1000000000000) ∧ F.length = D.length := by
  unfold xorS at hs
  split at hs
  · simp only [Prod.mk.injEq] at hs; obtain ⟨rfl, -⟩ := hs; exact ⟨hd, rfl⟩
  · split at hs
    · exact (ok_setS hI hd hs).2
    · simp only [Prod.mk.injEq] at hs; obtain ⟨rfl, -⟩ := hs; exact ⟨hd, rfl⟩
theorem logic_Narrow (c : Con) (D : List (List Rg)) (hD : D.length ≤ 1000000000000) (hd : ∀ d ∈ D, d.length ≤ 1000000000000) (hc : conFits c) :
    Ctr Try.prog 17 [eCon c, eDoms D] [] (.tuple [eDoms (logicL c D).1, .int .i64 (logicL c D).2]) [] := by
  obtain ⟨K, X, A, C⟩ := c
  refine call_pure Try.func17 Try.call17 e_logic_Narrow ?_
  simp +contextual -implicitDefEqProofs (maxSteps := 1000000) only [c_logic_Narrow, eCon, eIs, eDoms, sm, sn, sxx, seval]
  refine callA_rule (model_Right (D, [(K, X, A, C)], 0, 0) hD hd (by simp) (by simpa using hc)) (wkL_refl _) rfl ?_
  cases hm : modB (D, [(K, X, A, C)], 0, 0)
  · have hres : logicL (K, X, A, C) D = ([], 2) := by
      unfold logicL
      rw [if_neg (by simp [hm])]
    rw [hres]
    simp +contextual -implicitDefEqProofs (maxSteps := 1000000) only [sm, sn, sxx, seval, eDoms]
  obtain ⟨f1, f2, f3⟩ := one_facts hm
  obtain ⟨g1, g2, hI, g4, g5⟩ := may_facts f3
  obtain ⟨l1, l2, l3⟩ := may_len f3
  simp only at l1 l2 l3 hI g2
  simp +contextual -implicitDefEqProofs (maxSteps := 1000000) only [sm, sn, sxx, seval]
  refine callO_rule (clone_doms D hD) rfl (wkL_refl _) rfl ?_ ?_
  · simp +contextual -implicitDefEqProofs (maxSteps := 1000000) only [sm, sn, sxx, seval]
  by_cases hK : K = 11
  · subst hK
    obtain ⟨F, b, hF⟩ : ∃ F b, clauseS D X A = (F, b) := ⟨_, _, rfl⟩
    obtain ⟨hF2, hFl⟩ := ok_clause hI hd hF
    have hres : logicL (11, X, A, C) D = fin (F, b) := by
      unfold logicL
      rw [if_pos hm]
      simp only
      rw [hF]
      rfl
    simp +contextual -implicitDefEqProofs (maxSteps := 1000000) only [sm, sn, sxx, seval, eCon, eIs]
    refine callM_rule [2, 1] (logic_clause X A D hI hd (by omega) (l1 rfl).1.symm hF) (by decide) ?_ ?_ ?_ ?_ ?_ ?_
    · simp +contextual -implicitDefEqProofs (maxSteps := 1000000) only [sm, sn, sxx, seval, bits_eq]
      try rfl
    · simp +contextual -implicitDefEqProofs (maxSteps := 1000000) only [sm, sn, sxx, seval, bits_eq]
    · simp +contextual -implicitDefEqProofs (maxSteps := 1000000) only [sm, sn, sxx, seval, bits_eq, eIs]
      try rfl
    · simp +contextual -implicitDefEqProofs (maxSteps := 1000000) only [sm, sn, sxx, seval, bits_eq]
    · simp +contextual -implicitDefEqProofs (maxSteps := 1000000) only [sm, sn, sxx, seval, bits_eq]
    · simp +contextual -implicitDefEqProofs (maxSteps := 1000000) only [sm, sn, sxx, seval, bits_eq, eCon, eIs]
      cases b
      · simp +contextual -implicitDefEqProofs (maxSteps := 1000000) only [sm, sn, sxx, seval]
        refine loop_rule (fun k : Nat => k ≤ F.length) (fun k => tm 68 [(6, .ptr 3 2 0 0), (48, .sl 1 1 0 F.length), (49, .int .i64 F.length), (50, .int .i64 k)])
          (fun _ => [some (4, [eCon (11, X, A, C)]), some (1, F.map eRgs), some (3, [.agg [.list 1 (X.map eI), .sl 1 1 0 F.length, .bool false]])]) (fun k => F.length - k) 0 (Nat.zero_le _) ⟨[0, 1, 2], by decide, rfl, ?_, ?_⟩ ?_
        · simp +contextual -implicitDefEqProofs (maxSteps := 1000000) only [sm, sn, sxx, seval, eCon, eIs]
        · simp +contextual -implicitDefEqProofs (maxSteps := 1000000) only [sm, sn, sxx, seval, Int.natCast_zero]
        · intro k hk
          by_cases hlt : k < F.length
          · obtain ⟨r, hr⟩ : ∃ r, F[k]? = some r := ⟨_, List.getElem?_eq_getElem hlt⟩
            have hlt' : (k : Int) < (F.length : Int) := by omega
            have e2 : IntKind.i64.wrap ((k : Int) + 1) = ((k + 1 : Nat) : Int) := by rw [wrap_i64] <;> omega
            have hrs := rows_same hr
            simp +contextual -implicitDefEqProofs (maxSteps := 1000000) only [sm, sn, sxx, seval, hlt', hlt, hr]
            refine callA_rule (clone_rgs r (hF2 r (List.mem_of_getElem? hr))) (wkL_refl _) rfl ?_
            simp +contextual -implicitDefEqProofs (maxSteps := 1000000) only [sm, sn, sxx, seval, hlt', hlt, hr, eRgs, hrs, e2]
            refine ⟨k + 1, by omega, by omega, [0, 1, 2], by decide, rfl, ?_, ?_⟩
            · simp +contextual -implicitDefEqProofs (maxSteps := 1000000) only [sm, sn, sxx, seval, eCon, eIs]
            · simp +contextual -implicitDefEqProofs (maxSteps := 1000000) only [sm, sn, sxx, seval]
          · have : k = F.length := by omega
            subst this
            rw [hres]
            simp +contextual -implicitDefEqProofs (maxSteps := 1000000) only [sm, sn, sxx, seval, Int.lt_irrefl, fin, eDoms]
      · rw [hres]
        simp +contextual -implicitDefEqProofs (maxSteps := 1000000) only [sm, sn, sxx, seval, fin, eDoms]
  by_cases hK : K = 12
  · subst hK
    obtain ⟨F, b, hF⟩ : ∃ F b, allS D X 1 = (F, b) := ⟨_, _, rfl⟩
    obtain ⟨hF2, hFl⟩ := ok_all hI hd hF
    have hres : logicL (12, X, A, C) D = fin (F, b) := by
      unfold logicL
      rw [if_pos hm]
      simp only
      rw [hF]
      rfl
    simp +contextual -implicitDefEqProofs (maxSteps := 1000000) only [sm, sn, sxx, seval, eCon, eIs]
    refine callM_rule [2, 1] (logic_all X D 1 (.inr rfl) hI hd (by omega) (l2 (.inl rfl)) hF) (by decide) ?_ ?_ ?_ ?_ ?_ ?_
    · simp +contextual -implicitDefEqProofs (maxSteps := 1000000) only [sm, sn, sxx, seval, bits_eq]
      try rfl
    · simp +contextual -implicitDefEqProofs (maxSteps := 1000000) only [sm, sn, sxx, seval, bits_eq]
    · simp +contextual -implicitDefEqProofs (maxSteps := 1000000) only [sm, sn, sxx, seval, bits_eq, eIs]
      try rfl
    · simp +contextual -implicitDefEqProofs (maxSteps := 1000000) only [sm, sn, sxx, seval, bits_eq]
    · simp +contextual -implicitDefEqProofs (maxSteps := 1000000) only [sm, sn, sxx, seval, bits_eq]
    · simp +contextual -implicitDefEqProofs (maxSteps := 1000000) only [sm, sn, sxx, seval, bits_eq, eCon, eIs]
      cases b
      · simp +contextual -implicitDefEqProofs (maxSteps := 1000000) only [sm, sn, sxx, seval]
        refine loop_rule (fun k : Nat => k ≤ F.length) (fun k => tm 68 [(6, .ptr 3 2 0 0), (48, .sl 1 1 0 F.length), (49, .int .i64 F.length), (50, .int .i64 k)])
          (fun _ => [some (4, [eCon (12, X, A, C)]), some (1, F.map eRgs), some (3, [.agg [.list 1 (X.map eI), .sl 1 1 0 F.length, .bool false]])]) (fun k => F.length - k) 0 (Nat.zero_le _) ⟨[0, 1, 2], by decide, rfl, ?_, ?_⟩ ?_
        · simp +contextual -implicitDefEqProofs (maxSteps := 1000000) only [sm, sn, sxx, seval, eCon, eIs]
        · simp +contextual -implicitDefEqProofs (maxSteps := 1000000) only [sm, sn, sxx, seval, Int.natCast_zero]
        · intro k hk
          by_cases hlt : k < F.length
          · obtain ⟨r, hr⟩ : ∃ r, F[k]? = some r := ⟨_, List.getElem?_eq_getElem hlt⟩
            have hlt' : (k : Int) < (F.length : Int) := by omega
            have e2 : IntKind.i64.wrap ((k : Int) + 1) = ((k + 1 : Nat) : Int) := by rw [wrap_i64] <;> omega
            have hrs := rows_same hr
            simp +contextual -implicitDefEqProofs (maxSteps := 1000000) only [sm, sn, sxx, seval, hlt', hlt, hr]
            refine callA_rule (clone_rgs r (hF2 r (List.mem_of_getElem? hr))) (wkL_refl _) rfl ?_
            simp +contextual -implicitDefEqProofs (maxSteps := 1000000) only [sm, sn, sxx, seval, hlt', hlt, hr, eRgs, hrs, e2]
            refine ⟨k + 1, by omega, by omega, [0, 1, 2], by decide, rfl, ?_, ?_⟩
            · simp +contextual -implicitDefEqProofs (maxSteps := 1000000) only [sm, sn, sxx, seval, eCon, eIs]
            · simp +contextual -implicitDefEqProofs (maxSteps := 1000000) only [sm, sn, sxx, seval]
          · have : k = F.length := by omega
            subst this
            rw [hres]
            simp +contextual -implicitDefEqProofs (maxSteps := 1000000) only [sm, sn, sxx, seval, Int.lt_irrefl, fin, eDoms]
      · rw [hres]
        simp +contextual -implicitDefEqProofs (maxSteps := 1000000) only [sm, sn, sxx, seval, fin, eDoms]
  by_cases hK : K = 13
  · subst hK
    obtain ⟨F, b, hF⟩ : ∃ F b, allS D X 0 = (F, b) := ⟨_, _, rfl⟩
    obtain ⟨hF2, hFl⟩ := ok_all hI hd hF
    have hres : logicL (13, X, A, C) D = fin (F, b) := by
      unfold logicL
      rw [if_pos hm]
      simp only
      rw [hF]
      rfl
    simp +contextual -implicitDefEqProofs (maxSteps := 1000000) only [sm, sn, sxx, seval, eCon, eIs]
    refine callM_rule [2, 1] (logic_all X D 0 (.inl rfl) hI hd (by omega) (l2 (.inr rfl)) hF) (by decide) ?_ ?_ ?_ ?_ ?_ ?_
    · simp +contextual -implicitDefEqProofs (maxSteps := 1000000) only [sm, sn, sxx, seval, bits_eq]
      try rfl
    · simp +contextual -implicitDefEqProofs (maxSteps := 1000000) only [sm, sn, sxx, seval, bits_eq]
    · simp +contextual -implicitDefEqProofs (maxSteps := 1000000) only [sm, sn, sxx, seval, bits_eq, eIs]
      try rfl
    · simp +contextual -implicitDefEqProofs (maxSteps := 1000000) only [sm, sn, sxx, seval, bits_eq]
    · simp +contextual -implicitDefEqProofs (maxSteps := 1000000) only [sm, sn, sxx, seval, bits_eq]
    · simp +contextual -implicitDefEqProofs (maxSteps := 1000000) only [sm, sn, sxx, seval, bits_eq, eCon, eIs]
      cases b
      · simp +contextual -implicitDefEqProofs (maxSteps := 1000000) only [sm, sn, sxx, seval]
        refine loop_rule (fun k : Nat => k ≤ F.length) (fun k => tm 68 [(6, .ptr 3 2 0 0), (48, .sl 1 1 0 F.length), (49, .int .i64 F.length), (50, .int .i64 k)])
          (fun _ => [some (4, [eCon (13, X, A, C)]), some (1, F.map eRgs), some (3, [.agg [.list 1 (X.map eI), .sl 1 1 0 F.length, .bool false]])]) (fun k => F.length - k) 0 (Nat.zero_le _) ⟨[0, 1, 2], by decide, rfl, ?_, ?_⟩ ?_
        · simp +contextual -implicitDefEqProofs (maxSteps := 1000000) only [sm, sn, sxx, seval, eCon, eIs]
        · simp +contextual -implicitDefEqProofs (maxSteps := 1000000) only [sm, sn, sxx, seval, Int.natCast_zero]
        · intro k hk
          by_cases hlt : k < F.length
          · obtain ⟨r, hr⟩ : ∃ r, F[k]? = some r := ⟨_, List.getElem?_eq_getElem hlt⟩
            have hlt' : (k : Int) < (F.length : Int) := by omega
            have e2 : IntKind.i64.wrap ((k : Int) + 1) = ((k + 1 : Nat) : Int) := by rw [wrap_i64] <;> omega
            have hrs := rows_same hr
            simp +contextual -implicitDefEqProofs (maxSteps := 1000000) only [sm, sn, sxx, seval, hlt', hlt, hr]
            refine callA_rule (clone_rgs r (hF2 r (List.mem_of_getElem? hr))) (wkL_refl _) rfl ?_
            simp +contextual -implicitDefEqProofs (maxSteps := 1000000) only [sm, sn, sxx, seval, hlt', hlt, hr, eRgs, hrs, e2]
            refine ⟨k + 1, by omega, by omega, [0, 1, 2], by decide, rfl, ?_, ?_⟩
            · simp +contextual -implicitDefEqProofs (maxSteps := 1000000) only [sm, sn, sxx, seval, eCon, eIs]
            · simp +contextual -implicitDefEqProofs (maxSteps := 1000000) only [sm, sn, sxx, seval]
          · have : k = F.length := by omega
            subst this
            rw [hres]
            simp +contextual -implicitDefEqProofs (maxSteps := 1000000) only [sm, sn, sxx, seval, Int.lt_irrefl, fin, eDoms]
      · rw [hres]
        simp +contextual -implicitDefEqProofs (maxSteps := 1000000) only [sm, sn, sxx, seval, fin, eDoms]
  by_cases hK : K = 14
  · subst hK
    obtain ⟨F, b, hF⟩ : ∃ F b, xorS D X = (F, b) := ⟨_, _, rfl⟩
    obtain ⟨hF2, hFl⟩ := ok_xor hI hd hF
    have hres : logicL (14, X, A, C) D = fin (F, b) := by
      unfold logicL
      rw [if_pos hm]
      simp only
      rw [hF]
      rfl
    simp +contextual -implicitDefEqProofs (maxSteps := 1000000) only [sm, sn, sxx, seval, eCon, eIs]
    refine callM_rule [2, 1] (logic_xor X D hI hd (l3 rfl) hF) (by decide) ?_ ?_ ?_ ?_ ?_ ?_
    · simp +contextual -implicitDefEqProofs (maxSteps := 1000000) only [sm, sn, sxx, seval, bits_eq]
      try rfl
    · simp +contextual -implicitDefEqProofs (maxSteps := 1000000) only [sm, sn, sxx, seval, bits_eq]
    · simp +contextual -implicitDefEqProofs (maxSteps := 1000000) only [sm, sn, sxx, seval, bits_eq, eIs]
      try rfl
    · simp +contextual -implicitDefEqProofs (maxSteps := 1000000) only [sm, sn, sxx, seval, bits_eq]
    · simp +contextual -implicitDefEqProofs (maxSteps := 1000000) only [sm, sn, sxx, seval, bits_eq]
    · simp +contextual -implicitDefEqProofs (maxSteps := 1000000) only [sm, sn, sxx, seval, bits_eq, eCon, eIs]
      cases b
      · simp +contextual -implicitDefEqProofs (maxSteps := 1000000) only [sm, sn, sxx, seval]
        refine loop_rule (fun k : Nat => k ≤ F.length) (fun k => tm 68 [(6, .ptr 3 2 0 0), (48, .sl 1 1 0 F.length), (49, .int .i64 F.length), (50, .int .i64 k)])
          (fun _ => [some (4, [eCon (14, X, A, C)]), some (1, F.map eRgs), some (3, [.agg [.list 1 (X.map eI), .sl 1 1 0 F.length, .bool false]])]) (fun k => F.length - k) 0 (Nat.zero_le _) ⟨[0, 1, 2], by decide, rfl, ?_, ?_⟩ ?_
        · simp +contextual -implicitDefEqProofs (maxSteps := 1000000) only [sm, sn, sxx, seval, eCon, eIs]
        · simp +contextual -implicitDefEqProofs (maxSteps := 1000000) only [sm, sn, sxx, seval, Int.natCast_zero]
        · intro k hk
          by_cases hlt : k < F.length
          · obtain ⟨r, hr⟩ : ∃ r, F[k]? = some r := ⟨_, List.getElem?_eq_getElem hlt⟩
            have hlt' : (k : Int) < (F.length : Int) := by omega
            have e2 : IntKind.i64.wrap ((k : Int) + 1) = ((k + 1 : Nat) : Int) := by rw [wrap_i64] <;> omega
            have hrs := rows_same hr
            simp +contextual -implicitDefEqProofs (maxSteps := 1000000) only [sm, sn, sxx, seval, hlt', hlt, hr]
            refine callA_rule (clone_rgs r (hF2 r (List.mem_of_getElem? hr))) (wkL_refl _) rfl ?_
            simp +contextual -implicitDefEqProofs (maxSteps := 1000000) only [sm, sn, sxx, seval, hlt', hlt, hr, eRgs, hrs, e2]
            refine ⟨k + 1, by omega, by omega, [0, 1, 2], by decide, rfl, ?_, ?_⟩
            · simp +contextual -implicitDefEqProofs (maxSteps := 1000000) only [sm, sn, sxx, seval, eCon, eIs]
            · simp +contextual -implicitDefEqProofs (maxSteps := 1000000) only [sm, sn, sxx, seval]
          · have : k = F.length := by omega
            subst this
            rw [hres]
            simp +contextual -implicitDefEqProofs (maxSteps := 1000000) only [sm, sn, sxx, seval, Int.lt_irrefl, fin, eDoms]
      · rw [hres]
        simp +contextual -implicitDefEqProofs (maxSteps := 1000000) only [sm, sn, sxx, seval, fin, eDoms]
  rename_i k1 k2 k3
  have hres : logicL (K, X, A, C) D = ([], 10) := by
    unfold logicL
    rw [if_pos hm, if_neg k1, if_neg k2, if_neg k3, if_neg hK]
  rw [hres]
  simp +contextual -implicitDefEqProofs (maxSteps := 1000000) only [sm, sn, sxx, seval, eCon, eIs, k1, k2, k3, hK, eDoms]
end Go.Proofs.Ytonkcemcledhiaa
