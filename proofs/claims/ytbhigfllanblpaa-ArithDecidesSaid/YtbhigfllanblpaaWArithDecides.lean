/- ArithDecides. -/
import Derived.Test.YtbhigfllanblpaaWLaw14
import Derived.Test.YtbhigfllanblpaaGRef12
import Derived.Test.YtbhigfllanblpaaPlArith2
import Derived.Test.YtbhigfllanblpaaCArithDecides
namespace Go.Proofs.Ytbhigfllanblpaa
open Av
attribute [local irreducible] awp awpOpers
set_option linter.unusedSimpArgs false
set_option linter.unusedVariables false
set_option maxRecDepth 100000
set_option maxHeartbeats 4000000
theorem law_ArithDecides (c : Con) (D : List (List Rg)) : Ctr Try.prog 13 [eCon c, eDoms D] [] (.bool true) [] := by
  refine call_pure Try.func13 Try.call13 e_law14_ArithDecides ?_
  have hcon : ∃ K X A G, c = (K, X, A, G) := ⟨c.1, c.2.1, c.2.2.1, c.2.2.2, rfl⟩
  obtain ⟨K, X, A, G, rfl⟩ := hcon
  simp +contextual -implicitDefEqProofs (maxSteps := 1000000) only [c_law14_ArithDecides, eCon, eIs, eDoms, sm, sn, seval]
  refine callA_rule law14_alive (wkL_refl _) rfl ?_
  simp +contextual -implicitDefEqProofs (maxSteps := 1000000) only [sm, sn, seval, eCon, eIs]
  refine callA_rule (law14_mine (K, X, A, G) D) (wkL_refl _) rfl ?_
  cases hM : mine14B (K, X, A, G) D
  · simp +contextual -implicitDefEqProofs (maxSteps := 1000000) only [sm, sn, seval]
  obtain ⟨hK, hF, hm⟩ := mine14_facts hM
  obtain ⟨s1, s2, s3, s4⟩ := fits_facts hF
  simp only at s3 s4
  have hd : ∀ d ∈ D, d.length ≤ 1000000000000 := fun d h => by have := s2 d h; omega
  obtain ⟨f1, hD, i0, i1, i2, i3, -⟩ := arith_idx (c := (K, X, A, G)) hK hm
  have hI : InD D X := (may_facts (one_facts hm).2.2).2.2.1
  have hdec := arith_decides (c := (K, X, A, G)) hK hm
  simp only at hK i0 i1 i2 i3 hdec
  have hX : 2 ≤ X.length := by omega
  have e1 : IntKind.i64.wrap ((X.length : Int) - 1) = ((X.length - 1 : Nat) : Int) := by rw [wrap_i64] <;> omega
  have hn : X.length - 1 ≤ X.length := by omega
  have t1 : List.take (X.length - 1) (X.map eI) = (X.take (X.length - 1)).map eI := by rw [List.map_take]
  have t2 : (X.take (X.length - 1)).length = X.length - 1 := by rw [List.length_take]; omega
  have hn0 : (0 : Int) ≤ ((X.length - 1 : Nat) : Int) := by omega
  have hn1 : ((X.length - 1 : Nat) : Int) ≤ (X.length : Int) := by omega
  simp +contextual -implicitDefEqProofs (maxSteps := 1000000) only [sm, sn, seval, eCon, eIs, e1, hn, t1, t2, hn0, hn1, Nat.zero_le]
  refine loop_rule (fun k : Nat => k ≤ X.length - 1 ∧ ∀ j, j < k → (eAt D (xat X j)).1 = (eAt D (xat X j)).2) (fun k => tm 59 [(1, .list 1 (D.map eRgs)), (2, .ptr 4 0 0 0), (5, .int .i64 (X.length - 1 : Nat)), (23, .list 1 ((X.take (X.length - 1)).map eI)), (24, .int .i64 (X.length - 1 : Nat)), (25, .int .i64 k)]) (fun _ => [some (4, [eCon (K, X, A, G)])]) (fun k => X.length - 1 - k) 0 ⟨by omega, fun j hj => by omega⟩ ⟨[0], by decide, rfl, ?_, ?_⟩ ?_
  · simp +contextual -implicitDefEqProofs (maxSteps := 1000000) only [sm, sn, seval, eCon, eIs]
    try rfl
  · simp +contextual -implicitDefEqProofs (maxSteps := 1000000) only [sm, sn, seval, Int.natCast_zero, eDoms]
    try rfl
  · rintro k ⟨hk, hfx⟩
    by_cases hlt : k < X.length - 1
    · have hx : X[k]? = some (xat X k) := xat_get (by omega)
      have hx' : (X.take (X.length - 1))[k]? = some (xat X k) := by rw [List.getElem?_take, if_pos hlt, hx]
      have hin := hI k (by omega)
      have hr := row_get hin
      have h0 := hin.1
      have hxn : (xat X k).toNat < D.length := by omega
      have hrow := dom_right (hD _ hin.1 hin.2)
      have hl := hd _ (row_mem hin)
      have hlt' : (k : Int) < ((X.length - 1 : Nat) : Int) := by omega
      have e2 : IntKind.i64.wrap ((k : Int) + 1) = ((k + 1 : Nat) : Int) := by rw [wrap_i64] <;> omega
      simp +contextual -implicitDefEqProofs (maxSteps := 1000000) only [sm, sn, seval, eDoms, hlt', hlt, hx', hr, h0, hxn]
      refine callA_rule (ref12_Fixed (rowOf D (xat X k)) hrow.1 hrow.2 hl) (wkL_refl _) rfl ?_
      by_cases hfk : (endsV (rowOf D (xat X k))).1 = (endsV (rowOf D (xat X k))).2
      · simp +contextual -implicitDefEqProofs (maxSteps := 1000000) only [sm, sn, seval, hfk, e2]
        refine ⟨k + 1, ⟨by omega, fun j hj => ?_⟩, by omega, [0], by decide, rfl, ?_, ?_⟩
        · by_cases hj' : j = k
          · subst hj'; exact hfk
          · exact hfx j (by omega)
        · simp +contextual -implicitDefEqProofs (maxSteps := 1000000) only [sm, sn, seval, eCon, eIs]
          try rfl
        · simp +contextual -implicitDefEqProofs (maxSteps := 1000000) only [sm, sn, seval, eDoms]
          try rfl
      · simp +contextual -implicitDefEqProofs (maxSteps := 1000000) only [sm, sn, seval, hfk]
    · have : k = X.length - 1 := by omega
      subst this
      have hdec := hdec fun j hj => hfx j (by omega)
      simp +contextual -implicitDefEqProofs (maxSteps := 1000000) only [sm, sn, seval, Int.lt_irrefl, eDoms, eCon, eIs]
      refine callA_rule (arith_Narrow (K, X, A, G) D (by omega) hd ⟨by simp only; omega, by simp only; omega⟩) (by simp +contextual -implicitDefEqProofs (maxSteps := 1000000) only [sm, sn, seval, eCon, eIs, eDoms]) rfl ?_
      rcases hdec with h | ⟨E, hE, hEl, hEd, hEf⟩
      · rw [h]
        simp +contextual -implicitDefEqProofs (maxSteps := 1000000) only [sm, sn, seval, eDoms]
      · have hx : X[X.length - 1]? = some (xat X (X.length - 1)) := xat_get (by omega)
        have hin := hI (X.length - 1) (by omega)
        have hin : 0 ≤ xat X (X.length - 1) ∧ xat X (X.length - 1) < E.length := by omega
        have hr := row_get hin
        have h0 := hin.1
        have hxn : (xat X (X.length - 1)).toNat < E.length := by omega
        have hrow := dom_right (hEd _ hin.1 hin.2)
        have hl := dom_len (hEd _ hin.1 hin.2)
        unfold eAt at hEf
        rw [hE]
        simp +contextual -implicitDefEqProofs (maxSteps := 1000000) only [sm, sn, seval, eDoms, eCon, eIs, hx, hr, h0, hxn]
        refine callA_rule (ref12_Fixed (rowOf E (xat X (X.length - 1))) hrow.1 hrow.2 (by omega)) (by simp +contextual -implicitDefEqProofs (maxSteps := 1000000) only [sm, sn, seval, eRgs]) rfl ?_
        simp +contextual -implicitDefEqProofs (maxSteps := 1000000) only [sm, sn, seval, hEf]
end Go.Proofs.Ytbhigfllanblpaa
