/- What the functions of package logic compute, continued: clause, all, xor. -/
import Derived.Test.YtonkcemcledhiaaWLogic
namespace Go.Proofs.Ytonkcemcledhiaa
open Av
attribute [local irreducible] awp awpOpers
set_option linter.unusedSimpArgs false
set_option linter.unusedVariables false
set_option maxRecDepth 100000
set_option maxHeartbeats 4000000
theorem ok_setS {D E : List (List Rg)} {X : List Int} {bad b' : Bool} {x v : Int} (hI : InD D X) (hd : ∀ d ∈ D, d.length ≤ 1000000000000) (hs : setS (D, bad) x v = (E, b')) : InD E X ∧ (∀ d ∈ E, d.length ≤ 1000000000000) ∧ E.length = D.length := by
  unfold setS at hs
  simp only at hs
  split at hs
  · simp only [Prod.mk.injEq] at hs
    obtain ⟨rfl, rfl⟩ := hs
    refine ⟨fun i hi => by rw [List.length_set]; exact hI i hi, fun d hm => ?_, List.length_set⟩
    rcases List.mem_or_eq_of_mem_set hm with h | h
    · exact hd d h
    · rw [h]; simp
  · split at hs <;> (simp only [Prod.mk.injEq] at hs; obtain ⟨rfl, rfl⟩ := hs; exact ⟨hI, hd, rfl⟩)
theorem logic_clause (X A : List Int) (D : List (List Rg)) {E : List (List Rg)} {b' : Bool} (hI : InD D X) (hd : ∀ d ∈ D, d.length ≤ 1000000000000) (hX : X.length ≤ 1000000000000) (hA : A.length = X.length) (hs : clauseS D X A = (E, b')) :
    Ctr Try.prog 42 [.ptr 3 0 0 0, .list 1 (A.map eI)] (bits X D false) (.tuple []) (bits X E b') := by
  refine call_box Try.func42 Try.call42 e_logic_bits_clause ?_
  simp +contextual -implicitDefEqProofs (maxSteps := 1000000) only [c_logic_bits_clause, bits_eq, sm, sn, sxx, seval]
  refine loop_rule (fun s : Nat × Int × Int => s.1 ≤ A.length ∧ cg D X A s.1 = some s.2) (fun s => tm 46 [(0, .ptr 3 0 0 0), (1, .list 1 (A.map eI)), (4, .int .i64 s.2.1), (5, .int .i64 s.2.2), (9, .list 1 (A.map eI)), (10, .int .i64 A.length), (11, .int .i64 s.1)])
    (fun s => [some (3, [.agg [.list 1 (X.map eI), .sl 1 1 0 D.length, .bool false]]), some (1, D.map eRgs)]) (fun s => A.length - s.1) (0, 0, 0) ⟨by simp, rfl⟩ ⟨[0, 1], by decide, rfl, ?_, ?_⟩ ?_
  · simp +contextual -implicitDefEqProofs (maxSteps := 1000000) only [sm, sn, sxx, seval]
  · simp +contextual -implicitDefEqProofs (maxSteps := 1000000) only [sm, sn, sxx, seval, Int.natCast_zero]
  · rintro ⟨k, f, last⟩ ⟨hk, hc⟩
    simp only at hk hc
    by_cases hlt : k < A.length
    · have hlt' : (k : Int) < (A.length : Int) := by omega
      have ha := xat_get hlt
      have e2 : IntKind.i64.wrap ((k : Int) + 1) = ((k + 1 : Nat) : Int) := by rw [wrap_i64] <;> omega
      obtain ⟨b1, b2, b3, b4⟩ := cg_bounds hc
      have e3 : IntKind.i64.wrap (f + 1) = f + 1 := by rw [wrap_i64] <;> omega
      have hc1 : cg D X A (k + 1) = if atV D X k = (if 0 < xat A k then 1 else 0) then none else if atV D X k = 2 then some (f + 1, (k : Int)) else some (f, last) := by
        conv => lhs; unfold cg
        rw [hc]
      have hfound : cg D X A (k + 1) = none → (E, b') = (D, false) := fun h => by
        have := cg_none h (A.length - (k + 1))
        rw [show k + 1 + (A.length - (k + 1)) = A.length by omega] at this
        rw [← hs]; unfold clauseS; rw [this]
      by_cases hp : 0 < xat A k
      · simp +contextual -implicitDefEqProofs (maxSteps := 1000000) only [sm, sn, sxx, seval, hlt', ha, hp]
        refine callV_rule (logic_at X D false k hI hd (by omega)) ?_ rfl ?_
        · simp +contextual -implicitDefEqProofs (maxSteps := 1000000) only [sm, sn, sxx, seval]
        rw [if_pos hp] at hc1
        by_cases h1 : atV D X k = 1
        · rw [if_pos h1] at hc1
          obtain ⟨rfl, rfl⟩ := Prod.mk.injEq .. ▸ hfound hc1
          simp +contextual -implicitDefEqProofs (maxSteps := 1000000) only [sm, sn, sxx, seval, h1]
          refine ⟨[], [0, 1], by decide, ?_⟩
          simp +contextual -implicitDefEqProofs (maxSteps := 1000000) only [sm, sn, sxx, seval]
          try rfl
        rw [if_neg h1] at hc1
        by_cases h2 : atV D X k = 2
        · rw [if_pos h2] at hc1
          simp +contextual -implicitDefEqProofs (maxSteps := 1000000) only [sm, sn, sxx, seval, h1, h2, e2, e3]
          refine ⟨(k + 1, f + 1, (k : Int)), ⟨by (try dsimp only); omega, hc1⟩, by (try dsimp only); omega, [0, 1], by decide, rfl, ?_, ?_⟩
          · simp +contextual -implicitDefEqProofs (maxSteps := 1000000) only [sm, sn, sxx, seval]
          · simp +contextual -implicitDefEqProofs (maxSteps := 1000000) only [sm, sn, sxx, seval]
        · rw [if_neg h2] at hc1
          simp +contextual -implicitDefEqProofs (maxSteps := 1000000) only [sm, sn, sxx, seval, h1, h2, e2]
          refine ⟨(k + 1, f, last), ⟨by (try dsimp only); omega, hc1⟩, by (try dsimp only); omega, [0, 1], by decide, rfl, ?_, ?_⟩
          · simp +contextual -implicitDefEqProofs (maxSteps := 1000000) only [sm, sn, sxx, seval]
          · simp +contextual -implicitDefEqProofs (maxSteps := 1000000) only [sm, sn, sxx, seval]
      · simp +contextual -implicitDefEqProofs (maxSteps := 1000000) only [sm, sn, sxx, seval, hlt', ha, hp]
        refine callV_rule (logic_at X D false k hI hd (by omega)) ?_ rfl ?_
        · simp +contextual -implicitDefEqProofs (maxSteps := 1000000) only [sm, sn, sxx, seval]
        rw [if_neg hp] at hc1
        by_cases h1 : atV D X k = 0
        · rw [if_pos h1] at hc1
          obtain ⟨rfl, rfl⟩ := Prod.mk.injEq .. ▸ hfound hc1
          simp +contextual -implicitDefEqProofs (maxSteps := 1000000) only [sm, sn, sxx, seval, h1]
          refine ⟨[], [0, 1], by decide, ?_⟩
          simp +contextual -implicitDefEqProofs (maxSteps := 1000000) only [sm, sn, sxx, seval]
          try rfl
        rw [if_neg h1] at hc1
        by_cases h2 : atV D X k = 2
        · rw [if_pos h2] at hc1
          simp +contextual -implicitDefEqProofs (maxSteps := 1000000) only [sm, sn, sxx, seval, h1, h2, e2, e3]
          refine ⟨(k + 1, f + 1, (k : Int)), ⟨by (try dsimp only); omega, hc1⟩, by (try dsimp only); omega, [0, 1], by decide, rfl, ?_, ?_⟩
          · simp +contextual -implicitDefEqProofs (maxSteps := 1000000) only [sm, sn, sxx, seval]
          · simp +contextual -implicitDefEqProofs (maxSteps := 1000000) only [sm, sn, sxx, seval]
        · rw [if_neg h2] at hc1
          simp +contextual -implicitDefEqProofs (maxSteps := 1000000) only [sm, sn, sxx, seval, h1, h2, e2]
          refine ⟨(k + 1, f, last), ⟨by (try dsimp only); omega, hc1⟩, by (try dsimp only); omega, [0, 1], by decide, rfl, ?_, ?_⟩
          · simp +contextual -implicitDefEqProofs (maxSteps := 1000000) only [sm, sn, sxx, seval]
          · simp +contextual -implicitDefEqProofs (maxSteps := 1000000) only [sm, sn, sxx, seval]
    · have hkn : k = A.length := by omega
      subst hkn
      clear hlt hk
      obtain ⟨b1, b2, b3, b4⟩ := cg_bounds hc
      unfold clauseS at hs
      rw [hc] at hs
      simp only at hs
      by_cases h0 : f = 0
      · rw [if_pos h0] at hs
        simp only [Prod.mk.injEq] at hs
        obtain ⟨rfl, rfl⟩ := hs
        simp +contextual -implicitDefEqProofs (maxSteps := 1000000) only [sm, sn, sxx, seval, Int.lt_irrefl, h0]
        refine ⟨[], [0, 1], by decide, ?_⟩
        simp +contextual -implicitDefEqProofs (maxSteps := 1000000) only [sm, sn, sxx, seval]
        try rfl
      · rw [if_neg h0] at hs
        by_cases h1 : f = 1
        · rw [if_pos h1] at hs
          have hl : (last.toNat : Int) = last := Int.toNat_of_nonneg b3
          have hll : last.toNat < X.length := by omega
          have ha := xat_get (X := A) (i := last.toNat) (by omega)
          have hset := logic_set X D false last.toNat _ hI hd hll hs
          rw [hl] at hset
          simp +contextual -implicitDefEqProofs (maxSteps := 1000000) only [sm, sn, sxx, seval, Int.lt_irrefl, h0, h1, b3, ha]
          refine callM_rule [0, 1] hset (by decide) ?_ ?_ ?_ ?_ ?_ ?_
          · simp +contextual -implicitDefEqProofs (maxSteps := 1000000) only [sm, sn, sxx, seval, bits_eq]
          · simp +contextual -implicitDefEqProofs (maxSteps := 1000000) only [sm, sn, sxx, seval, bits_eq]
          · simp +contextual -implicitDefEqProofs (maxSteps := 1000000) only [sm, sn, sxx, seval, bits_eq]
          · simp +contextual -implicitDefEqProofs (maxSteps := 1000000) only [sm, sn, sxx, seval, bits_eq]
          · simp +contextual -implicitDefEqProofs (maxSteps := 1000000) only [sm, sn, sxx, seval, bits_eq]
          · simp +contextual -implicitDefEqProofs (maxSteps := 1000000) only [sm, sn, sxx, seval, bits_eq]
            refine ⟨[], [0, 1], by decide, ?_⟩
            simp +contextual -implicitDefEqProofs (maxSteps := 1000000) only [sm, sn, sxx, seval]
            try rfl
        · rw [if_neg h1] at hs
          simp only [Prod.mk.injEq] at hs
          obtain ⟨rfl, rfl⟩ := hs
          simp +contextual -implicitDefEqProofs (maxSteps := 1000000) only [sm, sn, sxx, seval, Int.lt_irrefl, h0, h1]
          refine ⟨[], [0, 1], by decide, ?_⟩
          simp +contextual -implicitDefEqProofs (maxSteps := 1000000) only [sm, sn, sxx, seval]
          try rfl
end Go.Proofs.Ytonkcemcledhiaa
