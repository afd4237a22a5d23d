/- What the functions of package logic compute. -/
import Derived.Test.YtonkcemcledhiaaPlLogic
import Derived.Test.YtonkcemcledhiaaGSet
import Derived.Test.YtonkcemcledhiaaCLogic
namespace Go.Proofs.Ytonkcemcledhiaa
open Av
attribute [local irreducible] awp awpOpers
set_option linter.unusedSimpArgs false
set_option linter.unusedVariables false
set_option maxRecDepth 100000
set_option maxHeartbeats 4000000
/-- what is known, in boxes -/
def bits (X : List Int) (D : List (List Rg)) (bad : Bool) : Bx := [some (3, [.agg [.list 1 (X.map eI), .sl 1 1 0 D.length, .bool bad]]), some (1, D.map eRgs)]
theorem bits_eq (X : List Int) (D : List (List Rg)) (bad : Bool) : bits X D bad = [some (3, [.agg [.list 1 (X.map eI), .sl 1 1 0 D.length, .bool bad]]), some (1, D.map eRgs)] := rfl
theorem set_rows (D : List (List Rg)) (n : Nat) (a b : Int) : (D.map eRgs).set n (.list 2 [.agg [.int .i64 a, .int .i64 b]]) = (D.set n [(a, b)]).map eRgs := by simp [eRgs, eRg, List.map_set]
def pl (n : Nat) : List Int := (List.range n).map fun i : Nat => (i : Int)
theorem pl_len (n : Nat) : (pl n).length = n := by simp [pl]
theorem pl_get {n k : Nat} (h : k < n) : (pl n)[k]? = some (k : Int) := by simp [pl, h]
theorem pl_snoc (n : Nat) : pl n ++ [(n : Int)] = pl (n + 1) := by simp [pl, List.range_succ]
theorem logic_at (X : List Int) (D : List (List Rg)) (bad : Bool) (i : Nat) (hI : InD D X) (hd : ∀ d ∈ D, d.length ≤ 1000000000000) (hi : i < X.length) :
    Ctr Try.prog 83 [.rptr [.list 1 (X.map eI), .list 1 (D.map eRgs), .bool bad], .int .i64 i] [] (.int .i64 (atV D X i)) [] := by
  refine call_pure Try.func83 Try.call83 e_logic_bits_at ?_
  have hx := xat_get hi
  have hin := hI i hi
  have hr := row_get hin
  have h0 := hin.1
  unfold atV
  generalize xat X i = x at hx hin hr h0 ⊢
  have hlen := hd _ (row_mem hin)
  generalize rowOf D x = row at hr hlen ⊢
  simp +contextual -implicitDefEqProofs (maxSteps := 1000000) only [c_logic_bits_at, sm, sn, sxx, seval, hx, h0, hr]
  refine callA_rule (set_Ends row hlen) (wkL_refl _) rfl ?_
  unfold lv
  obtain ⟨p, q⟩ := endsV row
  by_cases h : p = q
  · simp +contextual -implicitDefEqProofs (maxSteps := 1000000) only [sm, sn, sxx, seval, eRg, h]
  · simp +contextual -implicitDefEqProofs (maxSteps := 1000000) only [sm, sn, sxx, seval, eRg, h]
theorem logic_set (X : List Int) (D : List (List Rg)) (bad : Bool) (i : Nat) (v : Int) {E : List (List Rg)} {b' : Bool} (hI : InD D X) (hd : ∀ d ∈ D, d.length ≤ 1000000000000) (hi : i < X.length) (hs : setS (D, bad) (xat X i) v = (E, b')) :
    Ctr Try.prog 84 [.ptr 3 0 0 0, .int .i64 i, .int .i64 v] (bits X D bad) (.tuple []) (bits X E b') := by
  refine call_box Try.func84 Try.call84 e_logic_bits_set ?_
  have hx := xat_get hi
  have hin := hI i hi
  have hr := row_get hin
  have h0 := hin.1
  have hat : atV D X i = lv (rowOf D (xat X i)) := rfl
  simp +contextual -implicitDefEqProofs (maxSteps := 1000000) only [c_logic_bits_set, bits_eq, sm, sn, sxx, seval]
  refine callV_rule (logic_at X D bad i hI hd hi) ?_ rfl ?_
  · simp +contextual -implicitDefEqProofs (maxSteps := 1000000) only [sm, sn, sxx, seval]
  unfold setS at hs
  rw [hat]
  simp only at hs
  by_cases h1 : lv (rowOf D (xat X i)) = 2
  · rw [if_pos h1] at hs
    simp only [Prod.mk.injEq] at hs
    obtain ⟨rfl, rfl⟩ := hs
    have hxn : (xat X i).toNat < D.length := by omega
    generalize xat X i = x at hx hin hr h0 h1 hxn ⊢
    generalize rowOf D x = row at hr h1 ⊢
    simp +contextual -implicitDefEqProofs (maxSteps := 1000000) only [sm, sn, sxx, seval, h1, hx, h0, hr, hxn, set_rows]
    refine ⟨[], [0, 1], by decide, ?_⟩
    simp +contextual -implicitDefEqProofs (maxSteps := 1000000) only [sm, sn, sxx, seval, List.length_set]
    try rfl
  · rw [if_neg h1] at hs
    by_cases h2 : lv (rowOf D (xat X i)) = v
    · rw [if_pos h2] at hs
      simp only [Prod.mk.injEq] at hs
      obtain ⟨rfl, rfl⟩ := hs
      have h3 : ¬ v = 2 := h2 ▸ h1
      simp +contextual -implicitDefEqProofs (maxSteps := 1000000) only [sm, sn, sxx, seval, h2, h3]
      refine ⟨[], [0, 1], by decide, ?_⟩
      simp +contextual -implicitDefEqProofs (maxSteps := 1000000) only [sm, sn, sxx, seval]
      try rfl
    · rw [if_neg h2] at hs
      simp only [Prod.mk.injEq] at hs
      obtain ⟨rfl, rfl⟩ := hs
      simp +contextual -implicitDefEqProofs (maxSteps := 1000000) only [sm, sn, sxx, seval, h1, h2]
      refine ⟨[], [0, 1], by decide, ?_⟩
      simp +contextual -implicitDefEqProofs (maxSteps := 1000000) only [sm, sn, sxx, seval]
      try rfl
theorem logic_count (X : List Int) (D : List (List Rg)) (bad : Bool) (n : Nat) (v : Int) (hI : InD D X) (hd : ∀ d ∈ D, d.length ≤ 1000000000000) (hn : n ≤ X.length) (hX : X.length ≤ 1000000000000) :
    Ctr Try.prog 86 [.rptr [.list 1 (X.map eI), .list 1 (D.map eRgs), .bool bad], .list 1 ((pl n).map eI), .int .i64 v] [] (.tuple [.int .i64 (cl (so D X v) n).1, .int .i64 (cl (so D X v) n).2]) [] := by
  refine call_pure Try.func86 Try.call86 e_logic_bits_count ?_
  simp +contextual -implicitDefEqProofs (maxSteps := 1000000) only [c_logic_bits_count, sm, sn, sxx, seval, pl_len]
  refine loop_rule (fun k : Nat => k ≤ n) (fun k => tm 27 [(0, .rptr [.list 1 (X.map eI), .list 1 (D.map eRgs), .bool bad]), (2, .int .i64 v), (6, .int .i64 (cl (so D X v) k).1), (7, .int .i64 (cl (so D X v) k).2), (10, .list 1 ((pl n).map eI)), (11, .int .i64 n), (12, .int .i64 k)]) (fun _ => []) (fun k => n - k) 0 (Nat.zero_le _) ⟨[], by decide, rfl, ?_, ?_⟩ ?_
  · simp +contextual -implicitDefEqProofs (maxSteps := 1000000) only [sm, sn, sxx, seval]
  · simp +contextual -implicitDefEqProofs (maxSteps := 1000000) only [sm, sn, sxx, seval, Int.natCast_zero, cl]
  · intro k hk
    by_cases hlt : k < n
    · have hlt' : (k : Int) < (n : Int) := by omega
      have hp := pl_get hlt
      have e2 : IntKind.i64.wrap ((k : Int) + 1) = ((k + 1 : Nat) : Int) := by rw [wrap_i64] <;> omega
      have hb := cl_bounds (so D X v) k
      have e3 : IntKind.i64.wrap ((cl (so D X v) k).1 + 1) = (cl (so D X v) k).1 + 1 := by rw [wrap_i64] <;> omega
      simp +contextual -implicitDefEqProofs (maxSteps := 1000000) only [sm, sn, sxx, seval, hlt', hp]
      refine callV_rule (logic_at X D bad k hI hd (by omega)) ?_ rfl ?_
      · simp +contextual -implicitDefEqProofs (maxSteps := 1000000) only [sm, sn, sxx, seval]
      by_cases hv : atV D X k = v
      · have hc : cl (so D X v) (k + 1) = ((cl (so D X v) k).1 + 1, (k : Int)) := by
          conv => lhs; unfold cl
          rw [if_pos (by simp [so, hv])]
        simp +contextual -implicitDefEqProofs (maxSteps := 1000000) only [sm, sn, sxx, seval, hv, e2, e3]
        refine ⟨k + 1, by omega, by omega, [], by decide, rfl, ?_, ?_⟩
        · simp +contextual -implicitDefEqProofs (maxSteps := 1000000) only [sm, sn, sxx, seval]
        · simp +contextual -implicitDefEqProofs (maxSteps := 1000000) only [sm, sn, sxx, seval, hc]
      · have hc : cl (so D X v) (k + 1) = cl (so D X v) k := by
          conv => lhs; unfold cl
          rw [if_neg (by simp [so, hv])]
        simp +contextual -implicitDefEqProofs (maxSteps := 1000000) only [sm, sn, sxx, seval, hv, e2]
        refine ⟨k + 1, by omega, by omega, [], by decide, rfl, ?_, ?_⟩
        · simp +contextual -implicitDefEqProofs (maxSteps := 1000000) only [sm, sn, sxx, seval]
        · simp +contextual -implicitDefEqProofs (maxSteps := 1000000) only [sm, sn, sxx, seval, hc]
    · have : k = n := by omega
      subst this
      simp +contextual -implicitDefEqProofs (maxSteps := 1000000) only [sm, sn, sxx, seval, Int.lt_irrefl]
theorem logic_places (n : Nat) (hn : n ≤ 1000000000000) : Ctr Try.prog 85 [.int .i64 n] [] (.list 1 ((pl n).map eI)) [] := by
  refine call_pure Try.func85 Try.call85 e_logic_places ?_
  simp +contextual -implicitDefEqProofs (maxSteps := 1000000) only [c_logic_places, sm, sn, sxx, seval]
  refine loop_ruleV [(3, 1)] (fun k : Nat => k ≤ n) (fun k => tm 15 [(3, .sl 1 0 0 k), (5, .int .i64 n), (6, .int .i64 k)]) (fun k => [some (1, (pl k).map eI)]) (fun k => n - k) 0 (by simp +contextual -implicitDefEqProofs (maxSteps := 1000000) only [sm, sn, sxx, seval]) (Nat.zero_le _) ⟨[0], by decide, rfl, ?_, ?_⟩ ?_
  · simp +contextual -implicitDefEqProofs (maxSteps := 1000000) only [sm, sn, sxx, seval, pl]
  · simp +contextual -implicitDefEqProofs (maxSteps := 1000000) only [sm, sn, sxx, seval, Int.natCast_zero]
  · intro k hk
    by_cases hlt : k < n
    · have hlt' : (k : Int) < (n : Int) := by omega
      have e2 : IntKind.i64.wrap ((k : Int) + 1) = ((k + 1 : Nat) : Int) := by rw [wrap_i64] <;> omega
      have c1 : (k + 1) * 8 ≤ 140737488355328 := by omega
      have c2 : k + 1 ≤ maxLen := by unfold maxLen; omega
      simp +contextual -implicitDefEqProofs (maxSteps := 1000000) only [sm, sn, sxx, seval, hlt', e2, c1, c2, pl_len, pl_snoc]
      refine ⟨k + 1, by omega, by omega, [1], by decide, rfl, ?_, ?_⟩
      · simp +contextual -implicitDefEqProofs (maxSteps := 1000000) only [sm, sn, sxx, seval]
      · simp +contextual -implicitDefEqProofs (maxSteps := 1000000) only [sm, sn, sxx, seval]
    · have : k = n := by omega
      subst this
      have t1 : List.take k (List.map eI (pl k)) = List.map eI (pl k) := by
        have := take_map eI (pl k)
        rwa [pl_len] at this
      simp +contextual -implicitDefEqProofs (maxSteps := 1000000) only [sm, sn, sxx, seval, Int.lt_irrefl, pl_len, t1]
end Go.Proofs.Ytonkcemcledhiaa
