/- What the smaller functions of package arith, and those of package check that they call, compute. -/
import Derived.Test.YtonkcemcledhiaaAv3
import Derived.Test.YtonkcemcledhiaaPlArith
import Derived.Test.YtonkcemcledhiaaGSet
import Derived.Test.YtonkcemcledhiaaOldK
import Derived.Test.YtonkcemcledhiaaCCheck
import Derived.Test.YtonkcemcledhiaaCArith1
namespace Go.Proofs.Ytonkcemcledhiaa
open Av
attribute [local irreducible] awp awpOpers
set_option linter.unusedSimpArgs false
set_option linter.unusedVariables false
set_option maxRecDepth 100000
set_option maxHeartbeats 4000000
/-- a contract in the words of the old walks, of two numbers -/
theorem ctr_old {f : FuncId} {a b : Int} {v : Value} {r : AV} (hcf : ∀ (xs : Array Value) (w : World), (callFunc f xs).run Try.prog w = .ok (.enter f xs) w) (h : ∀ w, Calls Try.prog f #[.int .i64 a, .int .i64 b] w (Old.RetQ v w)) (hr : ∀ fz pl, Rep fz pl r v) :
    Ctr Try.prog f [.int .i64 a, .int .i64 b] [] r [] := by
  refine ⟨hcf, ?_⟩
  intro w0 pr fz pl w cs hS hl hA
  have hcs : cs = #[.int .i64 a, .int .i64 b] := by
    apply Array.ext
    · simpa using hl.symm
    · intro i h1 h2
      have h3 : i = 0 ∨ i = 1 := by simp at h2; omega
      rcases h3 with rfl | rfl
      · exact (hA 0 (.int .i64 a) cs[0] rfl (Array.getElem?_eq_getElem h1)).inv_int
      · exact (hA 1 (.int .i64 b) cs[1] rfl (Array.getElem?_eq_getElem h1)).inv_int
  subst hcs
  refine (h w).mono ?_
  rintro e w' ⟨rfl, n, rfl⟩
  exact ⟨v, fz, pl, rfl, .refl _, List.prefix_refl _, hr fz pl, hS.below (Old.below_drewN (RowKit.Below.refl _ _) n)⟩
theorem tdiv_small' {r b : Int} (hr : -1000000000000000 ≤ r ∧ r ≤ 1000000000000000) : -1000000000000000 ≤ r.tdiv b ∧ r.tdiv b ≤ 1000000000000000 := by
  have h : (r.tdiv b).natAbs ≤ r.natAbs := by
    rw [Int.natAbs_tdiv]
    exact Nat.div_le_self _ _
  omega
theorem tmod_sign {a b : Int} (hb : ¬ b = 0) : (0 ≤ a → 0 ≤ a.tmod b) ∧ (a < 0 → ¬ a.tmod b = 0 → a.tmod b < 0) := by
  rcases Int.lt_or_gt_of_ne hb with h | h
  · have := tm_neg (a := a) h; exact ⟨this.1, fun h1 h2 => by have := this.2.1 (by omega); omega⟩
  · have := tm_pos (a := a) h; exact ⟨this.1, fun h1 h2 => by have := this.2.1 (by omega); omega⟩
theorem check_may (a b : Int) (ha : -9223372036854775808 < a) (hb : ¬ b = 0) : Ctr Try.prog 180 [.int .i64 a, .int .i64 b] [] (.int .i64 0) [] := by
  refine call_pure Try.func180 Try.call180 e_check_may ?_
  have h : ¬ a = -9223372036854775808 := by omega
  by_cases h1 : b = -1
  · simp +contextual -implicitDefEqProofs (maxSteps := 1000000) only [c_check_may, sm, sn, sxx, seval, h1, h]
  · simp +contextual -implicitDefEqProofs (maxSteps := 1000000) only [c_check_may, sm, sn, sxx, seval, hb, h1, h]
theorem check_Floor (a b : Int) (ha : -1000000000000000 ≤ a ∧ a ≤ 1000000000000000) (hb : ¬ b = 0) : Ctr Try.prog 167 [.int .i64 a, .int .i64 b] [] (.tuple [.int .i64 (flr a b), .int .i64 0]) [] := by
  refine call_pure Try.func167 Try.call167 e_check_Floor ?_
  have hq := tdiv_small' (b := b) ha
  have w1 : IntKind.i64.wrap (a.tdiv b) = a.tdiv b := by rw [wrap_i64] <;> omega
  have w2 : IntKind.i64.wrap (a.tdiv b - 1) = a.tdiv b - 1 := by rw [wrap_i64] <;> omega
  obtain ⟨q1, q2⟩ := tmod_sign (a := a) hb
  simp +contextual -implicitDefEqProofs (maxSteps := 1000000) only [c_check_Floor, sm, sn, sxx, seval]
  refine callA_rule (check_may a b (by omega) hb) (wkL_refl _) rfl ?_
  by_cases h1 : a.tmod b = 0
  · have hv : flr a b = a.tdiv b := by unfold flr; rw [if_neg (by simp [h1])]
    rw [hv]
    simp +contextual -implicitDefEqProofs (maxSteps := 1000000) only [sm, sn, sxx, seval, hb, w1, h1]
  · by_cases h2 : a < 0 <;> by_cases h3 : b < 0
    · have hv : flr a b = a.tdiv b := by unfold flr; simp [h1, h2, h3]
      have h4 :  a.tmod b < 0 := by exact q2 h2 h1
      rw [hv]
      simp +contextual -implicitDefEqProofs (maxSteps := 1000000) only [sm, sn, sxx, seval, hb, w1, w2, h1, h3, h4]
      try simp
    · have hv : flr a b = a.tdiv b - 1 := by unfold flr; simp [h1, h2, h3]
      have h4 :  a.tmod b < 0 := by exact q2 h2 h1
      rw [hv]
      simp +contextual -implicitDefEqProofs (maxSteps := 1000000) only [sm, sn, sxx, seval, hb, w1, w2, h1, h3, h4]
      try simp
    · have hv : flr a b = a.tdiv b - 1 := by unfold flr; simp [h1, h2, h3]
      have h4 : ¬ a.tmod b < 0 := by have := q1 (by omega); omega
      rw [hv]
      simp +contextual -implicitDefEqProofs (maxSteps := 1000000) only [sm, sn, sxx, seval, hb, w1, w2, h1, h3, h4]
      try simp
    · have hv : flr a b = a.tdiv b := by unfold flr; simp [h1, h2, h3]
      have h4 : ¬ a.tmod b < 0 := by have := q1 (by omega); omega
      rw [hv]
      simp +contextual -implicitDefEqProofs (maxSteps := 1000000) only [sm, sn, sxx, seval, hb, w1, w2, h1, h3, h4]
      try simp
theorem check_Ceil (a b : Int) (ha : -1000000000000000 ≤ a ∧ a ≤ 1000000000000000) (hb : ¬ b = 0) : Ctr Try.prog 166 [.int .i64 a, .int .i64 b] [] (.tuple [.int .i64 (cel a b), .int .i64 0]) [] := by
  refine call_pure Try.func166 Try.call166 e_check_Ceil ?_
  have hq := tdiv_small' (b := b) ha
  have w1 : IntKind.i64.wrap (a.tdiv b) = a.tdiv b := by rw [wrap_i64] <;> omega
  have w2 : IntKind.i64.wrap (a.tdiv b + 1) = a.tdiv b + 1 := by rw [wrap_i64] <;> omega
  obtain ⟨q1, q2⟩ := tmod_sign (a := a) hb
  simp +contextual -implicitDefEqProofs (maxSteps := 1000000) only [c_check_Ceil, sm, sn, sxx, seval]
  refine callA_rule (check_may a b (by omega) hb) (wkL_refl _) rfl ?_
  by_cases h1 : a.tmod b = 0
  · have hv : cel a b = a.tdiv b := by unfold cel; rw [if_neg (by simp [h1])]
    rw [hv]
    simp +contextual -implicitDefEqProofs (maxSteps := 1000000) only [sm, sn, sxx, seval, hb, w1, h1]
  · by_cases h2 : a < 0 <;> by_cases h3 : b < 0
    · have hv : cel a b = a.tdiv b + 1 := by unfold cel; simp [h1, h2, h3]
      have h4 :  a.tmod b < 0 := by exact q2 h2 h1
      rw [hv]
      simp +contextual -implicitDefEqProofs (maxSteps := 1000000) only [sm, sn, sxx, seval, hb, w1, w2, h1, h3, h4]
      try simp
    · have hv : cel a b = a.tdiv b := by unfold cel; simp [h1, h2, h3]
      have h4 :  a.tmod b < 0 := by exact q2 h2 h1
      rw [hv]
      simp +contextual -implicitDefEqProofs (maxSteps := 1000000) only [sm, sn, sxx, seval, hb, w1, w2, h1, h3, h4]
      try simp
    · have hv : cel a b = a.tdiv b := by unfold cel; simp [h1, h2, h3]
      have h4 : ¬ a.tmod b < 0 := by have := q1 (by omega); omega
      rw [hv]
      simp +contextual -implicitDefEqProofs (maxSteps := 1000000) only [sm, sn, sxx, seval, hb, w1, w2, h1, h3, h4]
      try simp
    · have hv : cel a b = a.tdiv b + 1 := by unfold cel; simp [h1, h2, h3]
      have h4 : ¬ a.tmod b < 0 := by have := q1 (by omega); omega
      rw [hv]
      simp +contextual -implicitDefEqProofs (maxSteps := 1000000) only [sm, sn, sxx, seval, hb, w1, w2, h1, h3, h4]
      try simp
def minTo (a b c d : Int) (k : Nat) : Int := if k = 1 then a else if k = 2 then min a b else if k = 3 then min (min a b) c else min (min (min a b) c) d
theorem slices_Min (a b c d : Int) : Ctr Try.prog 136 [.list 1 [.int .i64 a, .int .i64 b, .int .i64 c, .int .i64 d]] [] (.int .i64 (min (min (min a b) c) d)) [] := by
  refine call_pure Try.func136 Try.call136 e_slices_Min_sint64_int64 ?_
  simp +contextual -implicitDefEqProofs (maxSteps := 1000000) only [c_slices_Min_sint64_int64, sm, sn, sxx, seval]
  refine loop_rule (fun k : Nat => 1 ≤ k ∧ k ≤ 4) (fun k => tm 25 [(0, .list 1 [.int .i64 a, .int .i64 b, .int .i64 c, .int .i64 d]), (3, .int .i64 (minTo a b c d k)), (4, .int .i64 k)]) (fun _ => []) (fun k => 4 - k) 1 ⟨by omega, by omega⟩ ⟨[], by decide, rfl, ?_, ?_⟩ ?_
  · simp +contextual -implicitDefEqProofs (maxSteps := 1000000) only [sm, sn, sxx, seval]
  · simp +contextual -implicitDefEqProofs (maxSteps := 1000000) only [sm, sn, sxx, seval, minTo]
    try rfl
  · rintro k ⟨k1, k2⟩
    have hc : k = 1 ∨ k = 2 ∨ k = 3 ∨ k = 4 := by omega
    rcases hc with rfl | rfl | rfl | rfl
    · simp +contextual -implicitDefEqProofs (maxSteps := 1000000) only [sm, sn, sxx, seval, minTo]
      refine ⟨2, ⟨by omega, by omega⟩, by omega, [], by decide, rfl, ?_, ?_⟩
      · simp +contextual -implicitDefEqProofs (maxSteps := 1000000) only [sm, sn, sxx, seval]
      · simp +contextual -implicitDefEqProofs (maxSteps := 1000000) only [sm, sn, sxx, seval, minTo]
        try rfl
    · simp +contextual -implicitDefEqProofs (maxSteps := 1000000) only [sm, sn, sxx, seval, minTo]
      refine ⟨3, ⟨by omega, by omega⟩, by omega, [], by decide, rfl, ?_, ?_⟩
      · simp +contextual -implicitDefEqProofs (maxSteps := 1000000) only [sm, sn, sxx, seval]
      · simp +contextual -implicitDefEqProofs (maxSteps := 1000000) only [sm, sn, sxx, seval, minTo]
        try rfl
    · simp +contextual -implicitDefEqProofs (maxSteps := 1000000) only [sm, sn, sxx, seval, minTo]
      refine ⟨4, ⟨by omega, by omega⟩, by omega, [], by decide, rfl, ?_, ?_⟩
      · simp +contextual -implicitDefEqProofs (maxSteps := 1000000) only [sm, sn, sxx, seval]
      · simp +contextual -implicitDefEqProofs (maxSteps := 1000000) only [sm, sn, sxx, seval, minTo]
        try rfl
    · simp +contextual -implicitDefEqProofs (maxSteps := 1000000) only [sm, sn, sxx, seval, minTo]
      try rfl
def maxTo (a b c d : Int) (k : Nat) : Int := if k = 1 then a else if k = 2 then max a b else if k = 3 then max (max a b) c else max (max (max a b) c) d
theorem slices_Max (a b c d : Int) : Ctr Try.prog 137 [.list 1 [.int .i64 a, .int .i64 b, .int .i64 c, .int .i64 d]] [] (.int .i64 (max (max (max a b) c) d)) [] := by
  refine call_pure Try.func137 Try.call137 e_slices_Max_sint64_int64 ?_
  simp +contextual -implicitDefEqProofs (maxSteps := 1000000) only [c_slices_Max_sint64_int64, sm, sn, sxx, seval]
  refine loop_rule (fun k : Nat => 1 ≤ k ∧ k ≤ 4) (fun k => tm 25 [(0, .list 1 [.int .i64 a, .int .i64 b, .int .i64 c, .int .i64 d]), (3, .int .i64 (maxTo a b c d k)), (4, .int .i64 k)]) (fun _ => []) (fun k => 4 - k) 1 ⟨by omega, by omega⟩ ⟨[], by decide, rfl, ?_, ?_⟩ ?_
  · simp +contextual -implicitDefEqProofs (maxSteps := 1000000) only [sm, sn, sxx, seval]
  · simp +contextual -implicitDefEqProofs (maxSteps := 1000000) only [sm, sn, sxx, seval, maxTo]
    try rfl
  · rintro k ⟨k1, k2⟩
    have hc : k = 1 ∨ k = 2 ∨ k = 3 ∨ k = 4 := by omega
    rcases hc with rfl | rfl | rfl | rfl
    · simp +contextual -implicitDefEqProofs (maxSteps := 1000000) only [sm, sn, sxx, seval, maxTo]
      refine ⟨2, ⟨by omega, by omega⟩, by omega, [], by decide, rfl, ?_, ?_⟩
      · simp +contextual -implicitDefEqProofs (maxSteps := 1000000) only [sm, sn, sxx, seval]
      · simp +contextual -implicitDefEqProofs (maxSteps := 1000000) only [sm, sn, sxx, seval, maxTo]
        try rfl
    · simp +contextual -implicitDefEqProofs (maxSteps := 1000000) only [sm, sn, sxx, seval, maxTo]
      refine ⟨3, ⟨by omega, by omega⟩, by omega, [], by decide, rfl, ?_, ?_⟩
      · simp +contextual -implicitDefEqProofs (maxSteps := 1000000) only [sm, sn, sxx, seval]
      · simp +contextual -implicitDefEqProofs (maxSteps := 1000000) only [sm, sn, sxx, seval, maxTo]
        try rfl
    · simp +contextual -implicitDefEqProofs (maxSteps := 1000000) only [sm, sn, sxx, seval, maxTo]
      refine ⟨4, ⟨by omega, by omega⟩, by omega, [], by decide, rfl, ?_, ?_⟩
      · simp +contextual -implicitDefEqProofs (maxSteps := 1000000) only [sm, sn, sxx, seval]
      · simp +contextual -implicitDefEqProofs (maxSteps := 1000000) only [sm, sn, sxx, seval, maxTo]
        try rfl
    · simp +contextual -implicitDefEqProofs (maxSteps := 1000000) only [sm, sn, sxx, seval, maxTo]
      try rfl
theorem check_Mul (a b : Int) (ha : -1048576 ≤ a ∧ a ≤ 1048576) (hb : -1048576 ≤ b ∧ b ≤ 1048576) : Ctr Try.prog 138 [.int .i64 a, .int .i64 b] [] (.tuple [.int .i64 (a * b), .int .i64 0]) [] := by
  have hm := mul_bound ha hb
  have hf : Old.I64 (a * b) := ⟨by omega, by omega⟩
  have h := fun w => Old.ck_mul a b ⟨by omega, by omega⟩ ⟨by omega, by omega⟩ w
  have e1 : Old.fitV (a * b) = a * b := by unfold Old.fitV; rw [Old.fitB_true.2 hf]; rfl
  have e2 : Old.fitE (a * b) = 0 := by unfold Old.fitE; rw [Old.fitB_true.2 hf]; rfl
  rw [e1, e2] at h
  refine ctr_old Try.call138 h (fun fz pl => .tuple _ _ rfl ?_)
  intro i v c hv hc
  have h3 : i < 2 := (List.getElem?_eq_some_iff.1 hv).1
  have h4 : i = 0 ∨ i = 1 := by omega
  rcases h4 with rfl | rfl
  · simp at hv hc; subst hv hc; exact .frz (.int _ _)
  · simp at hv hc; subst hv hc; exact .frz (.int _ _)
theorem arith_mul (a b : Int) (ha : -1048576 ≤ a ∧ a ≤ 1048576) (hb : -1048576 ≤ b ∧ b ≤ 1048576) : Ctr Try.prog 98 [.int .i64 a, .int .i64 b] [] (.int .i64 (muls a b)) [] := by
  refine call_pure Try.func98 Try.call98 e_arith_mul ?_
  simp +contextual -implicitDefEqProofs (maxSteps := 1000000) only [c_arith_mul, sm, sn, sxx, seval]
  refine callA_rule (check_Mul a b ha hb) (wkL_refl _) rfl ?_
  simp +contextual -implicitDefEqProofs (maxSteps := 1000000) only [sm, sn, sxx, seval, muls]
theorem arith_upC (a b : Int) (ha : -1048576 ≤ a ∧ a ≤ 1048576) (hb : ¬ b = 0) : Ctr Try.prog 140 [.int .i64 a, .int .i64 b] [] (.int .i64 (cel a b)) [] := by
  refine call_pure Try.func140 Try.call140 e_arith_up ?_
  simp +contextual -implicitDefEqProofs (maxSteps := 1000000) only [c_arith_up, sm, sn, sxx, seval]
  refine callA_rule (check_Ceil a b (by omega) hb) (wkL_refl _) rfl ?_
  simp +contextual -implicitDefEqProofs (maxSteps := 1000000) only [sm, sn, sxx, seval]
theorem arith_down (a b : Int) (ha : -1048576 ≤ a ∧ a ≤ 1048576) (hb : ¬ b = 0) : Ctr Try.prog 141 [.int .i64 a, .int .i64 b] [] (.int .i64 (flr a b)) [] := by
  refine call_pure Try.func141 Try.call141 e_arith_down ?_
  simp +contextual -implicitDefEqProofs (maxSteps := 1000000) only [c_arith_down, sm, sn, sxx, seval]
  refine callA_rule (check_Floor a b (by omega) hb) (wkL_refl _) rfl ?_
  simp +contextual -implicitDefEqProofs (maxSteps := 1000000) only [sm, sn, sxx, seval]
theorem arith_corners (p q : Rg) (f : FuncId) (g : Int → Int → Int) (h1 : Ctr Try.prog f [.int .i64 p.1, .int .i64 q.1] [] (.int .i64 (g p.1 q.1)) []) (h2 : Ctr Try.prog f [.int .i64 p.1, .int .i64 q.2] [] (.int .i64 (g p.1 q.2)) [])
    (h3 : Ctr Try.prog f [.int .i64 p.2, .int .i64 q.1] [] (.int .i64 (g p.2 q.1)) []) (h4 : Ctr Try.prog f [.int .i64 p.2, .int .i64 q.2] [] (.int .i64 (g p.2 q.2)) []) :
    Ctr Try.prog 96 [eRg p, eRg q, .fn (.func f) []] [] (eRg (corn g p q)) [] := by
  refine call_pure Try.func96 Try.call96 e_arith_corners ?_
  obtain ⟨a, b⟩ := p
  obtain ⟨c, d⟩ := q
  simp only at h1 h2 h3 h4
  simp +contextual -implicitDefEqProofs (maxSteps := 1000000) only [c_arith_corners, eRg, sm, sn, sxx, seval]
  refine callA_rule h1 (wkL_refl _) rfl ?_
  simp +contextual -implicitDefEqProofs (maxSteps := 1000000) only [sm, sn, sxx, seval]
  refine callA_rule h2 (wkL_refl _) rfl ?_
  simp +contextual -implicitDefEqProofs (maxSteps := 1000000) only [sm, sn, sxx, seval]
  refine callA_rule h3 (wkL_refl _) rfl ?_
  simp +contextual -implicitDefEqProofs (maxSteps := 1000000) only [sm, sn, sxx, seval]
  refine callA_rule h4 (wkL_refl _) rfl ?_
  simp +contextual -implicitDefEqProofs (maxSteps := 1000000) only [sm, sn, sxx, seval, w_frz, frzK]
  refine callA_rule (slices_Min _ _ _ _) (wkL_refl _) rfl ?_
  simp +contextual -implicitDefEqProofs (maxSteps := 1000000) only [sm, sn, sxx, seval]
  refine callA_rule (slices_Max _ _ _ _) (wkL_refl _) rfl ?_
  simp +contextual -implicitDefEqProofs (maxSteps := 1000000) only [sm, sn, sxx, seval, corn]
theorem arith_get (D : List (List Rg)) (X : List Int) (bad : Bool) (i : Nat) (hI : InD D X) (hi : i < X.length) : Ctr Try.prog 101 [.rptr [.list 1 (D.map eRgs), .list 1 (X.map eI), .bool bad], .int .i64 i] [] (eRgs (rowOf D (xat X i))) [] := by
  refine call_pure Try.func101 Try.call101 e_arith_box_get ?_
  have hx := xat_get hi
  have hin := hI i hi
  have hr := row_get hin
  have h0 := hin.1
  simp +contextual -implicitDefEqProofs (maxSteps := 1000000) only [c_arith_box_get, sm, sn, sxx, seval, hx, h0, hr, eRgs]
theorem arith_ends (D : List (List Rg)) (X : List Int) (bad : Bool) (i : Nat) (hI : InD D X) (hd : ∀ d ∈ D, d.length ≤ 1000000000000) (hi : i < X.length) : Ctr Try.prog 97 [.rptr [.list 1 (D.map eRgs), .list 1 (X.map eI), .bool bad], .int .i64 i] [] (eRg (eAt D (xat X i))) [] := by
  refine call_pure Try.func97 Try.call97 e_arith_box_ends ?_
  simp +contextual -implicitDefEqProofs (maxSteps := 1000000) only [c_arith_box_ends, sm, sn, sxx, seval]
  refine callA_rule (arith_get D X bad i hI hi) (wkL_refl _) rfl ?_
  simp +contextual -implicitDefEqProofs (maxSteps := 1000000) only [sm, sn, sxx, seval, eRgs]
  refine callA_rule (set_Ends (rowOf D (xat X i)) (hd _ (row_mem (hI i hi)))) (by simp +contextual -implicitDefEqProofs (maxSteps := 1000000) only [sm, sn, sxx, seval, eRgs]) rfl ?_
  simp +contextual -implicitDefEqProofs (maxSteps := 1000000) only [sm, sn, sxx, seval, eRg, eAt]
end Go.Proofs.Ytonkcemcledhiaa
