/- What the functions of package sense compute: ask, and what it asks. -/
import Derived.Test.YtnhedjpghpdbdaaPlSense4
import Derived.Test.YtnhedjpghpdbdaaCSense
namespace Go.Proofs.Ytnhedjpghpdbdaa
open Av
attribute [local irreducible] awp awpOpers
set_option linter.unusedSimpArgs false
set_option linter.unusedVariables false
set_option maxRecDepth 100000
set_option maxHeartbeats 4000000
/-- a constraint with its values -/
def askP (c : Con) (V : List Int) : AV := .rptr [.int .i64 c.1, .list 1 (c.2.1.map eI), .list 1 (c.2.2.1.map eI), .int .i64 c.2.2.2, .list 1 (V.map eI)]
theorem beq_tt : (true == true) = true := rfl
theorem beq_ff : (false == false) = true := rfl
theorem beq_tf : (true == false) = false := rfl
theorem beq_ft : (false == true) = false := rfl
theorem sense_sum (c : Con) (V : List Int) (hA : c.2.2.1.length ≤ 128) (hV : c.2.2.1.length ≤ V.length) (sA : Sm c.2.2.1) (sV : Sm V) :
    Ctr Try.prog 107 [askP c V] [] (.int .i64 (sumN c.2.2.1 V c.2.2.1.length)) [] := by
  obtain ⟨K, X, A, C⟩ := c
  simp only at hA hV sA sV ⊢
  refine call_pure Try.func107 Try.call107 e_sense_asked_sum ?_
  simp +contextual -implicitDefEqProofs (maxSteps := 1000000) only [c_sense_asked_sum, askP, sm, sn, sxx, seval]
  refine loop_rule (fun k : Nat => k ≤ A.length) (fun k => tm 30 [(0, .rptr [.int .i64 K, .list 1 (X.map eI), .list 1 (A.map eI), .int .i64 C, .list 1 (V.map eI)]), (3, .int .i64 (sumN A V k)), (10, .list 1 (A.map eI)), (11, .int .i64 A.length), (12, .int .i64 k)]) (fun k => []) (fun k => A.length - k) 0 (Nat.zero_le _) ⟨[], by decide, rfl, ?_, ?_⟩ ?_
  · simp +contextual -implicitDefEqProofs (maxSteps := 1000000) only [sm, sn, sxx, seval]
  · simp +contextual -implicitDefEqProofs (maxSteps := 1000000) only [sm, sn, sxx, seval, Int.natCast_zero, sumN]
  · intro k hk
    by_cases hlt : k < A.length
    · have hlt' : (k : Int) < (A.length : Int) := by omega
      have e2 : IntKind.i64.wrap ((k : Int) + 1) = ((k + 1 : Nat) : Int) := by rw [wrap_i64] <;> omega
      have hx := xat_get hlt
      have hv := xat_get (X := V) (i := k) (by omega)
      have b1 := sumN_bound sA sV k
      have b2 := mul_bound (sm_at sA k) (sm_at sV k)
      have w1 : IntKind.i64.wrap (xat A k * xat V k) = xat A k * xat V k := by rw [wrap_i64] <;> omega
      have w2 : IntKind.i64.wrap (sumN A V k + xat A k * xat V k) = sumN A V (k + 1) := by rw [wrap_i64] <;> first | rfl | omega
      simp +contextual -implicitDefEqProofs (maxSteps := 1000000) only [sm, sn, sxx, seval, hlt', hx, hv, w1, w2, e2]
      refine ⟨k + 1, by omega, by omega, [], by decide, rfl, ?_, ?_⟩
      · simp +contextual -implicitDefEqProofs (maxSteps := 1000000) only [sm, sn, sxx, seval]
      · simp +contextual -implicitDefEqProofs (maxSteps := 1000000) only [sm, sn, sxx, seval]
    · have hkn : k = A.length := by omega
      subst hkn
      simp +contextual -implicitDefEqProofs (maxSteps := 1000000) only [sm, sn, sxx, seval, Int.lt_irrefl]
theorem sense_flag (c : Con) (V : List Int) (hV : 0 < V.length) (hb : V.length ≤ 1000000000000) :
    Ctr Try.prog 70 [askP c V] [] (.bool (decide (lastV V = 1))) [] := by
  obtain ⟨K, X, A, C⟩ := c
  have w1 : IntKind.i64.wrap ((V.length : Int) - 1) = ((V.length - 1 : Nat) : Int) := by rw [wrap_i64] <;> omega
  have hlast : V[V.length - 1]? = some (lastV V) := xat_get (by omega)
  refine call_pure Try.func70 Try.call70 e_sense_asked_flag ?_
  simp +contextual -implicitDefEqProofs (maxSteps := 1000000) only [c_sense_asked_flag, askP, sm, sn, sxx, seval, w1, hlast]
theorem sense_rest (c : Con) (V : List Int) (hV : 0 < V.length) (hb : V.length ≤ 1000000000000) :
    Ctr Try.prog 72 [askP c V] [] (.list 1 ((V.take (V.length - 1)).map eI)) [] := by
  obtain ⟨K, X, A, C⟩ := c
  have w1 : IntKind.i64.wrap ((V.length : Int) - 1) = ((V.length - 1 : Nat) : Int) := by rw [wrap_i64] <;> omega
  have hlast : V[V.length - 1]? = some (lastV V) := xat_get (by omega)
  have hle1 : V.length - 1 ≤ V.length := by omega
  have ht : List.take (V.length - 1) (V.map eI) = (V.take (V.length - 1)).map eI := by rw [List.map_take]
  refine call_pure Try.func72 Try.call72 e_sense_asked_rest ?_
  simp +contextual -implicitDefEqProofs (maxSteps := 1000000) only [c_sense_asked_rest, askP, sm, sn, sxx, seval, w1, hlast, hle1, ht, Nat.zero_le]
theorem sense_clause (c : Con) (V : List Int) (hV : V.length ≤ 1000000000000) (hA : V.length ≤ c.2.2.1.length) (sA : ∀ v ∈ c.2.2.1, v = 1 ∨ v = -1) (sV : ∀ k, k < V.length → xat V k = 0 ∨ xat V k = 1) :
    Ctr Try.prog 69 [askP c V] [] (.bool (clB c.2.2.1 V)) [] := by
  obtain ⟨K, X, A, C⟩ := c
  simp only at hA sA ⊢
  refine call_pure Try.func69 Try.call69 e_sense_asked_clause ?_
  simp +contextual -implicitDefEqProofs (maxSteps := 1000000) only [c_sense_asked_clause, askP, sm, sn, sxx, seval]
  refine loop_rule (fun k : Nat => k ≤ V.length ∧ ∀ j, j < k → (fun j => !clAt A V j) j = true) (fun k => tm 28 [(0, .rptr [.int .i64 K, .list 1 (X.map eI), .list 1 (A.map eI), .int .i64 C, .list 1 (V.map eI)]), (8, .list 1 (V.map eI)), (9, .int .i64 V.length), (10, .int .i64 k)]) (fun k => []) (fun k => V.length - k) 0 ⟨by omega, by omega⟩ ⟨[], by decide, rfl, ?_, ?_⟩ ?_
  · simp +contextual -implicitDefEqProofs (maxSteps := 1000000) only [sm, sn, sxx, seval]
  · simp +contextual -implicitDefEqProofs (maxSteps := 1000000) only [sm, sn, sxx, seval, Int.natCast_zero]
  · rintro k ⟨hk, hok⟩
    by_cases hlt : k < V.length
    · have hlt' : (k : Int) < ((V.length : Nat) : Int) := by omega
      have e2 : IntKind.i64.wrap ((k : Int) + 1) = ((k + 1 : Nat) : Int) := by rw [wrap_i64] <;> omega
      have hv := xat_get (X := V) hlt
      have ha := xat_get (X := A) (i := k) (by omega)
      rcases sA _ (List.mem_of_getElem? ha) with h1 | h1 <;> rcases sV k hlt with h2 | h2 <;> rw [h1] at ha <;> rw [h2] at hv
      · simp +contextual -implicitDefEqProofs (maxSteps := 1000000) only [sm, sn, sxx, seval, hlt', ha, hv, e2, beq_tt, beq_ff, beq_tf, beq_ft]
        refine ⟨k + 1, ⟨by omega, ?_⟩, by omega, [], by decide, rfl, ?_, ?_⟩
        · intro j hj
          rcases Nat.lt_succ_iff_lt_or_eq.1 hj with h | rfl
          · first | exact hok j h | simpa using hok j h
          · simp [clAt, h1, h2]
        · simp +contextual -implicitDefEqProofs (maxSteps := 1000000) only [sm, sn, sxx, seval]
        · simp +contextual -implicitDefEqProofs (maxSteps := 1000000) only [sm, sn, sxx, seval]
      · rw [cl_yes hlt (by simp [clAt, h1, h2])]
        simp +contextual -implicitDefEqProofs (maxSteps := 1000000) only [sm, sn, sxx, seval, hlt', ha, hv, e2, beq_tt, beq_ff, beq_tf, beq_ft]
      · rw [cl_yes hlt (by simp [clAt, h1, h2])]
        simp +contextual -implicitDefEqProofs (maxSteps := 1000000) only [sm, sn, sxx, seval, hlt', ha, hv, e2, beq_tt, beq_ff, beq_tf, beq_ft]
      · simp +contextual -implicitDefEqProofs (maxSteps := 1000000) only [sm, sn, sxx, seval, hlt', ha, hv, e2, beq_tt, beq_ff, beq_tf, beq_ft]
        refine ⟨k + 1, ⟨by omega, ?_⟩, by omega, [], by decide, rfl, ?_, ?_⟩
        · intro j hj
          rcases Nat.lt_succ_iff_lt_or_eq.1 hj with h | rfl
          · first | exact hok j h | simpa using hok j h
          · simp [clAt, h1, h2]
        · simp +contextual -implicitDefEqProofs (maxSteps := 1000000) only [sm, sn, sxx, seval]
        · simp +contextual -implicitDefEqProofs (maxSteps := 1000000) only [sm, sn, sxx, seval]
    · have hke : k = V.length := by omega
      subst hke
      have hall := hok
      rw [cl_no fun j hj => by simpa using hall j hj]
      simp +contextual -implicitDefEqProofs (maxSteps := 1000000) only [sm, sn, sxx, seval, Int.lt_irrefl]
theorem sense_element (c : Con) (V L : List Int) (hV : 0 < V.length) (hb : V.length ≤ 1000000000000) (hL : L.length ≤ 1000000000000) (h0 : -1048576 ≤ xat V 0 ∧ xat V 0 ≤ 1048576) :
    Ctr Try.prog 73 [askP c V, .list 1 (L.map eI)] [] (.bool (decide (1 ≤ xat V 0) && decide (xat V 0 ≤ (L.length : Int)) && decide (xat L (xat V 0 - 1).toNat = lastV V))) [] := by
  obtain ⟨K, X, A, C⟩ := c
  have w1 : IntKind.i64.wrap ((V.length : Int) - 1) = ((V.length - 1 : Nat) : Int) := by rw [wrap_i64] <;> omega
  have hlast : V[V.length - 1]? = some (lastV V) := xat_get (by omega)
  have g0 : V[0]? = some (xat V 0) := xat_get (by omega)
  refine call_pure Try.func73 Try.call73 e_sense_asked_element ?_
  generalize xat V 0 = v at h0 g0 ⊢
  by_cases k1 : 1 ≤ v
  · by_cases k2 : v ≤ (L.length : Int)
    · have w2 : IntKind.i64.wrap (v - 1) = v - 1 := by rw [wrap_i64] <;> omega
      have k3 : 0 ≤ v - 1 := by omega
      have hl : L[(v - 1).toNat]? = some (xat L (v - 1).toNat) := xat_get (by omega)
      simp +contextual -implicitDefEqProofs (maxSteps := 1000000) only [c_sense_asked_element, askP, sm, sn, sxx, seval, g0, k1, k2, k3, w1, w2, hlast, hl]
    · simp +contextual -implicitDefEqProofs (maxSteps := 1000000) only [c_sense_asked_element, askP, sm, sn, sxx, seval, g0, k1, k2]
  · simp +contextual -implicitDefEqProofs (maxSteps := 1000000) only [c_sense_asked_element, askP, sm, sn, sxx, seval, g0, k1]
theorem sense_linear (c : Con) (V : List Int) (hK : 1 ≤ c.1 ∧ c.1 ≤ 6) (hA : c.2.2.1.length ≤ 128) (hV : c.2.2.1.length ≤ V.length) (hb : V.length ≤ 1000000000000) (sA : Sm c.2.2.1) (sV : Sm V) (hf : 4 ≤ c.1 → 0 < V.length ∧ (lastV V = 0 ∨ lastV V = 1)) :
    Ctr Try.prog 76 [askP c V] [] (.bool (linB c.1 c.2.2.2 (sumN c.2.2.1 V c.2.2.1.length) (lastV V))) [] := by
  obtain ⟨K, X, A, C⟩ := c
  simp only at hK hf hA hV sA ⊢
  refine call_pure Try.func76 Try.call76 e_sense_asked_linear ?_
  simp +contextual -implicitDefEqProofs (maxSteps := 1000000) only [c_sense_asked_linear, askP, sm, sn, sxx, seval]
  refine callA_rule (sense_sum (K, X, A, C) V hA hV sA sV) (by simp +contextual -implicitDefEqProofs (maxSteps := 1000000) only [sm, sn, sxx, seval, askP]) rfl ?_
  simp only
  generalize sumN A V A.length = n
  have hcs : K = 1 ∨ K = 2 ∨ K = 3 ∨ K = 4 ∨ K = 5 ∨ K = 6 := by omega
  unfold linB
  rcases hcs with rfl | rfl | rfl | rfl | rfl | rfl
  · simp +contextual -implicitDefEqProofs (maxSteps := 1000000) only [sm, sn, sxx, seval]
  · simp +contextual -implicitDefEqProofs (maxSteps := 1000000) only [sm, sn, sxx, seval]
  · simp +contextual -implicitDefEqProofs (maxSteps := 1000000) only [sm, sn, sxx, seval]
    try simp
  · replace hf := hf (by decide)
    simp +contextual -implicitDefEqProofs (maxSteps := 1000000) only [sm, sn, sxx, seval]
    refine callA_rule (sense_flag (4, X, A, C) V hf.1 hb) (by simp +contextual -implicitDefEqProofs (maxSteps := 1000000) only [sm, sn, sxx, seval, askP]) rfl ?_
    simp +contextual -implicitDefEqProofs (maxSteps := 1000000) only [sm, sn, sxx, seval]
    try rfl
  · replace hf := hf (by decide)
    simp +contextual -implicitDefEqProofs (maxSteps := 1000000) only [sm, sn, sxx, seval]
    refine callA_rule (sense_flag (5, X, A, C) V hf.1 hb) (by simp +contextual -implicitDefEqProofs (maxSteps := 1000000) only [sm, sn, sxx, seval, askP]) rfl ?_
    simp +contextual -implicitDefEqProofs (maxSteps := 1000000) only [sm, sn, sxx, seval]
    try rfl
  · replace hf := hf (by decide)
    simp +contextual -implicitDefEqProofs (maxSteps := 1000000) only [sm, sn, sxx, seval]
    refine callA_rule (sense_flag (6, X, A, C) V hf.1 hb) (by simp +contextual -implicitDefEqProofs (maxSteps := 1000000) only [sm, sn, sxx, seval, askP]) rfl ?_
    rcases hf.2 with h | h <;> rw [h]
    · simp +contextual -implicitDefEqProofs (maxSteps := 1000000) only [sm, sn, sxx, seval]
      try rfl
    · by_cases hn : n ≤ C
      · simp +contextual -implicitDefEqProofs (maxSteps := 1000000) only [sm, sn, sxx, seval, hn]
        try rfl
      · simp +contextual -implicitDefEqProofs (maxSteps := 1000000) only [sm, sn, sxx, seval, hn]
        try rfl
theorem sense_tasks (c : Con) (V : List Int) (hV : V.length ≤ 128) (h2 : c.2.2.1.length = 2 * V.length) (hA : Sm c.2.2.1) (hs : Sm V) (hp : ∀ v ∈ c.2.2.1, 0 ≤ v) :
    Ctr Try.prog 75 [askP c V] [] (.bool (tasksB c.2.2.1 c.2.2.2 V)) [] := by
  obtain ⟨K, X, A, C⟩ := c
  simp only at h2 hA hp ⊢
  refine call_pure Try.func75 Try.call75 e_sense_asked_tasks ?_
  simp +contextual -implicitDefEqProofs (maxSteps := 1000000) only [c_sense_asked_tasks, askP, sm, sn, sxx, seval]
  refine loop_rule (fun k : Nat => k ≤ V.length ∧ ∀ j, j < k → (fun k => !(decide (0 < xat A k) && decide (C < loadN A V (xat V k) V.length))) j = true) (fun k => tm 81 [(0, .rptr [.int .i64 K, .list 1 (X.map eI), .list 1 (A.map eI), .int .i64 C, .list 1 (V.map eI)]), (3, .int .i64 V.length), (17, .list 1 (V.map eI)), (18, .int .i64 V.length), (19, .int .i64 k)]) (fun k => []) (fun k => V.length - k) 0 ⟨by omega, by omega⟩ ⟨[], by decide, rfl, ?_, ?_⟩ ?_
  · simp +contextual -implicitDefEqProofs (maxSteps := 1000000) only [sm, sn, sxx, seval]
  · simp +contextual -implicitDefEqProofs (maxSteps := 1000000) only [sm, sn, sxx, seval, Int.natCast_zero]
  · rintro k ⟨hk, hok⟩
    by_cases hlt : k < V.length
    · have hlt' : (k : Int) < ((V.length : Nat) : Int) := by omega
      have e2 : IntKind.i64.wrap ((k : Int) + 1) = ((k + 1 : Nat) : Int) := by rw [wrap_i64] <;> omega
      have ht := xat_get (X := V) hlt
      have ha := xat_get (X := A) (i := k) (by omega)
      by_cases hz : xat A k = 0
      · rw [hz] at ha
        simp +contextual -implicitDefEqProofs (maxSteps := 1000000) only [sm, sn, sxx, seval, hlt', ht, ha, e2]
        refine ⟨k + 1, ⟨by omega, ?_⟩, by omega, [], by decide, rfl, ?_, ?_⟩
        · intro j hj
          rcases Nat.lt_succ_iff_lt_or_eq.1 hj with h | rfl
          · first | exact hok j h | simpa using hok j h
          · simp [hz]
        · simp +contextual -implicitDefEqProofs (maxSteps := 1000000) only [sm, sn, sxx, seval]
        · simp +contextual -implicitDefEqProofs (maxSteps := 1000000) only [sm, sn, sxx, seval]
      · simp +contextual -implicitDefEqProofs (maxSteps := 1000000) only [sm, sn, sxx, seval, hlt', ht, ha, hz]
        refine loop_rule (fun i : Nat => i ≤ V.length) (fun i => tm 81 [(0, .rptr [.int .i64 K, .list 1 (X.map eI), .list 1 (A.map eI), .int .i64 C, .list 1 (V.map eI)]), (3, .int .i64 V.length), (5, .int .i64 (xat V k)), (6, .int .i64 (loadN A V (xat V k) i)), (17, .list 1 (V.map eI)), (18, .int .i64 V.length), (19, .int .i64 k), (36, .list 1 (V.map eI)), (37, .int .i64 V.length), (38, .int .i64 i)]) (fun _ => []) (fun i => V.length - i) 0 (Nat.zero_le _) ⟨[], by decide, rfl, ?_, ?_⟩ ?_
        · simp +contextual -implicitDefEqProofs (maxSteps := 1000000) only [sm, sn, sxx, seval]
        · simp +contextual -implicitDefEqProofs (maxSteps := 1000000) only [sm, sn, sxx, seval, Int.natCast_zero, loadN]
        · intro i hi
          by_cases hil : i < V.length
          · have hil' : (i : Int) < (V.length : Int) := by omega
            have e3 : IntKind.i64.wrap ((i : Int) + 1) = ((i + 1 : Nat) : Int) := by rw [wrap_i64] <;> omega
            have hs2 := xat_get (X := V) hil
            have ha2 := xat_get (X := A) (i := i) (by omega)
            have ha3 := xat_get (X := A) (i := V.length + i) (by omega)
            have b1 := sm_at hs i
            have b2 := sm_at hA i
            have b3 := sm_at hA (V.length + i)
            have b4 := load_bound (V := V) hA (xat V k) i
            have w1 : IntKind.i64.wrap (xat V i + xat A i) = xat V i + xat A i := by rw [wrap_i64] <;> omega
            have w2 : IntKind.i64.wrap ((V.length : Int) + (i : Int)) = ((V.length + i : Nat) : Int) := by rw [wrap_i64] <;> omega
            have w3 : IntKind.i64.wrap (loadN A V (xat V k) i + xat A (V.length + i)) = loadN A V (xat V k) i + xat A (V.length + i) := by rw [wrap_i64] <;> omega
            have hn : loadN A V (xat V k) (i + 1) = loadN A V (xat V k) i + if xat V i ≤ xat V k ∧ xat V k < xat V i + xat A i then xat A (V.length + i) else 0 := rfl
            by_cases c1 : xat V i ≤ xat V k
            · by_cases c2 : xat V k < xat V i + xat A i
              · rw [if_pos ⟨c1, c2⟩] at hn
                simp +contextual -implicitDefEqProofs (maxSteps := 1000000) only [sm, sn, sxx, seval, hil', hs2, ha2, ha3, w1, w2, w3, c1, c2, e3]
                refine ⟨i + 1, by omega, by omega, [], by decide, rfl, ?_, ?_⟩
                · simp +contextual -implicitDefEqProofs (maxSteps := 1000000) only [sm, sn, sxx, seval]
                · simp +contextual -implicitDefEqProofs (maxSteps := 1000000) only [sm, sn, sxx, seval, hn]
              · rw [if_neg (fun h => c2 h.2), Int.add_zero] at hn
                simp +contextual -implicitDefEqProofs (maxSteps := 1000000) only [sm, sn, sxx, seval, hil', hs2, ha2, ha3, w1, c1, c2, e3]
                refine ⟨i + 1, by omega, by omega, [], by decide, rfl, ?_, ?_⟩
                · simp +contextual -implicitDefEqProofs (maxSteps := 1000000) only [sm, sn, sxx, seval]
                · simp +contextual -implicitDefEqProofs (maxSteps := 1000000) only [sm, sn, sxx, seval, hn]
            · rw [if_neg (fun h => c1 h.1), Int.add_zero] at hn
              simp +contextual -implicitDefEqProofs (maxSteps := 1000000) only [sm, sn, sxx, seval, hil', hs2, c1, e3]
              refine ⟨i + 1, by omega, by omega, [], by decide, rfl, ?_, ?_⟩
              · simp +contextual -implicitDefEqProofs (maxSteps := 1000000) only [sm, sn, sxx, seval]
              · simp +contextual -implicitDefEqProofs (maxSteps := 1000000) only [sm, sn, sxx, seval, hn]
          · have hin : i = V.length := by omega
            subst hin
            have hp2 : 0 < xat A k := by have := hp _ (List.mem_of_getElem? ha); omega
            by_cases hl : C < loadN A V (xat V k) V.length
            · have hno : tasksB A C V = false := by
                unfold tasksB
                exact all_no hlt (by simp [hl, hp2])
              rw [hno]
              simp +contextual -implicitDefEqProofs (maxSteps := 1000000) only [sm, sn, sxx, seval, Int.lt_irrefl, hl]
            · simp +contextual -implicitDefEqProofs (maxSteps := 1000000) only [sm, sn, sxx, seval, Int.lt_irrefl, hl, e2]
              refine ⟨k + 1, ⟨by omega, ?_⟩, by omega, [], by decide, rfl, ?_, ?_⟩
              · intro j hj
                rcases Nat.lt_succ_iff_lt_or_eq.1 hj with h | rfl
                · first | exact hok j h | simpa using hok j h
                · simp [hl]
              · simp +contextual -implicitDefEqProofs (maxSteps := 1000000) only [sm, sn, sxx, seval]
              · simp +contextual -implicitDefEqProofs (maxSteps := 1000000) only [sm, sn, sxx, seval]
    · have hke : k = V.length := by omega
      subst hke
      have hall := hok
      have hyes : tasksB A C V = true := by
        unfold tasksB
        exact all_yes hall
      rw [hyes]
      simp +contextual -implicitDefEqProofs (maxSteps := 1000000) only [sm, sn, sxx, seval, Int.lt_irrefl]
end Go.Proofs.Ytnhedjpghpdbdaa
