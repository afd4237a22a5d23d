/- WholeUnit. -/
import Derived.Test.YtnhedjpghpdbdaaWSenseU
import Derived.Test.YtnhedjpghpdbdaaWFrz
import Derived.Test.YtnhedjpghpdbdaaGRef11
import Derived.Test.YtnhedjpghpdbdaaCWUnit
namespace Go.Proofs.Ytnhedjpghpdbdaa
open Av
attribute [local irreducible] awp awpOpers
set_option linter.unusedSimpArgs false
set_option linter.unusedVariables false
set_option maxRecDepth 100000
set_option maxHeartbeats 4000000
def onesU (k : Nat) : List Int := List.replicate k 1
theorem onesU_len (k : Nat) : (onesU k).length = k := List.length_replicate
theorem onesU_at {k j : Nat} (h : j < k) : xat (onesU k) j = 1 := by
  unfold xat onesU
  rw [List.getElem?_replicate, if_pos h]
  rfl
theorem load_cnt {V : List Int} (t : Int) : ∀ k, k ≤ V.length → loadN (onesU (2 * V.length)) V t k = (cntI (V.take k) t : Int)
  | 0, _ => by simp [loadN, cntI]
  | k + 1, h => by
    have ih := load_cnt (V := V) t k (by omega)
    have hv := xat_get (X := V) (i := k) (by omega)
    unfold loadN
    rw [ih, onesU_at (k := 2 * V.length) (j := k) (by omega), onesU_at (k := 2 * V.length) (j := V.length + k) (by omega)]
    have hs : cntI (V.take (k + 1)) t = cntI (V.take k) t + if xat V k = t then 1 else 0 := by
      rw [← take_snoc hv]
      unfold cntI
      rw [List.filter_append, List.length_append]
      congr 1
      by_cases e : xat V k = t
      · rw [if_pos e]; simp [e]
      · rw [if_neg e]; simp [e]
    rw [hs]
    by_cases e : xat V k = t
    · rw [if_pos e, if_pos (by omega)]; simp
    · rw [if_neg e, if_neg (by omega)]; simp
theorem unit_same (V : List Int) : tasksB (onesU (2 * V.length)) 1 V = unlikeB V := by
  rw [Bool.eq_iff_iff]
  unfold tasksB unlikeB
  rw [List.all_eq_true, List.all_eq_true]
  have hl : ∀ t, loadN (onesU (2 * V.length)) V t V.length = (cntI V t : Int) := fun t => by rw [load_cnt t _ (Nat.le_refl _), List.take_length]
  constructor
  · intro h v hv
    obtain ⟨k, hk⟩ := List.getElem?_of_mem hv
    have hkl := (List.getElem?_eq_some_iff.1 hk).1
    have h1 := h k (List.mem_range.2 hkl)
    rw [onesU_at (by omega), hl, xat_eq hk] at h1
    simp at h1
    exact decide_eq_true (by omega)
  · intro h k hk
    have hkl := List.mem_range.1 hk
    have h1 := of_decide_eq_true (h (xat V k) (List.mem_of_getElem? (xat_get hkl)))
    rw [onesU_at (by omega), hl]
    have : ¬ (1 : Int) < (cntI V (xat V k) : Int) := by omega
    simp [this]
theorem onesU_all {p : Int → Bool} (h : p 1 = true) (k : Nat) : (onesU k).all p = true := by
  rw [List.all_eq_true]
  intro a ha
  rw [List.eq_of_mem_replicate ha]
  exact h
theorem onesU_any {p : Int → Bool} (h : p 1 = false) (k : Nat) : (onesU k).any p = false := by
  rw [List.any_eq_false]
  intro a ha
  rw [List.eq_of_mem_replicate ha, h]
  simp
theorem unit_ask (X a : List Int) : askdB (19, X, onesU (2 * X.length), 1) a = askdB (18, X, [], 0) a := by
  unfold askdB
  simp only
  by_cases h32 : X.length ≤ 32
  · have e1 : (shp 19) = (4, 0, 0, true, 0) := by decide
    have e2 : (shp 18) = (2, 0, 0, false, 0) := by decide
    have m1 : mayB (oneD (valsOf X a)) (19, upN X.length, onesU (2 * X.length), 1) = mayB (oneD (valsOf X a)) (18, upN X.length, [], 0) := by
      unfold mayB formedB countsB
      simp only [e1, e2, up_len, onesU_len, onesU_all (p := withinB) (by decide), onesU_any (p := fun a => decide (a < 0)) (by decide)]
      have c1 : kindB 19 = true := by decide
      have c2 : kindB 18 = true := by decide
      have c3 : withinB 1 = true := by decide
      have c4 : withinB 0 = true := by decide
      simp [c1, c2, c3, c4]
      try omega
    rw [m1, onesU_len]
    have d1 : decide (2 * X.length ≤ 128) = true := decide_eq_true (by omega)
    rw [d1]
    simp
  · simp [h32]
theorem unit_holds (X a : List Int) : (askdB (19, X, onesU (2 * X.length), 1) a && holdsB (19, X, onesU (2 * X.length), 1) (valsOf X a)) = (askdB (18, X, [], 0) a && holdsB (18, X, [], 0) (valsOf X a)) := by
  rw [unit_ask]
  have e1 : holdsB (19, X, onesU (2 * X.length), 1) (valsOf X a) = tasksB (onesU (2 * X.length)) 1 (valsOf X a) := by simp [holdsB]
  have e2 : holdsB (18, X, [], 0) (valsOf X a) = unlikeB (valsOf X a) := by simp [holdsB]
  have hl : (valsOf X a).length = X.length := by unfold valsOf; rw [List.length_map]
  have := unit_same (valsOf X a)
  rw [hl] at this
  rw [e1, e2, this]
theorem sense_own (K : Int) (X A : List Int) (C : Int) (a : List Int) (hX : X.length ≤ 1000000000000) (hA : A.length ≤ 1000000000000) (ha : a.length ≤ 1000000000000) :
    Ctr Try.prog 12 [.agg [.int .i64 K, eIs X, .sl 1 0 0 A.length, .int .i64 C], eIs a] [some (1, A.map eI)] (.bool (askdB (K, X, A, C) a && holdsB (K, X, A, C) (valsOf X a))) [none] := by
  have t1 : List.take A.length (A.map eI) = A.map eI := take_map _ _
  refine ctr_frz [] [0] (ctr_more (bs := [none]) (sense_Holds (K, X, A, C) a hA hX ha) rfl rfl) rfl ?_ ?_
  · intro k hk
    have : k = 0 := by simp at hk; omega
    subst this; simp
  · intro j v v' hv hv'
    have hj : j < 2 := by
      rcases Nat.lt_or_ge j 2 with h | h
      · exact h
      · rw [List.getElem?_eq_none (by simpa using h)] at hv; cases hv
    have hcs : j = 0 ∨ j = 1 := by omega
    rcases hcs with rfl | rfl
    · injection hv with hv; injection hv' with hv'; subst hv; subst hv'
      right
      simp +contextual -implicitDefEqProofs (maxSteps := 1000000) only [sm, sn, sxx, seval, eCon, eIs, killL, t1]
    · injection hv with hv; injection hv' with hv'; subst hv; subst hv'
      left; exact wk_refl _
theorem wunit_1 : (askdB (18, [0, 0], [], 0) [1] && holdsB (18, [0, 0], [], 0) (valsOf [0, 0] [1])) = false := by decide +kernel
theorem wunit_2 : (askdB (19, [0], [1, 1], 1) [1] && holdsB (19, [0], [1, 1], 1) (valsOf [0] [1])) = true := by decide +kernel
theorem law_WholeUnit (X a : List Int) : Ctr Try.prog 3 [eIs X, eIs a] [] (.bool true) [] := by
  refine call_pure Try.func3 Try.call3 e_top_WholeUnit ?_
  have n1 := sense_Holds (18, [0, 0], [], 0) [1] (by decide) (by decide) (by decide)
  have n2 := sense_Holds (19, [0], [1, 1], 1) [1] (by decide) (by decide) (by decide)
  simp only at n1 n2
  rw [wunit_1] at n1
  rw [wunit_2] at n2
  simp +contextual -implicitDefEqProofs (maxSteps := 1000000) only [c_top_WholeUnit, eIs, sm, sn, sxx, seval]
  refine callM_rule [] n1 (by decide) ?_ ?_ ?_ ?_ ?_ ?_
  · simp +contextual -implicitDefEqProofs (maxSteps := 1000000) only [sm, sn, sxx, seval]
  · simp +contextual -implicitDefEqProofs (maxSteps := 1000000) only [sm, sn, sxx, seval, eCon, eIs, eI]
  · simp +contextual -implicitDefEqProofs (maxSteps := 1000000) only [sm, sn, sxx, seval, eCon, eIs, eI]
    try rfl
  · simp +contextual -implicitDefEqProofs (maxSteps := 1000000) only [sm, sn, sxx, seval]
  · simp +contextual -implicitDefEqProofs (maxSteps := 1000000) only [sm, sn, sxx, seval]
  simp +contextual -implicitDefEqProofs (maxSteps := 1000000) only [sm, sn, sxx, seval]
  refine callM_rule [] n2 (by decide) ?_ ?_ ?_ ?_ ?_ ?_
  · simp +contextual -implicitDefEqProofs (maxSteps := 1000000) only [sm, sn, sxx, seval]
  · simp +contextual -implicitDefEqProofs (maxSteps := 1000000) only [sm, sn, sxx, seval, eCon, eIs, eI]
  · simp +contextual -implicitDefEqProofs (maxSteps := 1000000) only [sm, sn, sxx, seval, eCon, eIs, eI]
    try rfl
  · simp +contextual -implicitDefEqProofs (maxSteps := 1000000) only [sm, sn, sxx, seval]
  · simp +contextual -implicitDefEqProofs (maxSteps := 1000000) only [sm, sn, sxx, seval]
  by_cases h100 : 100 < (X.length : Int)
  · simp +contextual -implicitDefEqProofs (maxSteps := 1000000) only [sm, sn, sxx, seval, h100]
  by_cases h200 : 200 < (a.length : Int)
  · simp +contextual -implicitDefEqProofs (maxSteps := 1000000) only [sm, sn, sxx, seval, h100, h200]
  have w2 : IntKind.i64.wrap (2 * (X.length : Int)) = ((2 * X.length : Nat) : Int) := by rw [wrap_i64] <;> omega
  simp +contextual -implicitDefEqProofs (maxSteps := 1000000) only [sm, sn, sxx, seval, h100, h200, w2]
  refine loop_ruleF [(0, 2, 1)] [] (fun k : Nat => k ≤ 2 * X.length) (fun k => tm 47 [(0, .list 1 (X.map eI)), (1, .list 1 (a.map eI)), (5, .ptr 4 0 0 0), (30, .int .i64 ((2 * X.length : Nat) : Int)), (31, .int .i64 k)])
    (fun k => [some (4, [.agg [.int .i64 19, .list 1 (X.map eI), .sl 1 1 0 k, .int .i64 1]]), some (1, (onesU k).map eI)]) (fun k => 2 * X.length - k) 0 (by simp +contextual -implicitDefEqProofs (maxSteps := 1000000) only [sm, sn, sxx, seval]) rfl (Nat.zero_le _) ⟨[0, 1], by decide, rfl, ?_, ?_⟩ ?_
  · simp +contextual -implicitDefEqProofs (maxSteps := 1000000) only [sm, sn, sxx, seval]
    try rfl
  · simp +contextual -implicitDefEqProofs (maxSteps := 1000000) only [sm, sn, sxx, seval, Int.natCast_zero]
    try rfl
  intro k hk
  have hol := onesU_len k
  by_cases hlt : k < 2 * X.length
  · have hlt' : (k : Int) < ((2 * X.length : Nat) : Int) := by omega
    have e2 : IntKind.i64.wrap ((k : Int) + 1) = ((k + 1 : Nat) : Int) := by rw [wrap_i64] <;> omega
    have d1 : (k + 1) * 8 ≤ 140737488355328 := by omega
    have d2 : k + 1 ≤ maxLen := by unfold maxLen; omega
    have hrep : (onesU k).map eI ++ [AV.int .i64 1] = (onesU (k + 1)).map eI := by unfold onesU; rw [List.replicate_succ', List.map_append]; rfl
    simp +contextual -implicitDefEqProofs (maxSteps := 1000000) only [sm, sn, sxx, seval, hlt', e2, d1, d2, hrep, hol]
    refine ⟨k + 1, by omega, by omega, [0, 2], by decide, rfl, ?_, ?_⟩
    · simp +contextual -implicitDefEqProofs (maxSteps := 1000000) only [sm, sn, sxx, seval]
      try rfl
    · simp +contextual -implicitDefEqProofs (maxSteps := 1000000) only [sm, sn, sxx, seval]
      try rfl
  · have hkn : k = 2 * X.length := by omega
    subst hkn
    have m1 := sense_own 19 X (onesU (2 * X.length)) 1 a (by omega) (by omega) (by omega)
    have m2 := sense_Holds (18, X, [], 0) a (by simp) (by simp only; omega) (by omega)
    simp only at m2
    rw [unit_holds, hol] at m1
    generalize (askdB (18, X, [], 0) a && holdsB (18, X, [], 0) (valsOf X a)) = r at m1 m2
    simp +contextual -implicitDefEqProofs (maxSteps := 1000000) only [sm, sn, sxx, seval, Int.lt_irrefl]
    refine callM_rule [1] m1 (by decide) ?_ ?_ ?_ ?_ ?_ ?_
    · simp +contextual -implicitDefEqProofs (maxSteps := 1000000) only [sm, sn, sxx, seval]
      try rfl
    · simp +contextual -implicitDefEqProofs (maxSteps := 1000000) only [sm, sn, sxx, seval, eIs]
    · simp +contextual -implicitDefEqProofs (maxSteps := 1000000) only [sm, sn, sxx, seval, eIs]
      try rfl
    · simp +contextual -implicitDefEqProofs (maxSteps := 1000000) only [sm, sn, sxx, seval]
    · simp +contextual -implicitDefEqProofs (maxSteps := 1000000) only [sm, sn, sxx, seval]
    simp +contextual -implicitDefEqProofs (maxSteps := 1000000) only [sm, sn, sxx, seval]
    refine callM_rule [] m2 (by decide) ?_ ?_ ?_ ?_ ?_ ?_
    · simp +contextual -implicitDefEqProofs (maxSteps := 1000000) only [sm, sn, sxx, seval]
    · simp +contextual -implicitDefEqProofs (maxSteps := 1000000) only [sm, sn, sxx, seval, eCon, eIs, eI]
    · simp +contextual -implicitDefEqProofs (maxSteps := 1000000) only [sm, sn, sxx, seval, eCon, eIs, eI]
      try rfl
    · simp +contextual -implicitDefEqProofs (maxSteps := 1000000) only [sm, sn, sxx, seval]
    · simp +contextual -implicitDefEqProofs (maxSteps := 1000000) only [sm, sn, sxx, seval]
    simp +contextual -implicitDefEqProofs (maxSteps := 1000000) only [sm, sn, sxx, seval]
    try simp
end Go.Proofs.Ytnhedjpghpdbdaa
