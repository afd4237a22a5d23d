/- SenseTurned. -/
import Derived.Test.YtfcphijidcfboaaWLaw11
import Derived.Test.YtfcphijidcfboaaWSenseU
import Derived.Test.YtfcphijidcfboaaPlSense3
import Derived.Test.YtfcphijidcfboaaCLaw11T
namespace Go.Proofs.Ytfcphijidcfboaa
open Av
attribute [local irreducible] awp awpOpers
set_option linter.unusedSimpArgs false
set_option linter.unusedVariables false
set_option maxRecDepth 100000
set_option maxHeartbeats 4000000
theorem law11_turned_int (l : List Int) (s : Int) (hs : 0 ≤ s ∧ s ≤ 255) (hl : l.length ≤ 1000) : Ctr Try.prog 39 [.list 1 (l.map eI), .int .u8 s] [] (.list 1 ((rotL l s.toNat).map eI)) [] := by
  refine call_pure Try.func39 Try.call39 e_law11_turned_int ?_
  have hrl := rotL_len l s.toNat
  simp +contextual -implicitDefEqProofs (maxSteps := 1000000) only [c_law11_turned_int, sm, sn, sxx, seval]
  refine loop_ruleV [(5, 1)] (fun k : Nat => k ≤ l.length) (fun k => tm 27 [(0, .list 1 (l.map eI)), (1, .int .u8 s), (5, .sl 1 0 0 k), (8, .int .i64 l.length), (9, .int .i64 k)])
    (fun k => [some (1, ((rotL l s.toNat).take k).map eI)]) (fun k => l.length - k) 0 (by simp +contextual -implicitDefEqProofs (maxSteps := 1000000) only [sm, sn, sxx, seval]) (Nat.zero_le _) ⟨[0], by decide, rfl, ?_, ?_⟩ ?_
  · simp +contextual -implicitDefEqProofs (maxSteps := 1000000) only [sm, sn, sxx, seval]
  · simp +contextual -implicitDefEqProofs (maxSteps := 1000000) only [sm, sn, sxx, seval, Int.natCast_zero]
  · intro k hk
    have htl : ((rotL l s.toNat).take k).length = k := by rw [List.length_take]; omega
    by_cases hlt : k < l.length
    · have hlt' : (k : Int) < (l.length : Int) := by omega
      have e2 : IntKind.i64.wrap ((k : Int) + 1) = ((k + 1 : Nat) : Int) := by rw [wrap_i64] <;> omega
      have hn0 : ¬ ((l.length : Int) = 0) := by omega
      have w0 : IntKind.i64.wrap s = s := by rw [wrap_i64] <;> omega
      have w1 : IntKind.i64.wrap ((k : Int) + s) = (k : Int) + s := by rw [wrap_i64] <;> omega
      have hm : Int.tmod ((k : Int) + s) (l.length : Int) = (((k + s.toNat) % l.length : Nat) : Int) := by
        rw [Int.tmod_eq_emod_of_nonneg (by omega), Int.natCast_emod, Int.natCast_add, Int.toNat_of_nonneg hs.1]
      have w2 : IntKind.i64.wrap (((k + s.toNat) % l.length : Nat) : Int) = (((k + s.toNat) % l.length : Nat) : Int) := by
        have := Nat.mod_lt (k + s.toNat) (show 0 < l.length by omega)
        rw [wrap_i64] <;> omega
      have hg : l[(k + s.toNat) % l.length]? = some (xat (rotL l s.toNat) k) := by
        rw [rotL_at hlt]
        exact xat_get (Nat.mod_lt _ (by omega))
      have hsn := take_snoc (xat_get (X := rotL l s.toNat) (i := k) (by omega))
      have c1 : (k + 1) * 8 ≤ 140737488355328 := by omega
      have c2 : k + 1 ≤ maxLen := by unfold maxLen; omega
      simp +contextual -implicitDefEqProofs (maxSteps := 1000000) only [sm, sn, sxx, seval, hlt', hn0, w0, w1, hm, w2, hg, htl, c1, c2, hsn, e2]
      refine ⟨k + 1, by omega, by omega, [1], by decide, rfl, ?_, ?_⟩
      · simp +contextual -implicitDefEqProofs (maxSteps := 1000000) only [sm, sn, sxx, seval]
      · simp +contextual -implicitDefEqProofs (maxSteps := 1000000) only [sm, sn, sxx, seval]
    · have hkn : k = l.length := by omega
      subst hkn
      have ht : (rotL l s.toNat).take l.length = rotL l s.toNat := by rw [← hrl, List.take_length]
      rw [ht]
      have ht2 : List.take l.length ((rotL l s.toNat).map eI) = (rotL l s.toNat).map eI := by rw [← hrl]; exact take_map _ _
      have hle : l.length ≤ (rotL l s.toNat).length := by omega
      simp +contextual -implicitDefEqProofs (maxSteps := 1000000) only [sm, sn, sxx, seval, Int.lt_irrefl, ht2, hle, hrl]
      try rfl
theorem law11_turned_i64 (l : List Int) (s : Int) (hs : 0 ≤ s ∧ s ≤ 255) (hl : l.length ≤ 1000) : Ctr Try.prog 40 [.list 1 (l.map eI), .int .u8 s] [] (.sl 1 0 0 l.length) [some (1, (rotL l s.toNat).map eI)] := by
  refine call_box Try.func40 Try.call40 e_law11_turned_int64 ?_
  have hrl := rotL_len l s.toNat
  simp +contextual -implicitDefEqProofs (maxSteps := 1000000) only [c_law11_turned_int64, sm, sn, sxx, seval]
  refine loop_ruleV [(5, 1)] (fun k : Nat => k ≤ l.length) (fun k => tm 27 [(0, .list 1 (l.map eI)), (1, .int .u8 s), (5, .sl 1 0 0 k), (8, .int .i64 l.length), (9, .int .i64 k)])
    (fun k => [some (1, ((rotL l s.toNat).take k).map eI)]) (fun k => l.length - k) 0 (by simp +contextual -implicitDefEqProofs (maxSteps := 1000000) only [sm, sn, sxx, seval]) (Nat.zero_le _) ⟨[0], by decide, rfl, ?_, ?_⟩ ?_
  · simp +contextual -implicitDefEqProofs (maxSteps := 1000000) only [sm, sn, sxx, seval]
  · simp +contextual -implicitDefEqProofs (maxSteps := 1000000) only [sm, sn, sxx, seval, Int.natCast_zero]
  · intro k hk
    have htl : ((rotL l s.toNat).take k).length = k := by rw [List.length_take]; omega
    by_cases hlt : k < l.length
    · have hlt' : (k : Int) < (l.length : Int) := by omega
      have e2 : IntKind.i64.wrap ((k : Int) + 1) = ((k + 1 : Nat) : Int) := by rw [wrap_i64] <;> omega
      have hn0 : ¬ ((l.length : Int) = 0) := by omega
      have w0 : IntKind.i64.wrap s = s := by rw [wrap_i64] <;> omega
      have w1 : IntKind.i64.wrap ((k : Int) + s) = (k : Int) + s := by rw [wrap_i64] <;> omega
      have hm : Int.tmod ((k : Int) + s) (l.length : Int) = (((k + s.toNat) % l.length : Nat) : Int) := by
        rw [Int.tmod_eq_emod_of_nonneg (by omega), Int.natCast_emod, Int.natCast_add, Int.toNat_of_nonneg hs.1]
      have w2 : IntKind.i64.wrap (((k + s.toNat) % l.length : Nat) : Int) = (((k + s.toNat) % l.length : Nat) : Int) := by
        have := Nat.mod_lt (k + s.toNat) (show 0 < l.length by omega)
        rw [wrap_i64] <;> omega
      have hg : l[(k + s.toNat) % l.length]? = some (xat (rotL l s.toNat) k) := by
        rw [rotL_at hlt]
        exact xat_get (Nat.mod_lt _ (by omega))
      have hsn := take_snoc (xat_get (X := rotL l s.toNat) (i := k) (by omega))
      have c1 : (k + 1) * 8 ≤ 140737488355328 := by omega
      have c2 : k + 1 ≤ maxLen := by unfold maxLen; omega
      simp +contextual -implicitDefEqProofs (maxSteps := 1000000) only [sm, sn, sxx, seval, hlt', hn0, w0, w1, hm, w2, hg, htl, c1, c2, hsn, e2]
      refine ⟨k + 1, by omega, by omega, [1], by decide, rfl, ?_, ?_⟩
      · simp +contextual -implicitDefEqProofs (maxSteps := 1000000) only [sm, sn, sxx, seval]
      · simp +contextual -implicitDefEqProofs (maxSteps := 1000000) only [sm, sn, sxx, seval]
    · have hkn : k = l.length := by omega
      subst hkn
      have ht : (rotL l s.toNat).take l.length = rotL l s.toNat := by rw [← hrl, List.take_length]
      rw [ht]
      simp +contextual -implicitDefEqProofs (maxSteps := 1000000) only [sm, sn, sxx, seval, Int.lt_irrefl]
      refine ⟨[], [0], by decide, ?_⟩
      simp +contextual -implicitDefEqProofs (maxSteps := 1000000) only [sm, sn, sxx, seval]
      try rfl
theorem law_SenseTurned (c : Con) (a : List Int) (s : Int) (hs : 0 ≤ s ∧ s ≤ 255) : Ctr Try.prog 11 [eCon c, eIs a, .int .u8 s] [] (.bool true) [] := by
  refine call_pure Try.func11 Try.call11 e_law11_SenseTurnedO ?_
  have hcon : ∃ K X A G, c = (K, X, A, G) := ⟨c.1, c.2.1, c.2.2.1, c.2.2.2, rfl⟩
  obtain ⟨K, X, A, C, rfl⟩ := hcon
  simp +contextual -implicitDefEqProofs (maxSteps := 1000000) only [c_law11_SenseTurnedO, eCon, eIs, sm, sn, sxx, seval]
  refine callA_rule law11_alive (wkL_refl _) rfl ?_
  simp +contextual -implicitDefEqProofs (maxSteps := 1000000) only [sm, sn, sxx, seval, eCon, eIs]
  refine callA_rule (law11_Fits (K, X, A, C) a) (by simp +contextual -implicitDefEqProofs (maxSteps := 1000000) only [sm, sn, sxx, seval, eCon, eIs]) rfl ?_
  cases hFt : fits11 (K, X, A, C) a
  · simp +contextual -implicitDefEqProofs (maxSteps := 1000000) only [sm, sn, sxx, seval]
  obtain ⟨s1, s2, s3⟩ := fits11_facts hFt
  simp only at s1 s2
  clear hFt
  by_cases k1 : K = 1
  · subst k1
    have h3 := sense_Holds (1, X, A, C) a (by simp only; omega) (by simp only; omega) (by omega)
    have h4 := sense_Holds (1, X, A.map (fun x => -x), -C) a (by simp only [List.length_map]; omega) (by simp only; omega) (by omega)
    have ht := turn_lin (X := X) (A := A) (C := C) (a := a) (show (1 : Int) = 1 ∨ (1 : Int) = 3 by decide)
    simp only at h3 h4
    rw [ht] at h4
    generalize (askdB (1, X, A, C) a && holdsB (1, X, A, C) (valsOf X a)) = hb at h3 h4
    clear ht
    have hnl : (A.map fun x => -x).length = A.length := List.length_map _
    have hng : ∀ (j : Nat) x, A[j]? = some x → (A.map fun x => -x)[j]? = some (-x) := fun j x h => by rw [List.getElem?_map, h]; rfl
    generalize (A.map fun x => -x) = N at h4 hnl hng
    simp +contextual -implicitDefEqProofs (maxSteps := 1000000) only [sm, sn, sxx, seval, eCon, eIs]
    refine loop_ruleV [(8, 1)] (fun k : Nat => k ≤ A.length) (fun k => tm 107 [(1, .list 1 (a.map eI)), (3, .ptr 4 0 0 0), (7, .ptr 4 1 0 0), (8, .sl 1 2 0 k), (26, .list 1 (A.map eI)), (27, .int .i64 A.length), (28, .int .i64 k)])
      (fun k => [some (4, [.agg [.int .i64 1, .list 1 (X.map eI), .list 1 (A.map eI), .int .i64 C]]), some (4, [.agg [.int .i64 1, .list 1 (X.map eI), .list 1 (A.map eI), .int .i64 C]]), some (1, (N.take k).map eI)]) (fun k => A.length - k) 0 (by simp +contextual -implicitDefEqProofs (maxSteps := 1000000) only [sm, sn, sxx, seval]) (Nat.zero_le _) ⟨[0, 1, 2], by decide, rfl, ?_, ?_⟩ ?_
    · simp +contextual -implicitDefEqProofs (maxSteps := 1000000) only [sm, sn, sxx, seval, eCon, eIs]
    · simp +contextual -implicitDefEqProofs (maxSteps := 1000000) only [sm, sn, sxx, seval, Int.natCast_zero]
    intro k hk
    have htl : (N.take k).length = k := by rw [List.length_take]; omega
    by_cases hlt : k < A.length
    · have hlt' : (k : Int) < (A.length : Int) := by omega
      have e2 : IntKind.i64.wrap ((k : Int) + 1) = ((k + 1 : Nat) : Int) := by rw [wrap_i64] <;> omega
      obtain ⟨x, hx⟩ : ∃ r, A[k]? = some r := ⟨_, List.getElem?_eq_getElem hlt⟩
      by_cases x0 : x < -1048576
      · simp +contextual -implicitDefEqProofs (maxSteps := 1000000) only [sm, sn, sxx, seval, hlt', hx, x0]
      by_cases x1 : 1048576 < x
      · simp +contextual -implicitDefEqProofs (maxSteps := 1000000) only [sm, sn, sxx, seval, hlt', hx, x0, x1]
      have w1 : IntKind.i64.wrap (0 - x) = -x := by rw [wrap_i64] <;> omega
      have w2 : IntKind.i64.wrap (-x) = -x := by rw [wrap_i64] <;> omega
      have hsn := take_snoc (hng k x hx)
      have c1 : (k + 1) * 8 ≤ 140737488355328 := by omega
      have c2 : k + 1 ≤ maxLen := by unfold maxLen; omega
      simp +contextual -implicitDefEqProofs (maxSteps := 1000000) only [sm, sn, sxx, seval, hlt', hx, x0, x1, w1, w2, htl, c1, c2, hsn, e2]
      refine ⟨k + 1, by omega, by omega, [0, 1, 3], by decide, rfl, ?_, ?_⟩
      · simp +contextual -implicitDefEqProofs (maxSteps := 1000000) only [sm, sn, sxx, seval]
      · simp +contextual -implicitDefEqProofs (maxSteps := 1000000) only [sm, sn, sxx, seval]
    · have hkn : k = A.length := by omega
      subst hkn
      have htn : N.take A.length = N := by rw [← hnl, List.take_length]
      have ht2 : List.take A.length (N.map eI) = N.map eI := by rw [← hnl]; exact take_map _ _
      have hle : A.length ≤ N.length := by omega
      rw [htn]
      by_cases q0 : C < -1048576
      · simp +contextual -implicitDefEqProofs (maxSteps := 1000000) only [sm, sn, sxx, seval, Int.lt_irrefl, q0]
      by_cases q1 : 1048576 < C
      · simp +contextual -implicitDefEqProofs (maxSteps := 1000000) only [sm, sn, sxx, seval, Int.lt_irrefl, q0, q1]
      have w1 : IntKind.i64.wrap (0 - C) = -C := by rw [wrap_i64] <;> omega
      have w2 : IntKind.i64.wrap (-C) = -C := by rw [wrap_i64] <;> omega
      simp +contextual -implicitDefEqProofs (maxSteps := 1000000) only [sm, sn, sxx, seval, Int.lt_irrefl, q0, q1, w1, w2]
      refine callV_rule h4 (by simp +contextual -implicitDefEqProofs (maxSteps := 1000000) only [sm, sn, sxx, seval, eCon, eIs, ht2, hle, hnl]) rfl ?_
      simp +contextual -implicitDefEqProofs (maxSteps := 1000000) only [sm, sn, sxx, seval, eCon, eIs]
      refine callV_rule h3 (by simp +contextual -implicitDefEqProofs (maxSteps := 1000000) only [sm, sn, sxx, seval, eCon, eIs]) rfl ?_
      cases hb <;> simp +contextual -implicitDefEqProofs (maxSteps := 1000000) only [sm, sn, sxx, seval, beq_tt, beq_ff]
  by_cases k3 : K = 3
  · subst k3
    have h3 := sense_Holds (3, X, A, C) a (by simp only; omega) (by simp only; omega) (by omega)
    have h4 := sense_Holds (3, X, A.map (fun x => -x), -C) a (by simp only [List.length_map]; omega) (by simp only; omega) (by omega)
    have ht := turn_lin (X := X) (A := A) (C := C) (a := a) (show (3 : Int) = 1 ∨ (3 : Int) = 3 by decide)
    simp only at h3 h4
    rw [ht] at h4
    generalize (askdB (3, X, A, C) a && holdsB (3, X, A, C) (valsOf X a)) = hb at h3 h4
    clear ht
    have hnl : (A.map fun x => -x).length = A.length := List.length_map _
    have hng : ∀ (j : Nat) x, A[j]? = some x → (A.map fun x => -x)[j]? = some (-x) := fun j x h => by rw [List.getElem?_map, h]; rfl
    generalize (A.map fun x => -x) = N at h4 hnl hng
    simp +contextual -implicitDefEqProofs (maxSteps := 1000000) only [sm, sn, sxx, seval, eCon, eIs]
    refine loop_ruleV [(8, 1)] (fun k : Nat => k ≤ A.length) (fun k => tm 107 [(1, .list 1 (a.map eI)), (3, .ptr 4 0 0 0), (7, .ptr 4 1 0 0), (8, .sl 1 2 0 k), (26, .list 1 (A.map eI)), (27, .int .i64 A.length), (28, .int .i64 k)])
      (fun k => [some (4, [.agg [.int .i64 3, .list 1 (X.map eI), .list 1 (A.map eI), .int .i64 C]]), some (4, [.agg [.int .i64 3, .list 1 (X.map eI), .list 1 (A.map eI), .int .i64 C]]), some (1, (N.take k).map eI)]) (fun k => A.length - k) 0 (by simp +contextual -implicitDefEqProofs (maxSteps := 1000000) only [sm, sn, sxx, seval]) (Nat.zero_le _) ⟨[0, 1, 2], by decide, rfl, ?_, ?_⟩ ?_
    · simp +contextual -implicitDefEqProofs (maxSteps := 1000000) only [sm, sn, sxx, seval, eCon, eIs]
    · simp +contextual -implicitDefEqProofs (maxSteps := 1000000) only [sm, sn, sxx, seval, Int.natCast_zero]
    intro k hk
    have htl : (N.take k).length = k := by rw [List.length_take]; omega
    by_cases hlt : k < A.length
    · have hlt' : (k : Int) < (A.length : Int) := by omega
      have e2 : IntKind.i64.wrap ((k : Int) + 1) = ((k + 1 : Nat) : Int) := by rw [wrap_i64] <;> omega
      obtain ⟨x, hx⟩ : ∃ r, A[k]? = some r := ⟨_, List.getElem?_eq_getElem hlt⟩
      by_cases x0 : x < -1048576
      · simp +contextual -implicitDefEqProofs (maxSteps := 1000000) only [sm, sn, sxx, seval, hlt', hx, x0]
      by_cases x1 : 1048576 < x
      · simp +contextual -implicitDefEqProofs (maxSteps := 1000000) only [sm, sn, sxx, seval, hlt', hx, x0, x1]
      have w1 : IntKind.i64.wrap (0 - x) = -x := by rw [wrap_i64] <;> omega
      have w2 : IntKind.i64.wrap (-x) = -x := by rw [wrap_i64] <;> omega
      have hsn := take_snoc (hng k x hx)
      have c1 : (k + 1) * 8 ≤ 140737488355328 := by omega
      have c2 : k + 1 ≤ maxLen := by unfold maxLen; omega
      simp +contextual -implicitDefEqProofs (maxSteps := 1000000) only [sm, sn, sxx, seval, hlt', hx, x0, x1, w1, w2, htl, c1, c2, hsn, e2]
      refine ⟨k + 1, by omega, by omega, [0, 1, 3], by decide, rfl, ?_, ?_⟩
      · simp +contextual -implicitDefEqProofs (maxSteps := 1000000) only [sm, sn, sxx, seval]
      · simp +contextual -implicitDefEqProofs (maxSteps := 1000000) only [sm, sn, sxx, seval]
    · have hkn : k = A.length := by omega
      subst hkn
      have htn : N.take A.length = N := by rw [← hnl, List.take_length]
      have ht2 : List.take A.length (N.map eI) = N.map eI := by rw [← hnl]; exact take_map _ _
      have hle : A.length ≤ N.length := by omega
      rw [htn]
      by_cases q0 : C < -1048576
      · simp +contextual -implicitDefEqProofs (maxSteps := 1000000) only [sm, sn, sxx, seval, Int.lt_irrefl, q0]
      by_cases q1 : 1048576 < C
      · simp +contextual -implicitDefEqProofs (maxSteps := 1000000) only [sm, sn, sxx, seval, Int.lt_irrefl, q0, q1]
      have w1 : IntKind.i64.wrap (0 - C) = -C := by rw [wrap_i64] <;> omega
      have w2 : IntKind.i64.wrap (-C) = -C := by rw [wrap_i64] <;> omega
      simp +contextual -implicitDefEqProofs (maxSteps := 1000000) only [sm, sn, sxx, seval, Int.lt_irrefl, q0, q1, w1, w2]
      refine callV_rule h4 (by simp +contextual -implicitDefEqProofs (maxSteps := 1000000) only [sm, sn, sxx, seval, eCon, eIs, ht2, hle, hnl]) rfl ?_
      simp +contextual -implicitDefEqProofs (maxSteps := 1000000) only [sm, sn, sxx, seval, eCon, eIs]
      refine callV_rule h3 (by simp +contextual -implicitDefEqProofs (maxSteps := 1000000) only [sm, sn, sxx, seval, eCon, eIs]) rfl ?_
      cases hb <;> simp +contextual -implicitDefEqProofs (maxSteps := 1000000) only [sm, sn, sxx, seval, beq_tt, beq_ff]
  by_cases k18 : K = 18
  · subst k18
    have h3 := sense_Holds (18, X, A, C) a (by simp only; omega) (by simp only; omega) (by omega)
    have h4 := sense_Holds (18, rotL X s.toNat, A, C) a (by simp only; omega) (by simp only [rotL_len]; omega) (by omega)
    have ht := turn_diff (X := X) (A := A) (C := C) (a := a) s.toNat
    simp only at h3 h4
    rw [ht] at h4
    generalize (askdB (18, X, A, C) a && holdsB (18, X, A, C) (valsOf X a)) = hb at h3 h4
    simp +contextual -implicitDefEqProofs (maxSteps := 1000000) only [sm, sn, sxx, seval, eCon, eIs]
    refine callA_rule (law11_turned_int X s hs (by omega)) (by simp +contextual -implicitDefEqProofs (maxSteps := 1000000) only [sm, sn, sxx, seval]) rfl ?_
    simp +contextual -implicitDefEqProofs (maxSteps := 1000000) only [sm, sn, sxx, seval, eCon, eIs]
    refine callV_rule h4 (by simp +contextual -implicitDefEqProofs (maxSteps := 1000000) only [sm, sn, sxx, seval, eCon, eIs]) rfl ?_
    simp +contextual -implicitDefEqProofs (maxSteps := 1000000) only [sm, sn, sxx, seval, eCon, eIs]
    refine callV_rule h3 (by simp +contextual -implicitDefEqProofs (maxSteps := 1000000) only [sm, sn, sxx, seval, eCon, eIs]) rfl ?_
    cases hb <;> simp +contextual -implicitDefEqProofs (maxSteps := 1000000) only [sm, sn, sxx, seval, beq_tt, beq_ff]
  by_cases k19 : K = 19
  · subst k19
    by_cases hAl : A.length = 2 * X.length
    rotate_left
    · have w1 : IntKind.i64.wrap (2 * (X.length : Int)) = 2 * (X.length : Int) := by rw [wrap_i64] <;> omega
      have hne : ¬ (A.length : Int) = 2 * (X.length : Int) := by omega
      simp +contextual -implicitDefEqProofs (maxSteps := 1000000) only [sm, sn, sxx, seval, eCon, eIs, w1, hne]
    have w1 : IntKind.i64.wrap (2 * (X.length : Int)) = 2 * (X.length : Int) := by rw [wrap_i64] <;> omega
    have hne : (A.length : Int) = 2 * (X.length : Int) := by omega
    have h3 := sense_Holds (19, X, A, C) a (by simp only; omega) (by simp only; omega) (by omega)
    have h4 := sense_Holds (19, rotL X s.toNat, turnA A X.length s.toNat, C) a (by simp only [turnA_len hAl]; omega) (by simp only [rotL_len]; omega) (by omega)
    have ht := turn_tasks (X := X) (A := A) (C := C) (a := a) s.toNat hAl
    simp only at h3 h4
    rw [ht] at h4
    generalize (askdB (19, X, A, C) a && holdsB (19, X, A, C) (valsOf X a)) = hb at h3 h4
    have hle : X.length ≤ A.length := by omega
    have hta : List.take X.length (A.map eI) = (A.take X.length).map eI := by rw [List.map_take]
    have htd : List.drop X.length (A.map eI) = (A.drop X.length).map eI := by rw [List.map_drop]
    have hl1 : (A.take X.length).length = X.length := by rw [List.length_take]; omega
    have hl2 : (A.drop X.length).length = X.length := by rw [List.length_drop]; omega
    have hrx := rotL_len X s.toNat
    simp +contextual -implicitDefEqProofs (maxSteps := 1000000) only [sm, sn, sxx, seval, eCon, eIs, w1, hne]
    refine callA_rule (law11_turned_int X s hs (by omega)) (by simp +contextual -implicitDefEqProofs (maxSteps := 1000000) only [sm, sn, sxx, seval]) rfl ?_
    simp +contextual -implicitDefEqProofs (maxSteps := 1000000) only [sm, sn, sxx, seval, eCon, eIs, hrx, hle, hta, htd, Nat.zero_le]
    have hc1 := law11_turned_i64 (A.take X.length) s hs (by omega)
    have hc2 := law11_turned_i64 (A.drop X.length) s hs (by omega)
    rw [hl1] at hc1
    rw [hl2] at hc2
    have hr1 : (rotL (A.take X.length) s.toNat).length = X.length := by rw [rotL_len, hl1]
    have hr2 : (rotL (A.drop X.length) s.toNat).length = X.length := by rw [rotL_len, hl2]
    have htu := turnA_len (s := s.toNat) hAl
    have hap : (rotL (A.take X.length) s.toNat).map eI ++ (rotL (A.drop X.length) s.toNat).map eI = (turnA A X.length s.toNat).map eI := by unfold turnA; rw [List.map_append]
    have htd2 : List.drop X.length (List.take A.length (A.map eI)) = (A.drop X.length).map eI := by rw [take_map, List.map_drop]
    generalize rotL (A.take X.length) s.toNat = R1 at hc1 hr1 hap
    generalize rotL (A.drop X.length) s.toNat = R2 at hc2 hr2 hap
    generalize turnA A X.length s.toNat = TA at h4 htu hap
    generalize rotL X s.toNat = RX at h4 hrx
    refine callO_rule hc1 rfl (by simp +contextual -implicitDefEqProofs (maxSteps := 1000000) only [sm, sn, sxx, seval]) rfl ?_ ?_
    · simp +contextual -implicitDefEqProofs (maxSteps := 1000000) only [sm, sn, sxx, seval]
    simp +contextual -implicitDefEqProofs (maxSteps := 1000000) only [sm, sn, sxx, seval, eCon, eIs, hrx, hle, htd, htd2, Nat.zero_le]
    refine callO_rule hc2 rfl (by simp +contextual -implicitDefEqProofs (maxSteps := 1000000) only [sm, sn, sxx, seval]) rfl ?_ ?_
    · simp +contextual -implicitDefEqProofs (maxSteps := 1000000) only [sm, sn, sxx, seval]
    have c1 : (X.length + X.length) * 8 ≤ 140737488355328 := by omega
    have c2 : X.length + X.length ≤ maxLen := by unfold maxLen; omega
    have t1 : List.take X.length (R1.map eI) = R1.map eI := by rw [← hr1]; exact take_map _ _
    have t2 : List.take X.length (R2.map eI) = R2.map eI := by rw [← hr2]; exact take_map _ _
    have q2 : X.length ≤ R2.length := by omega
    have q3 : X.length + X.length ≤ TA.length := by omega
    have t3 : List.take (X.length + X.length) (TA.map eI) = TA.map eI := by rw [show X.length + X.length = TA.length by omega]; exact take_map _ _
    simp +contextual -implicitDefEqProofs (maxSteps := 1000000) only [sm, sn, sxx, seval, eCon, eIs, hr1, hr2, t1, t2, q2, c1, c2, hap]
    refine callV_rule h4 (by simp +contextual -implicitDefEqProofs (maxSteps := 1000000) only [sm, sn, sxx, seval, eCon, eIs, t3, q3]) rfl ?_
    simp +contextual -implicitDefEqProofs (maxSteps := 1000000) only [sm, sn, sxx, seval, eCon, eIs]
    refine callV_rule h3 (by simp +contextual -implicitDefEqProofs (maxSteps := 1000000) only [sm, sn, sxx, seval, eCon, eIs]) rfl ?_
    cases hb <;> simp +contextual -implicitDefEqProofs (maxSteps := 1000000) only [sm, sn, sxx, seval, beq_tt, beq_ff]
  simp +contextual -implicitDefEqProofs (maxSteps := 1000000) only [sm, sn, sxx, seval, eCon, eIs, k1, k3, k18, k19]
end Go.Proofs.Ytfcphijidcfboaa
