/- slices.Compact over numbers. -/
import Derived.Test.YtnhedjpghpdbdaaAv3
import Derived.Test.YtnhedjpghpdbdaaPlMod
import Derived.Test.YtnhedjpghpdbdaaCCompact
namespace Go.Proofs.Ytnhedjpghpdbdaa
open Av
attribute [local irreducible] awp awpOpers
set_option linter.unusedSimpArgs false
set_option linter.unusedVariables false
set_option maxRecDepth 100000
set_option maxHeartbeats 4000000
theorem least_of {P : Nat → Prop} (h : ∃ k, P k) : ∃ k, P k ∧ ∀ j, j < k → ¬ P j := by
  obtain ⟨k, hk⟩ := h
  induction k using Nat.strongRecOn with
  | ind k ih =>
    by_cases h : ∃ j, j < k ∧ P j
    · obtain ⟨j, hj, hp⟩ := h
      exact ih j hj hp
    · exact ⟨k, hk, fun j hj hp => h ⟨j, hj, hp⟩⟩
def adj (l : List Int) (k : Nat) : Prop := 1 ≤ k ∧ k < l.length ∧ xat l k = xat l (k - 1)
/-- what Compact does behind the first pair of likes -/
def cpS (l : List Int) (k0 : Nat) : Nat → Nat × List Int
  | 0 => (k0, l)
  | i + 1 => if xat (cpS l k0 i).2 (k0 + (i + 1)) = xat (cpS l k0 i).2 (k0 + i) then cpS l k0 i else ((cpS l k0 i).1 + 1, (cpS l k0 i).2.set (cpS l k0 i).1 (xat (cpS l k0 i).2 (k0 + (i + 1))))
theorem cpS_len (l : List Int) (k0 : Nat) : ∀ i, (cpS l k0 i).2.length = l.length
  | 0 => rfl
  | i + 1 => by
    unfold cpS
    split
    · exact cpS_len l k0 i
    · simp only [List.length_set]; exact cpS_len l k0 i
theorem cpS_k (l : List Int) (k0 : Nat) : ∀ i, k0 ≤ (cpS l k0 i).1 ∧ (cpS l k0 i).1 ≤ k0 + i
  | 0 => by simp [cpS]
  | i + 1 => by
    have := cpS_k l k0 i
    unfold cpS
    split
    · omega
    · simp only; omega
theorem set_I {L : List Int} (k : Nat) (x : Int) : (L.map eI).set k (.int .i64 x) = (L.set k x).map eI := by rw [List.map_set]; rfl
theorem compact_all (l : List Int) (hl : l.length ≤ 1000000000000) (hno : ∀ k, ¬ adj l k) : Ctr Try.prog 106 [.sl 1 0 0 l.length] [some (1, l.map eI)] (.sl 1 0 0 l.length) [some (1, l.map eI)] := by
  refine call_box Try.func106 Try.call106 e_slices_Compact_sint64_int64 ?_
  by_cases h2 : (l.length : Int) < 2
  · simp +contextual -implicitDefEqProofs (maxSteps := 1000000) only [c_slices_Compact_sint64_int64, sm, sn, sxx, seval, h2]
    refine ⟨[], [0], by decide, ?_⟩
    simp +contextual -implicitDefEqProofs (maxSteps := 1000000) only [sm, sn, sxx, seval]
    try rfl
  simp +contextual -implicitDefEqProofs (maxSteps := 1000000) only [c_slices_Compact_sint64_int64, sm, sn, sxx, seval, h2]
  refine loop_rule (fun k : Nat => 1 ≤ k ∧ k ≤ l.length) (fun k => tm 61 [(0, .sl 1 0 0 l.length), (3, .int .i64 k)]) (fun _ => [some (1, l.map eI)]) (fun k => l.length - k) 1 ⟨by omega, by omega⟩ ⟨[0], by decide, rfl, ?_, ?_⟩ ?_
  · simp +contextual -implicitDefEqProofs (maxSteps := 1000000) only [sm, sn, sxx, seval]
  · simp +contextual -implicitDefEqProofs (maxSteps := 1000000) only [sm, sn, sxx, seval, Int.natCast_one]
  · rintro k ⟨hk1, hk⟩
    by_cases hlt : k < l.length
    · have hlt' : (k : Int) < (l.length : Int) := by omega
      have e2 : IntKind.i64.wrap ((k : Int) + 1) = ((k + 1 : Nat) : Int) := by rw [wrap_i64] <;> omega
      have e3 : IntKind.i64.wrap ((k : Int) - 1) = ((k - 1 : Nat) : Int) := by rw [wrap_i64] <;> omega
      have g1 := xat_get (X := l) (i := k) hlt
      have g0 := xat_get (X := l) (i := k - 1) (by omega)
      have hk0 : k - 1 < l.length := by omega
      have hne : ¬ xat l k = xat l (k - 1) := fun h => hno k ⟨hk1, hlt, h⟩
      simp +contextual -implicitDefEqProofs (maxSteps := 1000000) only [sm, sn, sxx, seval, hlt', hlt, hk0, e2, e3, g0, g1, hne]
      refine ⟨k + 1, ⟨by omega, by omega⟩, by omega, [0], by decide, rfl, ?_, ?_⟩
      · simp +contextual -implicitDefEqProofs (maxSteps := 1000000) only [sm, sn, sxx, seval]
      · simp +contextual -implicitDefEqProofs (maxSteps := 1000000) only [sm, sn, sxx, seval]
    · have hkn : k = l.length := by omega
      subst hkn
      simp +contextual -implicitDefEqProofs (maxSteps := 1000000) only [sm, sn, sxx, seval, Int.lt_irrefl]
      refine ⟨[], [0], by decide, ?_⟩
      simp +contextual -implicitDefEqProofs (maxSteps := 1000000) only [sm, sn, sxx, seval]
      try rfl
theorem compact_some (l : List Int) (hl : l.length ≤ 1000000000000) (k0 : Nat) (ha : adj l k0) (hno : ∀ j, j < k0 → ¬ adj l j) : Ctr Try.prog 106 [.sl 1 0 0 l.length] [some (1, l.map eI)] (.sl 1 0 0 (cpS l k0 (l.length - k0 - 1)).1) [some (1, ((cpS l k0 (l.length - k0 - 1)).2.take (cpS l k0 (l.length - k0 - 1)).1).map eI)] := by
  refine call_box Try.func106 Try.call106 e_slices_Compact_sint64_int64 ?_
  obtain ⟨a1, a2, a3⟩ := ha
  have h2 : ¬ (l.length : Int) < 2 := by omega
  simp +contextual -implicitDefEqProofs (maxSteps := 1000000) only [c_slices_Compact_sint64_int64, sm, sn, sxx, seval, h2]
  refine loop_rule (fun k : Nat => 1 ≤ k ∧ k ≤ k0) (fun k => tm 61 [(0, .sl 1 0 0 l.length), (3, .int .i64 k)]) (fun _ => [some (1, l.map eI)]) (fun k => l.length - k) 1 ⟨by omega, by omega⟩ ⟨[0], by decide, rfl, ?_, ?_⟩ ?_
  · simp +contextual -implicitDefEqProofs (maxSteps := 1000000) only [sm, sn, sxx, seval]
  · simp +contextual -implicitDefEqProofs (maxSteps := 1000000) only [sm, sn, sxx, seval, Int.natCast_one]
  · rintro k ⟨hk1, hk⟩
    have hlt : k < l.length := by omega
    have hlt' : (k : Int) < (l.length : Int) := by omega
    have e2 : IntKind.i64.wrap ((k : Int) + 1) = ((k + 1 : Nat) : Int) := by rw [wrap_i64] <;> omega
    have e3 : IntKind.i64.wrap ((k : Int) - 1) = ((k - 1 : Nat) : Int) := by rw [wrap_i64] <;> omega
    have g1 := xat_get (X := l) (i := k) hlt
    have g0 := xat_get (X := l) (i := k - 1) (by omega)
    have hk0 : k - 1 < l.length := by omega
    by_cases hkk : k < k0
    · have hne : ¬ xat l k = xat l (k - 1) := fun h => hno k hkk ⟨hk1, hlt, h⟩
      simp +contextual -implicitDefEqProofs (maxSteps := 1000000) only [sm, sn, sxx, seval, hlt', hlt, hk0, e2, e3, g0, g1, hne]
      refine ⟨k + 1, ⟨by omega, by omega⟩, by omega, [0], by decide, rfl, ?_, ?_⟩
      · simp +contextual -implicitDefEqProofs (maxSteps := 1000000) only [sm, sn, sxx, seval]
      · simp +contextual -implicitDefEqProofs (maxSteps := 1000000) only [sm, sn, sxx, seval]
    · have hke : k = k0 := by omega
      subst hke
      rw [a3] at g1
      have hkl : k ≤ l.length := by omega
      simp +contextual -implicitDefEqProofs (maxSteps := 1000000) only [sm, sn, sxx, seval, hlt', hlt, hk0, e3, g0, g1, hkl, Nat.zero_le]
      refine loop_rule (fun i : Nat => i + 1 ≤ l.length - k) (fun i => tm 61 [(0, .sl 1 0 0 l.length), (3, .int .i64 (cpS l k i).1), (4, .sl 1 0 k (l.length - k)), (5, .int .i64 ((i + 1 : Nat) : Int))]) (fun i => [some (1, (cpS l k i).2.map eI)]) (fun i => l.length - i) 0 (by omega) ⟨[0], by decide, rfl, ?_, ?_⟩ ?_
      · simp +contextual -implicitDefEqProofs (maxSteps := 1000000) only [sm, sn, sxx, seval, cpS]
      · simp +contextual -implicitDefEqProofs (maxSteps := 1000000) only [sm, sn, sxx, seval, cpS, Nat.zero_add, Int.natCast_one]
      · intro i hi
        have hLl := cpS_len l k i
        have hLk := cpS_k l k i
        by_cases hil : i + 1 < l.length - k
        · have hil' : ((i + 1 : Nat) : Int) < ((l.length - k : Nat) : Int) := by omega
          have e4 : IntKind.i64.wrap (((i + 1 : Nat) : Int) + 1) = ((i + 1 + 1 : Nat) : Int) := by rw [wrap_i64] <;> omega
          have e5 : IntKind.i64.wrap (((i + 1 : Nat) : Int) - 1) = (i : Int) := by rw [wrap_i64] <;> omega
          have hnx : cpS l k (i + 1) = if xat (cpS l k i).2 (k + (i + 1)) = xat (cpS l k i).2 (k + i) then cpS l k i else ((cpS l k i).1 + 1, (cpS l k i).2.set (cpS l k i).1 (xat (cpS l k i).2 (k + (i + 1)))) := rfl
          have hii : i < l.length - k := by omega
          generalize hkk2 : (cpS l k i).1 = k2 at hLk hnx ⊢
          generalize hL2 : (cpS l k i).2 = L at hLl hnx ⊢
          have e6 : IntKind.i64.wrap ((k2 : Int) + 1) = ((k2 + 1 : Nat) : Int) := by rw [wrap_i64] <;> omega
          have q1 := xat_get (X := L) (i := k + (i + 1)) (by omega)
          have q0 := xat_get (X := L) (i := k + i) (by omega)
          have hk2l : k2 < l.length := by omega
          have hk2l' : k2 < L.length := by omega
          have q2 := xat_get (X := L) (i := k2) hk2l'
          by_cases hne : xat L (k + (i + 1)) = xat L (k + i)
          · rw [if_pos hne] at hnx
            rw [hne] at q1
            simp +contextual -implicitDefEqProofs (maxSteps := 1000000) only [sm, sn, sxx, seval, hil', hil, hii, e4, e5, q0, q1]
            refine ⟨i + 1, by omega, by omega, [0], by decide, rfl, ?_, ?_⟩
            · simp +contextual -implicitDefEqProofs (maxSteps := 1000000) only [sm, sn, sxx, seval, hnx, hkk2, hL2]
            · simp +contextual -implicitDefEqProofs (maxSteps := 1000000) only [sm, sn, sxx, seval, hnx, hkk2, hL2]
          · rw [if_neg hne] at hnx
            simp +contextual -implicitDefEqProofs (maxSteps := 1000000) only [sm, sn, sxx, seval, hil', hil, hii, e4, e5, e6, q0, q1, q2, hne, hk2l, hk2l', set_I]
            refine ⟨i + 1, by omega, by omega, [0], by decide, rfl, ?_, ?_⟩
            · simp +contextual -implicitDefEqProofs (maxSteps := 1000000) only [sm, sn, sxx, seval, hnx]
            · simp +contextual -implicitDefEqProofs (maxSteps := 1000000) only [sm, sn, sxx, seval, hnx]
        · have hin : i = l.length - k - 1 := by omega
          have hil' : ¬ ((i + 1 : Nat) : Int) < ((l.length - k : Nat) : Int) := by omega
          rw [← hin]
          generalize (cpS l k i).1 = k2 at hLk ⊢
          generalize (cpS l k i).2 = L at hLl ⊢
          have q1 : k2 ≤ l.length := by omega
          have q2 : k2 ≤ L.length := by omega
          have ht : List.take k2 (L.map eI) = (L.take k2).map eI := by rw [List.map_take]
          simp +contextual -implicitDefEqProofs (maxSteps := 1000000) only [sm, sn, sxx, seval, hil', q1, q2, ht, Nat.zero_le]
          refine ⟨[], [0], by decide, ?_⟩
          simp +contextual -implicitDefEqProofs (maxSteps := 1000000) only [sm, sn, sxx, seval]
          first | exact ⟨rfl, rfl⟩ | rfl
theorem compact_ctr (l : List Int) (hl : l.length ≤ 1000000000000) : ∃ L : List Int, Ctr Try.prog 106 [.sl 1 0 0 l.length] [some (1, l.map eI)] (.sl 1 0 0 L.length) [some (1, L.map eI)] ∧ (L.length = l.length ↔ ∀ k, ¬ adj l k) := by
  by_cases h : ∃ k, adj l k
  · obtain ⟨k0, ha, hno⟩ := least_of h
    have hc := compact_some l hl k0 ha hno
    have h1 := cpS_len l k0 (l.length - k0 - 1)
    have h2 := cpS_k l k0 (l.length - k0 - 1)
    obtain ⟨a1, a2, a3⟩ := ha
    have hlen : ((cpS l k0 (l.length - k0 - 1)).2.take (cpS l k0 (l.length - k0 - 1)).1).length = (cpS l k0 (l.length - k0 - 1)).1 := by rw [List.length_take]; omega
    refine ⟨_, by rw [hlen]; exact hc, ?_⟩
    rw [hlen]
    constructor
    · intro e; omega
    · intro hh; exact absurd ⟨a1, a2, a3⟩ (hh k0)
  · have hno : ∀ k, ¬ adj l k := fun k hk => h ⟨k, hk⟩
    exact ⟨l, compact_all l hl hno, by simp [hno]⟩
end Go.Proofs.Ytnhedjpghpdbdaa
