/- SenseMoved. -/
import Derived.Test.YtfcphijidcfboaaWLaw11
import Derived.Test.YtfcphijidcfboaaWSenseU
namespace Go.Proofs.Ytfcphijidcfboaa
open Av
attribute [local irreducible] awp awpOpers
set_option linter.unusedSimpArgs false
set_option linter.unusedVariables false
set_option maxRecDepth 100000
set_option maxHeartbeats 4000000
/-- values of which the first k are moved -/
def mvR (b : Int) (a : List Int) (k : Nat) : List Int := (a.take k).map (moveV b) ++ a.drop k
theorem mvR_len (b : Int) (a : List Int) {k : Nat} (h : k ≤ a.length) : (mvR b a k).length = a.length := by unfold mvR; rw [List.length_append, List.length_map, List.length_take, List.length_drop]; omega
theorem mvR_zero (b : Int) (a : List Int) : mvR b a 0 = a := by unfold mvR; simp
theorem mvR_full (b : Int) (a : List Int) : mvR b a a.length = a.map (moveV b) := by unfold mvR; simp
theorem mvR_at {b : Int} {a : List Int} {k : Nat} {x : Int} (h : a[k]? = some x) : (mvR b a k)[k]? = some x := by
  have hi := (List.getElem?_eq_some_iff.1 h).1
  unfold mvR
  rw [List.getElem?_append_right (by rw [List.length_map, List.length_take]; omega), List.length_map, List.length_take, List.getElem?_drop, show k + (k - min k a.length) = k by omega]
  exact h
theorem mvR_set {b : Int} {a : List Int} {k : Nat} {x : Int} (h : a[k]? = some x) : (mvR b a k).set k (moveV b x) = mvR b a (k + 1) := by
  have hi := (List.getElem?_eq_some_iff.1 h).1
  unfold mvR
  rw [drop_at h, ← take_snoc h, List.map_append, List.set_append_right _ _ (by rw [List.length_map, List.length_take]; omega), List.length_map, List.length_take, show k - min k a.length = 0 by omega]
  simp
theorem mvR_same {b : Int} {a : List Int} {k : Nat} {x : Int} (h : a[k]? = some x) (hx : moveV b x = x) : mvR b a (k + 1) = mvR b a k := by
  rw [← mvR_set h, hx]
  have hg := mvR_at (b := b) h
  apply List.ext_getElem?
  intro j
  rw [List.getElem?_set]
  split
  · rename_i e; subst e
    rw [hg]
    split
    · rfl
    · rename_i hn; exact absurd (List.getElem?_eq_some_iff.1 hg).1 hn
  · rfl
theorem law_SenseMoved (c : Con) (a : List Int) (b : Int) : Ctr Try.prog 12 [eCon c, eIs a, .int .i64 b] [] (.bool true) [] := by
  refine call_pure Try.func12 Try.call12 e_law11_SenseMoved ?_
  have hcon : ∃ K X A G, c = (K, X, A, G) := ⟨c.1, c.2.1, c.2.2.1, c.2.2.2, rfl⟩
  obtain ⟨K, X, A, C, rfl⟩ := hcon
  simp +contextual -implicitDefEqProofs (maxSteps := 1000000) only [c_law11_SenseMoved, eCon, eIs, sm, sn, sxx, seval]
  refine callA_rule law11_alive (wkL_refl _) rfl ?_
  simp +contextual -implicitDefEqProofs (maxSteps := 1000000) only [sm, sn, sxx, seval, eCon, eIs]
  refine callA_rule (law11_Fits (K, X, A, C) a) (by simp +contextual -implicitDefEqProofs (maxSteps := 1000000) only [sm, sn, sxx, seval, eCon, eIs]) rfl ?_
  cases hFt : fits11 (K, X, A, C) a
  · simp +contextual -implicitDefEqProofs (maxSteps := 1000000) only [sm, sn, sxx, seval]
  obtain ⟨s1, s2, s3⟩ := fits11_facts hFt
  simp only at s1 s2
  by_cases hK : K = 18 ∨ K = 19
  rotate_left
  · have n1 : ¬ K = 18 := fun h => hK (.inl h)
    have n2 : ¬ K = 19 := fun h => hK (.inr h)
    simp +contextual -implicitDefEqProofs (maxSteps := 1000000) only [sm, sn, sxx, seval, n1, n2]
  have key : ∀ Q : Prop, (K = 18 → Q) → (¬ K = 18 → K = 19 → Q) → Q := fun Q h1 h2 => by
    by_cases h : K = 18
    · exact h1 h
    · exact h2 h (hK.resolve_left h)
  have hA := ref11_Asked (K, X, A, C) a (by simp only; omega) (by simp only; omega) (by omega)
  have h3 := sense_Holds (K, X, A, C) a (by simp only; omega) (by simp only; omega) (by omega)
  have hA2 := ref11_Asked (K, X, A, C) (a.map (moveV b)) (by simp only; omega) (by simp only; omega) (by rw [List.length_map]; omega)
  have h4 := sense_Holds (K, X, A, C) (a.map (moveV b)) (by simp only; omega) (by simp only; omega) (by rw [List.length_map]; omega)
  have hmv := move_holds (c := (K, X, A, C)) (a := a) (by_ := b) hK
  simp only at h3 h4 hmv
  clear hFt
  refine key _ ?_ ?_
  · intro hk
    subst hk
    cases hask : askdB (18, X, A, C) a
    · rw [hask] at hA
      simp +contextual -implicitDefEqProofs (maxSteps := 1000000) only [sm, sn, sxx, seval]
      refine callV_rule hA (by simp +contextual -implicitDefEqProofs (maxSteps := 1000000) only [sm, sn, sxx, seval, eCon, eIs]) rfl ?_
      simp +contextual -implicitDefEqProofs (maxSteps := 1000000) only [sm, sn, sxx, seval]
    rw [hask] at hA h3
    rw [hmv hask] at h4
    simp +contextual -implicitDefEqProofs (maxSteps := 1000000) only [sm, sn, sxx, seval]
    refine callV_rule hA (by simp +contextual -implicitDefEqProofs (maxSteps := 1000000) only [sm, sn, sxx, seval, eCon, eIs]) rfl ?_
    by_cases b0 : b < -1048576
    · simp +contextual -implicitDefEqProofs (maxSteps := 1000000) only [sm, sn, sxx, seval, b0]
    by_cases b1 : 1048576 < b
    · simp +contextual -implicitDefEqProofs (maxSteps := 1000000) only [sm, sn, sxx, seval, b0, b1]
    have c1 : a.length * 8 ≤ 140737488355328 := by omega
    have c2 : a.length ≤ maxLen := by unfold maxLen; omega
    simp +contextual -implicitDefEqProofs (maxSteps := 1000000) only [sm, sn, sxx, seval, b0, b1, c1, c2]
    refine loop_rule (fun k : Nat => k ≤ a.length) (fun k => tm 77 [(1, .list 1 (a.map eI)), (2, .int .i64 b), (3, .ptr 4 0 0 0), (7, .sl 1 1 0 a.length), (42, .int .i64 a.length), (43, .int .i64 k)])
      (fun k => [some (4, [.agg [.int .i64 18, .list 1 (X.map eI), .list 1 (A.map eI), .int .i64 C]]), some (1, (mvR b a k).map eI)]) (fun k => a.length - k) 0 (Nat.zero_le _) ⟨[0, 1], by decide, rfl, ?_, ?_⟩ ?_
    · simp +contextual -implicitDefEqProofs (maxSteps := 1000000) only [sm, sn, sxx, seval, eCon, eIs, mvR_zero]
    · simp +contextual -implicitDefEqProofs (maxSteps := 1000000) only [sm, sn, sxx, seval, Int.natCast_zero]
    intro k hk
    have hml := mvR_len b a hk
    by_cases hlt : k < a.length
    · have hlt' : (k : Int) < (a.length : Int) := by omega
      have e2 : IntKind.i64.wrap ((k : Int) + 1) = ((k + 1 : Nat) : Int) := by rw [wrap_i64] <;> omega
      obtain ⟨x, hx⟩ : ∃ r, a[k]? = some r := ⟨_, List.getElem?_eq_getElem hlt⟩
      have hg := mvR_at (b := b) hx
      have hs := mvR_set (b := b) hx
      by_cases x0 : -1048576 ≤ x
      · by_cases x1 : x ≤ 1048576
        · have hm : moveV b x = x + b := by unfold moveV; rw [if_pos ⟨x0, x1⟩]
          rw [hm] at hs
          have hs' : ((mvR b a k).map eI).set k (.int .i64 (x + b)) = (mvR b a (k + 1)).map eI := by rw [← hs, List.map_set]; rfl
          have w1 : IntKind.i64.wrap (x + b) = x + b := by rw [wrap_i64] <;> omega
          simp +contextual -implicitDefEqProofs (maxSteps := 1000000) only [sm, sn, sxx, seval, hlt', hlt, hg, x0, x1, w1, e2, hml, hs']
          refine ⟨k + 1, by omega, by omega, [0, 1], by decide, rfl, ?_, ?_⟩
          · simp +contextual -implicitDefEqProofs (maxSteps := 1000000) only [sm, sn, sxx, seval]
          · simp +contextual -implicitDefEqProofs (maxSteps := 1000000) only [sm, sn, sxx, seval]
        · have hsm := mvR_same (b := b) hx (by unfold moveV; rw [if_neg (fun h => x1 h.2)])
          simp +contextual -implicitDefEqProofs (maxSteps := 1000000) only [sm, sn, sxx, seval, hlt', hlt, hg, x0, x1, e2, hml]
          refine ⟨k + 1, by omega, by omega, [0, 1], by decide, rfl, ?_, ?_⟩
          · simp +contextual -implicitDefEqProofs (maxSteps := 1000000) only [sm, sn, sxx, seval, hsm]
          · simp +contextual -implicitDefEqProofs (maxSteps := 1000000) only [sm, sn, sxx, seval]
      · have hsm := mvR_same (b := b) hx (by unfold moveV; rw [if_neg (fun h => x0 h.1)])
        simp +contextual -implicitDefEqProofs (maxSteps := 1000000) only [sm, sn, sxx, seval, hlt', hlt, hg, x0, e2, hml]
        refine ⟨k + 1, by omega, by omega, [0, 1], by decide, rfl, ?_, ?_⟩
        · simp +contextual -implicitDefEqProofs (maxSteps := 1000000) only [sm, sn, sxx, seval, hsm]
        · simp +contextual -implicitDefEqProofs (maxSteps := 1000000) only [sm, sn, sxx, seval]
    · have hkn : k = a.length := by omega
      subst hkn
      rw [mvR_full] at hml ⊢
      have hll : (a.map (moveV b)).length = a.length := List.length_map _
      simp +contextual -implicitDefEqProofs (maxSteps := 1000000) only [sm, sn, sxx, seval, Int.lt_irrefl]
      have ht2 : List.take a.length ((a.map (moveV b)).map eI) = (a.map (moveV b)).map eI := by rw [← hll]; exact take_map _ _
      generalize a.map (moveV b) = a2 at hA2 h4 hll hml ht2 ⊢
      refine callV_rule hA2 (by simp +contextual -implicitDefEqProofs (maxSteps := 1000000) only [sm, sn, sxx, seval, eCon, eIs, hll, ht2]) rfl ?_
      cases hask2 : askdB (18, X, A, C) a2
      · simp +contextual -implicitDefEqProofs (maxSteps := 1000000) only [sm, sn, sxx, seval]
      rw [hask2] at h4
      generalize holdsB (18, X, A, C) (valsOf X a) = hb at h3 h4
      simp +contextual -implicitDefEqProofs (maxSteps := 1000000) only [sm, sn, sxx, seval]
      refine callV_rule h3 (by simp +contextual -implicitDefEqProofs (maxSteps := 1000000) only [sm, sn, sxx, seval, eCon, eIs]) rfl ?_
      simp +contextual -implicitDefEqProofs (maxSteps := 1000000) only [sm, sn, sxx, seval]
      refine callV_rule h4 (by simp +contextual -implicitDefEqProofs (maxSteps := 1000000) only [sm, sn, sxx, seval, eCon, eIs, hll, ht2]) rfl ?_
      cases hb <;> simp +contextual -implicitDefEqProofs (maxSteps := 1000000) only [sm, sn, sxx, seval, beq_tt, beq_ff]
  · intro _ hk
    subst hk
    cases hask : askdB (19, X, A, C) a
    · rw [hask] at hA
      simp +contextual -implicitDefEqProofs (maxSteps := 1000000) only [sm, sn, sxx, seval]
      refine callV_rule hA (by simp +contextual -implicitDefEqProofs (maxSteps := 1000000) only [sm, sn, sxx, seval, eCon, eIs]) rfl ?_
      simp +contextual -implicitDefEqProofs (maxSteps := 1000000) only [sm, sn, sxx, seval]
    rw [hask] at hA h3
    rw [hmv hask] at h4
    simp +contextual -implicitDefEqProofs (maxSteps := 1000000) only [sm, sn, sxx, seval]
    refine callV_rule hA (by simp +contextual -implicitDefEqProofs (maxSteps := 1000000) only [sm, sn, sxx, seval, eCon, eIs]) rfl ?_
    by_cases b0 : b < -1048576
    · simp +contextual -implicitDefEqProofs (maxSteps := 1000000) only [sm, sn, sxx, seval, b0]
    by_cases b1 : 1048576 < b
    · simp +contextual -implicitDefEqProofs (maxSteps := 1000000) only [sm, sn, sxx, seval, b0, b1]
    have c1 : a.length * 8 ≤ 140737488355328 := by omega
    have c2 : a.length ≤ maxLen := by unfold maxLen; omega
    simp +contextual -implicitDefEqProofs (maxSteps := 1000000) only [sm, sn, sxx, seval, b0, b1, c1, c2]
    refine loop_rule (fun k : Nat => k ≤ a.length) (fun k => tm 77 [(1, .list 1 (a.map eI)), (2, .int .i64 b), (3, .ptr 4 0 0 0), (7, .sl 1 1 0 a.length), (42, .int .i64 a.length), (43, .int .i64 k)])
      (fun k => [some (4, [.agg [.int .i64 19, .list 1 (X.map eI), .list 1 (A.map eI), .int .i64 C]]), some (1, (mvR b a k).map eI)]) (fun k => a.length - k) 0 (Nat.zero_le _) ⟨[0, 1], by decide, rfl, ?_, ?_⟩ ?_
    · simp +contextual -implicitDefEqProofs (maxSteps := 1000000) only [sm, sn, sxx, seval, eCon, eIs, mvR_zero]
    · simp +contextual -implicitDefEqProofs (maxSteps := 1000000) only [sm, sn, sxx, seval, Int.natCast_zero]
    intro k hk
    have hml := mvR_len b a hk
    by_cases hlt : k < a.length
    · have hlt' : (k : Int) < (a.length : Int) := by omega
      have e2 : IntKind.i64.wrap ((k : Int) + 1) = ((k + 1 : Nat) : Int) := by rw [wrap_i64] <;> omega
      obtain ⟨x, hx⟩ : ∃ r, a[k]? = some r := ⟨_, List.getElem?_eq_getElem hlt⟩
      have hg := mvR_at (b := b) hx
      have hs := mvR_set (b := b) hx
      by_cases x0 : -1048576 ≤ x
      · by_cases x1 : x ≤ 1048576
        · have hm : moveV b x = x + b := by unfold moveV; rw [if_pos ⟨x0, x1⟩]
          rw [hm] at hs
          have hs' : ((mvR b a k).map eI).set k (.int .i64 (x + b)) = (mvR b a (k + 1)).map eI := by rw [← hs, List.map_set]; rfl
          have w1 : IntKind.i64.wrap (x + b) = x + b := by rw [wrap_i64] <;> omega
          simp +contextual -implicitDefEqProofs (maxSteps := 1000000) only [sm, sn, sxx, seval, hlt', hlt, hg, x0, x1, w1, e2, hml, hs']
          refine ⟨k + 1, by omega, by omega, [0, 1], by decide, rfl, ?_, ?_⟩
          · simp +contextual -implicitDefEqProofs (maxSteps := 1000000) only [sm, sn, sxx, seval]
          · simp +contextual -implicitDefEqProofs (maxSteps := 1000000) only [sm, sn, sxx, seval]
        · have hsm := mvR_same (b := b) hx (by unfold moveV; rw [if_neg (fun h => x1 h.2)])
          simp +contextual -implicitDefEqProofs (maxSteps := 1000000) only [sm, sn, sxx, seval, hlt', hlt, hg, x0, x1, e2, hml]
          refine ⟨k + 1, by omega, by omega, [0, 1], by decide, rfl, ?_, ?_⟩
          · simp +contextual -implicitDefEqProofs (maxSteps := 1000000) only [sm, sn, sxx, seval, hsm]
          · simp +contextual -implicitDefEqProofs (maxSteps := 1000000) only [sm, sn, sxx, seval]
      · have hsm := mvR_same (b := b) hx (by unfold moveV; rw [if_neg (fun h => x0 h.1)])
        simp +contextual -implicitDefEqProofs (maxSteps := 1000000) only [sm, sn, sxx, seval, hlt', hlt, hg, x0, e2, hml]
        refine ⟨k + 1, by omega, by omega, [0, 1], by decide, rfl, ?_, ?_⟩
        · simp +contextual -implicitDefEqProofs (maxSteps := 1000000) only [sm, sn, sxx, seval, hsm]
        · simp +contextual -implicitDefEqProofs (maxSteps := 1000000) only [sm, sn, sxx, seval]
    · have hkn : k = a.length := by omega
      subst hkn
      rw [mvR_full] at hml ⊢
      have hll : (a.map (moveV b)).length = a.length := List.length_map _
      simp +contextual -implicitDefEqProofs (maxSteps := 1000000) only [sm, sn, sxx, seval, Int.lt_irrefl]
      have ht2 : List.take a.length ((a.map (moveV b)).map eI) = (a.map (moveV b)).map eI := by rw [← hll]; exact take_map _ _
      generalize a.map (moveV b) = a2 at hA2 h4 hll hml ht2 ⊢
      refine callV_rule hA2 (by simp +contextual -implicitDefEqProofs (maxSteps := 1000000) only [sm, sn, sxx, seval, eCon, eIs, hll, ht2]) rfl ?_
      cases hask2 : askdB (19, X, A, C) a2
      · simp +contextual -implicitDefEqProofs (maxSteps := 1000000) only [sm, sn, sxx, seval]
      rw [hask2] at h4
      generalize holdsB (19, X, A, C) (valsOf X a) = hb at h3 h4
      simp +contextual -implicitDefEqProofs (maxSteps := 1000000) only [sm, sn, sxx, seval]
      refine callV_rule h3 (by simp +contextual -implicitDefEqProofs (maxSteps := 1000000) only [sm, sn, sxx, seval, eCon, eIs]) rfl ?_
      simp +contextual -implicitDefEqProofs (maxSteps := 1000000) only [sm, sn, sxx, seval]
      refine callV_rule h4 (by simp +contextual -implicitDefEqProofs (maxSteps := 1000000) only [sm, sn, sxx, seval, eCon, eIs, hll, ht2]) rfl ?_
      cases hb <;> simp +contextual -implicitDefEqProofs (maxSteps := 1000000) only [sm, sn, sxx, seval, beq_tt, beq_ff]
end Go.Proofs.Ytfcphijidcfboaa
