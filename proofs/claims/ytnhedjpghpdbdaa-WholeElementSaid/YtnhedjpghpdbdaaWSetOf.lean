/- What set.Of computes. -/
import Derived.Test.YtnhedjpghpdbdaaGSet
import Derived.Test.YtnhedjpghpdbdaaWSortF
import Derived.Test.YtnhedjpghpdbdaaPlMrg
import Derived.Test.YtnhedjpghpdbdaaPlMod
import Derived.Test.YtnhedjpghpdbdaaCSetOf
namespace Go.Proofs.Ytnhedjpghpdbdaa
open Av
attribute [local irreducible] awp awpOpers
set_option linter.unusedSimpArgs false
set_option linter.unusedVariables false
set_option maxRecDepth 100000
set_option maxHeartbeats 4000000
set_option maxHeartbeats 1000000 in
theorem of_cmp : SortCmp 118 := by
  intro x y W
  have hcon := fun W' => cmp_old x.1 y.1 W'
  unfold cmpF
  generalize cmpL x.1 y.1 = r at hcon ⊢
  go_enter Try.func118, Try.ntmps118
  go_wp2_with (go_at_call 119; refine (hcon _).mono ?_; rintro e w' ⟨rfl, n1, rfl⟩)
  go_ret
  refine ⟨rfl, n1, #[Obj.cells #[.int .i64 x.1, .int .i64 x.2] 30 (0, 0)] ++ #[Obj.cells #[.int .i64 y.1, .int .i64 y.2] 30 (0, 0)], ?_⟩
  rw [Go.Sort.alloc_eq_grow, Go.Sort.alloc_eq_grow, Go.Sort.grow_grow]
  rfl
theorem set_Of (l : List Rg) (hl : l.length ≤ 1000000000000) (hg : ∀ r ∈ l, r.1 ≤ r.2 ∧ InR r) : Ctr Try.prog 80 [eRgs l] [] (.tuple [eRgs (mergeS (sortV l)), .int .i64 0]) [] := by
  refine call_pure Try.func80 Try.call80 e_set_Of ?_
  have hw : ∀ v, -1048576 ≤ v ∧ v ≤ 1048576 → withinB v = true := fun v h => (withinB_iff v).2 h
  simp +contextual -implicitDefEqProofs (maxSteps := 1000000) only [c_set_Of, eRgs, sm, sn, sxx, seval]
  refine loop_ruleV [(4, 2)] (fun k : Nat => k ≤ l.length) (fun k => tm 81 [(4, .sl 2 0 0 k), (11, .list 2 (l.map eRg)), (12, .int .i64 l.length), (13, .int .i64 k)]) (fun k => [some (2, (l.take k).map eRg)]) (fun k => l.length - k) 0 (by simp +contextual -implicitDefEqProofs (maxSteps := 1000000) only [sm, sn, sxx, seval]) (Nat.zero_le _) ⟨[0], by decide, rfl, ?_, ?_⟩ ?_
  · simp +contextual -implicitDefEqProofs (maxSteps := 1000000) only [sm, sn, sxx, seval]
  · simp +contextual -implicitDefEqProofs (maxSteps := 1000000) only [sm, sn, sxx, seval, Int.natCast_zero]
  intro k hk
  have htl : (l.take k).length = k := by rw [List.length_take]; omega
  by_cases hlt : k < l.length
  · have hlt' : (k : Int) < (l.length : Int) := by omega
    have e2 : IntKind.i64.wrap ((k : Int) + 1) = ((k + 1 : Nat) : Int) := by rw [wrap_i64] <;> omega
    obtain ⟨⟨lo, hi⟩, hr⟩ : ∃ r, l[k]? = some r := ⟨_, List.getElem?_eq_getElem hlt⟩
    obtain ⟨g1, g2⟩ := hg _ (List.mem_of_getElem? hr)
    unfold InR at g2
    simp only at g1 g2
    have n1 : ¬ hi < lo := by omega
    have hs := take_snoc hr
    have c1 : (k + 1) * 16 ≤ 140737488355328 := by omega
    have c2 : k + 1 ≤ maxLen := by unfold maxLen; omega
    have hsn : (l.take k).map eRg ++ [AV.agg [.int .i64 lo, .int .i64 hi]] = (l.take (k + 1)).map eRg := by rw [← hs]; simp [eRg]
    simp +contextual -implicitDefEqProofs (maxSteps := 1000000) only [sm, sn, sxx, seval, hlt', hr, n1, eRg]
    refine callA_rule (set_within lo) (wkL_refl _) rfl ?_
    rw [hw lo ⟨g2.1, g2.2.1⟩]
    simp +contextual -implicitDefEqProofs (maxSteps := 1000000) only [sm, sn, sxx, seval]
    refine callA_rule (set_within hi) (wkL_refl _) rfl ?_
    rw [hw hi ⟨g2.2.2.1, g2.2.2.2⟩]
    simp +contextual -implicitDefEqProofs (maxSteps := 1000000) only [sm, sn, sxx, seval, eRg, htl, c1, c2, hsn, e2]
    refine ⟨k + 1, by omega, by omega, [2], by decide, rfl, ?_, ?_⟩
    · simp +contextual -implicitDefEqProofs (maxSteps := 1000000) only [sm, sn, sxx, seval]
    · simp +contextual -implicitDefEqProofs (maxSteps := 1000000) only [sm, sn, sxx, seval]
  · have hkn : k = l.length := by omega
    subst hkn
    have hsl : (sortV l).length = l.length := (sortV_perm l).length_eq
    rw [List.take_length]
    simp +contextual -implicitDefEqProofs (maxSteps := 1000000) only [sm, sn, sxx, seval, Int.lt_irrefl]
    refine callM_rule [0] (sortf_ctr 118 Try.call118 of_cmp l (by omega)) (by decide) ?_ ?_ ?_ ?_ ?_ ?_
    · simp +contextual -implicitDefEqProofs (maxSteps := 1000000) only [sm, sn, sxx, seval]
    · simp +contextual -implicitDefEqProofs (maxSteps := 1000000) only [sm, sn, sxx, seval]
    · simp +contextual -implicitDefEqProofs (maxSteps := 1000000) only [sm, sn, sxx, seval]
    · simp +contextual -implicitDefEqProofs (maxSteps := 1000000) only [sm, sn, sxx, seval]
    · simp +contextual -implicitDefEqProofs (maxSteps := 1000000) only [sm, sn, sxx, seval]
    have hgs : ∀ r ∈ sortV l, InR r := fun r hr => (hg r ((sortV_perm l).mem_iff.1 hr)).2
    generalize sortV l = s at hsl hgs ⊢
    have hts : List.take l.length (s.map eRg) = s.map eRg := by rw [← hsl]; exact take_map _ _
    have hle : l.length ≤ s.length := by omega
    simp +contextual -implicitDefEqProofs (maxSteps := 1000000) only [sm, sn, sxx, seval, hsl]
    refine loop_freeze [41] ?_
    simp +contextual -implicitDefEqProofs (maxSteps := 1000000) only [sm, sn, sxx, seval, hsl, flatL_eRg, List.length_map, List.drop_zero, hts, hle]
    refine loop_ruleV [(7, 2)] (fun k : Nat => k ≤ s.length) (fun k => tm 81 [(7, .sl 2 0 0 (mrgK s k).length), (41, .list 2 (s.map eRg)), (42, .int .i64 s.length), (43, .int .i64 k)]) (fun k => [some (2, (mrgK s k).map eRg)]) (fun k => s.length - k) 0 (by simp +contextual -implicitDefEqProofs (maxSteps := 1000000) only [sm, sn, sxx, seval]) (Nat.zero_le _) ⟨[1], by decide, rfl, ?_, ?_⟩ ?_
    · simp +contextual -implicitDefEqProofs (maxSteps := 1000000) only [sm, sn, sxx, seval, mrgK, List.take_zero, List.foldl_nil]
    · simp +contextual -implicitDefEqProofs (maxSteps := 1000000) only [sm, sn, sxx, seval, Int.natCast_zero, mrgK, List.take_zero, List.foldl_nil, hsl]
    intro k hk
    obtain ⟨m1, m2⟩ := mrgK_in hgs k hk
    by_cases hlt : k < s.length
    · have hlt' : (k : Int) < (s.length : Int) := by omega
      have e2 : IntKind.i64.wrap ((k : Int) + 1) = ((k + 1 : Nat) : Int) := by rw [wrap_i64] <;> omega
      obtain ⟨⟨lo, hi⟩, hr⟩ : ∃ r, s[k]? = some r := ⟨_, List.getElem?_eq_getElem hlt⟩
      have hri := hgs _ (List.mem_of_getElem? hr)
      unfold InR at hri
      simp only at hri
      have hst := mrgK_step hr
      rcases List.eq_nil_or_concat (mrgK s k) with e | ⟨pre, ⟨p, q⟩, e⟩
      · rw [e, step_nil] at hst
        rw [e]
        have w0 : IntKind.i64.wrap (-1) = -1 := by rw [wrap_i64] <;> omega
        have w1 : IntKind.i64.wrap ((0 : Int) - 1) = -1 := by rw [wrap_i64] <;> omega
        have hst1 : (mrgK s (k + 1)).length = 1 := by rw [hst]; rfl
        have hsm : (mrgK s (k + 1)).map eRg = [.agg [.int .i64 lo, .int .i64 hi]] := by rw [hst]; rfl
        have z1 : ((([] : List Rg).length : Nat) : Int) = 0 := rfl
        have z2 : ¬ ((0 : Int) ≤ -1) := by omega
        have z3 : 1 ≤ maxLen := by unfold maxLen; omega
        simp +contextual -implicitDefEqProofs (maxSteps := 1000000) only [sm, sn, sxx, seval, hlt', hr, eRg, w0, w1, e2, z1, z2, z3]
        refine ⟨k + 1, by omega, by omega, [2], by decide, rfl, ?_, ?_⟩
        · simp +contextual -implicitDefEqProofs (maxSteps := 1000000) only [sm, sn, sxx, seval, hsm]
        · simp +contextual -implicitDefEqProofs (maxSteps := 1000000) only [sm, sn, sxx, seval, hst1]
      · try rw [List.concat_eq_append] at e
        rw [e, step_snoc] at hst
        have hq := m2 (p, q) (by rw [e]; simp)
        unfold InR at hq
        simp only at hq hst
        have hMl : (mrgK s k).length = pre.length + 1 := by rw [e]; simp
        have hMg : (mrgK s k)[pre.length]? = some (p, q) := by rw [e]; simp
        have hMs : ∀ y : Rg, (mrgK s k).set pre.length y = pre ++ [y] := by intro y; rw [e]; simp
        have hMa : ∀ y : Rg, mrgK s k ++ [y] = (pre ++ [(p, q)]) ++ [y] := by intro y; rw [e]
        have w0 : IntKind.i64.wrap (((pre.length + 1 : Nat) : Int) - 1) = (pre.length : Int) := by rw [wrap_i64] <;> omega
        have w1 : IntKind.i64.wrap (q + 1) = q + 1 := by rw [wrap_i64] <;> omega
        have hpl : pre.length < pre.length + 1 := by omega
        generalize mrgK s k = M at hMl hMg hMs hMa m1 m2 ⊢
        generalize pre.length = n at hMl hMg hMs hMa w0 hpl ⊢
        by_cases hc : lo ≤ q + 1
        · rw [if_pos hc] at hst
          have hsm : (M.map eRg).set n (.agg [.int .i64 p, .int .i64 (max q hi)]) = (mrgK s (k + 1)).map eRg := by
            rw [hst, ← hMs (p, max q hi), List.map_set]; rfl
          have hl2 : (mrgK s (k + 1)).length = n + 1 := by rw [hst, ← hMs (p, max q hi), List.length_set, hMl]
          simp +contextual -implicitDefEqProofs (maxSteps := 1000000) only [sm, sn, sxx, seval, hlt', hr, eRg, hMl, hMg, w0, w1, e2, hc, hpl, hsm]
          refine ⟨k + 1, by omega, by omega, [0], by decide, rfl, ?_, ?_⟩
          · simp +contextual -implicitDefEqProofs (maxSteps := 1000000) only [sm, sn, sxx, seval]
          · simp +contextual -implicitDefEqProofs (maxSteps := 1000000) only [sm, sn, sxx, seval, hl2]
        · rw [if_neg hc] at hst
          have hsm : M.map eRg ++ [AV.agg [.int .i64 lo, .int .i64 hi]] = (mrgK s (k + 1)).map eRg := by
            rw [hst, ← hMa (lo, hi), List.map_append]; rfl
          have hl2 : (mrgK s (k + 1)).length = n + 1 + 1 := by rw [hst, ← hMa (lo, hi), List.length_append, hMl]; rfl
          have c1 : (n + 1 + 1) * 16 ≤ 140737488355328 := by omega
          have c2 : n + 1 + 1 ≤ maxLen := by unfold maxLen; omega
          simp +contextual -implicitDefEqProofs (maxSteps := 1000000) only [sm, sn, sxx, seval, hlt', hr, eRg, hMl, hMg, w0, w1, e2, hc, hpl, hsm, c1, c2]
          refine ⟨k + 1, by omega, by omega, [2], by decide, rfl, ?_, ?_⟩
          · simp +contextual -implicitDefEqProofs (maxSteps := 1000000) only [sm, sn, sxx, seval]
          · simp +contextual -implicitDefEqProofs (maxSteps := 1000000) only [sm, sn, sxx, seval, hl2]
    · have hkn : k = s.length := by omega
      subst hkn
      rw [mrgK_full]
      have ht : List.take (mergeS s).length ((mergeS s).map eRg) = (mergeS s).map eRg := take_map _ _
      simp +contextual -implicitDefEqProofs (maxSteps := 1000000) only [sm, sn, sxx, seval, Int.lt_irrefl, ht]
end Go.Proofs.Ytnhedjpghpdbdaa
