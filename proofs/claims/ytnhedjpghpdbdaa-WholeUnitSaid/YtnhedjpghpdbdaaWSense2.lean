/- What sense.asked.holds computes. -/
import Derived.Test.YtnhedjpghpdbdaaWSense1
namespace Go.Proofs.Ytnhedjpghpdbdaa
open Av
attribute [local irreducible] awp awpOpers
set_option linter.unusedSimpArgs false
set_option linter.unusedVariables false
set_option maxRecDepth 100000
set_option maxHeartbeats 4000000
theorem sense_holds_1 (n : Int) : Ctr Try.prog 67 [.int .i64 n] [] (.bool (decide (n = 1))) [] := by
  refine call_pure Try.func67 Try.call67 e_sense_asked_holds_1 ?_
  simp +contextual -implicitDefEqProofs (maxSteps := 1000000) only [c_sense_asked_holds_1, sm, sn, sxx, seval]
theorem sense_holds_2 (n : Int) : Ctr Try.prog 68 [.int .i64 n] [] (.bool (decide (n = 0))) [] := by
  refine call_pure Try.func68 Try.call68 e_sense_asked_holds_2 ?_
  simp +contextual -implicitDefEqProofs (maxSteps := 1000000) only [c_sense_asked_holds_2, sm, sn, sxx, seval]
theorem sense_holds (c : Con) (a : List Int) (hask : askdB c a = true) (hu : c.1 = 18 → Ctr Try.prog 74 [askP c (valsOf c.2.1 a)] [] (.bool (unlikeB (valsOf c.2.1 a))) []) :
    Ctr Try.prog 32 [askP c (valsOf c.2.1 a)] [] (.bool (holdsB c (valsOf c.2.1 a))) [] := by
  obtain ⟨f1, f2, f3, f4, f5, f6, f7, f8⟩ := askd_facts hask
  have htr := truth_facts (c := c) (a := a)
  have hsg := sign_facts (c := c) (a := a)
  have hps := pos_facts (c := c) (a := a)
  have hkin := kin_facts (c := c) (a := a)
  obtain ⟨K, X, A, C⟩ := c
  simp only at f1 f2 f3 f4 f5 f6 f7 f8 htr hsg hps hkin hu ⊢
  have hVl : (valsOf X a).length = X.length := vals_len X a
  replace htr := fun h => htr h hask
  replace hsg := fun h => hsg h hask
  replace hps := fun h => hps h hask
  replace hkin := fun h => (hkin h hask).2.1
  generalize valsOf X a = V at hVl f4 htr hkin hu ⊢
  have hk1 : 1 ≤ K := by
    unfold kindB at f8
    simp at f8
    omega
  have hk2 : K ≤ 19 := by
    unfold kindB at f8
    simp at f8
    omega
  have hcs : K ≤ 6 ∨ K = 7 ∨ K = 8 ∨ K = 9 ∨ K = 10 ∨ K = 11 ∨ K = 12 ∨ K = 13 ∨ K = 14 ∨ K = 15 ∨ K = 16 ∨ K = 17 ∨ K = 18 ∨ K = 19 := by omega
  have hAV : K ≤ 6 ∨ K = 11 → A.length ≤ V.length ∧ V.length ≤ A.length + 1 ∧ (4 ≤ K ∧ K ≤ 6 → 0 < V.length) ∧ (K = 11 → V.length ≤ A.length) := by
    intro h
    have : K = 1 ∨ K = 2 ∨ K = 3 ∨ K = 4 ∨ K = 5 ∨ K = 6 ∨ K = 11 := by omega
    rcases this with rfl | rfl | rfl | rfl | rfl | rfl | rfl <;> (simp [countsB, shp] at f7; omega)
  refine call_pure Try.func32 Try.call32 e_sense_asked_holds ?_
  rcases hcs with h6 | rfl | rfl | rfl | rfl | rfl | rfl | rfl | rfl | rfl | rfl | rfl | rfl | rfl
  · have hh : holdsB (K, X, A, C) V = linB K C (sumN A V A.length) (lastV V) := by unfold holdsB; rw [if_pos h6]
    obtain ⟨a1, a2, a3, a4⟩ := hAV (.inl h6)
    have n7 : ¬ K = 7 := by omega
    have n8 : ¬ K = 8 := by omega
    have n9 : ¬ K = 9 := by omega
    have n10 : ¬ K = 10 := by omega
    have n11 : ¬ K = 11 := by omega
    have n12 : ¬ K = 12 := by omega
    have n13 : ¬ K = 13 := by omega
    have n14 : ¬ K = 14 := by omega
    have n15 : ¬ K = 15 := by omega
    have n16 : ¬ K = 16 := by omega
    have n17 : ¬ K = 17 := by omega
    have n18 : ¬ K = 18 := by omega
    have n19 : ¬ K = 19 := by omega
    simp +contextual -implicitDefEqProofs (maxSteps := 1000000) only [c_sense_asked_holds, askP, sm, sn, sxx, seval, n7, n8, n9, n10, n11, n12, n13, n14, n15, n16, n17, n18, n19]
    refine callA_rule (sense_linear (K, X, A, C) V ⟨hk1, h6⟩ f1 a1 (by omega) f5 f4 fun h => ⟨a3 ⟨h, h6⟩, hkin ⟨h, h6⟩⟩) (by simp +contextual -implicitDefEqProofs (maxSteps := 1000000) only [sm, sn, sxx, seval, askP]) rfl ?_
    rw [hh]
    simp +contextual -implicitDefEqProofs (maxSteps := 1000000) only [sm, sn, sxx, seval]
  · have n3 : V.length = 3 := by simp [countsB, shp] at f7; omega
    have g0 : V[0]? = some (xat V 0) := xat_get (by omega)
    have g1 : V[1]? = some (xat V 1) := xat_get (by omega)
    have g2 : V[2]? = some (xat V 2) := xat_get (by omega)
    have b1 := mul_bound (sm_at f4 0) (sm_at f4 1)
    have w2 : IntKind.i64.wrap (xat V 0 * xat V 1) = xat V 0 * xat V 1 := by rw [wrap_i64] <;> omega
    simp +contextual -implicitDefEqProofs (maxSteps := 1000000) only [c_sense_asked_holds, askP, sm, sn, sxx, seval, g0, g1, g2, n3, w2]
    simp [holdsB]
  · have n3 : V.length = 3 := by simp [countsB, shp] at f7; omega
    have g0 : V[0]? = some (xat V 0) := xat_get (by omega)
    have g1 : V[1]? = some (xat V 1) := xat_get (by omega)
    have g2 : V[2]? = some (xat V 2) := xat_get (by omega)
    simp +contextual -implicitDefEqProofs (maxSteps := 1000000) only [c_sense_asked_holds, askP, sm, sn, sxx, seval, g0, g1, g2, n3]
    simp [holdsB]
  · have n3 : V.length = 3 := by simp [countsB, shp] at f7; omega
    have g0 : V[0]? = some (xat V 0) := xat_get (by omega)
    have g1 : V[1]? = some (xat V 1) := xat_get (by omega)
    have g2 : V[2]? = some (xat V 2) := xat_get (by omega)
    simp +contextual -implicitDefEqProofs (maxSteps := 1000000) only [c_sense_asked_holds, askP, sm, sn, sxx, seval, g0, g1, g2, n3]
    simp [holdsB]
  · have n3 : V.length = 2 := by simp [countsB, shp] at f7; omega
    have g0 : V[0]? = some (xat V 0) := xat_get (by omega)
    have g1 : V[1]? = some (xat V 1) := xat_get (by omega)
    have b1 := sm_at f4 0
    have w2 : IntKind.i64.wrap (0 - xat V 0) = -(xat V 0) := by rw [wrap_i64] <;> omega
    have w3 : IntKind.i64.wrap (-(xat V 0)) = -(xat V 0) := by rw [wrap_i64] <;> omega
    simp +contextual -implicitDefEqProofs (maxSteps := 1000000) only [c_sense_asked_holds, askP, sm, sn, sxx, seval, g0, g1, n3, w2, w3]
    simp [holdsB]
  · simp +contextual -implicitDefEqProofs (maxSteps := 1000000) only [c_sense_asked_holds, askP, sm, sn, sxx, seval]
    refine callA_rule (sense_clause (11, X, A, C) V (by omega) ((hAV (.inr rfl)).2.2.2 rfl) (hsg rfl) (htr ⟨by decide, by decide⟩)) (by simp +contextual -implicitDefEqProofs (maxSteps := 1000000) only [sm, sn, sxx, seval, askP]) rfl ?_
    simp +contextual -implicitDefEqProofs (maxSteps := 1000000) only [sm, sn, sxx, seval]
    simp [holdsB]
  · have hp : 0 < V.length := by simp [countsB, shp] at f7; omega
    simp +contextual -implicitDefEqProofs (maxSteps := 1000000) only [c_sense_asked_holds, askP, sm, sn, sxx, seval]
    refine callA_rule (sense_flag (12, X, A, C) V hp (by omega)) (by simp +contextual -implicitDefEqProofs (maxSteps := 1000000) only [sm, sn, sxx, seval, askP]) rfl ?_
    simp +contextual -implicitDefEqProofs (maxSteps := 1000000) only [sm, sn, sxx, seval]
    refine callA_rule (sense_rest (12, X, A, C) V hp (by omega)) (by simp +contextual -implicitDefEqProofs (maxSteps := 1000000) only [sm, sn, sxx, seval, askP]) rfl ?_
    simp +contextual -implicitDefEqProofs (maxSteps := 1000000) only [sm, sn, sxx, seval]
    refine callA_rule (contains_ints (V.take (V.length - 1)) (by rw [List.length_take]; omega) _ (fun n => decide (n = 0)) sense_holds_2) (by simp +contextual -implicitDefEqProofs (maxSteps := 1000000) only [sm, sn, sxx, seval, eIs]) rfl ?_
    have htl : (V.take (V.length - 1)).length = V.length - 1 := by rw [List.length_take]; omega
    have hcr := cnt_rest (V := V.take (V.length - 1)) fun k hk => by
      rw [htl] at hk
      rw [xat_take hk]
      exact htr ⟨by decide, by decide⟩ k (by omega)
    rw [htl] at hcr
    have hh : holdsB (12, X, A, C) V = (decide (lastV V = 1) == decide ((cntI (V.take (V.length - 1)) 1 : Int) = ((V.length - 1 : Nat) : Int))) := rfl
    rw [hh, hcr]
    generalize (V.take (V.length - 1)).any (fun v => decide (v = 0)) = b2
    generalize decide (lastV V = 1) = b1
    simp +contextual -implicitDefEqProofs (maxSteps := 1000000) only [sm, sn, sxx, seval]
    cases b1 <;> cases b2 <;> rfl
  · have hp : 0 < V.length := by simp [countsB, shp] at f7; omega
    simp +contextual -implicitDefEqProofs (maxSteps := 1000000) only [c_sense_asked_holds, askP, sm, sn, sxx, seval]
    refine callA_rule (sense_flag (13, X, A, C) V hp (by omega)) (by simp +contextual -implicitDefEqProofs (maxSteps := 1000000) only [sm, sn, sxx, seval, askP]) rfl ?_
    simp +contextual -implicitDefEqProofs (maxSteps := 1000000) only [sm, sn, sxx, seval]
    refine callA_rule (sense_rest (13, X, A, C) V hp (by omega)) (by simp +contextual -implicitDefEqProofs (maxSteps := 1000000) only [sm, sn, sxx, seval, askP]) rfl ?_
    simp +contextual -implicitDefEqProofs (maxSteps := 1000000) only [sm, sn, sxx, seval]
    refine callA_rule (contains_ints (V.take (V.length - 1)) (by rw [List.length_take]; omega) _ (fun n => decide (n = 1)) sense_holds_1) (by simp +contextual -implicitDefEqProofs (maxSteps := 1000000) only [sm, sn, sxx, seval, eIs]) rfl ?_
    have hh : holdsB (13, X, A, C) V = (decide (lastV V = 1) == decide (0 < (cntI (V.take (V.length - 1)) 1 : Int))) := rfl
    rw [hh, cnt_any]
    generalize (V.take (V.length - 1)).any (fun v => decide (v = 1)) = b2
    generalize decide (lastV V = 1) = b1
    simp +contextual -implicitDefEqProofs (maxSteps := 1000000) only [sm, sn, sxx, seval]
  · have n3 : V.length = 3 := by simp [countsB, shp] at f7; omega
    have g0 : V[0]? = some (xat V 0) := xat_get (by omega)
    have g1 : V[1]? = some (xat V 1) := xat_get (by omega)
    have g2 : V[2]? = some (xat V 2) := xat_get (by omega)
    have hl : lastV V = xat V 2 := by unfold lastV; rw [n3]
    simp +contextual -implicitDefEqProofs (maxSteps := 1000000) only [c_sense_asked_holds, askP, sm, sn, sxx, seval]
    refine callA_rule (sense_flag (14, X, A, C) V (by omega) (by omega)) (by simp +contextual -implicitDefEqProofs (maxSteps := 1000000) only [sm, sn, sxx, seval, askP]) rfl ?_
    rw [hl]
    simp +contextual -implicitDefEqProofs (maxSteps := 1000000) only [sm, sn, sxx, seval, g0, g1, n3]
    simp [holdsB]
  · have n3 : V.length = 2 := by simp [countsB, shp] at f7; omega
    have g0 : V[0]? = some (xat V 0) := xat_get (by omega)
    have g1 : V[1]? = some (xat V 1) := xat_get (by omega)
    simp +contextual -implicitDefEqProofs (maxSteps := 1000000) only [c_sense_asked_holds, askP, sm, sn, sxx, seval, g0, g1, n3]
    simp [holdsB]
  · have n3 : V.length = 2 := by simp [countsB, shp] at f7; omega
    have g0 : V[0]? = some (xat V 0) := xat_get (by omega)
    have g1 : V[1]? = some (xat V 1) := xat_get (by omega)
    have hl : lastV V = xat V 1 := by unfold lastV; rw [n3]
    simp +contextual -implicitDefEqProofs (maxSteps := 1000000) only [c_sense_asked_holds, askP, sm, sn, sxx, seval]
    refine callA_rule (sense_element (16, X, A, C) V A (by omega) (by omega) (by omega) (sm_at f4 0)) (by simp +contextual -implicitDefEqProofs (maxSteps := 1000000) only [sm, sn, sxx, seval, askP]) rfl ?_
    rw [hl]
    simp +contextual -implicitDefEqProofs (maxSteps := 1000000) only [sm, sn, sxx, seval]
    simp [holdsB]
  · have n3 : 3 ≤ V.length := by simp [countsB, shp] at f7; omega
    have htl : (V.take (V.length - 1)).length = V.length - 1 := by rw [List.length_take]; omega
    have hdl : ((V.take (V.length - 1)).drop 1).length = V.length - 2 := by rw [List.length_drop, htl]; omega
    have h1l : 1 ≤ V.length - 1 := by omega
    have hd1 : List.drop 1 (List.take (V.length - 1) ((V.take (V.length - 1)).map eI)) = ((V.take (V.length - 1)).drop 1).map eI := by rw [← List.map_take, List.take_take, Nat.min_self, List.map_drop]
    simp +contextual -implicitDefEqProofs (maxSteps := 1000000) only [c_sense_asked_holds, askP, sm, sn, sxx, seval]
    refine callA_rule (sense_rest (17, X, A, C) V (by omega) (by omega)) (by simp +contextual -implicitDefEqProofs (maxSteps := 1000000) only [sm, sn, sxx, seval, askP]) rfl ?_
    simp +contextual -implicitDefEqProofs (maxSteps := 1000000) only [sm, sn, sxx, seval, htl, h1l, hd1]
    refine callA_rule (sense_element (17, X, A, C) V ((V.take (V.length - 1)).drop 1) (by omega) (by omega) (by omega) (sm_at f4 0)) (by simp +contextual -implicitDefEqProofs (maxSteps := 1000000) only [sm, sn, sxx, seval, askP]) rfl ?_
    rw [hdl]
    have hh : holdsB (17, X, A, C) V = (decide (1 ≤ xat V 0) && decide (xat V 0 < ((V.length - 1 : Nat) : Int)) && decide (xat V (xat V 0).toNat = lastV V)) := rfl
    rw [hh]
    have heq : (decide (1 ≤ xat V 0) && decide (xat V 0 ≤ ((V.length - 2 : Nat) : Int)) && decide (xat ((V.take (V.length - 1)).drop 1) (xat V 0 - 1).toNat = lastV V)) = (decide (1 ≤ xat V 0) && decide (xat V 0 < ((V.length - 1 : Nat) : Int)) && decide (xat V (xat V 0).toNat = lastV V)) := by
      have e1 : decide (xat V 0 ≤ ((V.length - 2 : Nat) : Int)) = decide (xat V 0 < ((V.length - 1 : Nat) : Int)) := by
        rw [Bool.eq_iff_iff, decide_eq_true_eq, decide_eq_true_eq]; omega
      rw [e1]
      by_cases p1 : 1 ≤ xat V 0
      · by_cases p2 : xat V 0 < ((V.length - 1 : Nat) : Int)
        · have e2 : xat ((V.take (V.length - 1)).drop 1) (xat V 0 - 1).toNat = xat V (xat V 0).toNat := by
            obtain ⟨v, hv⟩ : ∃ v, xat V 0 = v := ⟨_, rfl⟩
            rw [hv] at p1 p2 ⊢
            unfold xat
            rw [List.getElem?_drop, List.getElem?_take, if_pos (by omega), show 1 + (v - 1).toNat = v.toNat by omega]
          rw [e2]
        · have : decide (xat V 0 < ((V.length - 1 : Nat) : Int)) = false := by simpa using p2
          rw [this]; simp
      · have : decide (1 ≤ xat V 0) = false := by simpa using p1
        rw [this]; rfl
    rw [heq]
    simp +contextual -implicitDefEqProofs (maxSteps := 1000000) only [sm, sn, sxx, seval]
  · simp +contextual -implicitDefEqProofs (maxSteps := 1000000) only [c_sense_asked_holds, askP, sm, sn, sxx, seval]
    refine callA_rule (hu rfl) (by simp +contextual -implicitDefEqProofs (maxSteps := 1000000) only [sm, sn, sxx, seval, askP]) rfl ?_
    simp +contextual -implicitDefEqProofs (maxSteps := 1000000) only [sm, sn, sxx, seval]
    simp [holdsB]
  · have hA2 : A.length = 2 * V.length := by simp [countsB, shp] at f7; omega
    simp +contextual -implicitDefEqProofs (maxSteps := 1000000) only [c_sense_asked_holds, askP, sm, sn, sxx, seval]
    refine callA_rule (sense_tasks (19, X, A, C) V (by omega) hA2 f5 f4 (hps rfl)) (by simp +contextual -implicitDefEqProofs (maxSteps := 1000000) only [sm, sn, sxx, seval, askP]) rfl ?_
    simp +contextual -implicitDefEqProofs (maxSteps := 1000000) only [sm, sn, sxx, seval]
    simp [holdsB]
theorem sense_Holds0 (c : Con) (a : List Int) (hA : c.2.2.1.length ≤ 1000000000000) (hX : c.2.1.length ≤ 1000000000000) (ha : a.length ≤ 1000000000000) (hu : c.1 = 18 → ∀ V : List Int, V.length ≤ 32 → Ctr Try.prog 74 [askP c V] [] (.bool (unlikeB V)) []) :
    Ctr Try.prog 12 [eCon c, eIs a] [] (.bool (askdB c a && holdsB c (valsOf c.2.1 a))) [] := by
  refine call_pure Try.func12 Try.call12 e_sense_Holds ?_
  have hcc := sense_ask c a hA hX ha
  have hh := fun hk : askdB c a = true => sense_holds c a hk (fun h => hu h _ (by rw [vals_len]; exact (askd_facts hk).2.1))
  have hP : askdB c a = true → (decide (c.2.1.length ≤ 32) && c.2.1.all (idx0 a)) = true := by
    intro h
    rw [← ask_eq, Bool.and_eq_true] at h
    exact h.1
  generalize holdsB c (valsOf c.2.1 a) = hb at hh ⊢
  generalize hP0 : askP c (valsOf c.2.1 a) = P at hcc hh
  obtain ⟨K, X, A, C⟩ := c
  simp +contextual -implicitDefEqProofs (maxSteps := 1000000) only [c_sense_Holds, eCon, eIs, sm, sn, sxx, seval]
  refine callA_rule hcc (by simp +contextual -implicitDefEqProofs (maxSteps := 1000000) only [sm, sn, sxx, seval, eCon, eIs]) rfl ?_
  cases hask : askdB (K, X, A, C) a
  · split
    · subst hP0
      simp +contextual -implicitDefEqProofs (maxSteps := 1000000) only [sm, sn, sxx, seval, askP]
    · simp +contextual -implicitDefEqProofs (maxSteps := 1000000) only [sm, sn, sxx, seval]
  · rw [if_pos (hP hask)]
    subst hP0
    simp +contextual -implicitDefEqProofs (maxSteps := 1000000) only [sm, sn, sxx, seval, askP]
    refine callA_rule (hh hask) (by simp +contextual -implicitDefEqProofs (maxSteps := 1000000) only [sm, sn, sxx, seval, askP]) rfl ?_
    simp +contextual -implicitDefEqProofs (maxSteps := 1000000) only [sm, sn, sxx, seval]
def betterB (m : Mod) (a b : List Int) : Bool := modB m && decide (a.length = m.1.length) && decide (b.length = m.1.length) && (if m.2.2.1 = 1 then decide (xat a m.2.2.2.toNat < xat b m.2.2.2.toNat) else if m.2.2.1 = 2 then decide (xat b m.2.2.2.toNat < xat a m.2.2.2.toNat) else false)
end Go.Proofs.Ytnhedjpghpdbdaa
