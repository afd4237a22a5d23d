/- What the laws of layer 10 call: Fits, ints, get. -/
import Derived.Test.YtbmcjhjbifojnaaWRef10
import Derived.Test.YtbmcjhjbifojnaaCLaw10
namespace Go.Proofs.Ytbmcjhjbifojnaa
open Av
attribute [local irreducible] awp awpOpers
set_option linter.unusedSimpArgs false
set_option linter.unusedVariables false
set_option maxRecDepth 100000
set_option maxHeartbeats 4000000
def fitT (D : List (List Rg)) : Bool := decide (D.length ≤ 100) && D.all (fun r => decide (r.length ≤ 300))
theorem fitT_len {D : List (List Rg)} (h : fitT D = true) : D.length ≤ 100 ∧ ∀ r ∈ D, r.length ≤ 300 := by
  unfold fitT at h
  rw [Bool.and_eq_true] at h
  exact ⟨of_decide_eq_true h.1, fun r hr => of_decide_eq_true (List.all_eq_true.1 h.2 r hr)⟩
theorem law10_Fits (D : List (List Rg)) (hl : D.length ≤ 9223372036854775807) : Ctr Try.prog 8 [eDoms D] [] (.bool (fitT D)) [] := by
  refine call_pure Try.func8 Try.call8 e_law10_Fits ?_
  simp +contextual -implicitDefEqProofs (maxSteps := 1000000) only [c_law10_Fits, eDoms, sm, sn, sxx, smp, seval]
  refine loop_rule (fun k : Nat => k ≤ D.length ∧ k ≤ 100 ∧ (D.take k).all (fun r => decide (r.length ≤ 300)) = true) (fun k => tm 20 [(0, .list 1 (D.map eRgs)), (5, .int .i64 D.length), (6, .int .i64 k)]) (fun _ => []) (fun k => D.length - k) 0 ⟨Nat.zero_le _, by omega, by simp⟩ ⟨[], by decide, rfl, ?_, ?_⟩ ?_
  · simp +contextual -implicitDefEqProofs (maxSteps := 1000000) only [sm, sn, sxx, smp, seval]
  · simp +contextual -implicitDefEqProofs (maxSteps := 1000000) only [sm, sn, sxx, smp, seval, Int.natCast_zero]
  · rintro k ⟨hk, hk2, hok⟩
    by_cases hlt : k < D.length
    · obtain ⟨r, hr⟩ : ∃ r, D[k]? = some r := ⟨_, List.getElem?_eq_getElem hlt⟩
      have hlt' : (k : Int) < (D.length : Int) := by omega
      have htk : D.take (k + 1) = D.take k ++ [r] := by rw [List.take_add_one, hr]; rfl
      by_cases h1 : (100 : Int) ≤ (k : Int)
      · have hn : fitT D = false := by
          cases hf : fitT D with
          | false => rfl
          | true => have := (fitT_len hf).1; omega
        simp +contextual -implicitDefEqProofs (maxSteps := 1000000) only [sm, sn, sxx, smp, seval, hlt', hlt, h1, ge_iff_le, hn]
      · have e2 : IntKind.i64.wrap ((k : Int) + 1) = ((k + 1 : Nat) : Int) := by rw [wrap_i64] <;> omega
        by_cases h2 : (300 : Int) < (r.length : Int)
        · have hn : fitT D = false := by
            cases hf : fitT D with
            | false => rfl
            | true => have := (fitT_len hf).2 r (List.mem_of_getElem? hr); omega
          simp +contextual -implicitDefEqProofs (maxSteps := 1000000) only [sm, sn, sxx, smp, seval, hlt', hlt, h1, h2, ge_iff_le, gt_iff_lt, hr, hn]
        · simp +contextual -implicitDefEqProofs (maxSteps := 1000000) only [sm, sn, sxx, smp, seval, hlt', hlt, h1, h2, ge_iff_le, gt_iff_lt, hr, e2]
          refine ⟨k + 1, ⟨by omega, by omega, ?_⟩, by omega, [], by decide, rfl, ?_, ?_⟩
          · rw [htk, List.all_append, hok]; simp; omega
          · simp +contextual -implicitDefEqProofs (maxSteps := 1000000) only [sm, sn, sxx, smp, seval]
          · simp +contextual -implicitDefEqProofs (maxSteps := 1000000) only [sm, sn, sxx, smp, seval]
    · have hkn : k = D.length := by omega
      subst hkn
      rw [List.take_length] at hok
      have hn : fitT D = true := by
        unfold fitT
        rw [hok, decide_eq_true hk2]; rfl
      simp +contextual -implicitDefEqProofs (maxSteps := 1000000) only [sm, sn, sxx, smp, seval, Int.lt_irrefl, hn]
theorem law10_ints (a b : List Int) (ha : a.length ≤ 9223372036854775807) : Ctr Try.prog 19 [.list 1 (a.map eI), .list 1 (b.map eI)] [] (.bool (decide (a = b))) [] := by
  refine call_pure Try.func19 Try.call19 e_law10_ints ?_
  by_cases hn : a.length = b.length
  · have hn' : ((a.length : Int) = (b.length : Int)) = True := by simp [hn]
    simp +contextual -implicitDefEqProofs (maxSteps := 1000000) only [c_law10_ints, sm, sn, sxx, smp, seval, hn']
    refine loop_rule (fun k : Nat => k ≤ a.length ∧ ∀ j, j < k → a[j]? = b[j]?) (fun k => tm 26 [(0, .list 1 (a.map eI)), (1, .list 1 (b.map eI)), (12, .int .i64 a.length), (13, .int .i64 k)]) (fun _ => []) (fun k => a.length - k) 0 ⟨Nat.zero_le _, fun j hj => absurd hj (Nat.not_lt_zero _)⟩ ⟨[], by decide, rfl, ?_, ?_⟩ ?_
    · simp +contextual -implicitDefEqProofs (maxSteps := 1000000) only [sm, sn, sxx, smp, seval]
    · simp +contextual -implicitDefEqProofs (maxSteps := 1000000) only [sm, sn, sxx, smp, seval, Int.natCast_zero]
    · rintro k ⟨hk, hok⟩
      by_cases hlt : k < a.length
      · have hltb : k < b.length := by omega
        obtain ⟨x, hx⟩ : ∃ x, a[k]? = some x := ⟨_, List.getElem?_eq_getElem hlt⟩
        obtain ⟨y, hy⟩ : ∃ y, b[k]? = some y := ⟨_, List.getElem?_eq_getElem hltb⟩
        have hlt' : (k : Int) < (a.length : Int) := by omega
        have e2 : IntKind.i64.wrap ((k : Int) + 1) = ((k + 1 : Nat) : Int) := by rw [wrap_i64] <;> omega
        by_cases hxy : x = y
        · subst hxy
          simp +contextual -implicitDefEqProofs (maxSteps := 1000000) only [sm, sn, sxx, smp, seval, hlt', hlt, hltb, hx, hy, e2]
          refine ⟨k + 1, ⟨by omega, ?_⟩, by omega, [], by decide, rfl, ?_, ?_⟩
          · intro j hj
            rcases Nat.lt_succ_iff_lt_or_eq.1 hj with h | rfl
            · exact hok j h
            · rw [hx, hy]
          · simp +contextual -implicitDefEqProofs (maxSteps := 1000000) only [sm, sn, sxx, smp, seval]
          · simp +contextual -implicitDefEqProofs (maxSteps := 1000000) only [sm, sn, sxx, smp, seval]
        · have hab : decide (a = b) = false := by
            rw [decide_eq_false_iff_not]
            rintro rfl
            rw [hx] at hy; injection hy with hy; exact hxy hy
          simp +contextual -implicitDefEqProofs (maxSteps := 1000000) only [sm, sn, sxx, smp, seval, hlt', hlt, hltb, hx, hy, hxy, hab]
      · have hkn : k = a.length := by omega
        subst hkn
        have hab : decide (a = b) = true := by
          rw [decide_eq_true_eq]
          apply List.ext_getElem?
          intro j
          by_cases hj : j < a.length
          · exact hok j hj
          · rw [List.getElem?_eq_none (by omega), List.getElem?_eq_none (by omega)]
        simp +contextual -implicitDefEqProofs (maxSteps := 1000000) only [sm, sn, sxx, smp, seval, Int.lt_irrefl, hab]
  · have hn' : ((a.length : Int) = (b.length : Int)) = False := by simp only [eq_iff_iff, iff_false]; omega
    have hab : decide (a = b) = false := by
      rw [decide_eq_false_iff_not]
      rintro rfl
      exact hn rfl
    simp +contextual -implicitDefEqProofs (maxSteps := 1000000) only [c_law10_ints, sm, sn, sxx, smp, seval, hn', hab]
theorem law10_get (D : List (List Rg)) (W : List (List (List Rg))) (F : List Bool) (x : Int) : Ctr Try.prog 27 [eSt D W F, .int .i64 x] [] (eRgs (if 0 ≤ x then D.getD x.toNat [] else [])) [] := by
  refine call_pure Try.func27 Try.call27 e_law10_get ?_
  by_cases h1 : x < 0
  · have h0 : ¬ 0 ≤ x := by omega
    rw [if_neg h0]
    simp +contextual -implicitDefEqProofs (maxSteps := 1000000) only [c_law10_get, eSt_eq, eRgs, sm, sn, sxx, smp, seval, h1]
  · obtain ⟨n, rfl⟩ := Int.eq_ofNat_of_zero_le (show 0 ≤ x by omega)
    have h0 : (0 : Int) ≤ (n : Int) := by omega
    rw [if_pos h0, Int.toNat_natCast]
    by_cases h2 : (D.length : Int) ≤ (n : Int)
    · have e1 : D.getD n [] = [] := by rw [List.getD_eq_getElem?_getD, List.getElem?_eq_none (by omega)]; rfl
      rw [e1]
      simp +contextual -implicitDefEqProofs (maxSteps := 1000000) only [c_law10_get, eSt_eq, eRgs, sm, sn, sxx, smp, seval, h1, h2, ge_iff_le]
    · have hn : n < D.length := by omega
      obtain ⟨r, hr⟩ : ∃ r, D[n]? = some r := ⟨_, List.getElem?_eq_getElem hn⟩
      have e1 : D.getD n [] = r := by rw [List.getD_eq_getElem?_getD, hr]; rfl
      rw [e1]
      simp +contextual -implicitDefEqProofs (maxSteps := 1000000) only [c_law10_get, eSt_eq, eRgs, sm, sn, sxx, smp, seval, h1, h2, ge_iff_le, hn, hr, h0]
end Go.Proofs.Ytbmcjhjbifojnaa
