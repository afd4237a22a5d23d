/- What sense.ask computes. -/
import Derived.Test.YtnhedjpghpdbdaaWSense
import Derived.Test.YtnhedjpghpdbdaaTyU
namespace Go.Proofs.Ytnhedjpghpdbdaa
open Av
attribute [local irreducible] awp awpOpers
set_option linter.unusedSimpArgs false
set_option linter.unusedVariables false
set_option maxRecDepth 100000
set_option maxHeartbeats 4000000
theorem sense_ask (c : Con) (a : List Int) (hA : c.2.2.1.length ≤ 1000000000000) (hX : c.2.1.length ≤ 1000000000000) (ha : a.length ≤ 1000000000000) :
    Ctr Try.prog 31 [eCon c, eIs a] [] (.tuple [if decide (c.2.1.length ≤ 32) && c.2.1.all (idx0 a) then askP c (valsOf c.2.1 a) else .nilp, .bool (askdB c a)]) [] := by
  rw [← ask_eq]
  obtain ⟨K, X, A, C⟩ := c
  simp only at hA hX ⊢
  refine call_pure Try.func31 Try.call31 e_sense_ask ?_
  by_cases h2 : X.length ≤ 32
  rotate_left
  · have h2' : (32 : Int) < (X.length : Int) := by omega
    have h3 : decide (X.length ≤ 32) = false := by simpa using h2
    rw [h3]
    simp +contextual -implicitDefEqProofs (maxSteps := 1000000) only [c_sense_ask, eCon, eIs, sm, sn, sxx, seval, h2']
  have h2' : ¬ (32 : Int) < (X.length : Int) := by omega
  have h3 : decide (X.length ≤ 32) = true := by simpa using h2
  rw [h3, Bool.true_and]
  have hVl : (valsOf X a).length = X.length := vals_len X a
  have hM : oneM (K, X, A, C) (valsOf X a) = (oneD (valsOf X a), [(K, upN X.length, A, C)], 0, 0) := by unfold oneM; rw [hVl]
  rw [hM]
  have hDl : (oneD (valsOf X a)).length = X.length := by rw [oneD_len, hVl]
  have hUl := up_len X.length
  have hVk : ∀ (j : Nat) x, X[j]? = some x → (valsOf X a)[j]? = some (xat a x.toNat) := fun j x h => vals_get h
  have hDk : ∀ (j : Nat) x, X[j]? = some x → (oneD (valsOf X a))[j]? = some [(xat a x.toNat, xat a x.toNat)] := fun j x h => one_get (vals_get h)
  have hUk : ∀ j, j < X.length → (upN X.length)[j]? = some (j : Int) := fun j h => up_get h
  have hbd : ∀ d ∈ oneD (valsOf X a), d.length ≤ 1000000000000 := by
    intro d hd
    unfold oneD at hd
    obtain ⟨v, -, rfl⟩ := List.mem_map.1 hd
    simp
  generalize oneD (valsOf X a) = D at hDl hDk hbd ⊢
  generalize upN X.length = U at hUl hUk ⊢
  generalize valsOf X a = V at hVl hVk ⊢
  simp +contextual -implicitDefEqProofs (maxSteps := 1000000) only [c_sense_ask, eCon, eIs, sm, sn, sxx, seval, h2']
  refine loop_ruleF [(1, 4, 1), (3, 0, 1), (2, 1, 1)] [] (fun k : Nat => k ≤ X.length ∧ ∀ (j : Nat) x, j < k → X[j]? = some x → idx0 a x = true) (fun k => tm 84 [(1, .list 1 (a.map eI)), (6, .ptr 5 1 0 0), (7, .ptr 4 3 0 0), (25, .list 1 (X.map eI)), (26, .int .i64 X.length), (27, .int .i64 k)])
    (fun k => [some (4, [eCon (K, X, A, C)]), some (5, [.agg [.int .i64 K, eIs X, eIs A, .int .i64 C, .sl 1 4 0 k]]), some (4, [.agg [.int .i64 K, .sl 1 6 0 k, eIs A, .int .i64 C]]), some (4, [.agg [.sl 1 5 0 k, .sl 4 2 0 1, .int .i64 0, .int .i64 0]]), some (1, (V.take k).map eI), some (1, (D.take k).map eRgs), some (1, (U.take k).map eI)])
    (fun k => X.length - k) 0 (by simp +contextual -implicitDefEqProofs (maxSteps := 1000000) only [sm, sn, sxx, seval, eCon, eIs]) rfl ⟨Nat.zero_le _, by omega⟩ ⟨[0, 1, 2, 3, 4, 5, 6], by decide, rfl, ?_, ?_⟩ ?_
  · simp +contextual -implicitDefEqProofs (maxSteps := 1000000) only [sm, sn, sxx, seval, eCon, eIs]
  · simp +contextual -implicitDefEqProofs (maxSteps := 1000000) only [sm, sn, sxx, seval, Int.natCast_zero]
  · rintro k ⟨hk, hok⟩
    have hkV : (V.take k).length = k := by rw [List.length_take]; omega
    have hkD : (D.take k).length = k := by rw [List.length_take]; omega
    have hkU : (U.take k).length = k := by rw [List.length_take]; omega
    by_cases hlt : k < X.length
    · have hlt' : (k : Int) < (X.length : Int) := by omega
      have e2 : IntKind.i64.wrap ((k : Int) + 1) = ((k + 1 : Nat) : Int) := by rw [wrap_i64] <;> omega
      obtain ⟨x, hx⟩ : ∃ r, X[k]? = some r := ⟨_, List.getElem?_eq_getElem hlt⟩
      by_cases x0 : x < 0
      · rw [listall_no hx (p := idx0 a) (by simp [idx0]; omega)]
        simp +contextual -implicitDefEqProofs (maxSteps := 1000000) only [sm, sn, sxx, seval, eCon, eIs, hlt', hx, x0]
      by_cases x1 : (a.length : Int) ≤ x
      · rw [listall_no hx (p := idx0 a) (by simp [idx0]; omega)]
        simp +contextual -implicitDefEqProofs (maxSteps := 1000000) only [sm, sn, sxx, seval, eCon, eIs, hlt', hx, x0, x1]
      have x0' : 0 ≤ x := by omega
      have x1' : x < (a.length : Int) := by omega
      have hv : a[x.toNat]? = some (xat a x.toNat) := xat_get (by omega)
      have hs0 := take_snoc (hVk k x hx)
      have hs1 := take_snoc (hDk k x hx)
      have hs2 := take_snoc (hUk k hlt)
      have c1 : (k + 1) * 24 ≤ 140737488355328 := by omega
      have c3 : (k + 1) * 8 ≤ 140737488355328 := by omega
      have c2 : k + 1 ≤ maxLen := by unfold maxLen; omega
      generalize xat a x.toNat = v at hv hs1 hs0
      have hone : (D.take k).map eRgs ++ [AV.list 2 [AV.agg [.int .i64 v, .int .i64 v]]] = (D.take (k + 1)).map eRgs := by rw [← hs1]; simp [eRgs, eRg]
      simp +contextual -implicitDefEqProofs (maxSteps := 1000000) only [sm, sn, sxx, seval, eCon, eIs, hlt', hlt, hx, hv, x0, x1, x0', x1', hkV, hkD, hkU, c1, c2, c3, hone, hs0, hs2, e2]
      refine ⟨k + 1, ⟨by omega, ?_⟩, by omega, [0, 1, 2, 3, 7, 8, 9], by decide, rfl, ?_, ?_⟩
      · intro j y hj hy
        rcases Nat.lt_succ_iff_lt_or_eq.1 hj with h | rfl
        · exact hok j y h hy
        · rw [hx] at hy; injection hy with hy; subst hy
          simp [idx0, x0', x1']
      · simp +contextual -implicitDefEqProofs (maxSteps := 1000000) only [sm, sn, sxx, seval, eCon, eIs]
      · simp +contextual -implicitDefEqProofs (maxSteps := 1000000) only [sm, sn, sxx, seval]
    · have hkn : k = X.length := by omega
      subst hkn
      rw [listall_yes hok]
      have t2 : V.take X.length = V := by rw [← hVl, List.take_length]
      have t0 : D.take X.length = D := by rw [← hDl, List.take_length]
      have t1 : U.take X.length = U := by rw [← hUl, List.take_length]
      rw [t0, t1, t2]
      simp +contextual -implicitDefEqProofs (maxSteps := 1000000) only [sm, sn, sxx, seval, eCon, eIs, Int.lt_irrefl]
      have u1 : (X.length ≤ D.length) = True := by rw [hDl]; simp
      have u2 : (X.length ≤ U.length) = True := by rw [hUl]; simp
      have u5 : (X.length ≤ V.length) = True := by rw [hVl]; simp
      have u3 : (D.map eRgs).take X.length = D.map eRgs := by rw [← List.map_take, t0]
      have u4 : (U.map eI).take X.length = U.map eI := by rw [← List.map_take, t1]
      have u6 : (V.map eI).take X.length = V.map eI := by rw [← List.map_take, t2]
      refine callV_rule (model_Right (D, [(K, U, A, C)], 0, 0) (by simp only; omega) hbd (by simp) (by intro c hc; rw [List.mem_singleton] at hc; subst hc; exact ⟨by simp only; omega, by simp only; omega⟩)) ?_ rfl ?_
      · simp +contextual -implicitDefEqProofs (maxSteps := 1000000) only [sm, sn, sxx, seval, eMod, eCon, eIs, eDoms, eCons, u1, u2, u3, u4]
      simp +contextual -implicitDefEqProofs (maxSteps := 1000000) only [sm, sn, sxx, seval, askP, eCon, eIs, u5, u6]
end Go.Proofs.Ytnhedjpghpdbdaa
