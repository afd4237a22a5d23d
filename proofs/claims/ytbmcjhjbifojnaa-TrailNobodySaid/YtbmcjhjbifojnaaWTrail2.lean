/- What All and Push of trail.Store compute. -/
import Derived.Test.YtbmcjhjbifojnaaWTrail
import Derived.Test.YtbmcjhjbifojnaaWTrail0
namespace Go.Proofs.Ytbmcjhjbifojnaa
open Av
attribute [local irreducible] awp awpOpers
set_option linter.unusedSimpArgs false
set_option linter.unusedVariables false
set_option maxRecDepth 100000
set_option maxHeartbeats 4000000
theorem Get_at {d : List (List Rg)} {tr : List (Int × List Rg)} {lv : List Int} {ks : List Nat} {k : Nat} {r : List Rg} (hd : ∀ r ∈ d, r.length ≤ 1000000000000) (hr : d[k]? = some r) :
    Ctr Try.prog 26 [.ptr 5 0 0 0, .int .i64 k] (sB d tr lv ks) (eRgs r) (sB d tr lv ks) := by
  have h := Get_ctr d tr lv ks k hd
  have e1 : (if (0 : Int) ≤ (k : Int) then d.getD (k : Int).toNat [] else []) = r := by
    rw [if_pos (by omega), Int.toNat_natCast, List.getD_eq_getElem?_getD, hr]; rfl
  rwa [e1] at h
theorem All_ctr (d : List (List Rg)) (tr : List (Int × List Rg)) (lv : List Int) (ks : List Nat) (hd : ∀ r ∈ d, r.length ≤ 1000000000000) (hl : d.length ≤ 1000000000000) :
    Ctr Try.prog 22 [.ptr 5 0 0 0] (sB d tr lv ks) (eDoms d) (sB d tr lv ks) := by
  refine call_boxF Try.func22 Try.call22 e_trail_Store_All ?_
  simp +contextual -implicitDefEqProofs (maxSteps := 1000000) only [c_trail_Store_All, sB_eq, eDoms, sm, sn, sxx, smp, seval]
  refine callV_rule (Len_ctr d tr lv) ?_ rfl ?_
  · simp +contextual -implicitDefEqProofs (maxSteps := 1000000) only [sm, sn, sxx, smp, seval, sV_eq, flatL_Ent]
  simp +contextual -implicitDefEqProofs (maxSteps := 1000000) only [sm, sn, sxx, smp, seval]
  refine loop_ruleV [(3, 1)] (fun k : Nat => k ≤ d.length) (fun k => tm 18 [(0, .ptr 5 0 0 0), (3, .sl 1 5 0 k), (6, .int .i64 d.length), (7, .int .i64 k)]) (fun k => sB d tr lv ks ++ [some (1, (d.take k).map eRgs)]) (fun k => d.length - k) 0 (by simp +contextual -implicitDefEqProofs (maxSteps := 1000000) only [sm, sn, sxx, smp, seval]) (Nat.zero_le _) ⟨[0, 1, 2, 3, 4, 5], by decide, rfl, ?_, ?_⟩ ?_
  · simp +contextual -implicitDefEqProofs (maxSteps := 1000000) only [sm, sn, sxx, smp, seval, sB_eq, flatL_Ent]
  · simp +contextual -implicitDefEqProofs (maxSteps := 1000000) only [sm, sn, sxx, smp, seval, Int.natCast_zero, sB_eq, flatL_Ent]
  · intro k hk
    by_cases hlt : k < d.length
    · obtain ⟨r, hr⟩ : ∃ r, d[k]? = some r := ⟨_, List.getElem?_eq_getElem hlt⟩
      have hlt' : (k : Int) < (d.length : Int) := by omega
      have e2 : IntKind.i64.wrap ((k : Int) + 1) = ((k + 1 : Nat) : Int) := by rw [wrap_i64] <;> omega
      have htk : d.take k ++ [r] = d.take (k + 1) := by rw [List.take_add_one, hr]; rfl
      have htl : (d.take k).length = k := by rw [List.length_take]; omega
      have c1 : (k + 1) * 24 ≤ 140737488355328 := by omega
      have c2 : k + 1 ≤ maxLen := by unfold maxLen; omega
      simp +contextual -implicitDefEqProofs (maxSteps := 1000000) only [sm, sn, sxx, smp, seval, hlt', sB_eq]
      refine callM_rule [0, 1, 2, 3, 4] (Get_at (tr := tr) (lv := lv) (ks := ks) hd hr) (by decide) ?_ ?_ ?_ ?_ ?_ ?_
      · simp +contextual -implicitDefEqProofs (maxSteps := 1000000) only [sm, sn, sxx, smp, seval, sB_eq, flatL_Ent]
      · simp +contextual -implicitDefEqProofs (maxSteps := 1000000) only [sm, sn, sxx, smp, seval, sB_eq]
      · simp +contextual -implicitDefEqProofs (maxSteps := 1000000) only [sm, sn, sxx, smp, seval, sB_eq]
      · simp +contextual -implicitDefEqProofs (maxSteps := 1000000) only [sm, sn, sxx, smp, seval, sB_eq, eRgs]
      · simp +contextual -implicitDefEqProofs (maxSteps := 1000000) only [sm, sn, sxx, smp, seval, sB_eq, flatL_Ent]
      · simp +contextual -implicitDefEqProofs (maxSteps := 1000000) only [sm, sn, sxx, smp, seval, sB_eq, flatL_Ent, eRgs, htl, htk, c1, c2, e2]
        refine ⟨k + 1, by omega, by omega, [0, 1, 2, 3, 4, 6], by decide, rfl, ?_, ?_⟩
        · simp +contextual -implicitDefEqProofs (maxSteps := 1000000) only [sm, sn, sxx, smp, seval, sB_eq, flatL_Ent]
        · simp +contextual -implicitDefEqProofs (maxSteps := 1000000) only [sm, sn, sxx, smp, seval, sB_eq, flatL_Ent]
    · have hkn : k = d.length := by omega
      subst hkn
      simp +contextual -implicitDefEqProofs (maxSteps := 1000000) only [sm, sn, sxx, smp, seval, Int.lt_irrefl, sB_eq, h_normal, h_ret, List.take_length]
      refine ⟨[0, 1, 2, 3, 4], by decide, rfl, ?_, ?_⟩
      · simp +contextual -implicitDefEqProofs (maxSteps := 1000000) only [sm, sn, sxx, smp, seval, flatL_Ent]
      · simp +contextual -implicitDefEqProofs (maxSteps := 1000000) only [sm, sn, sxx, smp, seval, eDoms, killL]
/-- behind Push -/
theorem Push_ctr (d : List (List Rg)) (tr : List (Int × List Rg)) (lv : List Int) (ks : List Nat) (hl : lv.length < 512) (ht : tr.length ≤ 1000000000000) :
    Ctr Try.prog 15 [.ptr 5 0 0 0] (sB d tr lv ks) (.int .i64 0)
      [some (5, [.agg [.bool true, .sl 1 1 0 d.length, .sl 2 2 0 tr.length, .sl 1 5 0 (lv ++ [(tr.length : Int)]).length, .mp 4]]), some (1, d.map eRgs), some (2, tr.map eEnt), none, some (encK ks + 1, [.agg []]), some (1, (lv ++ [(tr.length : Int)]).map eI)] := by
  refine call_box Try.func15 Try.call15 e_trail_Store_Push ?_
  have h5 : ¬ (512 : Int) ≤ (lv.length : Int) := by omega
  have h5' : ¬ (lv.length : Int) ≥ 512 := by omega
  have c1 : (lv.length + 1) * 8 ≤ 140737488355328 := by omega
  have c2 : lv.length + 1 ≤ maxLen := by unfold maxLen; omega
  simp +contextual -implicitDefEqProofs (maxSteps := 1000000) only [c_trail_Store_Push, sB_eq, sm, sn, sxx, smp, seval]
  refine callV_rule (good_ctr true [.list 1 (d.map eRgs), .list 2 (tr.map eEnt), .list 1 (lv.map eI), .any]) ?_ rfl ?_
  · simp +contextual -implicitDefEqProofs (maxSteps := 1000000) only [sm, sn, sxx, smp, seval, flatL_Ent]
  simp +contextual -implicitDefEqProofs (maxSteps := 1000000) only [sm, sn, sxx, smp, seval, h5, h5', c1, c2]
  refine ⟨[], [0, 1, 2, 3, 4, 5], by decide, rfl, ?_⟩
  simp +contextual -implicitDefEqProofs (maxSteps := 1000000) only [sm, sn, sxx, smp, seval, flatL_Ent]
theorem Push_big (d : List (List Rg)) (tr : List (Int × List Rg)) (lv : List Int) (ks : List Nat) (hl : 512 ≤ lv.length) :
    Ctr Try.prog 15 [.ptr 5 0 0 0] (sB d tr lv ks) (.int .i64 3) (sB d tr lv ks) := by
  refine call_box Try.func15 Try.call15 e_trail_Store_Push ?_
  have h5 : (512 : Int) ≤ (lv.length : Int) := by omega
  have h5' : (lv.length : Int) ≥ 512 := by omega
  simp +contextual -implicitDefEqProofs (maxSteps := 1000000) only [c_trail_Store_Push, sB_eq, sm, sn, sxx, smp, seval]
  refine callV_rule (good_ctr true [.list 1 (d.map eRgs), .list 2 (tr.map eEnt), .list 1 (lv.map eI), .any]) ?_ rfl ?_
  · simp +contextual -implicitDefEqProofs (maxSteps := 1000000) only [sm, sn, sxx, smp, seval, flatL_Ent]
  simp +contextual -implicitDefEqProofs (maxSteps := 1000000) only [sm, sn, sxx, smp, seval, h5, h5']
  refine ⟨[], [0, 1, 2, 3, 4], by decide, rfl, ?_⟩
  simp +contextual -implicitDefEqProofs (maxSteps := 1000000) only [sm, sn, sxx, smp, seval, flatL_Ent]
theorem Push_nil : Ctr Try.prog 15 [.nilp] [] (.int .i64 1) [] := by
  refine call_pure Try.func15 Try.call15 e_trail_Store_Push ?_
  simp +contextual -implicitDefEqProofs (maxSteps := 1000000) only [c_trail_Store_Push, sm, sn, sxx, smp, seval]
  refine callV_rule good_nil ?_ rfl ?_
  · simp +contextual -implicitDefEqProofs (maxSteps := 1000000) only [sm, sn, sxx, smp, seval]
  simp +contextual -implicitDefEqProofs (maxSteps := 1000000) only [sm, sn, sxx, smp, seval]
end Go.Proofs.Ytbmcjhjbifojnaa
