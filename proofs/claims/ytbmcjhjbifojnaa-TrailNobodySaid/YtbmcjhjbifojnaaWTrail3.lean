/- What Narrow of trail.Store computes. -/
import Derived.Test.YtbmcjhjbifojnaaWTrail2
namespace Go.Proofs.Ytbmcjhjbifojnaa
open Av
attribute [local irreducible] awp awpOpers
set_option linter.unusedSimpArgs false
set_option linter.unusedVariables false
set_option maxRecDepth 100000
set_option maxHeartbeats 4000000
theorem Narrow_nil (x : Int) (D : List Rg) : Ctr Try.prog 12 [.nilp, .int .i64 x, eRgs D] [] (.tuple [.bool false, .int .i64 1]) [] := by
  refine call_pure Try.func12 Try.call12 e_trail_Store_Narrow ?_
  simp +contextual -implicitDefEqProofs (maxSteps := 1000000) only [c_trail_Store_Narrow, eRgs, sm, sn, sxx, smp, seval]
  refine callV_rule good_nil ?_ rfl ?_
  · simp +contextual -implicitDefEqProofs (maxSteps := 1000000) only [sm, sn, sxx, smp, seval]
  simp +contextual -implicitDefEqProofs (maxSteps := 1000000) only [sm, sn, sxx, smp, seval]
section
variable (d : List (List Rg)) (tr : List (Int × List Rg)) (lv : List Int) (ks : List Nat)
theorem Narrow_arg (x : Int) (D : List Rg) (hD : D.length ≤ 1000000000000) (h : ¬ (0 ≤ x ∧ x < (d.length : Int)) ∨ rightB D = false) :
    Ctr Try.prog 12 [.ptr 5 0 0 0, .int .i64 x, eRgs D] (sB d tr lv ks) (.tuple [.bool false, .int .i64 2]) (sB d tr lv ks) := by
  refine call_box Try.func12 Try.call12 e_trail_Store_Narrow ?_
  simp +contextual -implicitDefEqProofs (maxSteps := 1000000) only [c_trail_Store_Narrow, sB_eq, eRgs, sm, sn, sxx, smp, seval]
  refine callV_rule (good_ctr true [.list 1 (d.map eRgs), .list 2 (tr.map eEnt), .list 1 (lv.map eI), .any]) ?_ rfl ?_
  · simp +contextual -implicitDefEqProofs (maxSteps := 1000000) only [sm, sn, sxx, smp, seval, flatL_Ent]
  simp +contextual -implicitDefEqProofs (maxSteps := 1000000) only [sm, sn, sxx, smp, seval]
  refine callV_rule (has_ctr d tr lv x) ?_ rfl ?_
  · simp +contextual -implicitDefEqProofs (maxSteps := 1000000) only [sm, sn, sxx, smp, seval, sV_eq, flatL_Ent]
  by_cases h1 : 0 ≤ x ∧ x < (d.length : Int)
  · rcases h with h | h
    · exact absurd h1 h
    · simp +contextual -implicitDefEqProofs (maxSteps := 1000000) only [sm, sn, sxx, smp, seval, h1]
      refine callA_rule (set_Right D hD) (wkL_refl _) rfl ?_
      simp +contextual -implicitDefEqProofs (maxSteps := 1000000) only [sm, sn, sxx, smp, seval, h]
      refine ⟨[], [0, 1, 2, 3, 4], by decide, rfl, ?_⟩
      simp +contextual -implicitDefEqProofs (maxSteps := 1000000) only [sm, sn, sxx, smp, seval, flatL_Ent]
  · simp +contextual -implicitDefEqProofs (maxSteps := 1000000) only [sm, sn, sxx, smp, seval, h1]
    refine ⟨[], [0, 1, 2, 3, 4], by decide, rfl, ?_⟩
    simp +contextual -implicitDefEqProofs (maxSteps := 1000000) only [sm, sn, sxx, smp, seval, flatL_Ent]
theorem Narrow_fail (n : Nat) (r D : List Rg) (hD : D.length ≤ 1000000000000) (hr : d[n]? = some r) (hrl : r.length ≤ 1000000000000) (hR : rightB D = true) (hm : meetS r D = []) :
    Ctr Try.prog 12 [.ptr 5 0 0 0, .int .i64 n, eRgs D] (sB d tr lv ks) (.tuple [.bool false, .int .i64 12]) (sB d tr lv ks) := by
  refine call_box Try.func12 Try.call12 e_trail_Store_Narrow ?_
  have hn : n < d.length := (List.getElem?_eq_some_iff.1 hr).1
  have hn' : (n : Int) < (d.length : Int) := by omega
  have h0 : (0 : Int) ≤ (n : Int) := by omega
  have hM := set_Meet r D hrl hD
  rw [hm] at hM
  simp +contextual -implicitDefEqProofs (maxSteps := 1000000) only [c_trail_Store_Narrow, sB_eq, eRgs, sm, sn, sxx, smp, seval]
  refine callV_rule (good_ctr true [.list 1 (d.map eRgs), .list 2 (tr.map eEnt), .list 1 (lv.map eI), .any]) ?_ rfl ?_
  · simp +contextual -implicitDefEqProofs (maxSteps := 1000000) only [sm, sn, sxx, smp, seval, flatL_Ent]
  simp +contextual -implicitDefEqProofs (maxSteps := 1000000) only [sm, sn, sxx, smp, seval]
  refine callV_rule (has_ctr d tr lv n) ?_ rfl ?_
  · simp +contextual -implicitDefEqProofs (maxSteps := 1000000) only [sm, sn, sxx, smp, seval, sV_eq, flatL_Ent]
  simp +contextual -implicitDefEqProofs (maxSteps := 1000000) only [sm, sn, sxx, smp, seval, h0, hn']
  refine callA_rule (set_Right D hD) (wkL_refl _) rfl ?_
  simp +contextual -implicitDefEqProofs (maxSteps := 1000000) only [sm, sn, sxx, smp, seval, hR, hn, hr]
  refine callA_rule hM (wkL_refl _) rfl ?_
  simp +contextual -implicitDefEqProofs (maxSteps := 1000000) only [sm, sn, sxx, smp, seval, eRgs, Int.natCast_zero]
  refine ⟨[], [0, 1, 2, 3, 4], by decide, rfl, ?_⟩
  simp +contextual -implicitDefEqProofs (maxSteps := 1000000) only [sm, sn, sxx, smp, seval, flatL_Ent]
theorem Narrow_same (n : Nat) (r D : List Rg) (hD : D.length ≤ 1000000000000) (hr : d[n]? = some r) (hrl : r.length ≤ 1000000000000) (hR : rightB D = true) (hm : meetS r D ≠ []) (hml : (meetS r D).length ≤ 1000000000000)
    (hs : (rightB (meetS r D) && decide (meetS r D = r)) = true) :
    Ctr Try.prog 12 [.ptr 5 0 0 0, .int .i64 n, eRgs D] (sB d tr lv ks) (.tuple [.bool false, .int .i64 0]) (sB d tr lv ks) := by
  refine call_box Try.func12 Try.call12 e_trail_Store_Narrow ?_
  have hn : n < d.length := (List.getElem?_eq_some_iff.1 hr).1
  have hn' : (n : Int) < (d.length : Int) := by omega
  have h0 : (0 : Int) ≤ (n : Int) := by omega
  have hM := set_Meet r D hrl hD
  have hS := set_Same (meetS r D) r hml
  rw [hs] at hS
  have hm0 : ¬ ((meetS r D).length : Int) = 0 := by
    intro h
    exact hm (List.eq_nil_of_length_eq_zero (by omega))
  clear hm hs
  generalize meetS r D = M at hM hS hm0
  simp +contextual -implicitDefEqProofs (maxSteps := 1000000) only [c_trail_Store_Narrow, sB_eq, eRgs, sm, sn, sxx, smp, seval]
  refine callV_rule (good_ctr true [.list 1 (d.map eRgs), .list 2 (tr.map eEnt), .list 1 (lv.map eI), .any]) ?_ rfl ?_
  · simp +contextual -implicitDefEqProofs (maxSteps := 1000000) only [sm, sn, sxx, smp, seval, flatL_Ent]
  simp +contextual -implicitDefEqProofs (maxSteps := 1000000) only [sm, sn, sxx, smp, seval]
  refine callV_rule (has_ctr d tr lv n) ?_ rfl ?_
  · simp +contextual -implicitDefEqProofs (maxSteps := 1000000) only [sm, sn, sxx, smp, seval, sV_eq, flatL_Ent]
  simp +contextual -implicitDefEqProofs (maxSteps := 1000000) only [sm, sn, sxx, smp, seval, h0, hn']
  refine callA_rule (set_Right D hD) (wkL_refl _) rfl ?_
  simp +contextual -implicitDefEqProofs (maxSteps := 1000000) only [sm, sn, sxx, smp, seval, hR, hn, hr]
  refine callA_rule hM (wkL_refl _) rfl ?_
  simp +contextual -implicitDefEqProofs (maxSteps := 1000000) only [sm, sn, sxx, smp, seval, eRgs, hm0]
  refine callA_rule hS (wkL_refl _) rfl ?_
  simp +contextual -implicitDefEqProofs (maxSteps := 1000000) only [sm, sn, sxx, smp, seval]
  refine ⟨[], [0, 1, 2, 3, 4], by decide, rfl, ?_⟩
  simp +contextual -implicitDefEqProofs (maxSteps := 1000000) only [sm, sn, sxx, smp, seval, flatL_Ent]
theorem Narrow_new0 (n : Nat) (r D : List Rg) (hD : D.length ≤ 1000000000000) (hr : d[n]? = some r) (hrl : r.length ≤ 1000000000000) (hR : rightB D = true) (hm : meetS r D ≠ []) (hml : (meetS r D).length ≤ 1000000000000)
    (hs : (rightB (meetS r D) && decide (meetS r D = r)) = false) :
    Ctr Try.prog 12 [.ptr 5 0 0 0, .int .i64 n, eRgs D] (sB d tr [] ks) (.tuple [.bool true, .int .i64 0]) (sB (d.set n (meetS r D)) tr [] (insS n ks)) := by
  refine call_box Try.func12 Try.call12 e_trail_Store_Narrow ?_
  have hn : n < d.length := (List.getElem?_eq_some_iff.1 hr).1
  have hn' : (n : Int) < (d.length : Int) := by omega
  have h0 : (0 : Int) ≤ (n : Int) := by omega
  have hM := set_Meet r D hrl hD
  have hS := set_Same (meetS r D) r hml
  rw [hs] at hS
  have hm0 : ¬ ((meetS r D).length : Int) = 0 := by
    intro h
    exact hm (List.eq_nil_of_length_eq_zero (by omega))
  clear hm hs
  generalize meetS r D = M at hM hS hm0 ⊢
  simp +contextual -implicitDefEqProofs (maxSteps := 1000000) only [c_trail_Store_Narrow, sB_eq, eRgs, sm, sn, sxx, smp, seval, List.length_set]
  refine callV_rule (good_ctr true [.list 1 (d.map eRgs), .list 2 (tr.map eEnt), .list 1 [], .any]) ?_ rfl ?_
  · simp +contextual -implicitDefEqProofs (maxSteps := 1000000) only [sm, sn, sxx, smp, seval, flatL_Ent]
  simp +contextual -implicitDefEqProofs (maxSteps := 1000000) only [sm, sn, sxx, smp, seval]
  refine callV_rule (has_ctr d tr [] n) ?_ rfl ?_
  · simp +contextual -implicitDefEqProofs (maxSteps := 1000000) only [sm, sn, sxx, smp, seval, sV_eq, flatL_Ent]
  simp +contextual -implicitDefEqProofs (maxSteps := 1000000) only [sm, sn, sxx, smp, seval, h0, hn']
  refine callA_rule (set_Right D hD) (wkL_refl _) rfl ?_
  simp +contextual -implicitDefEqProofs (maxSteps := 1000000) only [sm, sn, sxx, smp, seval, hR, hn, hr]
  refine callA_rule hM (wkL_refl _) rfl ?_
  simp +contextual -implicitDefEqProofs (maxSteps := 1000000) only [sm, sn, sxx, smp, seval, eRgs, hm0]
  refine callA_rule hS (wkL_refl _) rfl ?_
  simp +contextual -implicitDefEqProofs (maxSteps := 1000000) only [sm, sn, sxx, smp, seval, hn, hr, set_Rgs, h0, Int.natCast_zero, Int.lt_irrefl, gt_iff_lt]
  refine ⟨[], [0, 1, 2, 3, 4], by decide, rfl, ?_⟩
  simp +contextual -implicitDefEqProofs (maxSteps := 1000000) only [sm, sn, sxx, smp, seval, flatL_Ent]
theorem Narrow_new (n : Nat) (r D : List Rg) (hD : D.length ≤ 1000000000000) (hr : d[n]? = some r) (hrl : r.length ≤ 1000000000000) (hR : rightB D = true) (hm : meetS r D ≠ []) (hml : (meetS r D).length ≤ 1000000000000)
    (hs : (rightB (meetS r D) && decide (meetS r D = r)) = false) (hl : lv ≠ []) (ht : tr.length ≤ 1000000000000) :
    Ctr Try.prog 12 [.ptr 5 0 0 0, .int .i64 n, eRgs D] (sB d tr lv ks) (.tuple [.bool true, .int .i64 0])
      [some (5, [.agg [.bool true, .sl 1 1 0 (d.set n (meetS r D)).length, .sl 2 5 0 (tr ++ [((n : Int), r)]).length, .sl 1 3 0 lv.length, .mp 4]]), some (1, (d.set n (meetS r D)).map eRgs), none, some (1, lv.map eI), some (encK (insS n ks) + 1, [.agg []]), some (2, (tr ++ [((n : Int), r)]).map eEnt)] := by
  refine call_box Try.func12 Try.call12 e_trail_Store_Narrow ?_
  have hn : n < d.length := (List.getElem?_eq_some_iff.1 hr).1
  have hn' : (n : Int) < (d.length : Int) := by omega
  have h0 : (0 : Int) ≤ (n : Int) := by omega
  have hM := set_Meet r D hrl hD
  have hS := set_Same (meetS r D) r hml
  rw [hs] at hS
  have hm0 : ¬ ((meetS r D).length : Int) = 0 := by
    intro h
    exact hm (List.eq_nil_of_length_eq_zero (by omega))
  have hl0 : 0 < lv.length := List.length_pos_iff.2 hl
  have hl1 : (0 : Int) < (lv.length : Int) := by omega
  have c1 : (tr.length + 1) * 32 ≤ 140737488355328 := by omega
  have c2 : tr.length + 1 ≤ maxLen := by unfold maxLen; omega
  clear hm hs
  generalize meetS r D = M at hM hS hm0 ⊢
  simp +contextual -implicitDefEqProofs (maxSteps := 1000000) only [c_trail_Store_Narrow, sB_eq, eRgs, sm, sn, sxx, smp, seval, List.length_set]
  refine callV_rule (good_ctr true [.list 1 (d.map eRgs), .list 2 (tr.map eEnt), .list 1 (lv.map eI), .any]) ?_ rfl ?_
  · simp +contextual -implicitDefEqProofs (maxSteps := 1000000) only [sm, sn, sxx, smp, seval, flatL_Ent]
  simp +contextual -implicitDefEqProofs (maxSteps := 1000000) only [sm, sn, sxx, smp, seval]
  refine callV_rule (has_ctr d tr lv n) ?_ rfl ?_
  · simp +contextual -implicitDefEqProofs (maxSteps := 1000000) only [sm, sn, sxx, smp, seval, sV_eq, flatL_Ent]
  simp +contextual -implicitDefEqProofs (maxSteps := 1000000) only [sm, sn, sxx, smp, seval, h0, hn']
  refine callA_rule (set_Right D hD) (wkL_refl _) rfl ?_
  simp +contextual -implicitDefEqProofs (maxSteps := 1000000) only [sm, sn, sxx, smp, seval, hR, hn, hr]
  refine callA_rule hM (wkL_refl _) rfl ?_
  simp +contextual -implicitDefEqProofs (maxSteps := 1000000) only [sm, sn, sxx, smp, seval, eRgs, hm0]
  refine callA_rule hS (wkL_refl _) rfl ?_
  simp +contextual -implicitDefEqProofs (maxSteps := 1000000) only [sm, sn, sxx, smp, seval, hn, hr, set_Rgs, h0, hl1, gt_iff_lt, c1, c2, snoc_Ent]
  refine ⟨[], [0, 1, 2, 3, 4, 5], by decide, rfl, ?_⟩
  simp +contextual -implicitDefEqProofs (maxSteps := 1000000) only [sm, sn, sxx, smp, seval, flatL_Ent]
end
end Go.Proofs.Ytbmcjhjbifojnaa
