/- What a store that no call made answers. -/
import Derived.Test.YtbmcjhjbifojnaaWTrail2
namespace Go.Proofs.Ytbmcjhjbifojnaa
open Av
attribute [local irreducible] awp awpOpers
set_option linter.unusedSimpArgs false
set_option linter.unusedVariables false
set_option maxRecDepth 100000
set_option maxHeartbeats 4000000
def noB : Bx := [some (5, [.agg [.bool false, .nils, .nils, .nils, .nilm]])]
theorem noB_eq : noB = some (5, [.agg [.bool false, .nils, .nils, .nils, .nilm]]) :: [] := rfl
theorem Get_nil (x : Int) : Ctr Try.prog 26 [.nilp, .int .i64 x] [] (eRgs []) [] := by
  refine call_pure Try.func26 Try.call26 e_trail_Store_Get ?_
  simp +contextual -implicitDefEqProofs (maxSteps := 1000000) only [c_trail_Store_Get, eRgs, sm, sn, sxx, smp, seval]
  refine callV_rule (has_nil x) ?_ rfl ?_
  · simp +contextual -implicitDefEqProofs (maxSteps := 1000000) only [sm, sn, sxx, smp, seval]
  simp +contextual -implicitDefEqProofs (maxSteps := 1000000) only [sm, sn, sxx, smp, seval]
theorem Get_no (x : Int) : Ctr Try.prog 26 [.ptr 5 0 0 0, .int .i64 x] noB (eRgs []) noB := by
  refine call_box Try.func26 Try.call26 e_trail_Store_Get ?_
  simp +contextual -implicitDefEqProofs (maxSteps := 1000000) only [c_trail_Store_Get, eRgs, noB_eq, sm, sn, sxx, smp, seval]
  refine callV_rule (has_no [.nils, .nils, .nils, .nilm] x) ?_ rfl ?_
  · simp +contextual -implicitDefEqProofs (maxSteps := 1000000) only [sm, sn, sxx, smp, seval]
  simp +contextual -implicitDefEqProofs (maxSteps := 1000000) only [sm, sn, sxx, smp, seval]
  refine ⟨[], [0], by decide, rfl, ?_⟩
  simp +contextual -implicitDefEqProofs (maxSteps := 1000000) only [sm, sn, sxx, smp, seval]
theorem Changed_nil : Ctr Try.prog 20 [.nilp] [] (.list 1 []) [] := by
  refine call_pure Try.func20 Try.call20 e_trail_Store_Changed ?_
  simp +contextual -implicitDefEqProofs (maxSteps := 1000000) only [c_trail_Store_Changed, sm, sn, sxx, smp, seval]
  refine callV_rule good_nil ?_ rfl ?_
  · simp +contextual -implicitDefEqProofs (maxSteps := 1000000) only [sm, sn, sxx, smp, seval]
  simp +contextual -implicitDefEqProofs (maxSteps := 1000000) only [sm, sn, sxx, smp, seval]
theorem Changed_no : Ctr Try.prog 20 [.ptr 5 0 0 0] noB (.list 1 []) noB := by
  refine call_box Try.func20 Try.call20 e_trail_Store_Changed ?_
  simp +contextual -implicitDefEqProofs (maxSteps := 1000000) only [c_trail_Store_Changed, noB_eq, sm, sn, sxx, smp, seval]
  refine callV_rule (good_ctr false [.nils, .nils, .nils, .nilm]) ?_ rfl ?_
  · simp +contextual -implicitDefEqProofs (maxSteps := 1000000) only [sm, sn, sxx, smp, seval]
  simp +contextual -implicitDefEqProofs (maxSteps := 1000000) only [sm, sn, sxx, smp, seval]
  refine ⟨[], [0], by decide, rfl, ?_⟩
  simp +contextual -implicitDefEqProofs (maxSteps := 1000000) only [sm, sn, sxx, smp, seval]
theorem Push_no : Ctr Try.prog 15 [.ptr 5 0 0 0] noB (.int .i64 1) noB := by
  refine call_box Try.func15 Try.call15 e_trail_Store_Push ?_
  simp +contextual -implicitDefEqProofs (maxSteps := 1000000) only [c_trail_Store_Push, noB_eq, sm, sn, sxx, smp, seval]
  refine callV_rule (good_ctr false [.nils, .nils, .nils, .nilm]) ?_ rfl ?_
  · simp +contextual -implicitDefEqProofs (maxSteps := 1000000) only [sm, sn, sxx, smp, seval]
  simp +contextual -implicitDefEqProofs (maxSteps := 1000000) only [sm, sn, sxx, smp, seval]
  refine ⟨[], [0], by decide, rfl, ?_⟩
  simp +contextual -implicitDefEqProofs (maxSteps := 1000000) only [sm, sn, sxx, smp, seval]
theorem Pop_no : Ctr Try.prog 17 [.ptr 5 0 0 0] noB (.int .i64 1) noB := by
  refine call_box Try.func17 Try.call17 e_trail_Store_Pop ?_
  simp +contextual -implicitDefEqProofs (maxSteps := 1000000) only [c_trail_Store_Pop, noB_eq, sm, sn, sxx, smp, seval]
  refine callV_rule (good_ctr false [.nils, .nils, .nils, .nilm]) ?_ rfl ?_
  · simp +contextual -implicitDefEqProofs (maxSteps := 1000000) only [sm, sn, sxx, smp, seval]
  simp +contextual -implicitDefEqProofs (maxSteps := 1000000) only [sm, sn, sxx, smp, seval]
  refine ⟨[], [0], by decide, rfl, ?_⟩
  simp +contextual -implicitDefEqProofs (maxSteps := 1000000) only [sm, sn, sxx, smp, seval]
theorem Narrow_no (x : Int) (D : List Rg) : Ctr Try.prog 12 [.ptr 5 0 0 0, .int .i64 x, eRgs D] noB (.tuple [.bool false, .int .i64 1]) noB := by
  refine call_box Try.func12 Try.call12 e_trail_Store_Narrow ?_
  simp +contextual -implicitDefEqProofs (maxSteps := 1000000) only [c_trail_Store_Narrow, eRgs, noB_eq, sm, sn, sxx, smp, seval]
  refine callV_rule (good_ctr false [.nils, .nils, .nils, .nilm]) ?_ rfl ?_
  · simp +contextual -implicitDefEqProofs (maxSteps := 1000000) only [sm, sn, sxx, smp, seval]
  simp +contextual -implicitDefEqProofs (maxSteps := 1000000) only [sm, sn, sxx, smp, seval]
  refine ⟨[], [0], by decide, rfl, ?_⟩
  simp +contextual -implicitDefEqProofs (maxSteps := 1000000) only [sm, sn, sxx, smp, seval]
theorem All_nil : Ctr Try.prog 22 [.nilp] [] (eDoms []) [] := by
  refine call_pure Try.func22 Try.call22 e_trail_Store_All ?_
  simp +contextual -implicitDefEqProofs (maxSteps := 1000000) only [c_trail_Store_All, eDoms, sm, sn, sxx, smp, seval]
  refine callV_rule Len_nil ?_ rfl ?_
  · simp +contextual -implicitDefEqProofs (maxSteps := 1000000) only [sm, sn, sxx, smp, seval]
  simp +contextual -implicitDefEqProofs (maxSteps := 1000000) only [sm, sn, sxx, smp, seval]
  refine loop_ruleV [(3, 1)] (fun k : Nat => k = 0) (fun k => tm 18 [(0, .nilp), (3, .sl 1 0 0 0), (6, .int .i64 0), (7, .int .i64 0)]) (fun k => [some (1, [])]) (fun k => k) 0 (by simp +contextual -implicitDefEqProofs (maxSteps := 1000000) only [sm, sn, sxx, smp, seval]) rfl ⟨[0], by decide, rfl, ?_, ?_⟩ ?_
  · simp +contextual -implicitDefEqProofs (maxSteps := 1000000) only [sm, sn, sxx, smp, seval]
  · simp +contextual -implicitDefEqProofs (maxSteps := 1000000) only [sm, sn, sxx, smp, seval]
  · rintro k rfl
    simp +contextual -implicitDefEqProofs (maxSteps := 1000000) only [sm, sn, sxx, smp, seval, Int.lt_irrefl]
theorem All_no : Ctr Try.prog 22 [.ptr 5 0 0 0] noB (eDoms []) noB := by
  refine call_boxF Try.func22 Try.call22 e_trail_Store_All ?_
  simp +contextual -implicitDefEqProofs (maxSteps := 1000000) only [c_trail_Store_All, eDoms, noB_eq, sm, sn, sxx, smp, seval]
  refine callV_rule (Len_no [.nils, .nils, .nils, .nilm]) ?_ rfl ?_
  · simp +contextual -implicitDefEqProofs (maxSteps := 1000000) only [sm, sn, sxx, smp, seval]
  simp +contextual -implicitDefEqProofs (maxSteps := 1000000) only [sm, sn, sxx, smp, seval]
  refine loop_ruleV [(3, 1)] (fun k : Nat => k = 0) (fun k => tm 18 [(0, .ptr 5 0 0 0), (3, .sl 1 1 0 0), (6, .int .i64 0), (7, .int .i64 0)]) (fun k => some (5, [.agg [.bool false, .nils, .nils, .nils, .nilm]]) :: [some (1, [])]) (fun k => k) 0 (by simp +contextual -implicitDefEqProofs (maxSteps := 1000000) only [sm, sn, sxx, smp, seval]) rfl ⟨[0, 1], by decide, rfl, ?_, ?_⟩ ?_
  · simp +contextual -implicitDefEqProofs (maxSteps := 1000000) only [sm, sn, sxx, smp, seval]
  · simp +contextual -implicitDefEqProofs (maxSteps := 1000000) only [sm, sn, sxx, smp, seval]
  · rintro k rfl
    simp +contextual -implicitDefEqProofs (maxSteps := 1000000) only [sm, sn, sxx, smp, seval, Int.lt_irrefl, h_normal, h_ret]
    refine ⟨[0], by decide, rfl, ?_, ?_⟩
    · simp +contextual -implicitDefEqProofs (maxSteps := 1000000) only [sm, sn, sxx, smp, seval]
    · simp +contextual -implicitDefEqProofs (maxSteps := 1000000) only [sm, sn, sxx, smp, seval, killL]
end Go.Proofs.Ytbmcjhjbifojnaa
