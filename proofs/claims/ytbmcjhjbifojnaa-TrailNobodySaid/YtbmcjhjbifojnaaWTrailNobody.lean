/- The law TrailNobody. -/
import Derived.Test.YtbmcjhjbifojnaaWTrail8
import Derived.Test.YtbmcjhjbifojnaaWTrail9
import Derived.Test.YtbmcjhjbifojnaaCLaw10N
namespace Go.Proofs.Ytbmcjhjbifojnaa
open Av
attribute [local irreducible] awp awpOpers
set_option linter.unusedSimpArgs false
set_option linter.unusedVariables false
set_option maxRecDepth 100000
set_option maxHeartbeats 4000000
theorem nb_get2 : Ctr Try.prog 26 [.ptr 5 0 0 0, .int .i64 0] (sB [[(2, 4)]] [] [] [0]) (.sl 2 5 0 1) (sB [[(2, 4)]] [] [] [0] ++ [some (2, [.agg [.int .i64 2, .int .i64 4]])]) := by
  have m1 : ([[(2, 4)]] : List (List Rg)).map eRgs = [.list 2 [.agg [.int .i64 2, .int .i64 4]]] := rfl
  refine call_box Try.func26 Try.call26 e_trail_Store_GetO ?_
  simp +contextual -implicitDefEqProofs (maxSteps := 1000000) only [c_trail_Store_GetO, sB_eq, m1, sm, sn, sxx, smp, seval]
  refine callV_rule (has_ctr [[(2, 4)]] [] [] 0) ?_ rfl ?_
  · simp +contextual -implicitDefEqProofs (maxSteps := 1000000) only [sm, sn, sxx, smp, seval, sV_eq, m1]
  simp +contextual -implicitDefEqProofs (maxSteps := 1000000) only [sm, sn, sxx, smp, seval]
  refine callO_rule (nb_cloneO [(2, 4)] (by simp)) rfl (wkL_refl _) rfl rfl ?_
  have m2 : ([(2, 4)] : List Rg).map eRg = [.agg [.int .i64 2, .int .i64 4]] := rfl
  simp +contextual -implicitDefEqProofs (maxSteps := 1000000) only [sm, sn, sxx, smp, seval, m2]
  refine ⟨[], [0, 1, 2, 3, 4, 5], by decide, rfl, ?_⟩
  simp +contextual -implicitDefEqProofs (maxSteps := 1000000) only [sm, sn, sxx, smp, seval]
theorem nb_alln : Ctr Try.prog 22 [.nilp] [] (.list 1 []) [] := All_nil
theorem nb_alle : Ctr Try.prog 22 [.ptr 5 0 0 0] noB (.list 1 []) noB := All_no
theorem nb_getn (x : Int) : Ctr Try.prog 26 [.nilp, .int .i64 x] [] (.list 2 []) [] := Get_nil x
theorem nb_gete (x : Int) : Ctr Try.prog 26 [.ptr 5 0 0 0, .int .i64 x] noB (.list 2 []) noB := Get_no x
theorem law_TrailNobody (a : Act10) (hk : 0 ≤ a.1 ∧ a.1 ≤ 255) :
    Ctr Try.prog 6 [eAct a] [] (.bool true) [] := by
  obtain ⟨k, x, V⟩ := a
  simp only at hk
  refine call_pure Try.func6 Try.call6 e_law10_TrailNobodyN ?_
  simp +contextual -implicitDefEqProofs (maxSteps := 1000000) only [c_law10_TrailNobodyN, eAct, eRgs, sm, sn, sxx, smp, seval]
  refine callA_rule law10_alive (wkL_refl _) rfl ?_
  by_cases hV : (300 : Int) < (V.length : Int)
  · simp +contextual -implicitDefEqProofs (maxSteps := 1000000) only [sm, sn, sxx, smp, seval, hV, gt_iff_lt]
  simp +contextual -implicitDefEqProofs (maxSteps := 1000000) only [sm, sn, sxx, smp, seval, hV, gt_iff_lt]
  refine loop_rule (fun k : Nat => k ≤ 2) (fun j => tm 128 [(1, .ptr 3 0 0 0), (20, .sl 1 2 0 2), (21, .int .i64 2), (22, .int .i64 j)]) (fun _ => [some (3, [.agg [.int .u8 k, .int .i64 x, .list 2 (V.map eRg)]]), some (5, [.agg [.bool false, .nils, .nils, .nils, .nilm]]), some (1, [.nilp, .ptr 5 1 0 0])]) (fun j => 2 - j) 0 (Nat.zero_le _) ⟨[0, 1, 2], by decide, rfl, ?_, ?_⟩ ?_
  · simp +contextual -implicitDefEqProofs (maxSteps := 1000000) only [sm, sn, sxx, smp, seval]
  · simp +contextual -implicitDefEqProofs (maxSteps := 1000000) only [sm, sn, sxx, smp, seval, Int.natCast_zero]
  · intro j hj
    have hVb : V.length ≤ 1000000000000 := by omega
    have w1 : IntKind.i64.wrap 1 = 1 := by decide
    have w2 : IntKind.i64.wrap 2 = 2 := by decide
    have hcs : j = 0 ∨ j = 1 ∨ j = 2 := by omega
    rcases hcs with rfl | rfl | rfl
    · simp +contextual -implicitDefEqProofs (maxSteps := 1000000) only [sm, sn, sxx, smp, seval, Int.natCast_zero]
      refine callM_rule [] (Narrow_nil x V) (by decide) ?_ ?_ ?_ ?_ ?_ ?_
      · simp +contextual -implicitDefEqProofs (maxSteps := 1000000) only [sm, sn, sxx, smp, seval, noB_eq, eRgs]
      · simp +contextual -implicitDefEqProofs (maxSteps := 1000000) only [sm, sn, sxx, smp, seval, noB_eq, eRgs]
      · simp +contextual -implicitDefEqProofs (maxSteps := 1000000) only [sm, sn, sxx, smp, seval, noB_eq, eRgs]
      · simp +contextual -implicitDefEqProofs (maxSteps := 1000000) only [sm, sn, sxx, smp, seval, noB_eq, eRgs]
      · simp +contextual -implicitDefEqProofs (maxSteps := 1000000) only [sm, sn, sxx, smp, seval, noB_eq, eRgs]
      simp +contextual -implicitDefEqProofs (maxSteps := 1000000) only [sm, sn, sxx, smp, seval, noB_eq, eRgs]
      refine callM_rule [] Push_nil (by decide) ?_ ?_ ?_ ?_ ?_ ?_
      · simp +contextual -implicitDefEqProofs (maxSteps := 1000000) only [sm, sn, sxx, smp, seval, noB_eq, eRgs]
      · simp +contextual -implicitDefEqProofs (maxSteps := 1000000) only [sm, sn, sxx, smp, seval, noB_eq, eRgs]
      · simp +contextual -implicitDefEqProofs (maxSteps := 1000000) only [sm, sn, sxx, smp, seval, noB_eq, eRgs]
      · simp +contextual -implicitDefEqProofs (maxSteps := 1000000) only [sm, sn, sxx, smp, seval, noB_eq, eRgs]
      · simp +contextual -implicitDefEqProofs (maxSteps := 1000000) only [sm, sn, sxx, smp, seval, noB_eq, eRgs]
      simp +contextual -implicitDefEqProofs (maxSteps := 1000000) only [sm, sn, sxx, smp, seval, noB_eq, eRgs]
      refine callM_rule [] Pop_nil (by decide) ?_ ?_ ?_ ?_ ?_ ?_
      · simp +contextual -implicitDefEqProofs (maxSteps := 1000000) only [sm, sn, sxx, smp, seval, noB_eq, eRgs]
      · simp +contextual -implicitDefEqProofs (maxSteps := 1000000) only [sm, sn, sxx, smp, seval, noB_eq, eRgs]
      · simp +contextual -implicitDefEqProofs (maxSteps := 1000000) only [sm, sn, sxx, smp, seval, noB_eq, eRgs]
      · simp +contextual -implicitDefEqProofs (maxSteps := 1000000) only [sm, sn, sxx, smp, seval, noB_eq, eRgs]
      · simp +contextual -implicitDefEqProofs (maxSteps := 1000000) only [sm, sn, sxx, smp, seval, noB_eq, eRgs]
      simp +contextual -implicitDefEqProofs (maxSteps := 1000000) only [sm, sn, sxx, smp, seval, noB_eq, eRgs]
      refine callV_rule Len_nil ?_ rfl ?_
      · simp +contextual -implicitDefEqProofs (maxSteps := 1000000) only [sm, sn, sxx, smp, seval]
      simp +contextual -implicitDefEqProofs (maxSteps := 1000000) only [sm, sn, sxx, smp, seval]
      refine callV_rule Level_nil ?_ rfl ?_
      · simp +contextual -implicitDefEqProofs (maxSteps := 1000000) only [sm, sn, sxx, smp, seval]
      simp +contextual -implicitDefEqProofs (maxSteps := 1000000) only [sm, sn, sxx, smp, seval]
      refine callO_rule (nb_getn x) rfl (wkL_refl _) rfl rfl ?_
      simp +contextual -implicitDefEqProofs (maxSteps := 1000000) only [sm, sn, sxx, smp, seval, List.length_nil, Int.natCast_zero]
      refine callO_rule nb_alln rfl (wkL_refl _) rfl rfl ?_
      simp +contextual -implicitDefEqProofs (maxSteps := 1000000) only [sm, sn, sxx, smp, seval, List.length_nil, Int.natCast_zero]
      refine callM_rule [] Changed_nil (by decide) ?_ ?_ ?_ ?_ ?_ ?_
      · simp +contextual -implicitDefEqProofs (maxSteps := 1000000) only [sm, sn, sxx, smp, seval, noB_eq, eRgs, List.length_nil, Int.natCast_zero, w1]
      · simp +contextual -implicitDefEqProofs (maxSteps := 1000000) only [sm, sn, sxx, smp, seval, noB_eq, eRgs, List.length_nil, Int.natCast_zero, w1]
      · simp +contextual -implicitDefEqProofs (maxSteps := 1000000) only [sm, sn, sxx, smp, seval, noB_eq, eRgs, List.length_nil, Int.natCast_zero, w1]
      · simp +contextual -implicitDefEqProofs (maxSteps := 1000000) only [sm, sn, sxx, smp, seval, noB_eq, eRgs, List.length_nil, Int.natCast_zero, w1]
      · simp +contextual -implicitDefEqProofs (maxSteps := 1000000) only [sm, sn, sxx, smp, seval, noB_eq, eRgs, List.length_nil, Int.natCast_zero, w1]
      simp +contextual -implicitDefEqProofs (maxSteps := 1000000) only [sm, sn, sxx, smp, seval, noB_eq, eRgs, List.length_nil, Int.natCast_zero, w1]
      refine ⟨1, by omega, by omega, [0, 1, 2], by decide, rfl, ?_, ?_⟩
      · simp +contextual -implicitDefEqProofs (maxSteps := 1000000) only [sm, sn, sxx, smp, seval]
      · simp +contextual -implicitDefEqProofs (maxSteps := 1000000) only [sm, sn, sxx, smp, seval]
    · have n1 : ((1 : Nat) : Int) = 1 := rfl
      simp +contextual -implicitDefEqProofs (maxSteps := 1000000) only [sm, sn, sxx, smp, seval, n1]
      refine callM_rule [1] (Narrow_no x V) (by decide) ?_ ?_ ?_ ?_ ?_ ?_
      · simp +contextual -implicitDefEqProofs (maxSteps := 1000000) only [sm, sn, sxx, smp, seval, noB_eq, eRgs]
      · simp +contextual -implicitDefEqProofs (maxSteps := 1000000) only [sm, sn, sxx, smp, seval, noB_eq, eRgs]
      · simp +contextual -implicitDefEqProofs (maxSteps := 1000000) only [sm, sn, sxx, smp, seval, noB_eq, eRgs]
      · simp +contextual -implicitDefEqProofs (maxSteps := 1000000) only [sm, sn, sxx, smp, seval, noB_eq, eRgs]
      · simp +contextual -implicitDefEqProofs (maxSteps := 1000000) only [sm, sn, sxx, smp, seval, noB_eq, eRgs]
      simp +contextual -implicitDefEqProofs (maxSteps := 1000000) only [sm, sn, sxx, smp, seval, noB_eq, eRgs]
      refine callM_rule [1] Push_no (by decide) ?_ ?_ ?_ ?_ ?_ ?_
      · simp +contextual -implicitDefEqProofs (maxSteps := 1000000) only [sm, sn, sxx, smp, seval, noB_eq, eRgs]
      · simp +contextual -implicitDefEqProofs (maxSteps := 1000000) only [sm, sn, sxx, smp, seval, noB_eq, eRgs]
      · simp +contextual -implicitDefEqProofs (maxSteps := 1000000) only [sm, sn, sxx, smp, seval, noB_eq, eRgs]
      · simp +contextual -implicitDefEqProofs (maxSteps := 1000000) only [sm, sn, sxx, smp, seval, noB_eq, eRgs]
      · simp +contextual -implicitDefEqProofs (maxSteps := 1000000) only [sm, sn, sxx, smp, seval, noB_eq, eRgs]
      simp +contextual -implicitDefEqProofs (maxSteps := 1000000) only [sm, sn, sxx, smp, seval, noB_eq, eRgs]
      refine callM_rule [1] Pop_no (by decide) ?_ ?_ ?_ ?_ ?_ ?_
      · simp +contextual -implicitDefEqProofs (maxSteps := 1000000) only [sm, sn, sxx, smp, seval, noB_eq, eRgs]
      · simp +contextual -implicitDefEqProofs (maxSteps := 1000000) only [sm, sn, sxx, smp, seval, noB_eq, eRgs]
      · simp +contextual -implicitDefEqProofs (maxSteps := 1000000) only [sm, sn, sxx, smp, seval, noB_eq, eRgs]
      · simp +contextual -implicitDefEqProofs (maxSteps := 1000000) only [sm, sn, sxx, smp, seval, noB_eq, eRgs]
      · simp +contextual -implicitDefEqProofs (maxSteps := 1000000) only [sm, sn, sxx, smp, seval, noB_eq, eRgs]
      simp +contextual -implicitDefEqProofs (maxSteps := 1000000) only [sm, sn, sxx, smp, seval, noB_eq, eRgs]
      refine callV_rule (Len_no [.nils, .nils, .nils, .nilm]) ?_ rfl ?_
      · simp +contextual -implicitDefEqProofs (maxSteps := 1000000) only [sm, sn, sxx, smp, seval]
      simp +contextual -implicitDefEqProofs (maxSteps := 1000000) only [sm, sn, sxx, smp, seval]
      refine callV_rule (Level_no [.nils, .nils, .nils, .nilm]) ?_ rfl ?_
      · simp +contextual -implicitDefEqProofs (maxSteps := 1000000) only [sm, sn, sxx, smp, seval]
      simp +contextual -implicitDefEqProofs (maxSteps := 1000000) only [sm, sn, sxx, smp, seval]
      refine callP_rule [1] (nb_gete x) (by decide) ?_ ?_ ?_ ?_ ?_ ?_ ?_
      · simp +contextual -implicitDefEqProofs (maxSteps := 1000000) only [sm, sn, sxx, smp, seval, noB_eq, eRgs, List.length_nil, Int.natCast_zero]
      · simp +contextual -implicitDefEqProofs (maxSteps := 1000000) only [sm, sn, sxx, smp, seval, noB_eq, eRgs, List.length_nil, Int.natCast_zero]
      · simp +contextual -implicitDefEqProofs (maxSteps := 1000000) only [sm, sn, sxx, smp, seval, noB_eq, eRgs, List.length_nil, Int.natCast_zero]
      · simp +contextual -implicitDefEqProofs (maxSteps := 1000000) only [sm, sn, sxx, smp, seval, noB_eq, eRgs, List.length_nil, Int.natCast_zero]
      · simp +contextual -implicitDefEqProofs (maxSteps := 1000000) only [sm, sn, sxx, smp, seval, noB_eq, eRgs, List.length_nil, Int.natCast_zero]
      · simp +contextual -implicitDefEqProofs (maxSteps := 1000000) only [sm, sn, sxx, smp, seval, noB_eq, eRgs, List.length_nil, Int.natCast_zero]
      simp +contextual -implicitDefEqProofs (maxSteps := 1000000) only [sm, sn, sxx, smp, seval, noB_eq, eRgs, List.length_nil, Int.natCast_zero]
      refine callP_rule [1] nb_alle (by decide) ?_ ?_ ?_ ?_ ?_ ?_ ?_
      · simp +contextual -implicitDefEqProofs (maxSteps := 1000000) only [sm, sn, sxx, smp, seval, noB_eq, eRgs, List.length_nil, Int.natCast_zero]
      · simp +contextual -implicitDefEqProofs (maxSteps := 1000000) only [sm, sn, sxx, smp, seval, noB_eq, eRgs, List.length_nil, Int.natCast_zero]
      · simp +contextual -implicitDefEqProofs (maxSteps := 1000000) only [sm, sn, sxx, smp, seval, noB_eq, eRgs, List.length_nil, Int.natCast_zero]
      · simp +contextual -implicitDefEqProofs (maxSteps := 1000000) only [sm, sn, sxx, smp, seval, noB_eq, eRgs, List.length_nil, Int.natCast_zero]
      · simp +contextual -implicitDefEqProofs (maxSteps := 1000000) only [sm, sn, sxx, smp, seval, noB_eq, eRgs, List.length_nil, Int.natCast_zero]
      · simp +contextual -implicitDefEqProofs (maxSteps := 1000000) only [sm, sn, sxx, smp, seval, noB_eq, eRgs, List.length_nil, Int.natCast_zero]
      simp +contextual -implicitDefEqProofs (maxSteps := 1000000) only [sm, sn, sxx, smp, seval, noB_eq, eRgs, List.length_nil, Int.natCast_zero]
      refine callM_rule [1] Changed_no (by decide) ?_ ?_ ?_ ?_ ?_ ?_
      · simp +contextual -implicitDefEqProofs (maxSteps := 1000000) only [sm, sn, sxx, smp, seval, noB_eq, eRgs, List.length_nil, Int.natCast_zero, w2]
      · simp +contextual -implicitDefEqProofs (maxSteps := 1000000) only [sm, sn, sxx, smp, seval, noB_eq, eRgs, List.length_nil, Int.natCast_zero, w2]
      · simp +contextual -implicitDefEqProofs (maxSteps := 1000000) only [sm, sn, sxx, smp, seval, noB_eq, eRgs, List.length_nil, Int.natCast_zero, w2]
      · simp +contextual -implicitDefEqProofs (maxSteps := 1000000) only [sm, sn, sxx, smp, seval, noB_eq, eRgs, List.length_nil, Int.natCast_zero, w2]
      · simp +contextual -implicitDefEqProofs (maxSteps := 1000000) only [sm, sn, sxx, smp, seval, noB_eq, eRgs, List.length_nil, Int.natCast_zero, w2]
      simp +contextual -implicitDefEqProofs (maxSteps := 1000000) only [sm, sn, sxx, smp, seval, noB_eq, eRgs, List.length_nil, Int.natCast_zero, w2]
      refine ⟨2, by omega, by omega, [0, 1, 2], by decide, rfl, ?_, ?_⟩
      · simp +contextual -implicitDefEqProofs (maxSteps := 1000000) only [sm, sn, sxx, smp, seval]
      · simp +contextual -implicitDefEqProofs (maxSteps := 1000000) only [sm, sn, sxx, smp, seval]
    · have n2 : ((2 : Nat) : Int) = 2 := rfl
      simp +contextual -implicitDefEqProofs (maxSteps := 1000000) only [sm, sn, sxx, smp, seval, n2, Int.lt_irrefl]
      have m0 : encK [] = 0 := rfl
      have m1 : ([[(1, 5)]] : List (List Rg)).map eRgs = [.list 2 [.agg [.int .i64 1, .int .i64 5]]] := rfl
      have m2 : ([[(2, 4)]] : List (List Rg)).map eRgs = [.list 2 [.agg [.int .i64 2, .int .i64 4]]] := rfl
      refine callQ_rule [3, 4] [some (5, [.agg [.bool true, .sl 1 6 0 1, .sl 2 8 0 0, .sl 1 9 0 0, .mp 7]]), some (1, [.list 2 [.agg [.int .i64 1, .int .i64 5]]]), some (1, [.agg []]), some (2, []), some (1, [])] nb_new (by decide) ?_ ?_ ?_ ?_ ?_ ?_ ?_
      · simp +contextual -implicitDefEqProofs (maxSteps := 1000000) only [sm, sn, sxx, smp, seval, noB_eq, eRgs, sB_eq, m1, m2, m0]
      · simp +contextual -implicitDefEqProofs (maxSteps := 1000000) only [sm, sn, sxx, smp, seval, noB_eq, eRgs, sB_eq, m1, m2, m0]
      · simp +contextual -implicitDefEqProofs (maxSteps := 1000000) only [sm, sn, sxx, smp, seval, noB_eq, eRgs, sB_eq, m1, m2, m0]
      · simp +contextual -implicitDefEqProofs (maxSteps := 1000000) only [sm, sn, sxx, smp, seval, noB_eq, eRgs, sB_eq, m1, m2, m0]
      · simp +contextual -implicitDefEqProofs (maxSteps := 1000000) only [sm, sn, sxx, smp, seval, noB_eq, eRgs, sB_eq, m1, m2, m0]
      · simp +contextual -implicitDefEqProofs (maxSteps := 1000000) only [sm, sn, sxx, smp, seval, noB_eq, eRgs, sB_eq, m1, m2, m0]
      simp +contextual -implicitDefEqProofs (maxSteps := 1000000) only [sm, sn, sxx, smp, seval, noB_eq, eRgs, sB_eq, m1, m2, m0]
      refine callQ_rule [5, 6, 8, 9, 7] [some (2, [.agg [.int .i64 1, .int .i64 5]])] nb_get (by decide) ?_ ?_ ?_ ?_ ?_ ?_ ?_
      · simp +contextual -implicitDefEqProofs (maxSteps := 1000000) only [sm, sn, sxx, smp, seval, noB_eq, eRgs, sB_eq, m1, m2, m0]
      · simp +contextual -implicitDefEqProofs (maxSteps := 1000000) only [sm, sn, sxx, smp, seval, noB_eq, eRgs, sB_eq, m1, m2, m0]
      · simp +contextual -implicitDefEqProofs (maxSteps := 1000000) only [sm, sn, sxx, smp, seval, noB_eq, eRgs, sB_eq, m1, m2, m0]
      · simp +contextual -implicitDefEqProofs (maxSteps := 1000000) only [sm, sn, sxx, smp, seval, noB_eq, eRgs, sB_eq, m1, m2, m0]
      · simp +contextual -implicitDefEqProofs (maxSteps := 1000000) only [sm, sn, sxx, smp, seval, noB_eq, eRgs, sB_eq, m1, m2, m0]
      · simp +contextual -implicitDefEqProofs (maxSteps := 1000000) only [sm, sn, sxx, smp, seval, noB_eq, eRgs, sB_eq, m1, m2, m0]
      simp +contextual -implicitDefEqProofs (maxSteps := 1000000) only [sm, sn, sxx, smp, seval, noB_eq, eRgs, sB_eq, m1, m2, m0]
      refine callQ_rule [5, 6, 8, 9, 7] [some (2, [.agg [.int .i64 1, .int .i64 5]]), some (1, [.sl 2 11 0 1])] nb_all (by decide) ?_ ?_ ?_ ?_ ?_ ?_ ?_
      · simp +contextual -implicitDefEqProofs (maxSteps := 1000000) only [sm, sn, sxx, smp, seval, noB_eq, eRgs, sB_eq, m1, m2, m0]
      · simp +contextual -implicitDefEqProofs (maxSteps := 1000000) only [sm, sn, sxx, smp, seval, noB_eq, eRgs, sB_eq, m1, m2, m0]
      · simp +contextual -implicitDefEqProofs (maxSteps := 1000000) only [sm, sn, sxx, smp, seval, noB_eq, eRgs, sB_eq, m1, m2, m0]
      · simp +contextual -implicitDefEqProofs (maxSteps := 1000000) only [sm, sn, sxx, smp, seval, noB_eq, eRgs, sB_eq, m1, m2, m0]
      · simp +contextual -implicitDefEqProofs (maxSteps := 1000000) only [sm, sn, sxx, smp, seval, noB_eq, eRgs, sB_eq, m1, m2, m0]
      · simp +contextual -implicitDefEqProofs (maxSteps := 1000000) only [sm, sn, sxx, smp, seval, noB_eq, eRgs, sB_eq, m1, m2, m0]
      simp +contextual -implicitDefEqProofs (maxSteps := 1000000) only [sm, sn, sxx, smp, seval, noB_eq, eRgs, sB_eq, m1, m2, m0]
      refine callM_rule [5, 6, 8, 9, 7, 13] nb_narrow (by decide) ?_ ?_ ?_ ?_ ?_ ?_
      · simp +contextual -implicitDefEqProofs (maxSteps := 1000000) only [sm, sn, sxx, smp, seval, noB_eq, eRgs, sB_eq, m1, m2, m0]
      · simp +contextual -implicitDefEqProofs (maxSteps := 1000000) only [sm, sn, sxx, smp, seval, noB_eq, eRgs, sB_eq, m1, m2, m0]
      · simp +contextual -implicitDefEqProofs (maxSteps := 1000000) only [sm, sn, sxx, smp, seval, noB_eq, eRgs, sB_eq, m1, m2, m0]
      · simp +contextual -implicitDefEqProofs (maxSteps := 1000000) only [sm, sn, sxx, smp, seval, noB_eq, eRgs, sB_eq, m1, m2, m0]
      · simp +contextual -implicitDefEqProofs (maxSteps := 1000000) only [sm, sn, sxx, smp, seval, noB_eq, eRgs, sB_eq, m1, m2, m0]
      simp +contextual -implicitDefEqProofs (maxSteps := 1000000) only [sm, sn, sxx, smp, seval, noB_eq, eRgs, sB_eq, m1, m2, m0]
      refine callQ_rule [5, 6, 8, 9, 7] [some (2, [.agg [.int .i64 2, .int .i64 4]])] nb_get2 (by decide) ?_ ?_ ?_ ?_ ?_ ?_ ?_
      · simp +contextual -implicitDefEqProofs (maxSteps := 1000000) only [sm, sn, sxx, smp, seval, noB_eq, eRgs, sB_eq, m1, m2, m0]
      · simp +contextual -implicitDefEqProofs (maxSteps := 1000000) only [sm, sn, sxx, smp, seval, noB_eq, eRgs, sB_eq, m1, m2, m0]
      · simp +contextual -implicitDefEqProofs (maxSteps := 1000000) only [sm, sn, sxx, smp, seval, noB_eq, eRgs, sB_eq, m1, m2, m0]
      · simp +contextual -implicitDefEqProofs (maxSteps := 1000000) only [sm, sn, sxx, smp, seval, noB_eq, eRgs, sB_eq, m1, m2, m0]
      · simp +contextual -implicitDefEqProofs (maxSteps := 1000000) only [sm, sn, sxx, smp, seval, noB_eq, eRgs, sB_eq, m1, m2, m0]
      · simp +contextual -implicitDefEqProofs (maxSteps := 1000000) only [sm, sn, sxx, smp, seval, noB_eq, eRgs, sB_eq, m1, m2, m0]
      simp +contextual -implicitDefEqProofs (maxSteps := 1000000) only [sm, sn, sxx, smp, seval, noB_eq, eRgs, sB_eq, m1, m2, m0]
      have hR : Ctr Try.prog 25 [.list 2 [.agg [.int .i64 2, .int .i64 4]], .list 2 [.agg [.int .i64 2, .int .i64 4]]] [] (.bool true) [] := law08_Ranges [(2, 4)] [(2, 4)] (by decide)
      refine callV_rule hR ?_ rfl ?_
      · simp +contextual -implicitDefEqProofs (maxSteps := 1000000) only [sm, sn, sxx, smp, seval]
      simp +contextual -implicitDefEqProofs (maxSteps := 1000000) only [sm, sn, sxx, smp, seval]
end Go.Proofs.Ytbmcjhjbifojnaa
