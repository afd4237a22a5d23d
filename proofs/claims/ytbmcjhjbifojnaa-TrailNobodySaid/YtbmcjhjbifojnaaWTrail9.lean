/- A store that is made of, and narrowed by, rows that are written over later; rows that are told and are the caller's own. At the numbers of TrailNobody. -/
import Derived.Test.YtbmcjhjbifojnaaWLaw10a
import Derived.Test.YtbmcjhjbifojnaaWTrail6
import Derived.Test.YtbmcjhjbifojnaaCTrailN
import Derived.Test.YtbmcjhjbifojnaaCTrailM
namespace Go.Proofs.Ytbmcjhjbifojnaa
open Av
attribute [local irreducible] awp awpOpers
set_option linter.unusedSimpArgs false
set_option linter.unusedVariables false
set_option maxRecDepth 100000
set_option maxHeartbeats 4000000
/-- a call that is handed boxes, lets them be, and makes more -/
theorem callQ_rule {P : Program} {fid : FuncId} {args' args : List AV} {K : AV → Bx → Prop} {bx bs bs' : Bx} {r : AV} (ix : List Nat) (t : Bx) (hc : Ctr P fid args' bs r bs') (hn : ix.Nodup) (hE : embB bs.length ix bx ix bs)
    (ho : args'.all (okR bs.length) = true) (hw : wkL (args'.map (ren ix)) args) (h1 : okR bs'.length r = true) (h2 : okBx bs'.length bs' = true)
    (hp : mergeB (ix ++ newIx bx.length (bs'.length - bs.length)) (ix ++ newIx bx.length (bs'.length - bs.length)) bs' bx = bx ++ t)
    (h : K (ren (ix ++ newIx bx.length (bs'.length - bs.length)) r) (bx ++ t)) : CallOK P (.fn (.func fid) []) args K bx :=
  ⟨_, _, ⟨⟨fid, [], ix, args', bs, r, bs', rfl, hc, hE, hn, ho, by rw [List.append_nil]; exact hw, h1, h2, rfl, rfl⟩, by rw [hp]; exact List.prefix_append _ _⟩, by rw [hp]; exact h⟩
theorem w64_1 : IntKind.i64.wrap 1 = 1 := by decide
theorem mx12 : max (1 : Int) 2 = 2 := by decide
theorem mn54 : min (5 : Int) 4 = 4 := by decide
theorem nb_clone : Ctr Try.prog 31 [.sl 2 0 0 1] [some (2, [.agg [.int .i64 1, .int .i64 5]])] (.list 2 [.agg [.int .i64 1, .int .i64 5]]) [some (2, [.agg [.int .i64 1, .int .i64 5]])] := by
  refine call_boxF Try.func31 Try.call31 e_slices_Clone_sRange_Range ?_
  have c1 : 1 * 16 ≤ 140737488355328 := by omega
  have c2 : 1 ≤ maxLen := by unfold maxLen; omega
  have hnn : (AV.sl 2 0 0 1).nonNil = true := rfl
  simp +contextual -implicitDefEqProofs (maxSteps := 1000000) only [c_slices_Clone_sRange_Range, sm, sn, sxx, smp, seval, hnn, c1, c2, Nat.le_refl]
  simp +contextual -implicitDefEqProofs (maxSteps := 1000000) only [h_normal, h_ret]
  refine ⟨[0], by decide, rfl, ?_, ?_⟩
  · simp +contextual -implicitDefEqProofs (maxSteps := 1000000) only [sm, sn, sxx, smp, seval]
  · simp +contextual -implicitDefEqProofs (maxSteps := 1000000) only [sm, sn, sxx, smp, seval, killL]
theorem nb_cloneO (l : List Rg) (hl : l.length ≤ 1000000000000) : Ctr Try.prog 31 [eRgs l] [] (.sl 2 0 0 l.length) [some (2, l.map eRg)] := by
  refine call_box Try.func31 Try.call31 e_slices_Clone_sRange_Range ?_
  by_cases h0 : l = []
  · subst h0
    simp +contextual -implicitDefEqProofs (maxSteps := 1000000) only [c_slices_Clone_sRange_Range, eRgs, sm, sn, sxx, smp, seval, Nat.zero_le]
    refine ⟨⟨[], [0], by decide, ?_⟩, [2], [0], by decide, ?_⟩
    · simp +contextual -implicitDefEqProofs (maxSteps := 1000000) only [sm, sn, sxx, smp, seval]
    · simp +contextual -implicitDefEqProofs (maxSteps := 1000000) only [sm, sn, sxx, smp, seval]
  · have hnn : (AV.list 2 (l.map eRg)).nonNil = true := by
      cases l with
      | nil => exact absurd rfl h0
      | cons a b => rfl
    have c1 : l.length * 16 ≤ 140737488355328 := by omega
    have c2 : l.length ≤ maxLen := by unfold maxLen; omega
    simp +contextual -implicitDefEqProofs (maxSteps := 1000000) only [c_slices_Clone_sRange_Range, eRgs, sm, sn, sxx, smp, seval, hnn, c1, c2, Nat.le_refl]
    refine ⟨[], [0], by decide, ?_⟩
    simp +contextual -implicitDefEqProofs (maxSteps := 1000000) only [sm, sn, sxx, smp, seval]
theorem nb_right (x y : Int) (h : rightB [(x, y)] = true) : Ctr Try.prog 28 [.list 2 [.agg [.int .i64 x, .int .i64 y]]] [] (.bool true) [] := by
  have := set_Right [(x, y)] (by simp)
  rw [h] at this
  exact this
def mtS : Bool → List AV
  | false => tm 65 [(0, .list 2 [.agg [.int .i64 1, .int .i64 5]]), (1, .sl 2 0 0 1), (5, .sl 2 1 0 0)]
  | true => tm 65 [(0, .list 2 [.agg [.int .i64 1, .int .i64 5]]), (1, .sl 2 0 1 0), (5, .sl 2 1 0 1)]
def mtB : Bool → Bx
  | false => [some (2, [.agg [.int .i64 2, .int .i64 4]]), some (2, [])]
  | true => [some (2, [.agg [.int .i64 2, .int .i64 4]]), some (2, [.agg [.int .i64 2, .int .i64 4]])]
theorem mtS_f : mtS false = tm 65 [(0, .list 2 [.agg [.int .i64 1, .int .i64 5]]), (1, .sl 2 0 0 1), (5, .sl 2 1 0 0)] := rfl
theorem mtS_t : mtS true = tm 65 [(0, .list 2 [.agg [.int .i64 1, .int .i64 5]]), (1, .sl 2 0 1 0), (5, .sl 2 1 0 1)] := rfl
theorem mtB_f : mtB false = some (2, [.agg [.int .i64 2, .int .i64 4]]) :: some (2, []) :: [] := rfl
theorem mtB_t : mtB true = some (2, [.agg [.int .i64 2, .int .i64 4]]) :: some (2, [.agg [.int .i64 2, .int .i64 4]]) :: [] := rfl
theorem nb_meet : Ctr Try.prog 30 [.list 2 [.agg [.int .i64 1, .int .i64 5]], .sl 2 0 0 1] [some (2, [.agg [.int .i64 2, .int .i64 4]])] (.list 2 [.agg [.int .i64 2, .int .i64 4]]) [some (2, [.agg [.int .i64 2, .int .i64 4]])] := by
  refine call_boxF Try.func30 Try.call30 e_set_MeetM ?_
  simp +contextual -implicitDefEqProofs (maxSteps := 1000000) only [c_set_MeetM, sm, sn, sxx, smp, seval]
  refine callV_rule (nb_right 1 5 (by decide)) ?_ rfl ?_
  · simp +contextual -implicitDefEqProofs (maxSteps := 1000000) only [sm, sn, sxx, smp, seval]
  simp +contextual -implicitDefEqProofs (maxSteps := 1000000) only [sm, sn, sxx, smp, seval]
  refine callV_rule (nb_right 2 4 (by decide)) ?_ rfl ?_
  · simp +contextual -implicitDefEqProofs (maxSteps := 1000000) only [sm, sn, sxx, smp, seval]
  simp +contextual -implicitDefEqProofs (maxSteps := 1000000) only [sm, sn, sxx, smp, seval]
  refine loop_ruleV [(5, 2)] (fun b : Bool => True) mtS mtB (fun b => if b then 0 else 1) false (by simp +contextual -implicitDefEqProofs (maxSteps := 1000000) only [sm, sn, sxx, smp, seval]) trivial ⟨[0, 1], by decide, rfl, ?_, ?_⟩ ?_
  · simp +contextual -implicitDefEqProofs (maxSteps := 1000000) only [sm, sn, sxx, smp, seval, mtB_f]
  · simp +contextual -implicitDefEqProofs (maxSteps := 1000000) only [sm, sn, sxx, smp, seval, mtS_f, mtB_f]
  · intro b _
    have c1 : 1 * 16 ≤ 140737488355328 := by omega
    have c2 : 1 ≤ maxLen := by unfold maxLen; omega
    cases b
    · rw [mtS_f, mtB_f]
      simp +contextual -implicitDefEqProofs (maxSteps := 1000000) only [sm, sn, sxx, smp, seval, c1, c2, mx12, mn54]
      refine ⟨true, by decide, [0, 3], by decide, rfl, ?_, ?_⟩
      · simp +contextual -implicitDefEqProofs (maxSteps := 1000000) only [sm, sn, sxx, smp, seval, mtB_t]
      · simp +contextual -implicitDefEqProofs (maxSteps := 1000000) only [sm, sn, sxx, smp, seval, mtS_t, mtB_t]
    · rw [mtS_t, mtB_t]
      simp +contextual -implicitDefEqProofs (maxSteps := 1000000) only [sm, sn, sxx, smp, seval]
      simp +contextual -implicitDefEqProofs (maxSteps := 1000000) only [h_normal, h_ret]
      refine ⟨[0], by decide, rfl, ?_, ?_⟩
      · simp +contextual -implicitDefEqProofs (maxSteps := 1000000) only [sm, sn, sxx, smp, seval]
      · simp +contextual -implicitDefEqProofs (maxSteps := 1000000) only [sm, sn, sxx, smp, seval, killL]
theorem nb_get : Ctr Try.prog 26 [.ptr 5 0 0 0, .int .i64 0] (sB [[(1, 5)]] [] [] []) (.sl 2 5 0 1) (sB [[(1, 5)]] [] [] [] ++ [some (2, [.agg [.int .i64 1, .int .i64 5]])]) := by
  have m1 : ([[(1, 5)]] : List (List Rg)).map eRgs = [.list 2 [.agg [.int .i64 1, .int .i64 5]]] := rfl
  refine call_box Try.func26 Try.call26 e_trail_Store_GetO ?_
  simp +contextual -implicitDefEqProofs (maxSteps := 1000000) only [c_trail_Store_GetO, sB_eq, m1, sm, sn, sxx, smp, seval]
  refine callV_rule (has_ctr [[(1, 5)]] [] [] 0) ?_ rfl ?_
  · simp +contextual -implicitDefEqProofs (maxSteps := 1000000) only [sm, sn, sxx, smp, seval, sV_eq, m1]
  simp +contextual -implicitDefEqProofs (maxSteps := 1000000) only [sm, sn, sxx, smp, seval]
  refine callO_rule (nb_cloneO [(1, 5)] (by simp)) rfl (wkL_refl _) rfl rfl ?_
  have m2 : ([(1, 5)] : List Rg).map eRg = [.agg [.int .i64 1, .int .i64 5]] := rfl
  simp +contextual -implicitDefEqProofs (maxSteps := 1000000) only [sm, sn, sxx, smp, seval, m2]
  refine ⟨[], [0, 1, 2, 3, 4, 5], by decide, rfl, ?_⟩
  simp +contextual -implicitDefEqProofs (maxSteps := 1000000) only [sm, sn, sxx, smp, seval]
def alS : Bool → List AV
  | false => tm 18 [(0, .ptr 5 0 0 0), (3, .sl 1 5 0 0), (6, .int .i64 1), (7, .int .i64 0)]
  | true => tm 18 [(0, .ptr 5 0 0 0), (3, .sl 1 6 0 1), (6, .int .i64 1), (7, .int .i64 1)]
def alB : Bool → Bx
  | false => sB [[(1, 5)]] [] [] [] ++ [some (1, [])]
  | true => sB [[(1, 5)]] [] [] [] ++ [some (2, [.agg [.int .i64 1, .int .i64 5]]), some (1, [.sl 2 5 0 1])]
theorem alS_f : alS false = tm 18 [(0, .ptr 5 0 0 0), (3, .sl 1 5 0 0), (6, .int .i64 1), (7, .int .i64 0)] := rfl
theorem alS_t : alS true = tm 18 [(0, .ptr 5 0 0 0), (3, .sl 1 6 0 1), (6, .int .i64 1), (7, .int .i64 1)] := rfl
theorem alB_f : alB false = sB [[(1, 5)]] [] [] [] ++ [some (1, [])] := rfl
theorem alB_t : alB true = sB [[(1, 5)]] [] [] [] ++ [some (2, [.agg [.int .i64 1, .int .i64 5]]), some (1, [.sl 2 5 0 1])] := rfl
theorem nb_all : Ctr Try.prog 22 [.ptr 5 0 0 0] (sB [[(1, 5)]] [] [] []) (.sl 1 6 0 1) (sB [[(1, 5)]] [] [] [] ++ [some (2, [.agg [.int .i64 1, .int .i64 5]]), some (1, [.sl 2 5 0 1])]) := by
  have m1 : ([[(1, 5)]] : List (List Rg)).map eRgs = [.list 2 [.agg [.int .i64 1, .int .i64 5]]] := rfl
  refine call_box Try.func22 Try.call22 e_trail_Store_AllO ?_
  simp +contextual -implicitDefEqProofs (maxSteps := 1000000) only [c_trail_Store_AllO, sB_eq, m1, sm, sn, sxx, smp, seval]
  refine callV_rule (Len_ctr [[(1, 5)]] [] []) ?_ rfl ?_
  · simp +contextual -implicitDefEqProofs (maxSteps := 1000000) only [sm, sn, sxx, smp, seval, sV_eq, m1]
  simp +contextual -implicitDefEqProofs (maxSteps := 1000000) only [sm, sn, sxx, smp, seval]
  refine loop_ruleV [(3, 1)] (fun b : Bool => True) alS alB (fun b => if b then 0 else 1) false (by simp +contextual -implicitDefEqProofs (maxSteps := 1000000) only [sm, sn, sxx, smp, seval]) trivial ⟨[0, 1, 2, 3, 4, 5], by decide, rfl, ?_, ?_⟩ ?_
  · simp +contextual -implicitDefEqProofs (maxSteps := 1000000) only [sm, sn, sxx, smp, seval, alB_f, sB_eq, m1]
  · simp +contextual -implicitDefEqProofs (maxSteps := 1000000) only [sm, sn, sxx, smp, seval, alS_f, alB_f, sB_eq, m1]
  · intro b _
    have c1 : 1 * 24 ≤ 140737488355328 := by omega
    have c2 : 1 ≤ maxLen := by unfold maxLen; omega
    cases b
    · rw [alS_f, alB_f]
      simp +contextual -implicitDefEqProofs (maxSteps := 1000000) only [sm, sn, sxx, smp, seval, sB_eq, m1]
      refine callQ_rule [0, 1, 2, 3, 4] [some (2, [.agg [.int .i64 1, .int .i64 5]])] nb_get (by decide) ?_ ?_ ?_ ?_ ?_ ?_ ?_
      · simp +contextual -implicitDefEqProofs (maxSteps := 1000000) only [sm, sn, sxx, smp, seval, sB_eq, m1]
      · simp +contextual -implicitDefEqProofs (maxSteps := 1000000) only [sm, sn, sxx, smp, seval, sB_eq, m1]
      · simp +contextual -implicitDefEqProofs (maxSteps := 1000000) only [sm, sn, sxx, smp, seval, sB_eq, m1]
      · simp +contextual -implicitDefEqProofs (maxSteps := 1000000) only [sm, sn, sxx, smp, seval, sB_eq, m1]
      · simp +contextual -implicitDefEqProofs (maxSteps := 1000000) only [sm, sn, sxx, smp, seval, sB_eq, m1]
      · simp +contextual -implicitDefEqProofs (maxSteps := 1000000) only [sm, sn, sxx, smp, seval, sB_eq, m1]
      simp +contextual -implicitDefEqProofs (maxSteps := 1000000) only [sm, sn, sxx, smp, seval, sB_eq, m1, c1, c2, w64_1]
      refine ⟨true, by decide, [0, 1, 2, 3, 4, 6, 8], by decide, rfl, ?_, ?_⟩
      · simp +contextual -implicitDefEqProofs (maxSteps := 1000000) only [sm, sn, sxx, smp, seval, alB_t, sB_eq, m1]
      · simp +contextual -implicitDefEqProofs (maxSteps := 1000000) only [sm, sn, sxx, smp, seval, alS_t, alB_t, sB_eq, m1]
    · rw [alS_t, alB_t]
      simp +contextual -implicitDefEqProofs (maxSteps := 1000000) only [sm, sn, sxx, smp, seval, sB_eq, m1]
      refine ⟨[], [0, 1, 2, 3, 4, 5, 6], by decide, rfl, ?_⟩
      simp +contextual -implicitDefEqProofs (maxSteps := 1000000) only [sm, sn, sxx, smp, seval]
def nwS : Bool → List AV
  | false => tm 39 [(3, .ptr 5 3 0 0), (12, .sl 1 1 0 1), (13, .int .i64 1), (14, .int .i64 0)]
  | true => tm 39 [(3, .ptr 5 3 0 0), (12, .sl 1 1 0 1), (13, .int .i64 1), (14, .int .i64 1)]
def nwB : Bool → Bx
  | false => [some (2, [.agg [.int .i64 1, .int .i64 5]]), some (1, [.sl 2 0 0 1]), some (1, [.agg []]), some (5, [.agg [.bool true, .sl 1 4 0 0, .nils, .nils, .mp 2]]), some (1, [])]
  | true => [some (2, [.agg [.int .i64 1, .int .i64 5]]), some (1, [.sl 2 0 0 1]), some (1, [.agg []]), some (5, [.agg [.bool true, .sl 1 4 0 1, .nils, .nils, .mp 2]]), some (1, [.list 2 [.agg [.int .i64 1, .int .i64 5]]])]
theorem nwS_f : nwS false = tm 39 [(3, .ptr 5 3 0 0), (12, .sl 1 1 0 1), (13, .int .i64 1), (14, .int .i64 0)] := rfl
theorem nwS_t : nwS true = tm 39 [(3, .ptr 5 3 0 0), (12, .sl 1 1 0 1), (13, .int .i64 1), (14, .int .i64 1)] := rfl
theorem nwB_f : nwB false = some (2, [.agg [.int .i64 1, .int .i64 5]]) :: some (1, [.sl 2 0 0 1]) :: some (1, [.agg []]) :: some (5, [.agg [.bool true, .sl 1 4 0 0, .nils, .nils, .mp 2]]) :: some (1, []) :: [] := rfl
theorem nwB_t : nwB true = some (2, [.agg [.int .i64 1, .int .i64 5]]) :: some (1, [.sl 2 0 0 1]) :: some (1, [.agg []]) :: some (5, [.agg [.bool true, .sl 1 4 0 1, .nils, .nils, .mp 2]]) :: some (1, [.list 2 [.agg [.int .i64 1, .int .i64 5]]]) :: [] := rfl
theorem nb_new0 : Ctr Try.prog 9 [.sl 1 1 0 1] [some (2, [.agg [.int .i64 1, .int .i64 5]]), some (1, [.sl 2 0 0 1])] (.ptr 5 2 0 0)
    [some (2, [.agg [.int .i64 1, .int .i64 5]]), some (1, [.sl 2 0 0 1]), some (5, [.agg [.bool true, .sl 1 3 0 1, .nils, .nils, .mp 4]]), some (1, [.list 2 [.agg [.int .i64 1, .int .i64 5]]]), some (1, [.agg []])] := by
  refine call_box Try.func9 Try.call9 e_trail_NewM ?_
  simp +contextual -implicitDefEqProofs (maxSteps := 1000000) only [c_trail_NewM, sm, sn, sxx, smp, seval]
  refine loop_ruleF [(3, 1, 1)] [] (fun b : Bool => True) nwS nwB (fun b => if b then 0 else 1) false (by simp +contextual -implicitDefEqProofs (maxSteps := 1000000) only [sm, sn, sxx, smp, seval]) (by simp +contextual -implicitDefEqProofs (maxSteps := 1000000) only [sm, sn, sxx, smp, seval]) trivial ⟨[0, 1, 2, 3, 4], by decide, rfl, ?_, ?_⟩ ?_
  · simp +contextual -implicitDefEqProofs (maxSteps := 1000000) only [sm, sn, sxx, smp, seval, nwB_f]
  · simp +contextual -implicitDefEqProofs (maxSteps := 1000000) only [sm, sn, sxx, smp, seval, nwS_f, nwB_f]
  · intro b _
    have c1 : 1 * 24 ≤ 140737488355328 := by omega
    have c2 : 1 ≤ maxLen := by unfold maxLen; omega
    cases b
    · rw [nwS_f, nwB_f]
      simp +contextual -implicitDefEqProofs (maxSteps := 1000000) only [sm, sn, sxx, smp, seval]
      refine callV_rule (nb_right 1 5 (by decide)) ?_ rfl ?_
      · simp +contextual -implicitDefEqProofs (maxSteps := 1000000) only [sm, sn, sxx, smp, seval]
      simp +contextual -implicitDefEqProofs (maxSteps := 1000000) only [sm, sn, sxx, smp, seval]
      refine callM_rule [0] nb_clone (by decide) ?_ ?_ ?_ ?_ ?_ ?_
      · simp +contextual -implicitDefEqProofs (maxSteps := 1000000) only [sm, sn, sxx, smp, seval]
      · simp +contextual -implicitDefEqProofs (maxSteps := 1000000) only [sm, sn, sxx, smp, seval]
      · simp +contextual -implicitDefEqProofs (maxSteps := 1000000) only [sm, sn, sxx, smp, seval]
      · simp +contextual -implicitDefEqProofs (maxSteps := 1000000) only [sm, sn, sxx, smp, seval]
      · simp +contextual -implicitDefEqProofs (maxSteps := 1000000) only [sm, sn, sxx, smp, seval]
      simp +contextual -implicitDefEqProofs (maxSteps := 1000000) only [sm, sn, sxx, smp, seval, c1, c2, w64_1]
      refine ⟨true, by decide, [0, 1, 2, 3, 5], by decide, rfl, ?_, ?_⟩
      · simp +contextual -implicitDefEqProofs (maxSteps := 1000000) only [sm, sn, sxx, smp, seval, nwB_t]
      · simp +contextual -implicitDefEqProofs (maxSteps := 1000000) only [sm, sn, sxx, smp, seval, nwS_t, nwB_t]
    · rw [nwS_t, nwB_t]
      simp +contextual -implicitDefEqProofs (maxSteps := 1000000) only [sm, sn, sxx, smp, seval]
      refine ⟨[], [0, 1, 3, 4, 2], by decide, rfl, ?_⟩
      simp +contextual -implicitDefEqProofs (maxSteps := 1000000) only [sm, sn, sxx, smp, seval]
theorem nb_new : Ctr Try.prog 9 [.sl 1 1 0 1] [some (2, [.agg [.int .i64 1, .int .i64 5]]), some (1, [.sl 2 0 0 1])] (.ptr 5 2 0 0)
    [some (2, [.agg [.int .i64 1, .int .i64 5]]), some (1, [.sl 2 0 0 1]), some (5, [.agg [.bool true, .sl 1 3 0 1, .sl 2 5 0 0, .sl 1 6 0 0, .mp 4]]), some (1, [.list 2 [.agg [.int .i64 1, .int .i64 5]]]), some (1, [.agg []]), some (2, []), some (1, [])] :=
  Ctr.virt nb_new0 [(2, 2, 2), (2, 3, 1)] rfl
theorem nb_narrow : Ctr Try.prog 12 [.ptr 5 0 0 0, .int .i64 0, .sl 2 5 0 1] (sB [[(1, 5)]] [] [] [] ++ [some (2, [.agg [.int .i64 2, .int .i64 4]])]) (.tuple [.bool true, .int .i64 0]) (sB [[(2, 4)]] [] [] [0] ++ [some (2, [.agg [.int .i64 2, .int .i64 4]])]) := by
  have m1 : ([[(1, 5)]] : List (List Rg)).map eRgs = [.list 2 [.agg [.int .i64 1, .int .i64 5]]] := rfl
  have m2 : ([[(2, 4)]] : List (List Rg)).map eRgs = [.list 2 [.agg [.int .i64 2, .int .i64 4]]] := rfl
  refine call_box Try.func12 Try.call12 e_trail_Store_NarrowM ?_
  have hS : Ctr Try.prog 35 [.list 2 [.agg [.int .i64 2, .int .i64 4]], .list 2 [.agg [.int .i64 1, .int .i64 5]]] [] (.bool false) [] := set_Same [(2, 4)] [(1, 5)] (by simp)
  simp +contextual -implicitDefEqProofs (maxSteps := 1000000) only [c_trail_Store_NarrowM, sB_eq, m1, m2, sm, sn, sxx, smp, seval]
  refine callV_rule (good_ctr true [.list 1 [.list 2 [.agg [.int .i64 1, .int .i64 5]]], .list 2 [], .list 1 [], .any]) ?_ rfl ?_
  · simp +contextual -implicitDefEqProofs (maxSteps := 1000000) only [sm, sn, sxx, smp, seval]
  simp +contextual -implicitDefEqProofs (maxSteps := 1000000) only [sm, sn, sxx, smp, seval]
  refine callV_rule (has_ctr [[(1, 5)]] [] [] 0) ?_ rfl ?_
  · simp +contextual -implicitDefEqProofs (maxSteps := 1000000) only [sm, sn, sxx, smp, seval, sV_eq, m1]
  simp +contextual -implicitDefEqProofs (maxSteps := 1000000) only [sm, sn, sxx, smp, seval]
  refine callV_rule (nb_right 2 4 (by decide)) ?_ rfl ?_
  · simp +contextual -implicitDefEqProofs (maxSteps := 1000000) only [sm, sn, sxx, smp, seval]
  simp +contextual -implicitDefEqProofs (maxSteps := 1000000) only [sm, sn, sxx, smp, seval]
  refine callM_rule [5] nb_meet (by decide) ?_ ?_ ?_ ?_ ?_ ?_
  · simp +contextual -implicitDefEqProofs (maxSteps := 1000000) only [sm, sn, sxx, smp, seval]
  · simp +contextual -implicitDefEqProofs (maxSteps := 1000000) only [sm, sn, sxx, smp, seval]
  · simp +contextual -implicitDefEqProofs (maxSteps := 1000000) only [sm, sn, sxx, smp, seval]
  · simp +contextual -implicitDefEqProofs (maxSteps := 1000000) only [sm, sn, sxx, smp, seval]
  · simp +contextual -implicitDefEqProofs (maxSteps := 1000000) only [sm, sn, sxx, smp, seval]
  simp +contextual -implicitDefEqProofs (maxSteps := 1000000) only [sm, sn, sxx, smp, seval]
  refine callA_rule hS (wkL_refl _) rfl ?_
  have i0 : insS 0 [] = [0] := rfl
  simp +contextual -implicitDefEqProofs (maxSteps := 1000000) only [sm, sn, sxx, smp, seval, Int.natCast_zero, gt_iff_lt, i0]
  refine ⟨[], [0, 1, 2, 3, 4, 5], by decide, rfl, ?_⟩
  simp +contextual -implicitDefEqProofs (maxSteps := 1000000) only [sm, sn, sxx, smp, seval, m1, m2]
end Go.Proofs.Ytbmcjhjbifojnaa
