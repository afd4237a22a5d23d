/- The law's own questions: alive. -/
import Derived.Test.YtbmcjhjbifojnaaWTrail3
import Derived.Test.YtbmcjhjbifojnaaWTrail4
import Derived.Test.YtbmcjhjbifojnaaWTrail5
import Derived.Test.YtbmcjhjbifojnaaWLaw10
import Derived.Test.YtbmcjhjbifojnaaGRef08
namespace Go.Proofs.Ytbmcjhjbifojnaa
open Av
attribute [local irreducible] awp awpOpers
set_option linter.unusedSimpArgs false
set_option linter.unusedVariables false
set_option maxRecDepth 100000
set_option maxHeartbeats 4000000
/-- a call that is handed boxes and lets them be -/
theorem callP_rule {P : Program} {fid : FuncId} {args' args : List AV} {K : AV → Bx → Prop} {bx bs bs' : Bx} {r : AV} (ix : List Nat) (hc : Ctr P fid args' bs r bs') (hn : ix.Nodup) (hE : embB bs.length ix bx ix bs)
    (ho : args'.all (okR bs.length) = true) (hw : wkL (args'.map (ren ix)) args) (h1 : okR bs'.length r = true) (h2 : okBx bs'.length bs' = true)
    (hp : mergeB (ix ++ newIx bx.length (bs'.length - bs.length)) (ix ++ newIx bx.length (bs'.length - bs.length)) bs' bx = bx)
    (h : K (ren (ix ++ newIx bx.length (bs'.length - bs.length)) r) bx) : CallOK P (.fn (.func fid) []) args K bx :=
  ⟨_, _, ⟨⟨fid, [], ix, args', bs, r, bs', rfl, hc, hE, hn, ho, by rw [List.append_nil]; exact hw, h1, h2, rfl, rfl⟩, by rw [hp]; exact List.prefix_refl _⟩, by rw [hp]; exact h⟩
/-- a new store -/
def nB (D : List (List Rg)) : Bx := [some (5, [.agg [.bool true, .sl 1 1 0 D.length, .sl 2 3 0 0, .sl 1 4 0 0, .mp 2]]), some (1, D.map eRgs), some (1, [.agg []]), some (2, []), some (1, [])]
theorem nB_eq (D : List (List Rg)) : nB D = some (5, [.agg [.bool true, .sl 1 1 0 D.length, .sl 2 3 0 0, .sl 1 4 0 0, .mp 2]]) :: some (1, D.map eRgs) :: some (1, [.agg []]) :: some (2, []) :: some (1, []) :: [] := rfl
theorem New_ctr (D : List (List Rg)) (hl : D.length ≤ 64) (hd : ∀ r ∈ D, r.length ≤ 1000000000000) (h : ∀ r ∈ D, r ≠ [] ∧ rightB r = true) : Ctr Try.prog 9 [eDoms D] [] (.ptr 5 0 0 0) (nB D) :=
  Ctr.virt (New_ok D hl hd h) [(0, 2, 2), (0, 3, 1)] rfl
theorem al_new : Ctr Try.prog 9 [.list 1 [.list 2 [.agg [.int .i64 1, .int .i64 5]]]] [] (.ptr 5 0 0 0) (nB [[(1, 5)]]) := New_ctr [[(1, 5)]] (by decide) (by decide) (by decide)
theorem al_n1 : Ctr Try.prog 12 [.ptr 5 0 0 0, .int .i64 0, .list 2 [.agg [.int .i64 3, .int .i64 9]]] (sB [[(1, 5)]] [] [0] []) (.tuple [.bool true, .int .i64 0])
    [some (5, [.agg [.bool true, .sl 1 1 0 1, .sl 2 5 0 1, .sl 1 3 0 1, .mp 4]]), some (1, [.list 2 [.agg [.int .i64 3, .int .i64 5]]]), none, some (1, [.int .i64 0]), some (encK [0] + 1, [.agg []]), some (2, [.agg [.int .i64 0, .list 2 [.agg [.int .i64 1, .int .i64 5]]]])] :=
  Narrow_new [[(1, 5)]] [] [0] [] 0 [(1, 5)] [(3, 9)] (by decide) rfl (by decide) (by decide) (by decide) (by decide) (by decide) (by decide) (by decide)
theorem al_n2 : Ctr Try.prog 12 [.ptr 5 0 0 0, .int .i64 0, .list 2 [.agg [.int .i64 7, .int .i64 9]]] (sB [[(3, 5)]] [(0, [(1, 5)])] [0] [0]) (.tuple [.bool false, .int .i64 12]) (sB [[(3, 5)]] [(0, [(1, 5)])] [0] [0]) :=
  Narrow_fail [[(3, 5)]] [(0, [(1, 5)])] [0] [0] 0 [(3, 5)] [(7, 9)] (by decide) rfl (by decide) (by decide) (by decide)
theorem al_push : Ctr Try.prog 15 [.ptr 5 0 0 0] (sB [[(1, 5)]] [] [] []) (.int .i64 0)
    [some (5, [.agg [.bool true, .sl 1 1 0 1, .sl 2 2 0 0, .sl 1 5 0 1, .mp 4]]), some (1, [.list 2 [.agg [.int .i64 1, .int .i64 5]]]), some (2, []), none, some (1, [.agg []]), some (1, [.int .i64 0])] :=
  Push_ctr [[(1, 5)]] [] [] [] (by decide) (by decide)
theorem al_c : Ctr Try.prog 20 [.ptr 5 0 0 0] (sB [[(3, 5)]] [(0, [(1, 5)])] [0] [0]) (.list 1 [.int .i64 0]) (sB [[(3, 5)]] [(0, [(1, 5)])] [0] []) := Changed_ctr [[(3, 5)]] [(0, [(1, 5)])] [0] [0] (by decide)
theorem al_g1 : Ctr Try.prog 26 [.ptr 5 0 0 0, .int .i64 0] (sB [[(3, 5)]] [(0, [(1, 5)])] [0] []) (.list 2 [.agg [.int .i64 3, .int .i64 5]]) (sB [[(3, 5)]] [(0, [(1, 5)])] [0] []) := Get_ctr [[(3, 5)]] [(0, [(1, 5)])] [0] [] 0 (by decide)
theorem al_g2 : Ctr Try.prog 26 [.ptr 5 0 0 0, .int .i64 0] (sB [[(1, 5)]] [] [] []) (.list 2 [.agg [.int .i64 1, .int .i64 5]]) (sB [[(1, 5)]] [] [] []) := Get_ctr [[(1, 5)]] [] [] [] 0 (by decide)
theorem al_p : Ctr Try.prog 17 [.ptr 5 0 0 0] (sB [[(3, 5)]] [(0, [(1, 5)])] [0] []) (.int .i64 0) (sB [[(1, 5)]] [] [] []) :=
  Ctr.trunc (Ctr.trunc (Pop_ctr [[(3, 5)]] [(0, [(1, 5)])] [0] [] 0 0 rfl rfl (by decide) (by decide) (by decide) (by
    intro i x r _ h
    cases i with
    | zero => simp at h; obtain ⟨rfl, _⟩ := h; decide
    | succ i => simp at h)) (k := 2) rfl 0) (k := 3) rfl 0
theorem al_r1 : Ctr Try.prog 25 [.list 2 [.agg [.int .i64 3, .int .i64 5]], .list 2 [.agg [.int .i64 3, .int .i64 5]]] [] (.bool true) [] := law08_Ranges [(3, 5)] [(3, 5)] (by decide)
theorem al_r2 : Ctr Try.prog 25 [.list 2 [.agg [.int .i64 1, .int .i64 5]], .list 2 [.agg [.int .i64 1, .int .i64 5]]] [] (.bool true) [] := law08_Ranges [(1, 5)] [(1, 5)] (by decide)
theorem law10_alive : Ctr Try.prog 7 [] [] (.bool true) [] := by
  refine call_pure Try.func7 Try.call7 e_law10_alive ?_
  have m1 : ([[(1, 5)]] : List (List Rg)).map eRgs = [.list 2 [.agg [.int .i64 1, .int .i64 5]]] := rfl
  have m2 : ([[(3, 5)]] : List (List Rg)).map eRgs = [.list 2 [.agg [.int .i64 3, .int .i64 5]]] := rfl
  have m3 : ([(0, [(1, 5)])] : List (Int × List Rg)).map eEnt = [.agg [.int .i64 0, .list 2 [.agg [.int .i64 1, .int .i64 5]]]] := rfl
  have m4 : ([0] : List Int).map eI = [.int .i64 0] := rfl
  have m5 : ([] : List (Int × List Rg)).map eEnt = [] := rfl
  have m6 : ([] : List Int).map eI = [] := rfl
  have m7 : encK [] = 0 := rfl
  simp +contextual -implicitDefEqProofs (maxSteps := 1000000) only [c_law10_alive, sm, sn, sxx, smp, seval]
  refine callO_rule al_new rfl (wkL_refl _) rfl rfl ?_
  simp +contextual -implicitDefEqProofs (maxSteps := 1000000) only [sm, sn, sxx, smp, seval, nB_eq, m1]
  refine callM_rule [0, 1, 3, 4, 2] al_push (by decide) ?_ ?_ ?_ ?_ ?_ ?_
  · simp +contextual -implicitDefEqProofs (maxSteps := 1000000) only [sm, sn, sxx, smp, seval, sB_eq, m1, m2, m3, m4, m5, m6, m7]
  · simp +contextual -implicitDefEqProofs (maxSteps := 1000000) only [sm, sn, sxx, smp, seval, sB_eq, m1, m2, m3, m4, m5, m6, m7]
  · simp +contextual -implicitDefEqProofs (maxSteps := 1000000) only [sm, sn, sxx, smp, seval, sB_eq, m1, m2, m3, m4, m5, m6, m7]
  · simp +contextual -implicitDefEqProofs (maxSteps := 1000000) only [sm, sn, sxx, smp, seval, sB_eq, m1, m2, m3, m4, m5, m6, m7]
  · simp +contextual -implicitDefEqProofs (maxSteps := 1000000) only [sm, sn, sxx, smp, seval, sB_eq, m1, m2, m3, m4, m5, m6, m7]
  simp +contextual -implicitDefEqProofs (maxSteps := 1000000) only [sm, sn, sxx, smp, seval, sB_eq, m1, m2, m3, m4, m5, m6, m7]
  refine callM_rule [0, 1, 3, 5, 2] al_n1 (by decide) ?_ ?_ ?_ ?_ ?_ ?_
  · simp +contextual -implicitDefEqProofs (maxSteps := 1000000) only [sm, sn, sxx, smp, seval, sB_eq, m1, m2, m3, m4, m5, m6, m7]
  · simp +contextual -implicitDefEqProofs (maxSteps := 1000000) only [sm, sn, sxx, smp, seval, sB_eq, m1, m2, m3, m4, m5, m6, m7]
  · simp +contextual -implicitDefEqProofs (maxSteps := 1000000) only [sm, sn, sxx, smp, seval, sB_eq, m1, m2, m3, m4, m5, m6, m7]
  · simp +contextual -implicitDefEqProofs (maxSteps := 1000000) only [sm, sn, sxx, smp, seval, sB_eq, m1, m2, m3, m4, m5, m6, m7]
  · simp +contextual -implicitDefEqProofs (maxSteps := 1000000) only [sm, sn, sxx, smp, seval, sB_eq, m1, m2, m3, m4, m5, m6, m7]
  simp +contextual -implicitDefEqProofs (maxSteps := 1000000) only [sm, sn, sxx, smp, seval, sB_eq, m1, m2, m3, m4, m5, m6, m7]
  refine callM_rule [0, 1, 6, 5, 2] al_n2 (by decide) ?_ ?_ ?_ ?_ ?_ ?_
  · simp +contextual -implicitDefEqProofs (maxSteps := 1000000) only [sm, sn, sxx, smp, seval, sB_eq, m1, m2, m3, m4, m5, m6, m7]
  · simp +contextual -implicitDefEqProofs (maxSteps := 1000000) only [sm, sn, sxx, smp, seval, sB_eq, m1, m2, m3, m4, m5, m6, m7]
  · simp +contextual -implicitDefEqProofs (maxSteps := 1000000) only [sm, sn, sxx, smp, seval, sB_eq, m1, m2, m3, m4, m5, m6, m7]
  · simp +contextual -implicitDefEqProofs (maxSteps := 1000000) only [sm, sn, sxx, smp, seval, sB_eq, m1, m2, m3, m4, m5, m6, m7]
  · simp +contextual -implicitDefEqProofs (maxSteps := 1000000) only [sm, sn, sxx, smp, seval, sB_eq, m1, m2, m3, m4, m5, m6, m7]
  simp +contextual -implicitDefEqProofs (maxSteps := 1000000) only [sm, sn, sxx, smp, seval, sB_eq, m1, m2, m3, m4, m5, m6, m7]
  refine callM_rule [0, 1, 6, 5, 2] al_c (by decide) ?_ ?_ ?_ ?_ ?_ ?_
  · simp +contextual -implicitDefEqProofs (maxSteps := 1000000) only [sm, sn, sxx, smp, seval, sB_eq, m1, m2, m3, m4, m5, m6, m7]
  · simp +contextual -implicitDefEqProofs (maxSteps := 1000000) only [sm, sn, sxx, smp, seval, sB_eq, m1, m2, m3, m4, m5, m6, m7]
  · simp +contextual -implicitDefEqProofs (maxSteps := 1000000) only [sm, sn, sxx, smp, seval, sB_eq, m1, m2, m3, m4, m5, m6, m7]
  · simp +contextual -implicitDefEqProofs (maxSteps := 1000000) only [sm, sn, sxx, smp, seval, sB_eq, m1, m2, m3, m4, m5, m6, m7]
  · simp +contextual -implicitDefEqProofs (maxSteps := 1000000) only [sm, sn, sxx, smp, seval, sB_eq, m1, m2, m3, m4, m5, m6, m7]
  simp +contextual -implicitDefEqProofs (maxSteps := 1000000) only [sm, sn, sxx, smp, seval, sB_eq, m1, m2, m3, m4, m5, m6, m7]
  refine callP_rule [0, 1, 6, 5, 2] al_g1 (by decide) ?_ ?_ ?_ ?_ ?_ ?_ ?_
  · simp +contextual -implicitDefEqProofs (maxSteps := 1000000) only [sm, sn, sxx, smp, seval, sB_eq, m1, m2, m3, m4, m5, m6, m7]
  · simp +contextual -implicitDefEqProofs (maxSteps := 1000000) only [sm, sn, sxx, smp, seval, sB_eq, m1, m2, m3, m4, m5, m6, m7]
  · simp +contextual -implicitDefEqProofs (maxSteps := 1000000) only [sm, sn, sxx, smp, seval, sB_eq, m1, m2, m3, m4, m5, m6, m7]
  · simp +contextual -implicitDefEqProofs (maxSteps := 1000000) only [sm, sn, sxx, smp, seval, sB_eq, m1, m2, m3, m4, m5, m6, m7]
  · simp +contextual -implicitDefEqProofs (maxSteps := 1000000) only [sm, sn, sxx, smp, seval, sB_eq, m1, m2, m3, m4, m5, m6, m7]
  · simp +contextual -implicitDefEqProofs (maxSteps := 1000000) only [sm, sn, sxx, smp, seval, sB_eq, m1, m2, m3, m4, m5, m6, m7]
  simp +contextual -implicitDefEqProofs (maxSteps := 1000000) only [sm, sn, sxx, smp, seval, sB_eq, m1, m2, m3, m4, m5, m6, m7]
  refine callA_rule al_r1 (wkL_refl _) rfl ?_
  simp +contextual -implicitDefEqProofs (maxSteps := 1000000) only [sm, sn, sxx, smp, seval]
  refine callV_rule (Level_ctr [[(3, 5)]] [(0, [(1, 5)])] [0]) ?_ rfl ?_
  · simp +contextual -implicitDefEqProofs (maxSteps := 1000000) only [sm, sn, sxx, smp, seval, sV_eq, m1, m2, m3, m4, m5, m6, m7]
  simp +contextual -implicitDefEqProofs (maxSteps := 1000000) only [sm, sn, sxx, smp, seval]
  refine callM_rule [0, 1, 6, 5, 2] al_p (by decide) ?_ ?_ ?_ ?_ ?_ ?_
  · simp +contextual -implicitDefEqProofs (maxSteps := 1000000) only [sm, sn, sxx, smp, seval, sB_eq, m1, m2, m3, m4, m5, m6, m7]
  · simp +contextual -implicitDefEqProofs (maxSteps := 1000000) only [sm, sn, sxx, smp, seval, sB_eq, m1, m2, m3, m4, m5, m6, m7]
  · simp +contextual -implicitDefEqProofs (maxSteps := 1000000) only [sm, sn, sxx, smp, seval, sB_eq, m1, m2, m3, m4, m5, m6, m7]
  · simp +contextual -implicitDefEqProofs (maxSteps := 1000000) only [sm, sn, sxx, smp, seval, sB_eq, m1, m2, m3, m4, m5, m6, m7]
  · simp +contextual -implicitDefEqProofs (maxSteps := 1000000) only [sm, sn, sxx, smp, seval, sB_eq, m1, m2, m3, m4, m5, m6, m7]
  simp +contextual -implicitDefEqProofs (maxSteps := 1000000) only [sm, sn, sxx, smp, seval, sB_eq, m1, m2, m3, m4, m5, m6, m7]
  refine callP_rule [0, 1, 6, 5, 2] al_g2 (by decide) ?_ ?_ ?_ ?_ ?_ ?_ ?_
  · simp +contextual -implicitDefEqProofs (maxSteps := 1000000) only [sm, sn, sxx, smp, seval, sB_eq, m1, m2, m3, m4, m5, m6, m7]
  · simp +contextual -implicitDefEqProofs (maxSteps := 1000000) only [sm, sn, sxx, smp, seval, sB_eq, m1, m2, m3, m4, m5, m6, m7]
  · simp +contextual -implicitDefEqProofs (maxSteps := 1000000) only [sm, sn, sxx, smp, seval, sB_eq, m1, m2, m3, m4, m5, m6, m7]
  · simp +contextual -implicitDefEqProofs (maxSteps := 1000000) only [sm, sn, sxx, smp, seval, sB_eq, m1, m2, m3, m4, m5, m6, m7]
  · simp +contextual -implicitDefEqProofs (maxSteps := 1000000) only [sm, sn, sxx, smp, seval, sB_eq, m1, m2, m3, m4, m5, m6, m7]
  · simp +contextual -implicitDefEqProofs (maxSteps := 1000000) only [sm, sn, sxx, smp, seval, sB_eq, m1, m2, m3, m4, m5, m6, m7]
  simp +contextual -implicitDefEqProofs (maxSteps := 1000000) only [sm, sn, sxx, smp, seval, sB_eq, m1, m2, m3, m4, m5, m6, m7]
  refine callA_rule al_r2 (wkL_refl _) rfl ?_
  simp +contextual -implicitDefEqProofs (maxSteps := 1000000) only [sm, sn, sxx, smp, seval]
  refine callV_rule (Len_ctr [[(1, 5)]] [] []) ?_ rfl ?_
  · simp +contextual -implicitDefEqProofs (maxSteps := 1000000) only [sm, sn, sxx, smp, seval, sV_eq, m1, m2, m3, m4, m5, m6, m7]
  simp +contextual -implicitDefEqProofs (maxSteps := 1000000) only [sm, sn, sxx, smp, seval]
end Go.Proofs.Ytbmcjhjbifojnaa
