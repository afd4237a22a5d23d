/- What the small methods of trail.Store compute. -/
import Derived.Test.YtbmcjhjbifojnaaGSet
import Derived.Test.YtbmcjhjbifojnaaCTrail
namespace Go.Proofs.Ytbmcjhjbifojnaa
open Av
attribute [local irreducible] awp awpOpers
set_option linter.unusedSimpArgs false
set_option linter.unusedVariables false
set_option maxRecDepth 100000
set_option maxHeartbeats 4000000
def eEnt (e : Int × List Rg) : AV := .agg [.int .i64 e.1, .list 2 (e.2.map eRg)]
theorem om_Ent (o : Option (Int × List Rg)) : o.map eEnt = match o with | some (x, r) => some (.agg [.int .i64 x, .list 2 (r.map eRg)]) | none => none := by cases o <;> rfl
theorem flatL_Ent (l : List (Int × List Rg)) : flatL (l.map eEnt) = true := by
  induction l with
  | nil => rfl
  | cons x l ih => simp only [List.map_cons, flatL_cons, ih, Bool.and_true]; rfl
theorem snoc_Ent (l : List (Int × List Rg)) (x : Int) (r : List Rg) : l.map eEnt ++ [.agg [.int .i64 x, .list 2 (r.map eRg)]] = (l ++ [(x, r)]).map eEnt := by simp [eEnt]
theorem set_Rgs (d : List (List Rg)) (i : Nat) (r : List Rg) : (d.map eRgs).set i (.list 2 (r.map eRg)) = (d.set i r).map eRgs := by rw [List.map_set]; rfl
/-- a store's memory -/
def sB (d : List (List Rg)) (tr : List (Int × List Rg)) (lv : List Int) (ks : List Nat) : Bx :=
  [some (5, [.agg [.bool true, .sl 1 1 0 d.length, .sl 2 2 0 tr.length, .sl 1 3 0 lv.length, .mp 4]]), some (1, d.map eRgs), some (2, tr.map eEnt), some (1, lv.map eI), some (encK ks + 1, [.agg []])]
theorem sB_eq (d : List (List Rg)) (tr : List (Int × List Rg)) (lv : List Int) (ks : List Nat) : sB d tr lv ks = some (5, [.agg [.bool true, .sl 1 1 0 d.length, .sl 2 2 0 tr.length, .sl 1 3 0 lv.length, .mp 4]]) :: some (1, d.map eRgs) :: some (2, tr.map eEnt) :: some (1, lv.map eI) :: some (encK ks + 1, [.agg []]) :: [] := rfl
/-- a store, looked at -/
def sV (d : List (List Rg)) (tr : List (Int × List Rg)) (lv : List Int) : AV := .rptr [.bool true, .list 1 (d.map eRgs), .list 2 (tr.map eEnt), .list 1 (lv.map eI), .any]
theorem sV_eq (d : List (List Rg)) (tr : List (Int × List Rg)) (lv : List Int) : sV d tr lv = .rptr [.bool true, .list 1 (d.map eRgs), .list 2 (tr.map eEnt), .list 1 (lv.map eI), .any] := rfl
theorem good_nil : Ctr Try.prog 33 [.nilp] [] (.bool false) [] := by
  refine call_pure Try.func33 Try.call33 e_trail_Store_good ?_
  simp +contextual -implicitDefEqProofs (maxSteps := 1000000) only [c_trail_Store_good, sm, sn, sxx, smp, seval]
theorem good_ctr (b : Bool) (l : List AV) : Ctr Try.prog 33 [.rptr (.bool b :: l)] [] (.bool b) [] := by
  refine call_pure Try.func33 Try.call33 e_trail_Store_good ?_
  simp +contextual -implicitDefEqProofs (maxSteps := 1000000) only [c_trail_Store_good, sm, sn, sxx, smp, seval]
theorem Len_nil : Ctr Try.prog 24 [.nilp] [] (.int .i64 0) [] := by
  refine call_pure Try.func24 Try.call24 e_trail_Store_Len ?_
  simp +contextual -implicitDefEqProofs (maxSteps := 1000000) only [c_trail_Store_Len, sm, sn, sxx, smp, seval]
  refine callV_rule good_nil ?_ rfl ?_
  · simp +contextual -implicitDefEqProofs (maxSteps := 1000000) only [sm, sn, sxx, smp, seval]
  simp +contextual -implicitDefEqProofs (maxSteps := 1000000) only [sm, sn, sxx, smp, seval]
theorem Len_no (l : List AV) : Ctr Try.prog 24 [.rptr (.bool false :: l)] [] (.int .i64 0) [] := by
  refine call_pure Try.func24 Try.call24 e_trail_Store_Len ?_
  simp +contextual -implicitDefEqProofs (maxSteps := 1000000) only [c_trail_Store_Len, sm, sn, sxx, smp, seval]
  refine callV_rule (good_ctr false l) ?_ rfl ?_
  · simp +contextual -implicitDefEqProofs (maxSteps := 1000000) only [sm, sn, sxx, smp, seval]
  simp +contextual -implicitDefEqProofs (maxSteps := 1000000) only [sm, sn, sxx, smp, seval]
theorem Len_ctr (d : List (List Rg)) (tr : List (Int × List Rg)) (lv : List Int) : Ctr Try.prog 24 [sV d tr lv] [] (.int .i64 d.length) [] := by
  refine call_pure Try.func24 Try.call24 e_trail_Store_Len ?_
  simp +contextual -implicitDefEqProofs (maxSteps := 1000000) only [c_trail_Store_Len, sV_eq, sm, sn, sxx, smp, seval]
  refine callV_rule (good_ctr true [.list 1 (d.map eRgs), .list 2 (tr.map eEnt), .list 1 (lv.map eI), .any]) ?_ rfl ?_
  · simp +contextual -implicitDefEqProofs (maxSteps := 1000000) only [sm, sn, sxx, smp, seval]
  simp +contextual -implicitDefEqProofs (maxSteps := 1000000) only [sm, sn, sxx, smp, seval]
theorem Level_nil : Ctr Try.prog 23 [.nilp] [] (.int .i64 0) [] := by
  refine call_pure Try.func23 Try.call23 e_trail_Store_Level ?_
  simp +contextual -implicitDefEqProofs (maxSteps := 1000000) only [c_trail_Store_Level, sm, sn, sxx, smp, seval]
  refine callV_rule good_nil ?_ rfl ?_
  · simp +contextual -implicitDefEqProofs (maxSteps := 1000000) only [sm, sn, sxx, smp, seval]
  simp +contextual -implicitDefEqProofs (maxSteps := 1000000) only [sm, sn, sxx, smp, seval]
theorem Level_no (l : List AV) : Ctr Try.prog 23 [.rptr (.bool false :: l)] [] (.int .i64 0) [] := by
  refine call_pure Try.func23 Try.call23 e_trail_Store_Level ?_
  simp +contextual -implicitDefEqProofs (maxSteps := 1000000) only [c_trail_Store_Level, sm, sn, sxx, smp, seval]
  refine callV_rule (good_ctr false l) ?_ rfl ?_
  · simp +contextual -implicitDefEqProofs (maxSteps := 1000000) only [sm, sn, sxx, smp, seval]
  simp +contextual -implicitDefEqProofs (maxSteps := 1000000) only [sm, sn, sxx, smp, seval]
theorem Level_ctr (d : List (List Rg)) (tr : List (Int × List Rg)) (lv : List Int) : Ctr Try.prog 23 [sV d tr lv] [] (.int .i64 lv.length) [] := by
  refine call_pure Try.func23 Try.call23 e_trail_Store_Level ?_
  simp +contextual -implicitDefEqProofs (maxSteps := 1000000) only [c_trail_Store_Level, sV_eq, sm, sn, sxx, smp, seval]
  refine callV_rule (good_ctr true [.list 1 (d.map eRgs), .list 2 (tr.map eEnt), .list 1 (lv.map eI), .any]) ?_ rfl ?_
  · simp +contextual -implicitDefEqProofs (maxSteps := 1000000) only [sm, sn, sxx, smp, seval]
  simp +contextual -implicitDefEqProofs (maxSteps := 1000000) only [sm, sn, sxx, smp, seval]
theorem has_nil (x : Int) : Ctr Try.prog 34 [.nilp, .int .i64 x] [] (.bool false) [] := by
  refine call_pure Try.func34 Try.call34 e_trail_Store_has ?_
  by_cases h : 0 ≤ x
  · have h' : ¬ x < 0 := by omega
    simp +contextual -implicitDefEqProofs (maxSteps := 1000000) only [c_trail_Store_has, sm, sn, sxx, smp, seval, h]
    refine callV_rule Len_nil ?_ rfl ?_
    · simp +contextual -implicitDefEqProofs (maxSteps := 1000000) only [sm, sn, sxx, smp, seval]
    simp +contextual -implicitDefEqProofs (maxSteps := 1000000) only [sm, sn, sxx, smp, seval, h']
  · simp +contextual -implicitDefEqProofs (maxSteps := 1000000) only [c_trail_Store_has, sm, sn, sxx, smp, seval, h]
theorem has_no (l : List AV) (x : Int) : Ctr Try.prog 34 [.rptr (.bool false :: l), .int .i64 x] [] (.bool false) [] := by
  refine call_pure Try.func34 Try.call34 e_trail_Store_has ?_
  by_cases h : 0 ≤ x
  · have h' : ¬ x < 0 := by omega
    simp +contextual -implicitDefEqProofs (maxSteps := 1000000) only [c_trail_Store_has, sm, sn, sxx, smp, seval, h]
    refine callV_rule (Len_no l) ?_ rfl ?_
    · simp +contextual -implicitDefEqProofs (maxSteps := 1000000) only [sm, sn, sxx, smp, seval]
    simp +contextual -implicitDefEqProofs (maxSteps := 1000000) only [sm, sn, sxx, smp, seval, h']
  · simp +contextual -implicitDefEqProofs (maxSteps := 1000000) only [c_trail_Store_has, sm, sn, sxx, smp, seval, h]
theorem has_ctr (d : List (List Rg)) (tr : List (Int × List Rg)) (lv : List Int) (x : Int) : Ctr Try.prog 34 [sV d tr lv, .int .i64 x] [] (.bool (decide (0 ≤ x ∧ x < d.length))) [] := by
  refine call_pure Try.func34 Try.call34 e_trail_Store_has ?_
  by_cases h : 0 ≤ x
  · simp +contextual -implicitDefEqProofs (maxSteps := 1000000) only [c_trail_Store_has, sV_eq, sm, sn, sxx, smp, seval, h]
    refine callV_rule (Len_ctr d tr lv) ?_ rfl ?_
    · simp +contextual -implicitDefEqProofs (maxSteps := 1000000) only [sm, sn, sxx, smp, seval, sV_eq]
    by_cases h2 : x < (d.length : Int)
    · simp +contextual -implicitDefEqProofs (maxSteps := 1000000) only [sm, sn, sxx, smp, seval, h, h2]
    · simp +contextual -implicitDefEqProofs (maxSteps := 1000000) only [sm, sn, sxx, smp, seval, h, h2]
  · simp +contextual -implicitDefEqProofs (maxSteps := 1000000) only [c_trail_Store_has, sV_eq, sm, sn, sxx, smp, seval, h]
/-- the memory, looked at -/
theorem Get_ctr (d : List (List Rg)) (tr : List (Int × List Rg)) (lv : List Int) (ks : List Nat) (x : Int) (hd : ∀ r ∈ d, r.length ≤ 1000000000000) :
    Ctr Try.prog 26 [.ptr 5 0 0 0, .int .i64 x] (sB d tr lv ks) (eRgs (if 0 ≤ x then d.getD x.toNat [] else [])) (sB d tr lv ks) := by
  refine call_box Try.func26 Try.call26 e_trail_Store_Get ?_
  simp +contextual -implicitDefEqProofs (maxSteps := 1000000) only [c_trail_Store_Get, sB_eq, eRgs, sm, sn, sxx, smp, seval]
  refine callV_rule (has_ctr d tr lv x) ?_ rfl ?_
  · simp +contextual -implicitDefEqProofs (maxSteps := 1000000) only [sm, sn, sxx, smp, seval, sV_eq, flatL_Ent]
  by_cases h : 0 ≤ x ∧ x < (d.length : Int)
  · obtain ⟨h0, h1⟩ := h
    obtain ⟨n, rfl⟩ := Int.eq_ofNat_of_zero_le h0
    have hn : n < d.length := by omega
    obtain ⟨r, hr⟩ : ∃ r, d[n]? = some r := ⟨_, List.getElem?_eq_getElem hn⟩
    have hrl := hd r (List.mem_of_getElem? hr)
    have e1 : d.getD n [] = r := by rw [List.getD_eq_getElem?_getD, hr]; rfl
    rw [if_pos h0, Int.toNat_natCast, e1]
    simp +contextual -implicitDefEqProofs (maxSteps := 1000000) only [sm, sn, sxx, smp, seval, h0, h1, hn, hr]
    refine callA_rule (clone_rgs r hrl) (wkL_refl _) rfl ?_
    simp +contextual -implicitDefEqProofs (maxSteps := 1000000) only [sm, sn, sxx, smp, seval, eRgs]
    refine ⟨[], [0, 1, 2, 3, 4], by decide, rfl, ?_⟩
    simp +contextual -implicitDefEqProofs (maxSteps := 1000000) only [sm, sn, sxx, smp, seval, flatL_Ent, eRgs]
  · have e1 : (if 0 ≤ x then d.getD x.toNat [] else []) = [] := by
      by_cases h0 : 0 ≤ x
      · rw [if_pos h0]
        have : d.length ≤ x.toNat := by omega
        rw [List.getD_eq_getElem?_getD, List.getElem?_eq_none this]; rfl
      · rw [if_neg h0]
    rw [e1]
    simp +contextual -implicitDefEqProofs (maxSteps := 1000000) only [sm, sn, sxx, smp, seval, h]
    refine ⟨[], [0, 1, 2, 3, 4], by decide, rfl, ?_⟩
    simp +contextual -implicitDefEqProofs (maxSteps := 1000000) only [sm, sn, sxx, smp, seval, flatL_Ent, eRgs]
end Go.Proofs.Ytbmcjhjbifojnaa
