/- What the reference's store computes: Right, New, Push, Pop. -/
import Derived.Test.YtbmcjhjbifojnaaWTrail
import Derived.Test.YtbmcjhjbifojnaaGRef09
import Derived.Test.YtbmcjhjbifojnaaCRef10
namespace Go.Proofs.Ytbmcjhjbifojnaa
open Av
attribute [local irreducible] awp awpOpers
set_option linter.unusedSimpArgs false
set_option linter.unusedVariables false
set_option maxRecDepth 100000
set_option maxHeartbeats 4000000
def eBo (b : Bool) : AV := .bool b
theorem om_Bo (o : Option Bool) : o.map eBo = match o with | some b => some (.bool b) | none => none := by cases o <;> rfl
theorem flatL_Bo (l : List Bool) : flatL (l.map eBo) = true := by
  induction l with
  | nil => rfl
  | cons x l ih => simp only [List.map_cons, flatL_cons, ih, Bool.and_true]; rfl
theorem rep_Bo (n : Nat) : List.replicate n (AV.bool false) = (List.replicate n false).map eBo := by simp [eBo]
theorem flatL_Doms (l : List (List (List Rg))) : flatL (l.map eDoms) = true := by
  induction l with
  | nil => rfl
  | cons x l ih => simp only [List.map_cons, flatL_cons, ih, Bool.and_true]; rfl
theorem om_Doms (o : Option (List (List Rg))) : o.map eDoms = match o with | some D => some (.list 1 (D.map eRgs)) | none => none := by cases o <;> rfl
theorem snoc_Doms (l : List (List (List Rg))) (D : List (List Rg)) : l.map eDoms ++ [.list 1 (D.map eRgs)] = (l ++ [D]).map eDoms := by simp [eDoms]
/-- the reference's store -/
def eSt (D : List (List Rg)) (W : List (List (List Rg))) (F : List Bool) : AV := .agg [.list 1 (D.map eRgs), .list 1 (W.map eDoms), .list 1 (F.map eBo)]
theorem eSt_eq (D : List (List Rg)) (W : List (List (List Rg))) (F : List Bool) : eSt D W F = .agg [.list 1 (D.map eRgs), .list 1 (W.map eDoms), .list 1 (F.map eBo)] := rfl
def newB (D : List (List Rg)) : Bool := D.all (fun r => rightB r && !decide (r.length = 0)) && decide (D.length ≤ 64)
theorem ref10_Right (D : List (List Rg)) (hl : D.length ≤ 1000000000000) (hd : ∀ r ∈ D, r.length ≤ 1000000000000) : Ctr Try.prog 10 [eDoms D] [] (.bool (newB D)) [] := by
  refine call_pure Try.func10 Try.call10 e_ref10_Right ?_
  simp +contextual -implicitDefEqProofs (maxSteps := 1000000) only [c_ref10_Right, eDoms, sm, sn, sxx, smp, seval]
  refine loop_rule (fun k : Nat => k ≤ D.length ∧ (D.take k).all (fun r => rightB r && !decide (r.length = 0)) = true) (fun k => tm 27 [(0, .list 1 (D.map eRgs)), (3, .int .i64 k)]) (fun _ => []) (fun k => D.length - k) 0 ⟨Nat.zero_le _, by simp⟩ ⟨[], by decide, rfl, ?_, ?_⟩ ?_
  · simp +contextual -implicitDefEqProofs (maxSteps := 1000000) only [sm, sn, sxx, smp, seval]
  · simp +contextual -implicitDefEqProofs (maxSteps := 1000000) only [sm, sn, sxx, smp, seval, Int.natCast_zero]
  · rintro k ⟨hk, hok⟩
    by_cases hlt : k < D.length
    · obtain ⟨r, hr⟩ : ∃ r, D[k]? = some r := ⟨_, List.getElem?_eq_getElem hlt⟩
      have hrl := hd r (List.mem_of_getElem? hr)
      have hlt' : (k : Int) < (D.length : Int) := by omega
      have e2 : IntKind.i64.wrap ((k : Int) + 1) = ((k + 1 : Nat) : Int) := by rw [wrap_i64] <;> omega
      have htk : D.take (k + 1) = D.take k ++ [r] := by rw [List.take_add_one, hr]; rfl
      have hall : newB D = true → (rightB r && !decide (r.length = 0)) = true := by
        intro h
        unfold newB at h
        rw [Bool.and_eq_true] at h
        exact List.all_eq_true.1 h.1 r (List.mem_of_getElem? hr)
      have hno : (rightB r && !decide (r.length = 0)) = false → newB D = false := by
        intro h
        cases hn : newB D with
        | false => rfl
        | true => rw [hall hn] at h; cases h
      simp +contextual -implicitDefEqProofs (maxSteps := 1000000) only [sm, sn, sxx, smp, seval, hlt', hr, hlt]
      refine callA_rule (ref09_Right r (by omega)) (wkL_refl _) rfl ?_
      cases hrR : rightB r
      · have hn := hno (by rw [hrR]; rfl)
        simp +contextual -implicitDefEqProofs (maxSteps := 1000000) only [sm, sn, sxx, smp, seval, hn]
      · by_cases h0 : r.length = 0
        · have h0' : (r.length : Int) = 0 := by omega
          have hn := hno (by rw [hrR, h0]; rfl)
          simp +contextual -implicitDefEqProofs (maxSteps := 1000000) only [sm, sn, sxx, smp, seval, h0', hn, hr, hlt]
        · have h0' : ¬ (r.length : Int) = 0 := by omega
          simp +contextual -implicitDefEqProofs (maxSteps := 1000000) only [sm, sn, sxx, smp, seval, h0', e2, hr, hlt]
          refine ⟨k + 1, ⟨by omega, ?_⟩, by omega, [], by decide, rfl, ?_, ?_⟩
          · rw [htk, List.all_append, hok]; simp only [List.all_cons, List.all_nil, hrR, decide_eq_false h0]; rfl
          · simp +contextual -implicitDefEqProofs (maxSteps := 1000000) only [sm, sn, sxx, smp, seval]
          · simp +contextual -implicitDefEqProofs (maxSteps := 1000000) only [sm, sn, sxx, smp, seval]
    · have hkn : k = D.length := by omega
      subst hkn
      rw [List.take_length] at hok
      have hn : newB D = decide ((D.length : Int) ≤ 64) := by
        unfold newB
        rw [hok, Bool.true_and]
        by_cases h : D.length ≤ 64
        · rw [decide_eq_true h, decide_eq_true (by omega)]
        · rw [decide_eq_false h, decide_eq_false (by omega)]
      simp +contextual -implicitDefEqProofs (maxSteps := 1000000) only [sm, sn, sxx, smp, seval, Int.lt_irrefl, hn]
theorem ref10_New (D : List (List Rg)) (hl : D.length ≤ 1000000000000) : Ctr Try.prog 11 [eDoms D] [] (eSt D [] (List.replicate D.length false)) [] := by
  refine call_pure Try.func11 Try.call11 e_ref10_New ?_
  simp +contextual -implicitDefEqProofs (maxSteps := 1000000) only [c_ref10_New, eDoms, eSt_eq, sm, sn, sxx, smp, seval]
  refine ⟨by omega, by omega, ?_⟩
  have ht : ((List.replicate D.length false).map eBo).take D.length = (List.replicate D.length false).map eBo := List.take_of_length_le (by simp)
  simp +contextual -implicitDefEqProofs (maxSteps := 1000000) only [sm, sn, sxx, smp, seval, rep_Bo, flatL_Bo, List.length_replicate, Nat.le_refl, ht]
end Go.Proofs.Ytbmcjhjbifojnaa
