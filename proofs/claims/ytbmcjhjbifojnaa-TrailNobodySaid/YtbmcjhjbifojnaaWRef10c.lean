/- What the reference's store computes: Narrow. -/
import Derived.Test.YtbmcjhjbifojnaaWRef10
namespace Go.Proofs.Ytbmcjhjbifojnaa
open Av
attribute [local irreducible] awp awpOpers
set_option linter.unusedSimpArgs false
set_option linter.unusedVariables false
set_option maxRecDepth 100000
set_option maxHeartbeats 4000000
theorem set_Bo (F : List Bool) (n : Nat) (b : Bool) : (F.map eBo).set n (.bool b) = (F.set n b).map eBo := by rw [List.map_set]; rfl
theorem snoc_Bo (F : List Bool) (b : Bool) : F.map eBo ++ [.bool b] = (F ++ [b]).map eBo := by simp [eBo]
section
variable (D : List (List Rg)) (W : List (List (List Rg))) (F : List Bool)
theorem ref10_Narrow_arg (x : Int) (V : List Rg) (hV : V.length ≤ 1000000000000) (h : ¬ (0 ≤ x ∧ x < (D.length : Int)) ∨ rightB V = false) :
    Ctr Try.prog 13 [eSt D W F, .int .i64 x, eRgs V] [] (.tuple [eSt D W F, .bool false, .int .i64 2]) [] := by
  refine call_pure Try.func13 Try.call13 e_ref10_Narrow ?_
  by_cases h1 : x < 0
  · simp +contextual -implicitDefEqProofs (maxSteps := 1000000) only [c_ref10_Narrow, eSt_eq, eRgs, sm, sn, sxx, smp, seval, h1, flatL_Doms, flatL_Bo]
  · by_cases h2 : x < (D.length : Int)
    · have h2' : ¬ (D.length : Int) ≤ x := by omega
      have hr : rightB V = false := by
        rcases h with h | h
        · exact absurd ⟨by omega, h2⟩ h
        · exact h
      simp +contextual -implicitDefEqProofs (maxSteps := 1000000) only [c_ref10_Narrow, eSt_eq, eRgs, sm, sn, sxx, smp, seval, h1, h2', ge_iff_le, flatL_Doms, flatL_Bo]
      refine callA_rule (ref09_Right V (by omega)) (wkL_refl _) rfl ?_
      simp +contextual -implicitDefEqProofs (maxSteps := 1000000) only [sm, sn, sxx, smp, seval, hr, flatL_Doms, flatL_Bo]
    · have h2' : (D.length : Int) ≤ x := by omega
      simp +contextual -implicitDefEqProofs (maxSteps := 1000000) only [c_ref10_Narrow, eSt_eq, eRgs, sm, sn, sxx, smp, seval, h1, h2', ge_iff_le, flatL_Doms, flatL_Bo]
theorem ref10_Narrow_fail (n : Nat) (r V : List Rg) (hV : V.length ≤ 1000000000000) (hr : D[n]? = some r) (hrl : r.length ≤ 1000000000000) (hR : rightB V = true) (hm : rmeetS r V = []) :
    Ctr Try.prog 13 [eSt D W F, .int .i64 n, eRgs V] [] (.tuple [eSt D W F, .bool false, .int .i64 12]) [] := by
  refine call_pure Try.func13 Try.call13 e_ref10_Narrow ?_
  have hn : n < D.length := (List.getElem?_eq_some_iff.1 hr).1
  have h1 : ¬ (n : Int) < 0 := by omega
  have h2' : ¬ (D.length : Int) ≤ (n : Int) := by omega
  have hM := ref09_Meet r V (by omega) (by omega)
  rw [hm] at hM
  simp +contextual -implicitDefEqProofs (maxSteps := 1000000) only [c_ref10_Narrow, eSt_eq, eRgs, sm, sn, sxx, smp, seval, h1, h2', ge_iff_le, flatL_Doms, flatL_Bo]
  refine callA_rule (ref09_Right V (by omega)) (wkL_refl _) rfl ?_
  simp +contextual -implicitDefEqProofs (maxSteps := 1000000) only [sm, sn, sxx, smp, seval, hR, hn, hr]
  refine callA_rule hM (wkL_refl _) rfl ?_
  simp +contextual -implicitDefEqProofs (maxSteps := 1000000) only [sm, sn, sxx, smp, seval, eRgs, Int.natCast_zero, flatL_Doms, flatL_Bo]
theorem ref10_Narrow_same (n : Nat) (r V : List Rg) (hV : V.length ≤ 1000000000000) (hr : D[n]? = some r) (hrl : r.length ≤ 1000000000000) (hR : rightB V = true) (hm : rmeetS r V ≠ []) (hml : (rmeetS r V).length ≤ 1000000000000) (hs : rsameB (rmeetS r V) r = true) :
    Ctr Try.prog 13 [eSt D W F, .int .i64 n, eRgs V] [] (.tuple [eSt D W F, .bool false, .int .i64 0]) [] := by
  refine call_pure Try.func13 Try.call13 e_ref10_Narrow ?_
  have hn : n < D.length := (List.getElem?_eq_some_iff.1 hr).1
  have h1 : ¬ (n : Int) < 0 := by omega
  have h2' : ¬ (D.length : Int) ≤ (n : Int) := by omega
  have hM := ref09_Meet r V (by omega) (by omega)
  have hS := ref09_Same (rmeetS r V) r hml hrl
  rw [hs] at hS
  have hm0 : ¬ ((rmeetS r V).length : Int) = 0 := by
    intro h
    exact hm (List.eq_nil_of_length_eq_zero (by omega))
  clear hm hs
  generalize rmeetS r V = M at hM hS hm0
  simp +contextual -implicitDefEqProofs (maxSteps := 1000000) only [c_ref10_Narrow, eSt_eq, eRgs, sm, sn, sxx, smp, seval, h1, h2', ge_iff_le, flatL_Doms, flatL_Bo]
  refine callA_rule (ref09_Right V (by omega)) (wkL_refl _) rfl ?_
  simp +contextual -implicitDefEqProofs (maxSteps := 1000000) only [sm, sn, sxx, smp, seval, hR, hn, hr]
  refine callA_rule hM (wkL_refl _) rfl ?_
  simp +contextual -implicitDefEqProofs (maxSteps := 1000000) only [sm, sn, sxx, smp, seval, eRgs, hm0, hn, hr]
  refine callA_rule hS (wkL_refl _) rfl ?_
  simp +contextual -implicitDefEqProofs (maxSteps := 1000000) only [sm, sn, sxx, smp, seval, flatL_Doms, flatL_Bo]
theorem ref10_Narrow_new (n : Nat) (r V : List Rg) (hV : V.length ≤ 1000000000000) (hr : D[n]? = some r) (hrl : r.length ≤ 1000000000000) (hR : rightB V = true) (hm : rmeetS r V ≠ []) (hml : (rmeetS r V).length ≤ 1000000000000) (hs : rsameB (rmeetS r V) r = false)
    (hDF : F.length = D.length) (hDl : D.length ≤ 1000000000000) :
    Ctr Try.prog 13 [eSt D W F, .int .i64 n, eRgs V] [] (.tuple [eSt (D.set n (rmeetS r V)) W (F.set n true), .bool true, .int .i64 0]) [] := by
  refine call_pure Try.func13 Try.call13 e_ref10_Narrow ?_
  have hn : n < D.length := (List.getElem?_eq_some_iff.1 hr).1
  have h1 : ¬ (n : Int) < 0 := by omega
  have h2' : ¬ (D.length : Int) ≤ (n : Int) := by omega
  have hM := ref09_Meet r V (by omega) (by omega)
  have hS := ref09_Same (rmeetS r V) r hml hrl
  rw [hs] at hS
  have hm0 : ¬ ((rmeetS r V).length : Int) = 0 := by
    intro h
    exact hm (List.eq_nil_of_length_eq_zero (by omega))
  clear hm hs
  generalize rmeetS r V = M at hM hS hm0 ⊢
  simp +contextual -implicitDefEqProofs (maxSteps := 1000000) only [c_ref10_Narrow, eSt_eq, eRgs, sm, sn, sxx, smp, seval, h1, h2', ge_iff_le, flatL_Doms, flatL_Bo]
  refine callA_rule (ref09_Right V (by omega)) (wkL_refl _) rfl ?_
  simp +contextual -implicitDefEqProofs (maxSteps := 1000000) only [sm, sn, sxx, smp, seval, hR, hn, hr]
  refine callA_rule hM (wkL_refl _) rfl ?_
  simp +contextual -implicitDefEqProofs (maxSteps := 1000000) only [sm, sn, sxx, smp, seval, eRgs, hm0, hn, hr]
  refine callA_rule hS (wkL_refl _) rfl ?_
  simp +contextual -implicitDefEqProofs (maxSteps := 1000000) only [sm, sn, sxx, smp, seval]
  refine loop_ruleV [(10, 1), (11, 1)] (fun k : Nat => k ≤ D.length) (fun k => tm 85 [(1, .int .i64 n), (3, .ptr 3 0 0 0), (6, .ptr 3 1 0 0), (9, .list 2 (M.map eRg)), (10, .sl 1 2 0 k), (11, .sl 1 3 0 k), (12, .int .i64 k)])
    (fun k => [some (3, [eSt D W F]), some (3, [.agg [.nils, .nils, .nils]]), some (1, ((D.set n M).take k).map eRgs), some (1, ((F.set n true).take k).map eBo)]) (fun k => D.length - k) 0 (by simp +contextual -implicitDefEqProofs (maxSteps := 1000000) only [sm, sn, sxx, smp, seval]) (Nat.zero_le _) ⟨[0, 1, 2, 3], by decide, rfl, ?_, ?_⟩ ?_
  · simp +contextual -implicitDefEqProofs (maxSteps := 1000000) only [sm, sn, sxx, smp, seval, eSt_eq, flatL_Doms, flatL_Bo]
  · simp +contextual -implicitDefEqProofs (maxSteps := 1000000) only [sm, sn, sxx, smp, seval, Int.natCast_zero, eSt_eq, flatL_Doms, flatL_Bo]
  · intro k hk
    have htl : ((D.set n M).take k).length = k := by rw [List.length_take, List.length_set]; omega
    have htf : ((F.set n true).take k).length = k := by rw [List.length_take, List.length_set]; omega
    by_cases hlt : k < D.length
    · obtain ⟨E, hE⟩ : ∃ E, D[k]? = some E := ⟨_, List.getElem?_eq_getElem hlt⟩
      have hltF : k < F.length := by omega
      obtain ⟨b, hb⟩ : ∃ b, F[k]? = some b := ⟨_, List.getElem?_eq_getElem hltF⟩
      have hlt' : (k : Int) < (D.length : Int) := by omega
      have e2 : IntKind.i64.wrap ((k : Int) + 1) = ((k + 1 : Nat) : Int) := by rw [wrap_i64] <;> omega
      have c1 : (k + 1) * 24 ≤ 140737488355328 := by omega
      have c3 : (k + 1) * 1 ≤ 140737488355328 := by omega
      have c2 : k + 1 ≤ maxLen := by unfold maxLen; omega
      by_cases hkn : k = n
      · subst hkn
        have htk : (D.set k M).take k ++ [M] = (D.set k M).take (k + 1) := by rw [List.take_add_one, List.getElem?_set_self hlt]; rfl
        have htg : (F.set k true).take k ++ [true] = (F.set k true).take (k + 1) := by rw [List.take_add_one, List.getElem?_set_self hltF]; rfl
        simp +contextual -implicitDefEqProofs (maxSteps := 1000000) only [sm, sn, sxx, smp, seval, hlt', eSt_eq, hlt, c1, c2, c3, e2, htl, htf, snoc_Bo, htk, htg]
        refine ⟨k + 1, by omega, by omega, [0, 1, 4, 5], by decide, rfl, ?_, ?_⟩
        · simp +contextual -implicitDefEqProofs (maxSteps := 1000000) only [sm, sn, sxx, smp, seval, eSt_eq, flatL_Doms, flatL_Bo]
        · simp +contextual -implicitDefEqProofs (maxSteps := 1000000) only [sm, sn, sxx, smp, seval, eSt_eq]
      · have hkn' : ¬ (k : Int) = (n : Int) := by omega
        have hnk : n ≠ k := fun h => hkn h.symm
        have htk : (D.set n M).take k ++ [E] = (D.set n M).take (k + 1) := by rw [List.take_add_one, List.getElem?_set_ne hnk, hE]; rfl
        have htg : (F.set n true).take k ++ [b] = (F.set n true).take (k + 1) := by rw [List.take_add_one, List.getElem?_set_ne hnk, hb]; rfl
        simp +contextual -implicitDefEqProofs (maxSteps := 1000000) only [sm, sn, sxx, smp, seval, hlt', eSt_eq, hlt, hltF, hE, hb, om_Bo, hkn', c1, c2, c3, e2, htl, htf, snoc_Bo, htk, htg]
        refine ⟨k + 1, by omega, by omega, [0, 1, 4, 5], by decide, rfl, ?_, ?_⟩
        · simp +contextual -implicitDefEqProofs (maxSteps := 1000000) only [sm, sn, sxx, smp, seval, eSt_eq, flatL_Doms, flatL_Bo]
        · simp +contextual -implicitDefEqProofs (maxSteps := 1000000) only [sm, sn, sxx, smp, seval, eSt_eq]
    · have hkn : k = D.length := by omega
      subst hkn
      have e1 : (D.set n M).take D.length = D.set n M := List.take_of_length_le (by simp)
      have e3 : (F.set n true).take D.length = F.set n true := List.take_of_length_le (by simp; omega)
      have e4 : ((D.set n M).map eRgs).take D.length = (D.set n M).map eRgs := List.take_of_length_le (by simp)
      have e5 : ((F.set n true).map eBo).take D.length = (F.set n true).map eBo := List.take_of_length_le (by simp; omega)
      have e6 : D.length ≤ ((D.set n M).map eRgs).length := by simp
      have e7 : D.length ≤ ((F.set n true).map eBo).length := by simp; omega
      have e8 : D.length ≤ (D.set n M).length := by simp
      have e9 : D.length ≤ (F.set n true).length := by simp; omega
      simp +contextual -implicitDefEqProofs (maxSteps := 1000000) only [sm, sn, sxx, smp, seval, Int.lt_irrefl, eSt_eq, e1, e3, e4, e5, e6, e7, e8, e9, flatL_Doms, flatL_Bo]
end
end Go.Proofs.Ytbmcjhjbifojnaa
