/- HallKeeps. -/
import Derived.Test.YtonkcemcledhiaaWLaw17m
import Derived.Test.YtonkcemcledhiaaCHallLaw
namespace Go.Proofs.Ytonkcemcledhiaa
open Av
attribute [local irreducible] awp awpOpers
set_option linter.unusedSimpArgs false
set_option linter.unusedVariables false
set_option maxRecDepth 100000
set_option maxHeartbeats 4000000
theorem uniq_of {V : List Int} (h : unlikeB V = true) : V.Nodup := by
  unfold unlikeB at h
  rw [List.all_eq_true] at h
  rw [List.nodup_iff_count]
  intro a
  by_cases ha : a ∈ V
  · have := of_decide_eq_true (h a ha)
    unfold cntI at this
    rw [List.count_eq_length_filter]
    refine Nat.le_trans (Nat.le_of_eq ?_) this
    congr 1
  · rw [List.count_eq_zero_of_not_mem ha]; omega
theorem hall_kept {c : Con} {D : List (List Rg)} (hK : c.1 = 18) (hm : modB (D, [c], 0, 0) = true) :
    KeptP (fun a => askdB c a && holdsB c (valsOf c.2.1 a)) D (hallL c D).1 (hallL c D).2 := by
  have g2 := (one_facts hm).2.1
  have hF := full_dom g2
  refine kept_of (fun a ha => ?_) (fun a ha hh => ?_) (hall_res hK hm)
  · obtain ⟨o1, o2⟩ := one_le hF ha
    exact order_hall hK hm (mod_sub o1 o2 hm) o1
  · obtain ⟨o1, o2⟩ := one_le hF ha
    rw [Bool.and_eq_true] at hh
    have hh2 := hh.2
    unfold holdsB at hh2
    rw [hK] at hh2
    simp at hh2
    exact hall_one hK (box_bound hF ha) (mod_sub o1 o2 hm) (uniq_of hh2)
theorem law_HallKeeps (c : Con) (D : List (List Rg)) : Ctr Try.prog 8 [eCon c, eDoms D] [] (.bool true) [] := by
  refine call_pure Try.func8 Try.call8 e_law17_HallKeeps ?_
  have hcon : ∃ K X A G, c = (K, X, A, G) := ⟨c.1, c.2.1, c.2.2.1, c.2.2.2, rfl⟩
  obtain ⟨K, X, A, G, rfl⟩ := hcon
  simp +contextual -implicitDefEqProofs (maxSteps := 1000000) only [c_law17_HallKeeps, eCon, eIs, eDoms, sm, sn, sxx, seval]
  refine callA_rule law17_alive (wkL_refl _) rfl ?_
  simp +contextual -implicitDefEqProofs (maxSteps := 1000000) only [sm, sn, sxx, seval, eCon, eIs]
  refine callA_rule (law12_Fits (K, X, A, G) D) (wkL_refl _) rfl ?_
  cases hFt : fitsB (K, X, A, G) D
  · simp +contextual -implicitDefEqProofs (maxSteps := 1000000) only [sm, sn, sxx, seval]
  obtain ⟨s1, s2, s3, s4⟩ := fits_facts hFt
  simp only at s3 s4
  have hd : ∀ d ∈ D, d.length ≤ 1000000000000 := fun d h => by have := s2 d h; omega
  simp +contextual -implicitDefEqProofs (maxSteps := 1000000) only [sm, sn, sxx, seval, eCon, eIs]
  refine callA_rule (law12_Few D (by omega) hd) (wkL_refl _) rfl ?_
  cases hFw : fewB D
  · simp +contextual -implicitDefEqProofs (maxSteps := 1000000) only [sm, sn, sxx, seval]
  simp +contextual -implicitDefEqProofs (maxSteps := 1000000) only [sm, sn, sxx, seval, eCon, eIs]
  refine callA_rule (law17_mine (K, X, A, G) D) (wkL_refl _) rfl ?_
  cases hM : mine17B (K, X, A, G) D
  · simp +contextual -implicitDefEqProofs (maxSteps := 1000000) only [sm, sn, sxx, seval]
  obtain ⟨hK, -, hm⟩ := mine17_facts hM
  obtain ⟨hF, hL⟩ := few_facts hFw
  have hkept := hall_kept (c := (K, X, A, G)) hK hm
  simp only at hK
  simp +contextual -implicitDefEqProofs (maxSteps := 1000000) only [sm, sn, sxx, seval, eCon, eIs]
  refine callA_rule (hall_Narrow (K, X, A, G) D (by omega) hd ⟨by simp only; omega, by simp only; omega⟩) (wkL_refl _) rfl ?_
  generalize hallL (K, X, A, G) D = r1 at hkept ⊢
  obtain ⟨x1, e1⟩ := r1
  simp +contextual -implicitDefEqProofs (maxSteps := 1000000) only [sm, sn, sxx, seval, eCon, eIs, eDoms]
  refine callA_rule (law12_Kept (K, X, A, G) D x1 e1 _ (by omega) hF hd hL (fun a ha => ref11_Holds (K, X, A, G) a (by simp only; omega) (by simp only; omega) ha (by simp only; omega)) hkept) (by simp +contextual -implicitDefEqProofs (maxSteps := 1000000) only [sm, sn, sxx, seval, eCon, eIs, eDoms]) rfl ?_
  simp +contextual -implicitDefEqProofs (maxSteps := 1000000) only [sm, sn, sxx, seval]
end Go.Proofs.Ytonkcemcledhiaa
