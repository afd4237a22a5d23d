/- TasksOrder. -/
import Derived.Test.YtnhedjpghpdbdaaWLaw18
import Derived.Test.YtnhedjpghpdbdaaPlTask3
namespace Go.Proofs.Ytnhedjpghpdbdaa
open Av
attribute [local irreducible] awp awpOpers
set_option linter.unusedSimpArgs false
set_option linter.unusedVariables false
set_option maxRecDepth 100000
set_option maxHeartbeats 4000000
theorem law_TasksOrder (c : Con) (D C : List (List Rg)) (hC : ∀ r ∈ C, r.length ≤ 9223372036854775807) : Ctr Try.prog 7 [eCon c, eDoms D, eDoms C] [] (.bool true) [] := by
  refine call_pure Try.func7 Try.call7 e_law18_TasksOrder ?_
  have hcon : ∃ K X A G, c = (K, X, A, G) := ⟨c.1, c.2.1, c.2.2.1, c.2.2.2, rfl⟩
  obtain ⟨K, X, A, G, rfl⟩ := hcon
  simp +contextual -implicitDefEqProofs (maxSteps := 1000000) only [c_law18_TasksOrder, eCon, eIs, eDoms, sm, sn, sxx, seval]
  refine callA_rule law18_alive (wkL_refl _) rfl ?_
  simp +contextual -implicitDefEqProofs (maxSteps := 1000000) only [sm, sn, sxx, seval, eCon, eIs]
  refine callA_rule (law18_mine (K, X, A, G) D) (wkL_refl _) rfl ?_
  cases hM : mine18B (K, X, A, G) D
  · simp +contextual -implicitDefEqProofs (maxSteps := 1000000) only [sm, sn, sxx, seval]
  by_cases hn : C.length = D.length
  · have hn' : (C.length : Int) = (D.length : Int) := by omega
    obtain ⟨hK, hF, hm⟩ := mine18_facts hM
    obtain ⟨s1, s2, s3, s4⟩ := fits_facts hF
    simp only at s3 s4 hK
    have hd : ∀ d ∈ D, d.length ≤ 1000000000000 := fun d h => by have := s2 d h; omega
    obtain ⟨f1, f2, f3⟩ := one_facts hm
    have hrt : ∀ r ∈ D, rightB r = true := fun r h => by have := f2 r h; unfold domB at this; rw [Bool.and_eq_true] at this; exact this.1
    have hle := small_le (C := C) hn hrt
    have hsd := small_dom (C := C) hn f2
    have hmS := mod_sub hle hsd hm
    have hor := order_tasks (c := (K, X, A, G)) hK hm hmS hle
    have hSl : (smallL D C).length = D.length := hle.1
    have hSd : ∀ d ∈ smallL D C, d.length ≤ 1000000000000 := fun d h => by have := dom_len (hsd d h); omega
    simp +contextual -implicitDefEqProofs (maxSteps := 1000000) only [sm, sn, sxx, seval, hn']
    refine callA_rule (law12_Smaller D C hn (by omega) hd hC) (wkL_refl _) rfl ?_
    generalize smallL D C = S at hle hsd hmS hor hSl hSd ⊢
    simp +contextual -implicitDefEqProofs (maxSteps := 1000000) only [sm, sn, sxx, seval, eCon, eIs, eDoms]
    refine callA_rule (tasks_Narrow (K, X, A, G) D (by omega) hd ⟨by simp only; omega, by simp only; omega⟩) (wkL_refl _) rfl ?_
    have z1 := size_tasks (c := (K, X, A, G)) hK hmS
    generalize tasksL (K, X, A, G) D = r1 at hor ⊢
    obtain ⟨x1, e1⟩ := r1
    simp +contextual -implicitDefEqProofs (maxSteps := 1000000) only [sm, sn, sxx, seval, eCon, eIs, eDoms]
    refine callA_rule (tasks_Narrow (K, X, A, G) S (by omega) hSd ⟨by simp only; omega, by simp only; omega⟩) (wkL_refl _) rfl ?_
    generalize tasksL (K, X, A, G) S = r2 at hor z1 ⊢
    obtain ⟨x2, e2⟩ := r2
    simp only [Prod.mk.injEq] at hor
    rcases hor with ⟨E, ⟨rfl, rfl⟩, ⟨rfl, rfl⟩ | ⟨E', ⟨rfl, rfl⟩, hEE⟩⟩ | ⟨⟨rfl, rfl⟩, ⟨rfl, rfl⟩⟩
    · simp +contextual -implicitDefEqProofs (maxSteps := 1000000) only [sm, sn, sxx, seval, eDoms]
    · simp +contextual -implicitDefEqProofs (maxSteps := 1000000) only [sm, sn, sxx, seval, eDoms]
      refine callA_rule (law12_Under _ _ hEE (by simpa using z1)) (wkL_refl _) rfl ?_
      simp +contextual -implicitDefEqProofs (maxSteps := 1000000) only [sm, sn, sxx, seval]
    · simp +contextual -implicitDefEqProofs (maxSteps := 1000000) only [sm, sn, sxx, seval, eDoms]
  · have hn' : ((C.length : Int) = (D.length : Int)) = False := by simp only [eq_iff_iff, iff_false]; omega
    simp +contextual -implicitDefEqProofs (maxSteps := 1000000) only [sm, sn, sxx, seval, hn']
end Go.Proofs.Ytnhedjpghpdbdaa
