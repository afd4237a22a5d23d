/- What Narrow of package touchstoneref14 computes. -/
import Derived.Test.YtbhigfllanblpaaWRef14b
import Derived.Test.YtbhigfllanblpaaWRef14c
import Derived.Test.YtbhigfllanblpaaGRef08
namespace Go.Proofs.Ytbhigfllanblpaa
open Av
attribute [local irreducible] awp awpOpers
set_option linter.unusedSimpArgs false
set_option linter.unusedVariables false
set_option maxRecDepth 100000
set_option maxHeartbeats 4000000
theorem tellA_f' (F : List (List Rg)) : tellA (F, false) = (F, 0) := rfl
theorem tellA_t' (F : List (List Rg)) : tellA (F, true) = ([], 12) := rfl
def rarithS (K : Int) (D : List (List Rg)) (X : List Int) : Sd :=
  if K = 7 then rtimes (D, false) (xat X 0) (xat X 1) (xat X 2) else if K = 8 then rlesser (D, false) (xat X 0) (xat X 1) (xat X 2) else if K = 9 then rgreater (D, false) (xat X 0) (xat X 1) (xat X 2)
  else if K = 10 then rsize (D, false) (xat X 0) (xat X 1) else rsame (D, false) (xat X 0) (xat X 1)
def rarithL (c : Con) (D : List (List Rg)) : List (List Rg) × Int :=
  if modB (D, [c], 0, 0) = true then (if c.1 = 7 ∨ c.1 = 8 ∨ c.1 = 9 ∨ c.1 = 10 ∨ c.1 = 15 then tellA (rarithS c.1 D c.2.1) else ([], 10)) else ([], 2)
theorem ref14_Narrow (c : Con) (D : List (List Rg)) (hD : D.length ≤ 1000000000000) (hd : ∀ d ∈ D, d.length ≤ 1000000000000) (hc : conFits c) :
    Ctr Try.prog 34 [eCon c, eDoms D] [] (.tuple [eDoms (rarithL c D).1, .int .i64 (rarithL c D).2]) [] := by
  obtain ⟨K, X, A, C⟩ := c
  refine call_pure Try.func34 Try.call34 e_ref14_Narrow ?_
  simp +contextual -implicitDefEqProofs (maxSteps := 1000000) only [c_ref14_Narrow, eCon, eIs, eDoms, sm, sn, seval]
  refine callA_rule (ref12_Fit (K, X, A, C) D hD hd hc) (wkL_refl _) rfl ?_
  cases hm : fitB (K, X, A, C) D
  · have hres : rarithL (K, X, A, C) D = ([], 2) := by
      unfold rarithL
      rw [if_neg (by intro h; have : fitB (K, X, A, C) D = true := h; rw [hm] at this; cases this)]
    rw [hres]
    simp +contextual -implicitDefEqProofs (maxSteps := 1000000) only [sm, sn, seval, eDoms]
  have hm : modB (D, [(K, X, A, C)], 0, 0) = true := hm
  obtain ⟨f1, f2, f3⟩ := one_facts hm
  have hDk : DOk D := fun x h0 h1 => f2 _ (row_mem ⟨h0, h1⟩)
  have hRS : RS D.length (D, false) := ⟨f1, rfl, fun _ => hDk⟩
  simp +contextual -implicitDefEqProofs (maxSteps := 1000000) only [sm, sn, seval]
  by_cases hK : K = 7
  · subst hK
    have hidx := arith_idx (c := (7, X, A, C)) (D := D) (by unfold aKind; simp) hm
    obtain ⟨-, -, i0, i1, i3, i2, -⟩ := hidx
    simp only at i0 i1 i3 i2
    have hres : rarithL (7, X, A, C) D = tellA (rtimes (D, false) (xat X 0) (xat X 1) (xat X 2)) := by unfold rarithL rarithS; rw [if_pos hm]; simp
    have hlen : X.length = 3 := (i3 (by simp)).1
    have g0 : X[0]? = some (xat X 0) := xat_get (by omega)
    have g1 : X[1]? = some (xat X 1) := xat_get (by omega)
    have g2 : X[2]? = some (xat X 2) := xat_get (by omega)
    have hcon := ref14_times D.length (D, false) (xat X 0) (xat X 1) (xat X 2) hRS i0 i1 (i3 (by simp)).2
    rw [hres]
    generalize rtimes (D, false) (xat X 0) (xat X 1) (xat X 2) = s at hcon ⊢
    simp +contextual -implicitDefEqProofs (maxSteps := 1000000) only [sm, sn, seval, eSt, eDoms, eRgs, eCon, eIs, g0, g1, g2]
    refine callA_rule hcon (by simp +contextual -implicitDefEqProofs (maxSteps := 1000000) only [sm, sn, seval, eSt, eDoms, eRgs, eCon, eIs]) rfl ?_
    simp +contextual -implicitDefEqProofs (maxSteps := 1000000) only [sm, sn, seval, eSt, eDoms, eRgs, eCon, eIs]
    obtain ⟨F, b⟩ := s
    cases b
    · rw [tellA_f']
      simp +contextual -implicitDefEqProofs (maxSteps := 1000000) only [sm, sn, seval, eSt, eDoms, eRgs, eCon, eIs]
    · rw [tellA_t']
      simp +contextual -implicitDefEqProofs (maxSteps := 1000000) only [sm, sn, seval, eSt, eDoms, eRgs, eCon, eIs]
  by_cases hK : K = 8
  · subst hK
    have hidx := arith_idx (c := (8, X, A, C)) (D := D) (by unfold aKind; simp) hm
    obtain ⟨-, -, i0, i1, i3, i2, -⟩ := hidx
    simp only at i0 i1 i3 i2
    have hres : rarithL (8, X, A, C) D = tellA (rlesser (D, false) (xat X 0) (xat X 1) (xat X 2)) := by unfold rarithL rarithS; rw [if_pos hm]; simp
    have hlen : X.length = 3 := (i3 (by simp)).1
    have g0 : X[0]? = some (xat X 0) := xat_get (by omega)
    have g1 : X[1]? = some (xat X 1) := xat_get (by omega)
    have g2 : X[2]? = some (xat X 2) := xat_get (by omega)
    have hcon := ref14_lesser D.length (D, false) (xat X 0) (xat X 1) (xat X 2) hRS i0 i1 (i3 (by simp)).2
    rw [hres]
    generalize rlesser (D, false) (xat X 0) (xat X 1) (xat X 2) = s at hcon ⊢
    simp +contextual -implicitDefEqProofs (maxSteps := 1000000) only [sm, sn, seval, eSt, eDoms, eRgs, eCon, eIs, g0, g1, g2]
    refine callA_rule hcon (by simp +contextual -implicitDefEqProofs (maxSteps := 1000000) only [sm, sn, seval, eSt, eDoms, eRgs, eCon, eIs]) rfl ?_
    simp +contextual -implicitDefEqProofs (maxSteps := 1000000) only [sm, sn, seval, eSt, eDoms, eRgs, eCon, eIs]
    obtain ⟨F, b⟩ := s
    cases b
    · rw [tellA_f']
      simp +contextual -implicitDefEqProofs (maxSteps := 1000000) only [sm, sn, seval, eSt, eDoms, eRgs, eCon, eIs]
    · rw [tellA_t']
      simp +contextual -implicitDefEqProofs (maxSteps := 1000000) only [sm, sn, seval, eSt, eDoms, eRgs, eCon, eIs]
  by_cases hK : K = 9
  · subst hK
    have hidx := arith_idx (c := (9, X, A, C)) (D := D) (by unfold aKind; simp) hm
    obtain ⟨-, -, i0, i1, i3, i2, -⟩ := hidx
    simp only at i0 i1 i3 i2
    have hres : rarithL (9, X, A, C) D = tellA (rgreater (D, false) (xat X 0) (xat X 1) (xat X 2)) := by unfold rarithL rarithS; rw [if_pos hm]; simp
    have hlen : X.length = 3 := (i3 (by simp)).1
    have g0 : X[0]? = some (xat X 0) := xat_get (by omega)
    have g1 : X[1]? = some (xat X 1) := xat_get (by omega)
    have g2 : X[2]? = some (xat X 2) := xat_get (by omega)
    have hcon := ref14_greater D.length (D, false) (xat X 0) (xat X 1) (xat X 2) hRS i0 i1 (i3 (by simp)).2
    rw [hres]
    generalize rgreater (D, false) (xat X 0) (xat X 1) (xat X 2) = s at hcon ⊢
    simp +contextual -implicitDefEqProofs (maxSteps := 1000000) only [sm, sn, seval, eSt, eDoms, eRgs, eCon, eIs, g0, g1, g2]
    refine callA_rule hcon (by simp +contextual -implicitDefEqProofs (maxSteps := 1000000) only [sm, sn, seval, eSt, eDoms, eRgs, eCon, eIs]) rfl ?_
    simp +contextual -implicitDefEqProofs (maxSteps := 1000000) only [sm, sn, seval, eSt, eDoms, eRgs, eCon, eIs]
    obtain ⟨F, b⟩ := s
    cases b
    · rw [tellA_f']
      simp +contextual -implicitDefEqProofs (maxSteps := 1000000) only [sm, sn, seval, eSt, eDoms, eRgs, eCon, eIs]
    · rw [tellA_t']
      simp +contextual -implicitDefEqProofs (maxSteps := 1000000) only [sm, sn, seval, eSt, eDoms, eRgs, eCon, eIs]
  by_cases hK : K = 10
  · subst hK
    have hidx := arith_idx (c := (10, X, A, C)) (D := D) (by unfold aKind; simp) hm
    obtain ⟨-, -, i0, i1, i3, i2, -⟩ := hidx
    simp only at i0 i1 i3 i2
    have hres : rarithL (10, X, A, C) D = tellA (rsize (D, false) (xat X 0) (xat X 1)) := by unfold rarithL rarithS; rw [if_pos hm]; simp
    have hlen : X.length = 2 := i2 (by simp)
    have g0 : X[0]? = some (xat X 0) := xat_get (by omega)
    have g1 : X[1]? = some (xat X 1) := xat_get (by omega)
    have hcon := ref14_size D.length (D, false) (xat X 0) (xat X 1) hRS i0 i1
    rw [hres]
    generalize rsize (D, false) (xat X 0) (xat X 1) = s at hcon ⊢
    simp +contextual -implicitDefEqProofs (maxSteps := 1000000) only [sm, sn, seval, eSt, eDoms, eRgs, eCon, eIs, g0, g1]
    refine callA_rule hcon (by simp +contextual -implicitDefEqProofs (maxSteps := 1000000) only [sm, sn, seval, eSt, eDoms, eRgs, eCon, eIs]) rfl ?_
    simp +contextual -implicitDefEqProofs (maxSteps := 1000000) only [sm, sn, seval, eSt, eDoms, eRgs, eCon, eIs]
    obtain ⟨F, b⟩ := s
    cases b
    · rw [tellA_f']
      simp +contextual -implicitDefEqProofs (maxSteps := 1000000) only [sm, sn, seval, eSt, eDoms, eRgs, eCon, eIs]
    · rw [tellA_t']
      simp +contextual -implicitDefEqProofs (maxSteps := 1000000) only [sm, sn, seval, eSt, eDoms, eRgs, eCon, eIs]
  by_cases hK : K = 15
  · subst hK
    have hidx := arith_idx (c := (15, X, A, C)) (D := D) (by unfold aKind; simp) hm
    obtain ⟨-, -, i0, i1, i3, i2, -⟩ := hidx
    simp only at i0 i1 i3 i2
    have hres : rarithL (15, X, A, C) D = tellA (rsame (D, false) (xat X 0) (xat X 1)) := by unfold rarithL rarithS; rw [if_pos hm]; simp
    have hlen : X.length = 2 := i2 (by simp)
    have g0 : X[0]? = some (xat X 0) := xat_get (by omega)
    have g1 : X[1]? = some (xat X 1) := xat_get (by omega)
    have hcon := ref14_same D.length (D, false) (xat X 0) (xat X 1) hRS rfl i0 i1
    rw [hres]
    generalize rsame (D, false) (xat X 0) (xat X 1) = s at hcon ⊢
    simp +contextual -implicitDefEqProofs (maxSteps := 1000000) only [sm, sn, seval, eSt, eDoms, eRgs, eCon, eIs, g0, g1]
    refine callA_rule hcon (by simp +contextual -implicitDefEqProofs (maxSteps := 1000000) only [sm, sn, seval, eSt, eDoms, eRgs, eCon, eIs]) rfl ?_
    simp +contextual -implicitDefEqProofs (maxSteps := 1000000) only [sm, sn, seval, eSt, eDoms, eRgs, eCon, eIs]
    obtain ⟨F, b⟩ := s
    cases b
    · rw [tellA_f']
      simp +contextual -implicitDefEqProofs (maxSteps := 1000000) only [sm, sn, seval, eSt, eDoms, eRgs, eCon, eIs]
    · rw [tellA_t']
      simp +contextual -implicitDefEqProofs (maxSteps := 1000000) only [sm, sn, seval, eSt, eDoms, eRgs, eCon, eIs]
  rename_i k1 k2 k3 k4
  have hres : rarithL (K, X, A, C) D = ([], 10) := by
    unfold rarithL
    rw [if_pos hm, if_neg (by simp only; omega)]
  rw [hres]
  simp +contextual -implicitDefEqProofs (maxSteps := 1000000) only [sm, sn, seval, eCon, eIs, k1, k2, k3, k4, hK, eDoms]
end Go.Proofs.Ytbhigfllanblpaa
