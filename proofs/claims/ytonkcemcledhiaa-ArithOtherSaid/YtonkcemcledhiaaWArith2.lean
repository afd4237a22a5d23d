/- What the functions of package arith compute, continued: times, lesser, greater, size, same, Narrow. -/
import Derived.Test.YtonkcemcledhiaaWArith
import Derived.Test.YtonkcemcledhiaaWFrz
import Derived.Test.YtonkcemcledhiaaCArith2
namespace Go.Proofs.Ytonkcemcledhiaa
open Av
attribute [local irreducible] awp awpOpers
set_option linter.unusedSimpArgs false
set_option linter.unusedVariables false
set_option maxRecDepth 100000
set_option maxHeartbeats 4000000
theorem in_ok {D : List (List Rg)} {X : List Int} {s : Sd} (hI : InD D X) (h : OkA D s) : InD s.1 X := fun i hi => by
  have := hI i hi
  have h1 := h.1.1
  omega
theorem arB_putN (X : List Int) (s : Sd) (i : Nat) (l : List Rg) (hI : InD s.1 X) (hi : i < X.length) : Ctr Try.prog 102 [.ptr 3 0 0 0, .int .i64 i, eRgs l] (arB X s ++ [none]) (.tuple []) (arB X (putA s (xat X i) l) ++ [none]) := by
  refine call_box Try.func102 Try.call102 e_arith_box_put ?_
  have hx := xat_get hi
  have hin := hI i hi
  have h0 := hin.1
  have hxn : (xat X i).toNat < s.1.length := by omega
  obtain ⟨D, b⟩ := s
  simp only at hin hxn
  unfold putA
  by_cases h : l.length = 0
  · have h' : ((l.length : Int) = 0) = True := by simp only [eq_iff_iff, iff_true]; omega
    rw [if_pos h]
    simp +contextual -implicitDefEqProofs (maxSteps := 1000000) only [c_arith_box_put, arB_eq, eRgs, sm, sn, sxx, seval, h']
    refine ⟨[], [0, 1, 2], by decide, ?_⟩
    simp +contextual -implicitDefEqProofs (maxSteps := 1000000) only [sm, sn, sxx, seval]
    try rfl
  · have h' : ((l.length : Int) = 0) = False := by simp only [eq_iff_iff, iff_false]; omega
    have hs := set_rows2a D (xat X i).toNat l
    obtain ⟨r, hr⟩ : ∃ r, D[(xat X i).toNat]? = some r := ⟨_, List.getElem?_eq_getElem hxn⟩
    rw [if_neg h]
    simp +contextual -implicitDefEqProofs (maxSteps := 1000000) only [c_arith_box_put, arB_eq, eRgs, sm, sn, sxx, seval, h', hx, h0, hxn, hr, hs]
    refine ⟨[], [0, 1, 2], by decide, ?_⟩
    simp +contextual -implicitDefEqProofs (maxSteps := 1000000) only [sm, sn, sxx, seval, List.length_set]
    try rfl
/-- put, handed a row of its caller's own -/
theorem arith_putO (X : List Int) (s : Sd) (i : Nat) (l : List Rg) (hI : InD s.1 X) (hi : i < X.length) : Ctr Try.prog 102 [.ptr 3 0 0 0, .int .i64 i, .sl 2 2 0 l.length] (arB X s ++ [some (2, l.map eRg)]) (.tuple []) (arB X (putA s (xat X i) l) ++ [none]) := by
  have c3 : List.take l.length (List.map eRg l) = List.map eRg l := take_map _ _
  have c4 : List.take l.length (List.drop 0 (List.map eRg l)) = List.map eRg l := take_map _ _
  refine ctr_frz [0, 1] [2] (arB_putN X s i l hI hi) rfl ?_ ?_
  · intro k hk
    simp only [List.length_append, List.length_cons, List.length_nil, arB_eq] at hk
    have : k = 0 ∨ k = 1 ∨ k = 2 := by omega
    rcases this with rfl | rfl | rfl <;> simp
  · intro j v v' hv hv'
    have hj : j < 3 := by
      rcases Nat.lt_or_ge j 3 with h | h
      · exact h
      · rw [List.getElem?_eq_none (by simpa using h)] at hv; cases hv
    have hcs : j = 0 ∨ j = 1 ∨ j = 2 := by omega
    rcases hcs with rfl | rfl | rfl
    · injection hv with hv; injection hv' with hv'; subst hv; subst hv'
      left; exact wk_refl _
    · injection hv with hv; injection hv' with hv'; subst hv; subst hv'
      left; exact wk_refl _
    · injection hv with hv; injection hv' with hv'; subst hv; subst hv'
      right
      simp +contextual -implicitDefEqProofs (maxSteps := 1000000) only [sm, sn, sxx, seval, arB_eq, eRgs, killL, c3, c4]
theorem arith_times (X : List Int) (D : List (List Rg)) (hX : X.length = 3) (hI : InD D X) (hD : DOk D) : Ctr Try.prog 56 [.ptr 3 0 0 0] (arB X (D, false)) (.tuple []) (arB X (timesA D (xat X 0) (xat X 1) (xat X 2))) := by
  refine call_box Try.func56 Try.call56 e_arith_box_times ?_
  have hrows := ok_rows hD
  have i0 := hI 0 (by omega)
  have i1 := hI 1 (by omega)
  have i2 := hI 2 (by omega)
  have hE0 := arith_ends D X false 0 hI hrows (by omega)
  have hE1 := arith_ends D X false 1 hI hrows (by omega)
  obtain ⟨-, x1, x2, x3⟩ := eAt_facts hD i0
  obtain ⟨-, y1, y2, y3⟩ := eAt_facts hD i1
  obtain ⟨a1, -, -⟩ := cut_ok (corn muls (eAt D (xat X 0)) (eAt D (xat X 1))).1 (corn muls (eAt D (xat X 0)) (eAt D (xat X 1))).2 (ok_start hD) i2
  have hC := arith_cut X (D, false) 2 (corn muls (eAt D (xat X 0)) (eAt D (xat X 1))).1 (corn muls (eAt D (xat X 0)) (eAt D (xat X 1))).2 hI hD (by omega)
  unfold timesA
  generalize eAt D (xat X 0) = p at hE0 x1 x2 x3 a1 hC ⊢
  generalize eAt D (xat X 1) = q at hE1 y1 y2 y3 a1 hC ⊢
  obtain ⟨pa, pb⟩ := p
  obtain ⟨qa, qb⟩ := q
  simp only at x1 x2 x3 y1 y2 y3
  obtain ⟨s1, hs1⟩ : ∃ s, cutA (D, false) (xat X 2) (corn muls (pa, pb) (qa, qb)).1 (corn muls (pa, pb) (qa, qb)).2 = s := ⟨_, rfl⟩
  rw [hs1] at a1 hC ⊢
  obtain ⟨E1, b1⟩ := s1
  simp +contextual -implicitDefEqProofs (maxSteps := 1000000) only [c_arith_box_times, arB_eq, sm, sn, sxx, seval]
  refine callV_rule hE0 ?_ rfl ?_
  · simp +contextual -implicitDefEqProofs (maxSteps := 1000000) only [sm, sn, sxx, seval]
  simp +contextual -implicitDefEqProofs (maxSteps := 1000000) only [sm, sn, sxx, seval, eRg]
  refine callV_rule hE1 ?_ rfl ?_
  · simp +contextual -implicitDefEqProofs (maxSteps := 1000000) only [sm, sn, sxx, seval]
  simp +contextual -implicitDefEqProofs (maxSteps := 1000000) only [sm, sn, sxx, seval, eRg]
  refine callA_rule (arith_corners (pa, pb) (qa, qb) 98 muls (arith_mul _ _ (by omega) (by omega)) (arith_mul _ _ (by omega) (by omega)) (arith_mul _ _ (by omega) (by omega)) (arith_mul _ _ (by omega) (by omega))) (by simp +contextual -implicitDefEqProofs (maxSteps := 1000000) only [sm, sn, sxx, seval, eRg]) rfl ?_
  simp +contextual -implicitDefEqProofs (maxSteps := 1000000) only [sm, sn, sxx, seval, eRg]
  refine callM_rule [0, 1] (hC) (by decide) ?_ ?_ ?_ ?_ ?_ ?_
  · simp +contextual -implicitDefEqProofs (maxSteps := 1000000) only [sm, sn, sxx, seval, arB_eq]
    try rfl
  · simp +contextual -implicitDefEqProofs (maxSteps := 1000000) only [sm, sn, sxx, seval, arB_eq, eRgs]
  · simp +contextual -implicitDefEqProofs (maxSteps := 1000000) only [sm, sn, sxx, seval, arB_eq, eRgs]
    try rfl
  · simp +contextual -implicitDefEqProofs (maxSteps := 1000000) only [sm, sn, sxx, seval, arB_eq, eRgs]
  · simp +contextual -implicitDefEqProofs (maxSteps := 1000000) only [sm, sn, sxx, seval, arB_eq]
  · cases b1
    · have hI1 := in_ok hI a1
      have hG2 := arith_getB X (E1, false) 2 hI1 (by omega)
      have hG0 := arith_getB X (E1, false) 0 hI1 (by omega)
      have hr1 := ok_rows a1.2
      have hrw2 := hr1 _ (row_mem (hI1 2 (by omega)))
      have hrw0 := hr1 _ (row_mem (hI1 0 (by omega)))
      have hP0 := arith_put X (E1, false) 0 (withoutS 0 (rowOf E1 (xat X 0))) hI1 (by omega)
      obtain ⟨a2, -, -⟩ := put_ok (l := withoutS 0 (rowOf E1 (xat X 0))) a1 i0 (without_sub (dom_right (a1.2 _ (hI1 0 (by omega)).1 (hI1 0 (by omega)).2)).1 _)
      simp +contextual -implicitDefEqProofs (maxSteps := 1000000) only [sm, sn, sxx, seval, arB_eq, eRgs]
      refine callM_rule [0, 1] (hG2) (by decide) ?_ ?_ ?_ ?_ ?_ ?_
      · simp +contextual -implicitDefEqProofs (maxSteps := 1000000) only [sm, sn, sxx, seval, arB_eq]
        try rfl
      · simp +contextual -implicitDefEqProofs (maxSteps := 1000000) only [sm, sn, sxx, seval, arB_eq, eRgs]
      · simp +contextual -implicitDefEqProofs (maxSteps := 1000000) only [sm, sn, sxx, seval, arB_eq, eRgs]
        try rfl
      · simp +contextual -implicitDefEqProofs (maxSteps := 1000000) only [sm, sn, sxx, seval, arB_eq, eRgs]
      · simp +contextual -implicitDefEqProofs (maxSteps := 1000000) only [sm, sn, sxx, seval, arB_eq]
      · simp +contextual -implicitDefEqProofs (maxSteps := 1000000) only [sm, sn, sxx, seval, arB_eq, eRgs]
        refine callA_rule (set_Has (rowOf E1 (xat X 2)) 0 hrw2) (by simp +contextual -implicitDefEqProofs (maxSteps := 1000000) only [sm, sn, sxx, seval, eRgs]) rfl ?_
        cases hh : hasB (rowOf E1 (xat X 2)) 0
        · have hl : loseA (E1, false) (xat X 0) (xat X 1) (xat X 2) = if (putA (E1, false) (xat X 0) (withoutS 0 (rowOf E1 (xat X 0)))).2 = true then putA (E1, false) (xat X 0) (withoutS 0 (rowOf E1 (xat X 0))) else putA (putA (E1, false) (xat X 0) (withoutS 0 (rowOf E1 (xat X 0)))) (xat X 1) (withoutS 0 (rowOf (putA (E1, false) (xat X 0) (withoutS 0 (rowOf E1 (xat X 0)))).1 (xat X 1))) := by
            unfold loseA
            rw [if_pos ⟨rfl, hh⟩]
          rw [hl]
          clear hl
          obtain ⟨s2, hs2⟩ : ∃ s, putA (E1, false) (xat X 0) (withoutS 0 (rowOf E1 (xat X 0))) = s := ⟨_, rfl⟩
          try simp only at hP0
          rw [hs2] at a2 hP0 ⊢
          obtain ⟨E2, b2⟩ := s2
          simp +contextual -implicitDefEqProofs (maxSteps := 1000000) only [sm, sn, sxx, seval, arB_eq, eRgs]
          refine callM_rule [0, 1] (hG0) (by decide) ?_ ?_ ?_ ?_ ?_ ?_
          · simp +contextual -implicitDefEqProofs (maxSteps := 1000000) only [sm, sn, sxx, seval, arB_eq]
            try rfl
          · simp +contextual -implicitDefEqProofs (maxSteps := 1000000) only [sm, sn, sxx, seval, arB_eq, eRgs]
          · simp +contextual -implicitDefEqProofs (maxSteps := 1000000) only [sm, sn, sxx, seval, arB_eq, eRgs]
            try rfl
          · simp +contextual -implicitDefEqProofs (maxSteps := 1000000) only [sm, sn, sxx, seval, arB_eq, eRgs]
          · simp +contextual -implicitDefEqProofs (maxSteps := 1000000) only [sm, sn, sxx, seval, arB_eq]
          · simp +contextual -implicitDefEqProofs (maxSteps := 1000000) only [sm, sn, sxx, seval, arB_eq, eRgs]
            refine callA_rule (set_Without (rowOf E1 (xat X 0)) 0 hrw0 (by omega)) (by simp +contextual -implicitDefEqProofs (maxSteps := 1000000) only [sm, sn, sxx, seval, eRgs]) rfl ?_
            simp +contextual -implicitDefEqProofs (maxSteps := 1000000) only [sm, sn, sxx, seval, eRgs]
            refine callM_rule [0, 1] (hP0) (by decide) ?_ ?_ ?_ ?_ ?_ ?_
            · simp +contextual -implicitDefEqProofs (maxSteps := 1000000) only [sm, sn, sxx, seval, arB_eq]
              try rfl
            · simp +contextual -implicitDefEqProofs (maxSteps := 1000000) only [sm, sn, sxx, seval, arB_eq, eRgs]
            · simp +contextual -implicitDefEqProofs (maxSteps := 1000000) only [sm, sn, sxx, seval, arB_eq, eRgs]
              try rfl
            · simp +contextual -implicitDefEqProofs (maxSteps := 1000000) only [sm, sn, sxx, seval, arB_eq, eRgs]
            · simp +contextual -implicitDefEqProofs (maxSteps := 1000000) only [sm, sn, sxx, seval, arB_eq]
            · cases b2
              · have hI2 := in_ok hI a2
                have hG1 := arith_getB X (E2, false) 1 hI2 (by omega)
                have hrw1 := ok_rows a2.2 _ (row_mem (hI2 1 (by omega)))
                have hP1 := arith_put X (E2, false) 1 (withoutS 0 (rowOf E2 (xat X 1))) hI2 (by omega)
                obtain ⟨a4, -, -⟩ := put_ok (l := withoutS 0 (rowOf E2 (xat X 1))) a2 i1 (without_sub (dom_right (a2.2 _ (hI2 1 (by omega)).1 (hI2 1 (by omega)).2)).1 _)
                have hif : ¬ (E2, false).2 = true := by simp only [Bool.false_eq_true, not_false_iff]
                rw [if_neg hif]
                try simp only at hP1 a4 ⊢
                obtain ⟨s3, hs3⟩ : ∃ s, putA (E2, false) (xat X 1) (withoutS 0 (rowOf E2 (xat X 1))) = s := ⟨_, rfl⟩
                rw [hs3] at hP1 a4 ⊢
                obtain ⟨E3, b3⟩ := s3
                simp +contextual -implicitDefEqProofs (maxSteps := 1000000) only [sm, sn, sxx, seval, arB_eq, eRgs]
                refine callM_rule [0, 1] (hG1) (by decide) ?_ ?_ ?_ ?_ ?_ ?_
                · simp +contextual -implicitDefEqProofs (maxSteps := 1000000) only [sm, sn, sxx, seval, arB_eq]
                  try rfl
                · simp +contextual -implicitDefEqProofs (maxSteps := 1000000) only [sm, sn, sxx, seval, arB_eq, eRgs]
                · simp +contextual -implicitDefEqProofs (maxSteps := 1000000) only [sm, sn, sxx, seval, arB_eq, eRgs]
                  try rfl
                · simp +contextual -implicitDefEqProofs (maxSteps := 1000000) only [sm, sn, sxx, seval, arB_eq, eRgs]
                · simp +contextual -implicitDefEqProofs (maxSteps := 1000000) only [sm, sn, sxx, seval, arB_eq]
                · simp +contextual -implicitDefEqProofs (maxSteps := 1000000) only [sm, sn, sxx, seval, arB_eq, eRgs]
                  refine callA_rule (set_Without (rowOf E2 (xat X 1)) 0 hrw1 (by omega)) (by simp +contextual -implicitDefEqProofs (maxSteps := 1000000) only [sm, sn, sxx, seval, eRgs]) rfl ?_
                  simp +contextual -implicitDefEqProofs (maxSteps := 1000000) only [sm, sn, sxx, seval, eRgs]
                  refine callM_rule [0, 1] (hP1) (by decide) ?_ ?_ ?_ ?_ ?_ ?_
                  · simp +contextual -implicitDefEqProofs (maxSteps := 1000000) only [sm, sn, sxx, seval, arB_eq]
                    try rfl
                  · simp +contextual -implicitDefEqProofs (maxSteps := 1000000) only [sm, sn, sxx, seval, arB_eq, eRgs]
                  · simp +contextual -implicitDefEqProofs (maxSteps := 1000000) only [sm, sn, sxx, seval, arB_eq, eRgs]
                    try rfl
                  · simp +contextual -implicitDefEqProofs (maxSteps := 1000000) only [sm, sn, sxx, seval, arB_eq, eRgs]
                  · simp +contextual -implicitDefEqProofs (maxSteps := 1000000) only [sm, sn, sxx, seval, arB_eq]
                  · simp +contextual -implicitDefEqProofs (maxSteps := 1000000) only [sm, sn, sxx, seval, arB_eq, eRgs]
                    have hv1 := arith_divide X (E3, b3) 0 1 (in_ok hI a4) a4.2 (by omega) (by omega) (by omega)
                    obtain ⟨a3, -, -⟩ := div_ok (x := xat X 0) (y := xat X 1) (z := xat X 2) a4 i0
                    have hv2 := arith_divide X (divA (E3, b3) (xat X 0) (xat X 1) (xat X 2)) 1 0 (in_ok hI a3) a3.2 (by omega) (by omega) (by omega)
                    generalize divA (E3, b3) (xat X 0) (xat X 1) (xat X 2) = t at hv1 hv2 a3 ⊢
                    generalize divA t (xat X 1) (xat X 0) (xat X 2) = u at hv2 ⊢
                    refine callM_rule [0, 1] (hv1) (by decide) ?_ ?_ ?_ ?_ ?_ ?_
                    · simp +contextual -implicitDefEqProofs (maxSteps := 1000000) only [sm, sn, sxx, seval, arB_eq]
                      try rfl
                    · simp +contextual -implicitDefEqProofs (maxSteps := 1000000) only [sm, sn, sxx, seval, arB_eq, eRgs]
                    · simp +contextual -implicitDefEqProofs (maxSteps := 1000000) only [sm, sn, sxx, seval, arB_eq, eRgs]
                      try rfl
                    · simp +contextual -implicitDefEqProofs (maxSteps := 1000000) only [sm, sn, sxx, seval, arB_eq, eRgs]
                    · simp +contextual -implicitDefEqProofs (maxSteps := 1000000) only [sm, sn, sxx, seval, arB_eq]
                    · simp +contextual -implicitDefEqProofs (maxSteps := 1000000) only [sm, sn, sxx, seval, arB_eq, eRgs]
                      refine callM_rule [0, 1] (hv2) (by decide) ?_ ?_ ?_ ?_ ?_ ?_
                      · simp +contextual -implicitDefEqProofs (maxSteps := 1000000) only [sm, sn, sxx, seval, arB_eq]
                        try rfl
                      · simp +contextual -implicitDefEqProofs (maxSteps := 1000000) only [sm, sn, sxx, seval, arB_eq, eRgs]
                      · simp +contextual -implicitDefEqProofs (maxSteps := 1000000) only [sm, sn, sxx, seval, arB_eq, eRgs]
                        try rfl
                      · simp +contextual -implicitDefEqProofs (maxSteps := 1000000) only [sm, sn, sxx, seval, arB_eq, eRgs]
                      · simp +contextual -implicitDefEqProofs (maxSteps := 1000000) only [sm, sn, sxx, seval, arB_eq]
                      · simp +contextual -implicitDefEqProofs (maxSteps := 1000000) only [sm, sn, sxx, seval, arB_eq, eRgs]
                        refine ⟨[], [0, 1], by decide, ?_⟩
                        simp +contextual -implicitDefEqProofs (maxSteps := 1000000) only [sm, sn, sxx, seval, arB_eq]
                        try rfl
              · have hif : (E2, true).2 = true := rfl
                rw [if_pos hif]
                simp +contextual -implicitDefEqProofs (maxSteps := 1000000) only [sm, sn, sxx, seval, arB_eq, eRgs]
                have hv1 := arith_divide X (E2, true) 0 1 (in_ok hI a2) a2.2 (by omega) (by omega) (by omega)
                obtain ⟨a3, -, -⟩ := div_ok (x := xat X 0) (y := xat X 1) (z := xat X 2) a2 i0
                have hv2 := arith_divide X (divA (E2, true) (xat X 0) (xat X 1) (xat X 2)) 1 0 (in_ok hI a3) a3.2 (by omega) (by omega) (by omega)
                generalize divA (E2, true) (xat X 0) (xat X 1) (xat X 2) = t at hv1 hv2 a3 ⊢
                generalize divA t (xat X 1) (xat X 0) (xat X 2) = u at hv2 ⊢
                refine callM_rule [0, 1] (hv1) (by decide) ?_ ?_ ?_ ?_ ?_ ?_
                · simp +contextual -implicitDefEqProofs (maxSteps := 1000000) only [sm, sn, sxx, seval, arB_eq]
                  try rfl
                · simp +contextual -implicitDefEqProofs (maxSteps := 1000000) only [sm, sn, sxx, seval, arB_eq, eRgs]
                · simp +contextual -implicitDefEqProofs (maxSteps := 1000000) only [sm, sn, sxx, seval, arB_eq, eRgs]
                  try rfl
                · simp +contextual -implicitDefEqProofs (maxSteps := 1000000) only [sm, sn, sxx, seval, arB_eq, eRgs]
                · simp +contextual -implicitDefEqProofs (maxSteps := 1000000) only [sm, sn, sxx, seval, arB_eq]
                · simp +contextual -implicitDefEqProofs (maxSteps := 1000000) only [sm, sn, sxx, seval, arB_eq, eRgs]
                  refine callM_rule [0, 1] (hv2) (by decide) ?_ ?_ ?_ ?_ ?_ ?_
                  · simp +contextual -implicitDefEqProofs (maxSteps := 1000000) only [sm, sn, sxx, seval, arB_eq]
                    try rfl
                  · simp +contextual -implicitDefEqProofs (maxSteps := 1000000) only [sm, sn, sxx, seval, arB_eq, eRgs]
                  · simp +contextual -implicitDefEqProofs (maxSteps := 1000000) only [sm, sn, sxx, seval, arB_eq, eRgs]
                    try rfl
                  · simp +contextual -implicitDefEqProofs (maxSteps := 1000000) only [sm, sn, sxx, seval, arB_eq, eRgs]
                  · simp +contextual -implicitDefEqProofs (maxSteps := 1000000) only [sm, sn, sxx, seval, arB_eq]
                  · simp +contextual -implicitDefEqProofs (maxSteps := 1000000) only [sm, sn, sxx, seval, arB_eq, eRgs]
                    refine ⟨[], [0, 1], by decide, ?_⟩
                    simp +contextual -implicitDefEqProofs (maxSteps := 1000000) only [sm, sn, sxx, seval, arB_eq]
                    try rfl
        · have hl : loseA (E1, false) (xat X 0) (xat X 1) (xat X 2) = (E1, false) := by
            unfold loseA
            rw [if_neg (by rintro ⟨-, h⟩; simp only at h; rw [hh] at h; cases h)]
          rw [hl]
          simp +contextual -implicitDefEqProofs (maxSteps := 1000000) only [sm, sn, sxx, seval, arB_eq, eRgs]
          have hv1 := arith_divide X (E1, false) 0 1 (in_ok hI a1) a1.2 (by omega) (by omega) (by omega)
          obtain ⟨a3, -, -⟩ := div_ok (x := xat X 0) (y := xat X 1) (z := xat X 2) a1 i0
          have hv2 := arith_divide X (divA (E1, false) (xat X 0) (xat X 1) (xat X 2)) 1 0 (in_ok hI a3) a3.2 (by omega) (by omega) (by omega)
          generalize divA (E1, false) (xat X 0) (xat X 1) (xat X 2) = t at hv1 hv2 a3 ⊢
          generalize divA t (xat X 1) (xat X 0) (xat X 2) = u at hv2 ⊢
          refine callM_rule [0, 1] (hv1) (by decide) ?_ ?_ ?_ ?_ ?_ ?_
          · simp +contextual -implicitDefEqProofs (maxSteps := 1000000) only [sm, sn, sxx, seval, arB_eq]
            try rfl
          · simp +contextual -implicitDefEqProofs (maxSteps := 1000000) only [sm, sn, sxx, seval, arB_eq, eRgs]
          · simp +contextual -implicitDefEqProofs (maxSteps := 1000000) only [sm, sn, sxx, seval, arB_eq, eRgs]
            try rfl
          · simp +contextual -implicitDefEqProofs (maxSteps := 1000000) only [sm, sn, sxx, seval, arB_eq, eRgs]
          · simp +contextual -implicitDefEqProofs (maxSteps := 1000000) only [sm, sn, sxx, seval, arB_eq]
          · simp +contextual -implicitDefEqProofs (maxSteps := 1000000) only [sm, sn, sxx, seval, arB_eq, eRgs]
            refine callM_rule [0, 1] (hv2) (by decide) ?_ ?_ ?_ ?_ ?_ ?_
            · simp +contextual -implicitDefEqProofs (maxSteps := 1000000) only [sm, sn, sxx, seval, arB_eq]
              try rfl
            · simp +contextual -implicitDefEqProofs (maxSteps := 1000000) only [sm, sn, sxx, seval, arB_eq, eRgs]
            · simp +contextual -implicitDefEqProofs (maxSteps := 1000000) only [sm, sn, sxx, seval, arB_eq, eRgs]
              try rfl
            · simp +contextual -implicitDefEqProofs (maxSteps := 1000000) only [sm, sn, sxx, seval, arB_eq, eRgs]
            · simp +contextual -implicitDefEqProofs (maxSteps := 1000000) only [sm, sn, sxx, seval, arB_eq]
            · simp +contextual -implicitDefEqProofs (maxSteps := 1000000) only [sm, sn, sxx, seval, arB_eq, eRgs]
              refine ⟨[], [0, 1], by decide, ?_⟩
              simp +contextual -implicitDefEqProofs (maxSteps := 1000000) only [sm, sn, sxx, seval, arB_eq]
              try rfl
    · have hl : loseA (E1, true) (xat X 0) (xat X 1) (xat X 2) = (E1, true) := by
        unfold loseA
        rw [if_neg (by simp)]
      rw [hl]
      simp +contextual -implicitDefEqProofs (maxSteps := 1000000) only [sm, sn, sxx, seval, arB_eq, eRgs]
      have hv1 := arith_divide X (E1, true) 0 1 (in_ok hI a1) a1.2 (by omega) (by omega) (by omega)
      obtain ⟨a3, -, -⟩ := div_ok (x := xat X 0) (y := xat X 1) (z := xat X 2) a1 i0
      have hv2 := arith_divide X (divA (E1, true) (xat X 0) (xat X 1) (xat X 2)) 1 0 (in_ok hI a3) a3.2 (by omega) (by omega) (by omega)
      generalize divA (E1, true) (xat X 0) (xat X 1) (xat X 2) = t at hv1 hv2 a3 ⊢
      generalize divA t (xat X 1) (xat X 0) (xat X 2) = u at hv2 ⊢
      refine callM_rule [0, 1] (hv1) (by decide) ?_ ?_ ?_ ?_ ?_ ?_
      · simp +contextual -implicitDefEqProofs (maxSteps := 1000000) only [sm, sn, sxx, seval, arB_eq]
        try rfl
      · simp +contextual -implicitDefEqProofs (maxSteps := 1000000) only [sm, sn, sxx, seval, arB_eq, eRgs]
      · simp +contextual -implicitDefEqProofs (maxSteps := 1000000) only [sm, sn, sxx, seval, arB_eq, eRgs]
        try rfl
      · simp +contextual -implicitDefEqProofs (maxSteps := 1000000) only [sm, sn, sxx, seval, arB_eq, eRgs]
      · simp +contextual -implicitDefEqProofs (maxSteps := 1000000) only [sm, sn, sxx, seval, arB_eq]
      · simp +contextual -implicitDefEqProofs (maxSteps := 1000000) only [sm, sn, sxx, seval, arB_eq, eRgs]
        refine callM_rule [0, 1] (hv2) (by decide) ?_ ?_ ?_ ?_ ?_ ?_
        · simp +contextual -implicitDefEqProofs (maxSteps := 1000000) only [sm, sn, sxx, seval, arB_eq]
          try rfl
        · simp +contextual -implicitDefEqProofs (maxSteps := 1000000) only [sm, sn, sxx, seval, arB_eq, eRgs]
        · simp +contextual -implicitDefEqProofs (maxSteps := 1000000) only [sm, sn, sxx, seval, arB_eq, eRgs]
          try rfl
        · simp +contextual -implicitDefEqProofs (maxSteps := 1000000) only [sm, sn, sxx, seval, arB_eq, eRgs]
        · simp +contextual -implicitDefEqProofs (maxSteps := 1000000) only [sm, sn, sxx, seval, arB_eq]
        · simp +contextual -implicitDefEqProofs (maxSteps := 1000000) only [sm, sn, sxx, seval, arB_eq, eRgs]
          refine ⟨[], [0, 1], by decide, ?_⟩
          simp +contextual -implicitDefEqProofs (maxSteps := 1000000) only [sm, sn, sxx, seval, arB_eq]
          try rfl
def stepLK (s : Sd) (x y z : Int) (k : Nat) : Sd := if k = 0 then s else if k = 1 then capA s x y z else capA (capA s x y z) y x z
theorem arith_lesser (X : List Int) (D : List (List Rg)) (hX : X.length = 3) (hI : InD D X) (hD : DOk D) : Ctr Try.prog 57 [.ptr 3 0 0 0] (arB X (D, false)) (.tuple []) (arB X (lesserA D (xat X 0) (xat X 1) (xat X 2))) := by
  refine call_box Try.func57 Try.call57 e_arith_box_lesser ?_
  have hrows := ok_rows hD
  have i0 := hI 0 (by omega)
  have i1 := hI 1 (by omega)
  have i2 := hI 2 (by omega)
  have hE0 := arith_ends D X false 0 hI hrows (by omega)
  have hE1 := arith_ends D X false 1 hI hrows (by omega)
  have hC := arith_cut X (D, false) 2 (min (eAt D (xat X 0)).1 (eAt D (xat X 1)).1) (min (eAt D (xat X 0)).2 (eAt D (xat X 1)).2) hI hD (by omega)
  obtain ⟨a1, -, -⟩ := cut_ok (min (eAt D (xat X 0)).1 (eAt D (xat X 1)).1) (min (eAt D (xat X 0)).2 (eAt D (xat X 1)).2) (ok_start hD) i2
  unfold lesserA lesser3
  generalize cutA (D, false) (xat X 2) (min (eAt D (xat X 0)).1 (eAt D (xat X 1)).1) (min (eAt D (xat X 0)).2 (eAt D (xat X 1)).2) = s1 at hC a1 ⊢
  have hE2 := arith_ends s1.1 X s1.2 2 (in_ok hI a1) (ok_rows a1.2) (by omega)
  have hL1 := arith_least X s1 0 (eAt s1.1 (xat X 2)).1 (in_ok hI a1) a1.2 (by omega)
  obtain ⟨a2, -, -⟩ := cut_ok (eAt s1.1 (xat X 2)).1 1048576 a1 i0
  generalize cutA s1 (xat X 0) (eAt s1.1 (xat X 2)).1 1048576 = s2 at hL1 a2 ⊢
  have hE3 := arith_ends s2.1 X s2.2 2 (in_ok hI a2) (ok_rows a2.2) (by omega)
  have hL2 := arith_least X s2 1 (eAt s2.1 (xat X 2)).1 (in_ok hI a2) a2.2 (by omega)
  obtain ⟨a3, -, -⟩ := cut_ok (eAt s2.1 (xat X 2)).1 1048576 a2 i1
  generalize cutA s2 (xat X 1) (eAt s2.1 (xat X 2)).1 1048576 = s3 at hL2 a3 ⊢
  simp +contextual -implicitDefEqProofs (maxSteps := 1000000) only [c_arith_box_lesser, arB_eq, sm, sn, sxx, seval]
  refine callV_rule hE0 ?_ rfl ?_
  · simp +contextual -implicitDefEqProofs (maxSteps := 1000000) only [sm, sn, sxx, seval]
  simp +contextual -implicitDefEqProofs (maxSteps := 1000000) only [sm, sn, sxx, seval, eRg]
  refine callV_rule hE1 ?_ rfl ?_
  · simp +contextual -implicitDefEqProofs (maxSteps := 1000000) only [sm, sn, sxx, seval]
  simp +contextual -implicitDefEqProofs (maxSteps := 1000000) only [sm, sn, sxx, seval, eRg]
  refine callM_rule [0, 1] (hC) (by decide) ?_ ?_ ?_ ?_ ?_ ?_
  · simp +contextual -implicitDefEqProofs (maxSteps := 1000000) only [sm, sn, sxx, seval, arB_eq]
    try rfl
  · simp +contextual -implicitDefEqProofs (maxSteps := 1000000) only [sm, sn, sxx, seval, arB_eq, eRgs]
  · simp +contextual -implicitDefEqProofs (maxSteps := 1000000) only [sm, sn, sxx, seval, arB_eq, eRgs]
    try rfl
  · simp +contextual -implicitDefEqProofs (maxSteps := 1000000) only [sm, sn, sxx, seval, arB_eq, eRgs]
  · simp +contextual -implicitDefEqProofs (maxSteps := 1000000) only [sm, sn, sxx, seval, arB_eq]
  · simp +contextual -implicitDefEqProofs (maxSteps := 1000000) only [sm, sn, sxx, seval, arB_eq, eRgs]
    refine callV_rule hE2 ?_ rfl ?_
    · simp +contextual -implicitDefEqProofs (maxSteps := 1000000) only [sm, sn, sxx, seval]
    simp +contextual -implicitDefEqProofs (maxSteps := 1000000) only [sm, sn, sxx, seval, eRg]
    refine callM_rule [0, 1] (hL1) (by decide) ?_ ?_ ?_ ?_ ?_ ?_
    · simp +contextual -implicitDefEqProofs (maxSteps := 1000000) only [sm, sn, sxx, seval, arB_eq]
      try rfl
    · simp +contextual -implicitDefEqProofs (maxSteps := 1000000) only [sm, sn, sxx, seval, arB_eq, eRgs]
    · simp +contextual -implicitDefEqProofs (maxSteps := 1000000) only [sm, sn, sxx, seval, arB_eq, eRgs]
      try rfl
    · simp +contextual -implicitDefEqProofs (maxSteps := 1000000) only [sm, sn, sxx, seval, arB_eq, eRgs]
    · simp +contextual -implicitDefEqProofs (maxSteps := 1000000) only [sm, sn, sxx, seval, arB_eq]
    · simp +contextual -implicitDefEqProofs (maxSteps := 1000000) only [sm, sn, sxx, seval, arB_eq, eRgs]
      refine callV_rule hE3 ?_ rfl ?_
      · simp +contextual -implicitDefEqProofs (maxSteps := 1000000) only [sm, sn, sxx, seval]
      simp +contextual -implicitDefEqProofs (maxSteps := 1000000) only [sm, sn, sxx, seval, eRg]
      refine callM_rule [0, 1] (hL2) (by decide) ?_ ?_ ?_ ?_ ?_ ?_
      · simp +contextual -implicitDefEqProofs (maxSteps := 1000000) only [sm, sn, sxx, seval, arB_eq]
        try rfl
      · simp +contextual -implicitDefEqProofs (maxSteps := 1000000) only [sm, sn, sxx, seval, arB_eq, eRgs]
      · simp +contextual -implicitDefEqProofs (maxSteps := 1000000) only [sm, sn, sxx, seval, arB_eq, eRgs]
        try rfl
      · simp +contextual -implicitDefEqProofs (maxSteps := 1000000) only [sm, sn, sxx, seval, arB_eq, eRgs]
      · simp +contextual -implicitDefEqProofs (maxSteps := 1000000) only [sm, sn, sxx, seval, arB_eq]
      · simp +contextual -implicitDefEqProofs (maxSteps := 1000000) only [sm, sn, sxx, seval, arB_eq, eRgs]
        refine loop_rule (fun k : Nat => k ≤ 2) (fun k => tm 50 [(0, .ptr 3 0 0 0), (32, .int .i64 k)]) (fun k => arB X (stepLK s3 (xat X 0) (xat X 1) (xat X 2) k)) (fun k => 2 - k) 0 (by omega) ⟨[0, 1], by decide, rfl, ?_, ?_⟩ ?_
        · simp +contextual -implicitDefEqProofs (maxSteps := 1000000) only [sm, sn, sxx, seval, stepLK, arB_eq]
          try rfl
        · simp +contextual -implicitDefEqProofs (maxSteps := 1000000) only [sm, sn, sxx, seval, Int.natCast_zero, arB_eq, List.length]
          try rfl
        · intro k hk
          have hcs : k = 0 ∨ k = 1 ∨ k = 2 := by omega
          rcases hcs with rfl | rfl | rfl
          · have e0 : stepLK s3 (xat X 0) (xat X 1) (xat X 2) 0 = s3 := rfl
            have e1 : stepLK s3 (xat X 0) (xat X 1) (xat X 2) 1 = capA s3 (xat X 0) (xat X 1) (xat X 2) := rfl
            rw [e0]
            have hEz := arith_ends s3.1 X s3.2 2 (in_ok hI a3) (ok_rows a3.2) (by omega)
            have hEu := arith_ends s3.1 X s3.2 0 (in_ok hI a3) (ok_rows a3.2) (by omega)
            have hM := arith_most X s3 1 (eAt s3.1 (xat X 2)).2 (in_ok hI a3) a3.2 (by omega)
            have hcap : capA s3 (xat X 0) (xat X 1) (xat X 2) = if (eAt s3.1 (xat X 2)).2 < (eAt s3.1 (xat X 0)).1 then cutA s3 (xat X 1) (-1048576) (eAt s3.1 (xat X 2)).2 else s3 := rfl
            generalize hcp : capA s3 (xat X 0) (xat X 1) (xat X 2) = nx at hcap ⊢
            generalize eAt s3.1 (xat X 2) = z at hEz hM hcap
            generalize eAt s3.1 (xat X 0) = u at hEu hcap
            obtain ⟨za, zb⟩ := z
            obtain ⟨ua, ub⟩ := u
            simp only at hM hcap
            simp +contextual -implicitDefEqProofs (maxSteps := 1000000) only [sm, sn, sxx, seval, arB_eq]
            refine callV_rule hEz ?_ rfl ?_
            · simp +contextual -implicitDefEqProofs (maxSteps := 1000000) only [sm, sn, sxx, seval]
            simp +contextual -implicitDefEqProofs (maxSteps := 1000000) only [sm, sn, sxx, seval, eRg]
            refine callV_rule hEu ?_ rfl ?_
            · simp +contextual -implicitDefEqProofs (maxSteps := 1000000) only [sm, sn, sxx, seval]
            by_cases hc : zb < ua
            · rw [if_pos hc] at hcap
              rw [← hcap] at hM
              simp +contextual -implicitDefEqProofs (maxSteps := 1000000) only [sm, sn, sxx, seval, eRg, hc]
              refine callM_rule [0, 1] (hM) (by decide) ?_ ?_ ?_ ?_ ?_ ?_
              · simp +contextual -implicitDefEqProofs (maxSteps := 1000000) only [sm, sn, sxx, seval, arB_eq]
                try rfl
              · simp +contextual -implicitDefEqProofs (maxSteps := 1000000) only [sm, sn, sxx, seval, arB_eq, eRgs]
              · simp +contextual -implicitDefEqProofs (maxSteps := 1000000) only [sm, sn, sxx, seval, arB_eq, eRgs]
                try rfl
              · simp +contextual -implicitDefEqProofs (maxSteps := 1000000) only [sm, sn, sxx, seval, arB_eq, eRgs]
              · simp +contextual -implicitDefEqProofs (maxSteps := 1000000) only [sm, sn, sxx, seval, arB_eq]
              · simp +contextual -implicitDefEqProofs (maxSteps := 1000000) only [sm, sn, sxx, seval, arB_eq, eRgs]
                refine ⟨1, by omega, by omega, [0, 1], by decide, rfl, ?_, ?_⟩
                · rw [e1]
                  try rw [hcp]
                  simp +contextual -implicitDefEqProofs (maxSteps := 1000000) only [sm, sn, sxx, seval, arB_eq]
                  try rfl
                · simp +contextual -implicitDefEqProofs (maxSteps := 1000000) only [sm, sn, sxx, seval]
                  try rfl
            · rw [if_neg hc] at hcap
              subst hcap
              simp +contextual -implicitDefEqProofs (maxSteps := 1000000) only [sm, sn, sxx, seval, eRg, hc]
              refine ⟨1, by omega, by omega, [0, 1], by decide, rfl, ?_, ?_⟩
              · rw [e1]
                try rw [hcp]
                simp +contextual -implicitDefEqProofs (maxSteps := 1000000) only [sm, sn, sxx, seval, arB_eq]
                try rfl
              · simp +contextual -implicitDefEqProofs (maxSteps := 1000000) only [sm, sn, sxx, seval]
                try rfl
          · obtain ⟨a4, -, -⟩ := cap_ok (x := xat X 0) (z := xat X 2) a3 i1
            have e0 : stepLK s3 (xat X 0) (xat X 1) (xat X 2) 1 = capA s3 (xat X 0) (xat X 1) (xat X 2) := rfl
            have e1 : stepLK s3 (xat X 0) (xat X 1) (xat X 2) 2 = capA (capA s3 (xat X 0) (xat X 1) (xat X 2)) (xat X 1) (xat X 0) (xat X 2) := rfl
            rw [e0]
            generalize capA s3 (xat X 0) (xat X 1) (xat X 2) = s4 at a4 e1 ⊢
            have hEz := arith_ends s4.1 X s4.2 2 (in_ok hI a4) (ok_rows a4.2) (by omega)
            have hEu := arith_ends s4.1 X s4.2 1 (in_ok hI a4) (ok_rows a4.2) (by omega)
            have hM := arith_most X s4 0 (eAt s4.1 (xat X 2)).2 (in_ok hI a4) a4.2 (by omega)
            have hcap : capA s4 (xat X 1) (xat X 0) (xat X 2) = if (eAt s4.1 (xat X 2)).2 < (eAt s4.1 (xat X 1)).1 then cutA s4 (xat X 0) (-1048576) (eAt s4.1 (xat X 2)).2 else s4 := rfl
            generalize hcp : capA s4 (xat X 1) (xat X 0) (xat X 2) = nx at hcap ⊢
            generalize eAt s4.1 (xat X 2) = z at hEz hM hcap
            generalize eAt s4.1 (xat X 1) = u at hEu hcap
            obtain ⟨za, zb⟩ := z
            obtain ⟨ua, ub⟩ := u
            simp only at hM hcap
            simp +contextual -implicitDefEqProofs (maxSteps := 1000000) only [sm, sn, sxx, seval, arB_eq]
            refine callV_rule hEz ?_ rfl ?_
            · simp +contextual -implicitDefEqProofs (maxSteps := 1000000) only [sm, sn, sxx, seval]
            simp +contextual -implicitDefEqProofs (maxSteps := 1000000) only [sm, sn, sxx, seval, eRg]
            refine callV_rule hEu ?_ rfl ?_
            · simp +contextual -implicitDefEqProofs (maxSteps := 1000000) only [sm, sn, sxx, seval]
            by_cases hc : zb < ua
            · rw [if_pos hc] at hcap
              rw [← hcap] at hM
              simp +contextual -implicitDefEqProofs (maxSteps := 1000000) only [sm, sn, sxx, seval, eRg, hc]
              refine callM_rule [0, 1] (hM) (by decide) ?_ ?_ ?_ ?_ ?_ ?_
              · simp +contextual -implicitDefEqProofs (maxSteps := 1000000) only [sm, sn, sxx, seval, arB_eq]
                try rfl
              · simp +contextual -implicitDefEqProofs (maxSteps := 1000000) only [sm, sn, sxx, seval, arB_eq, eRgs]
              · simp +contextual -implicitDefEqProofs (maxSteps := 1000000) only [sm, sn, sxx, seval, arB_eq, eRgs]
                try rfl
              · simp +contextual -implicitDefEqProofs (maxSteps := 1000000) only [sm, sn, sxx, seval, arB_eq, eRgs]
              · simp +contextual -implicitDefEqProofs (maxSteps := 1000000) only [sm, sn, sxx, seval, arB_eq]
              · simp +contextual -implicitDefEqProofs (maxSteps := 1000000) only [sm, sn, sxx, seval, arB_eq, eRgs]
                refine ⟨2, by omega, by omega, [0, 1], by decide, rfl, ?_, ?_⟩
                · rw [e1]
                  try rw [hcp]
                  simp +contextual -implicitDefEqProofs (maxSteps := 1000000) only [sm, sn, sxx, seval, arB_eq]
                  try rfl
                · simp +contextual -implicitDefEqProofs (maxSteps := 1000000) only [sm, sn, sxx, seval]
                  try rfl
            · rw [if_neg hc] at hcap
              subst hcap
              simp +contextual -implicitDefEqProofs (maxSteps := 1000000) only [sm, sn, sxx, seval, eRg, hc]
              refine ⟨2, by omega, by omega, [0, 1], by decide, rfl, ?_, ?_⟩
              · rw [e1]
                try rw [hcp]
                simp +contextual -implicitDefEqProofs (maxSteps := 1000000) only [sm, sn, sxx, seval, arB_eq]
                try rfl
              · simp +contextual -implicitDefEqProofs (maxSteps := 1000000) only [sm, sn, sxx, seval]
                try rfl
          · have e0 : stepLK s3 (xat X 0) (xat X 1) (xat X 2) 2 = capA (capA s3 (xat X 0) (xat X 1) (xat X 2)) (xat X 1) (xat X 0) (xat X 2) := rfl
            rw [e0]
            simp +contextual -implicitDefEqProofs (maxSteps := 1000000) only [sm, sn, sxx, seval, arB_eq]
            refine ⟨[], [0, 1], by decide, ?_⟩
            simp +contextual -implicitDefEqProofs (maxSteps := 1000000) only [sm, sn, sxx, seval, arB_eq]
            try rfl
def stepGK (s : Sd) (x y z : Int) (k : Nat) : Sd := if k = 0 then s else if k = 1 then cupA s x y z else cupA (cupA s x y z) y x z
theorem arith_greater (X : List Int) (D : List (List Rg)) (hX : X.length = 3) (hI : InD D X) (hD : DOk D) : Ctr Try.prog 58 [.ptr 3 0 0 0] (arB X (D, false)) (.tuple []) (arB X (greaterA D (xat X 0) (xat X 1) (xat X 2))) := by
  refine call_box Try.func58 Try.call58 e_arith_box_greater ?_
  have hrows := ok_rows hD
  have i0 := hI 0 (by omega)
  have i1 := hI 1 (by omega)
  have i2 := hI 2 (by omega)
  have hE0 := arith_ends D X false 0 hI hrows (by omega)
  have hE1 := arith_ends D X false 1 hI hrows (by omega)
  have hC := arith_cut X (D, false) 2 (max (eAt D (xat X 0)).1 (eAt D (xat X 1)).1) (max (eAt D (xat X 0)).2 (eAt D (xat X 1)).2) hI hD (by omega)
  obtain ⟨a1, -, -⟩ := cut_ok (max (eAt D (xat X 0)).1 (eAt D (xat X 1)).1) (max (eAt D (xat X 0)).2 (eAt D (xat X 1)).2) (ok_start hD) i2
  unfold greaterA greater3
  generalize cutA (D, false) (xat X 2) (max (eAt D (xat X 0)).1 (eAt D (xat X 1)).1) (max (eAt D (xat X 0)).2 (eAt D (xat X 1)).2) = s1 at hC a1 ⊢
  have hE2 := arith_ends s1.1 X s1.2 2 (in_ok hI a1) (ok_rows a1.2) (by omega)
  have hL1 := arith_most X s1 0 (eAt s1.1 (xat X 2)).2 (in_ok hI a1) a1.2 (by omega)
  obtain ⟨a2, -, -⟩ := cut_ok (-1048576) (eAt s1.1 (xat X 2)).2 a1 i0
  generalize cutA s1 (xat X 0) (-1048576) (eAt s1.1 (xat X 2)).2 = s2 at hL1 a2 ⊢
  have hE3 := arith_ends s2.1 X s2.2 2 (in_ok hI a2) (ok_rows a2.2) (by omega)
  have hL2 := arith_most X s2 1 (eAt s2.1 (xat X 2)).2 (in_ok hI a2) a2.2 (by omega)
  obtain ⟨a3, -, -⟩ := cut_ok (-1048576) (eAt s2.1 (xat X 2)).2 a2 i1
  generalize cutA s2 (xat X 1) (-1048576) (eAt s2.1 (xat X 2)).2 = s3 at hL2 a3 ⊢
  simp +contextual -implicitDefEqProofs (maxSteps := 1000000) only [c_arith_box_greater, arB_eq, sm, sn, sxx, seval]
  refine callV_rule hE0 ?_ rfl ?_
  · simp +contextual -implicitDefEqProofs (maxSteps := 1000000) only [sm, sn, sxx, seval]
  simp +contextual -implicitDefEqProofs (maxSteps := 1000000) only [sm, sn, sxx, seval, eRg]
  refine callV_rule hE1 ?_ rfl ?_
  · simp +contextual -implicitDefEqProofs (maxSteps := 1000000) only [sm, sn, sxx, seval]
  simp +contextual -implicitDefEqProofs (maxSteps := 1000000) only [sm, sn, sxx, seval, eRg]
  refine callM_rule [0, 1] (hC) (by decide) ?_ ?_ ?_ ?_ ?_ ?_
  · simp +contextual -implicitDefEqProofs (maxSteps := 1000000) only [sm, sn, sxx, seval, arB_eq]
    try rfl
  · simp +contextual -implicitDefEqProofs (maxSteps := 1000000) only [sm, sn, sxx, seval, arB_eq, eRgs]
  · simp +contextual -implicitDefEqProofs (maxSteps := 1000000) only [sm, sn, sxx, seval, arB_eq, eRgs]
    try rfl
  · simp +contextual -implicitDefEqProofs (maxSteps := 1000000) only [sm, sn, sxx, seval, arB_eq, eRgs]
  · simp +contextual -implicitDefEqProofs (maxSteps := 1000000) only [sm, sn, sxx, seval, arB_eq]
  · simp +contextual -implicitDefEqProofs (maxSteps := 1000000) only [sm, sn, sxx, seval, arB_eq, eRgs]
    refine callV_rule hE2 ?_ rfl ?_
    · simp +contextual -implicitDefEqProofs (maxSteps := 1000000) only [sm, sn, sxx, seval]
    simp +contextual -implicitDefEqProofs (maxSteps := 1000000) only [sm, sn, sxx, seval, eRg]
    refine callM_rule [0, 1] (hL1) (by decide) ?_ ?_ ?_ ?_ ?_ ?_
    · simp +contextual -implicitDefEqProofs (maxSteps := 1000000) only [sm, sn, sxx, seval, arB_eq]
      try rfl
    · simp +contextual -implicitDefEqProofs (maxSteps := 1000000) only [sm, sn, sxx, seval, arB_eq, eRgs]
    · simp +contextual -implicitDefEqProofs (maxSteps := 1000000) only [sm, sn, sxx, seval, arB_eq, eRgs]
      try rfl
    · simp +contextual -implicitDefEqProofs (maxSteps := 1000000) only [sm, sn, sxx, seval, arB_eq, eRgs]
    · simp +contextual -implicitDefEqProofs (maxSteps := 1000000) only [sm, sn, sxx, seval, arB_eq]
    · simp +contextual -implicitDefEqProofs (maxSteps := 1000000) only [sm, sn, sxx, seval, arB_eq, eRgs]
      refine callV_rule hE3 ?_ rfl ?_
      · simp +contextual -implicitDefEqProofs (maxSteps := 1000000) only [sm, sn, sxx, seval]
      simp +contextual -implicitDefEqProofs (maxSteps := 1000000) only [sm, sn, sxx, seval, eRg]
      refine callM_rule [0, 1] (hL2) (by decide) ?_ ?_ ?_ ?_ ?_ ?_
      · simp +contextual -implicitDefEqProofs (maxSteps := 1000000) only [sm, sn, sxx, seval, arB_eq]
        try rfl
      · simp +contextual -implicitDefEqProofs (maxSteps := 1000000) only [sm, sn, sxx, seval, arB_eq, eRgs]
      · simp +contextual -implicitDefEqProofs (maxSteps := 1000000) only [sm, sn, sxx, seval, arB_eq, eRgs]
        try rfl
      · simp +contextual -implicitDefEqProofs (maxSteps := 1000000) only [sm, sn, sxx, seval, arB_eq, eRgs]
      · simp +contextual -implicitDefEqProofs (maxSteps := 1000000) only [sm, sn, sxx, seval, arB_eq]
      · simp +contextual -implicitDefEqProofs (maxSteps := 1000000) only [sm, sn, sxx, seval, arB_eq, eRgs]
        refine loop_rule (fun k : Nat => k ≤ 2) (fun k => tm 50 [(0, .ptr 3 0 0 0), (32, .int .i64 k)]) (fun k => arB X (stepGK s3 (xat X 0) (xat X 1) (xat X 2) k)) (fun k => 2 - k) 0 (by omega) ⟨[0, 1], by decide, rfl, ?_, ?_⟩ ?_
        · simp +contextual -implicitDefEqProofs (maxSteps := 1000000) only [sm, sn, sxx, seval, stepGK, arB_eq]
          try rfl
        · simp +contextual -implicitDefEqProofs (maxSteps := 1000000) only [sm, sn, sxx, seval, Int.natCast_zero, arB_eq, List.length]
          try rfl
        · intro k hk
          have hcs : k = 0 ∨ k = 1 ∨ k = 2 := by omega
          rcases hcs with rfl | rfl | rfl
          · have e0 : stepGK s3 (xat X 0) (xat X 1) (xat X 2) 0 = s3 := rfl
            have e1 : stepGK s3 (xat X 0) (xat X 1) (xat X 2) 1 = cupA s3 (xat X 0) (xat X 1) (xat X 2) := rfl
            rw [e0]
            have hEz := arith_ends s3.1 X s3.2 2 (in_ok hI a3) (ok_rows a3.2) (by omega)
            have hEu := arith_ends s3.1 X s3.2 0 (in_ok hI a3) (ok_rows a3.2) (by omega)
            have hM := arith_least X s3 1 (eAt s3.1 (xat X 2)).1 (in_ok hI a3) a3.2 (by omega)
            have hcap : cupA s3 (xat X 0) (xat X 1) (xat X 2) = if (eAt s3.1 (xat X 0)).2 < (eAt s3.1 (xat X 2)).1 then cutA s3 (xat X 1) (eAt s3.1 (xat X 2)).1 1048576 else s3 := rfl
            generalize hcp : cupA s3 (xat X 0) (xat X 1) (xat X 2) = nx at hcap ⊢
            generalize eAt s3.1 (xat X 2) = z at hEz hM hcap
            generalize eAt s3.1 (xat X 0) = u at hEu hcap
            obtain ⟨za, zb⟩ := z
            obtain ⟨ua, ub⟩ := u
            simp only at hM hcap
            simp +contextual -implicitDefEqProofs (maxSteps := 1000000) only [sm, sn, sxx, seval, arB_eq]
            refine callV_rule hEz ?_ rfl ?_
            · simp +contextual -implicitDefEqProofs (maxSteps := 1000000) only [sm, sn, sxx, seval]
            simp +contextual -implicitDefEqProofs (maxSteps := 1000000) only [sm, sn, sxx, seval, eRg]
            refine callV_rule hEu ?_ rfl ?_
            · simp +contextual -implicitDefEqProofs (maxSteps := 1000000) only [sm, sn, sxx, seval]
            by_cases hc : ub < za
            · rw [if_pos hc] at hcap
              rw [← hcap] at hM
              simp +contextual -implicitDefEqProofs (maxSteps := 1000000) only [sm, sn, sxx, seval, eRg, hc]
              refine callM_rule [0, 1] (hM) (by decide) ?_ ?_ ?_ ?_ ?_ ?_
              · simp +contextual -implicitDefEqProofs (maxSteps := 1000000) only [sm, sn, sxx, seval, arB_eq]
                try rfl
              · simp +contextual -implicitDefEqProofs (maxSteps := 1000000) only [sm, sn, sxx, seval, arB_eq, eRgs]
              · simp +contextual -implicitDefEqProofs (maxSteps := 1000000) only [sm, sn, sxx, seval, arB_eq, eRgs]
                try rfl
              · simp +contextual -implicitDefEqProofs (maxSteps := 1000000) only [sm, sn, sxx, seval, arB_eq, eRgs]
              · simp +contextual -implicitDefEqProofs (maxSteps := 1000000) only [sm, sn, sxx, seval, arB_eq]
              · simp +contextual -implicitDefEqProofs (maxSteps := 1000000) only [sm, sn, sxx, seval, arB_eq, eRgs]
                refine ⟨1, by omega, by omega, [0, 1], by decide, rfl, ?_, ?_⟩
                · rw [e1]
                  try rw [hcp]
                  simp +contextual -implicitDefEqProofs (maxSteps := 1000000) only [sm, sn, sxx, seval, arB_eq]
                  try rfl
                · simp +contextual -implicitDefEqProofs (maxSteps := 1000000) only [sm, sn, sxx, seval]
                  try rfl
            · rw [if_neg hc] at hcap
              subst hcap
              simp +contextual -implicitDefEqProofs (maxSteps := 1000000) only [sm, sn, sxx, seval, eRg, hc]
              refine ⟨1, by omega, by omega, [0, 1], by decide, rfl, ?_, ?_⟩
              · rw [e1]
                try rw [hcp]
                simp +contextual -implicitDefEqProofs (maxSteps := 1000000) only [sm, sn, sxx, seval, arB_eq]
                try rfl
              · simp +contextual -implicitDefEqProofs (maxSteps := 1000000) only [sm, sn, sxx, seval]
                try rfl
          · obtain ⟨a4, -, -⟩ := cup_ok (x := xat X 0) (z := xat X 2) a3 i1
            have e0 : stepGK s3 (xat X 0) (xat X 1) (xat X 2) 1 = cupA s3 (xat X 0) (xat X 1) (xat X 2) := rfl
            have e1 : stepGK s3 (xat X 0) (xat X 1) (xat X 2) 2 = cupA (cupA s3 (xat X 0) (xat X 1) (xat X 2)) (xat X 1) (xat X 0) (xat X 2) := rfl
            rw [e0]
            generalize cupA s3 (xat X 0) (xat X 1) (xat X 2) = s4 at a4 e1 ⊢
            have hEz := arith_ends s4.1 X s4.2 2 (in_ok hI a4) (ok_rows a4.2) (by omega)
            have hEu := arith_ends s4.1 X s4.2 1 (in_ok hI a4) (ok_rows a4.2) (by omega)
            have hM := arith_least X s4 0 (eAt s4.1 (xat X 2)).1 (in_ok hI a4) a4.2 (by omega)
            have hcap : cupA s4 (xat X 1) (xat X 0) (xat X 2) = if (eAt s4.1 (xat X 1)).2 < (eAt s4.1 (xat X 2)).1 then cutA s4 (xat X 0) (eAt s4.1 (xat X 2)).1 1048576 else s4 := rfl
            generalize hcp : cupA s4 (xat X 1) (xat X 0) (xat X 2) = nx at hcap ⊢
            generalize eAt s4.1 (xat X 2) = z at hEz hM hcap
            generalize eAt s4.1 (xat X 1) = u at hEu hcap
            obtain ⟨za, zb⟩ := z
            obtain ⟨ua, ub⟩ := u
            simp only at hM hcap
            simp +contextual -implicitDefEqProofs (maxSteps := 1000000) only [sm, sn, sxx, seval, arB_eq]
            refine callV_rule hEz ?_ rfl ?_
            · simp +contextual -implicitDefEqProofs (maxSteps := 1000000) only [sm, sn, sxx, seval]
            simp +contextual -implicitDefEqProofs (maxSteps := 1000000) only [sm, sn, sxx, seval, eRg]
            refine callV_rule hEu ?_ rfl ?_
            · simp +contextual -implicitDefEqProofs (maxSteps := 1000000) only [sm, sn, sxx, seval]
            by_cases hc : ub < za
            · rw [if_pos hc] at hcap
              rw [← hcap] at hM
              simp +contextual -implicitDefEqProofs (maxSteps := 1000000) only [sm, sn, sxx, seval, eRg, hc]
              refine callM_rule [0, 1] (hM) (by decide) ?_ ?_ ?_ ?_ ?_ ?_
              · simp +contextual -implicitDefEqProofs (maxSteps := 1000000) only [sm, sn, sxx, seval, arB_eq]
                try rfl
              · simp +contextual -implicitDefEqProofs (maxSteps := 1000000) only [sm, sn, sxx, seval, arB_eq, eRgs]
              · simp +contextual -implicitDefEqProofs (maxSteps := 1000000) only [sm, sn, sxx, seval, arB_eq, eRgs]
                try rfl
              · simp +contextual -implicitDefEqProofs (maxSteps := 1000000) only [sm, sn, sxx, seval, arB_eq, eRgs]
              · simp +contextual -implicitDefEqProofs (maxSteps := 1000000) only [sm, sn, sxx, seval, arB_eq]
              · simp +contextual -implicitDefEqProofs (maxSteps := 1000000) only [sm, sn, sxx, seval, arB_eq, eRgs]
                refine ⟨2, by omega, by omega, [0, 1], by decide, rfl, ?_, ?_⟩
                · rw [e1]
                  try rw [hcp]
                  simp +contextual -implicitDefEqProofs (maxSteps := 1000000) only [sm, sn, sxx, seval, arB_eq]
                  try rfl
                · simp +contextual -implicitDefEqProofs (maxSteps := 1000000) only [sm, sn, sxx, seval]
                  try rfl
            · rw [if_neg hc] at hcap
              subst hcap
              simp +contextual -implicitDefEqProofs (maxSteps := 1000000) only [sm, sn, sxx, seval, eRg, hc]
              refine ⟨2, by omega, by omega, [0, 1], by decide, rfl, ?_, ?_⟩
              · rw [e1]
                try rw [hcp]
                simp +contextual -implicitDefEqProofs (maxSteps := 1000000) only [sm, sn, sxx, seval, arB_eq]
                try rfl
              · simp +contextual -implicitDefEqProofs (maxSteps := 1000000) only [sm, sn, sxx, seval]
                try rfl
          · have e0 : stepGK s3 (xat X 0) (xat X 1) (xat X 2) 2 = cupA (cupA s3 (xat X 0) (xat X 1) (xat X 2)) (xat X 1) (xat X 0) (xat X 2) := rfl
            rw [e0]
            simp +contextual -implicitDefEqProofs (maxSteps := 1000000) only [sm, sn, sxx, seval, arB_eq]
            refine ⟨[], [0, 1], by decide, ?_⟩
            simp +contextual -implicitDefEqProofs (maxSteps := 1000000) only [sm, sn, sxx, seval, arB_eq]
            try rfl
theorem arith_size (X : List Int) (D : List (List Rg)) (hX : X.length = 2) (hI : InD D X) (hD : DOk D) : Ctr Try.prog 59 [.ptr 3 0 0 0] (arB X (D, false)) (.tuple []) (arB X (sizeA D (xat X 0) (xat X 1))) := by
  refine call_box Try.func59 Try.call59 e_arith_box_size ?_
  have hrows := ok_rows hD
  have i0 := hI 0 (by omega)
  have i1 := hI 1 (by omega)
  have hE0 := arith_ends D X false 0 hI hrows (by omega)
  obtain ⟨-, x1, x2, x3⟩ := eAt_facts hD i0
  have w1 : IntKind.i64.wrap (0 - (eAt D (xat X 0)).2) = -(eAt D (xat X 0)).2 := by rw [wrap_i64] <;> omega
  have w2 : IntKind.i64.wrap (0 - (eAt D (xat X 0)).1) = -(eAt D (xat X 0)).1 := by rw [wrap_i64] <;> omega
  have hC := arith_cut X (D, false) 1 (max (max (eAt D (xat X 0)).1 (-(eAt D (xat X 0)).2)) 0) (max (eAt D (xat X 0)).2 (-(eAt D (xat X 0)).1)) hI hD (by omega)
  obtain ⟨a1, -, -⟩ := cut_ok (max (max (eAt D (xat X 0)).1 (-(eAt D (xat X 0)).2)) 0) (max (eAt D (xat X 0)).2 (-(eAt D (xat X 0)).1)) (ok_start hD) i1
  unfold sizeA size1
  generalize cutA (D, false) (xat X 1) (max (max (eAt D (xat X 0)).1 (-(eAt D (xat X 0)).2)) 0) (max (eAt D (xat X 0)).2 (-(eAt D (xat X 0)).1)) = s1 at hC a1 ⊢
  have hE1 := arith_ends s1.1 X s1.2 1 (in_ok hI a1) (ok_rows a1.2) (by omega)
  obtain ⟨-, y1, y2, y3⟩ := eAt_facts a1.2 (in_ok hI a1 1 (by omega))
  have w3 : IntKind.i64.wrap (0 - (eAt s1.1 (xat X 1)).2) = -(eAt s1.1 (xat X 1)).2 := by rw [wrap_i64] <;> omega
  have hC2 := arith_cut X s1 0 (-(eAt s1.1 (xat X 1)).2) (eAt s1.1 (xat X 1)).2 (in_ok hI a1) a1.2 (by omega)
  obtain ⟨a2, -, -⟩ := cut_ok (-(eAt s1.1 (xat X 1)).2) (eAt s1.1 (xat X 1)).2 a1 i0
  unfold size2
  generalize cutA s1 (xat X 0) (-(eAt s1.1 (xat X 1)).2) (eAt s1.1 (xat X 1)).2 = s2 at hC2 a2 ⊢
  obtain ⟨E2, b2⟩ := s2
  have hI2 := in_ok hI a2
  have hE2 := arith_ends E2 X b2 1 hI2 (ok_rows a2.2) (by omega)
  obtain ⟨-, z1, z2, z3⟩ := eAt_facts a2.2 (hI2 1 (by omega))
  simp only at hI2 z1 z2 z3
  have w4 : IntKind.i64.wrap (0 - (eAt E2 (xat X 1)).1) = -(eAt E2 (xat X 1)).1 := by rw [wrap_i64] <;> omega
  have hG := arith_getB X (E2, false) 0 hI2 (by omega)
  have hrow := ok_rows a2.2 _ (row_mem (hI2 0 (by omega)))
  have hP := arith_put X (E2, false) 0 (sizeCut (eAt E2 (xat X 1)).1 (rowOf E2 (xat X 0))) hI2 (by omega)
  have hright := (dom_right (a2.2 _ (hI2 0 (by omega)).1 (hI2 0 (by omega)).2)).1
  have hl1 := right_length (cutS_facts (-1048576) (-(eAt E2 (xat X 1)).1) hright).1
  have hl2 := right_length (cutS_facts (eAt E2 (xat X 1)).1 1048576 hright).1
  unfold size3
  simp +contextual -implicitDefEqProofs (maxSteps := 1000000) only [c_arith_box_size, arB_eq, sm, sn, sxx, seval]
  refine callV_rule hE0 ?_ rfl ?_
  · simp +contextual -implicitDefEqProofs (maxSteps := 1000000) only [sm, sn, sxx, seval]
  simp +contextual -implicitDefEqProofs (maxSteps := 1000000) only [sm, sn, sxx, seval, eRg, w1, w2]
  refine callM_rule [0, 1] (hC) (by decide) ?_ ?_ ?_ ?_ ?_ ?_
  · simp +contextual -implicitDefEqProofs (maxSteps := 1000000) only [sm, sn, sxx, seval, arB_eq]
    try rfl
  · simp +contextual -implicitDefEqProofs (maxSteps := 1000000) only [sm, sn, sxx, seval, arB_eq, eRgs]
  · simp +contextual -implicitDefEqProofs (maxSteps := 1000000) only [sm, sn, sxx, seval, arB_eq, eRgs]
    try rfl
  · simp +contextual -implicitDefEqProofs (maxSteps := 1000000) only [sm, sn, sxx, seval, arB_eq, eRgs]
  · simp +contextual -implicitDefEqProofs (maxSteps := 1000000) only [sm, sn, sxx, seval, arB_eq]
  · simp +contextual -implicitDefEqProofs (maxSteps := 1000000) only [sm, sn, sxx, seval, arB_eq, eRgs]
    refine callV_rule hE1 ?_ rfl ?_
    · simp +contextual -implicitDefEqProofs (maxSteps := 1000000) only [sm, sn, sxx, seval]
    simp +contextual -implicitDefEqProofs (maxSteps := 1000000) only [sm, sn, sxx, seval, eRg, w3]
    refine callM_rule [0, 1] (hC2) (by decide) ?_ ?_ ?_ ?_ ?_ ?_
    · simp +contextual -implicitDefEqProofs (maxSteps := 1000000) only [sm, sn, sxx, seval, arB_eq]
      try rfl
    · simp +contextual -implicitDefEqProofs (maxSteps := 1000000) only [sm, sn, sxx, seval, arB_eq, eRgs]
    · simp +contextual -implicitDefEqProofs (maxSteps := 1000000) only [sm, sn, sxx, seval, arB_eq, eRgs]
      try rfl
    · simp +contextual -implicitDefEqProofs (maxSteps := 1000000) only [sm, sn, sxx, seval, arB_eq, eRgs]
    · simp +contextual -implicitDefEqProofs (maxSteps := 1000000) only [sm, sn, sxx, seval, arB_eq]
    · cases b2
      · simp +contextual -implicitDefEqProofs (maxSteps := 1000000) only [sm, sn, sxx, seval, arB_eq]
        refine callV_rule hE2 ?_ rfl ?_
        · simp +contextual -implicitDefEqProofs (maxSteps := 1000000) only [sm, sn, sxx, seval]
        by_cases hc : (eAt E2 (xat X 1)).1 ≤ 0
        · rw [if_pos (.inr hc)]
          simp +contextual -implicitDefEqProofs (maxSteps := 1000000) only [sm, sn, sxx, seval, eRg, hc]
          refine ⟨[], [0, 1], by decide, ?_⟩
          simp +contextual -implicitDefEqProofs (maxSteps := 1000000) only [sm, sn, sxx, seval, arB_eq]
          try rfl
        · rw [if_neg (by rintro (h | h); cases h; exact hc h)]
          simp +contextual -implicitDefEqProofs (maxSteps := 1000000) only [sm, sn, sxx, seval, eRg, hc]
          refine callV_rule hE2 ?_ rfl ?_
          · simp +contextual -implicitDefEqProofs (maxSteps := 1000000) only [sm, sn, sxx, seval]
          try simp only at hP ⊢
          unfold sizeCut at hP ⊢
          generalize eAt E2 (xat X 1) = q at hP w4 hl1 hl2 ⊢
          obtain ⟨y, yb⟩ := q
          try simp only at hP w4 hl1 hl2
          simp +contextual -implicitDefEqProofs (maxSteps := 1000000) only [sm, sn, sxx, seval, eRg]
          refine callM_rule [0, 1] (hG) (by decide) ?_ ?_ ?_ ?_ ?_ ?_
          · simp +contextual -implicitDefEqProofs (maxSteps := 1000000) only [sm, sn, sxx, seval, arB_eq]
            try rfl
          · simp +contextual -implicitDefEqProofs (maxSteps := 1000000) only [sm, sn, sxx, seval, arB_eq, eRgs]
          · simp +contextual -implicitDefEqProofs (maxSteps := 1000000) only [sm, sn, sxx, seval, arB_eq, eRgs]
            try rfl
          · simp +contextual -implicitDefEqProofs (maxSteps := 1000000) only [sm, sn, sxx, seval, arB_eq, eRgs]
          · simp +contextual -implicitDefEqProofs (maxSteps := 1000000) only [sm, sn, sxx, seval, arB_eq]
          · simp +contextual -implicitDefEqProofs (maxSteps := 1000000) only [sm, sn, sxx, seval, arB_eq, eRgs]
            try simp +contextual -implicitDefEqProofs (maxSteps := 1000000) only [sm, sn, sxx, seval, w4]
            refine callO_rule (set_CutO (rowOf E2 (xat X 0)) (-1048576) (-y) hrow hright) rfl (wkL_refl _) rfl ?_ ?_
            · simp +contextual -implicitDefEqProofs (maxSteps := 1000000) only [sm, sn, sxx, seval]
            simp +contextual -implicitDefEqProofs (maxSteps := 1000000) only [sm, sn, sxx, seval, eRgs]
            refine callO_rule (set_CutO (rowOf E2 (xat X 0)) y 1048576 hrow hright) rfl (wkL_refl _) rfl ?_ ?_
            · simp +contextual -implicitDefEqProofs (maxSteps := 1000000) only [sm, sn, sxx, seval]
            have hPO := arith_putO X (E2, false) 0 (cutS (-1048576) (-y) (rowOf E2 (xat X 0)) ++ cutS y 1048576 (rowOf E2 (xat X 0))) hI2 (by omega)
            generalize cutS (-1048576) (-y) (rowOf E2 (xat X 0)) = A at hl1 hP hPO ⊢
            generalize cutS y 1048576 (rowOf E2 (xat X 0)) = B at hl2 hP hPO ⊢
            rw [List.length_append] at hPO
            have c1 : (A.length + B.length) * 16 ≤ 140737488355328 := by omega
            have c2 : A.length + B.length ≤ maxLen := by unfold maxLen; omega
            have c3 : List.take (A.length + B.length) (List.map eRg (A ++ B)) = List.map eRg (A ++ B) := by rw [← List.length_append]; exact take_map _ _
            simp +contextual -implicitDefEqProofs (maxSteps := 1000000) only [sm, sn, sxx, seval, eRgs, c1, c2, Nat.le_refl, c3]
            refine callM_rule [0, 1, 6] (hPO) (by decide) ?_ ?_ ?_ ?_ ?_ ?_
            · simp +contextual -implicitDefEqProofs (maxSteps := 1000000) only [sm, sn, sxx, seval, arB_eq, List.length_append]
              try rfl
            · simp +contextual -implicitDefEqProofs (maxSteps := 1000000) only [sm, sn, sxx, seval, arB_eq, eRgs, List.length_append]
            · simp +contextual -implicitDefEqProofs (maxSteps := 1000000) only [sm, sn, sxx, seval, arB_eq, eRgs, List.length_append]
              try rfl
            · simp +contextual -implicitDefEqProofs (maxSteps := 1000000) only [sm, sn, sxx, seval, arB_eq, eRgs, List.length_append]
            · simp +contextual -implicitDefEqProofs (maxSteps := 1000000) only [sm, sn, sxx, seval, arB_eq, List.length_append]
            · simp +contextual -implicitDefEqProofs (maxSteps := 1000000) only [sm, sn, sxx, seval, arB_eq, eRgs]
              refine ⟨[], [0, 1], by decide, ?_⟩
              simp +contextual -implicitDefEqProofs (maxSteps := 1000000) only [sm, sn, sxx, seval, arB_eq]
              try rfl
      · rw [if_pos (.inl rfl)]
        simp +contextual -implicitDefEqProofs (maxSteps := 1000000) only [sm, sn, sxx, seval, arB_eq]
        refine ⟨[], [0, 1], by decide, ?_⟩
        simp +contextual -implicitDefEqProofs (maxSteps := 1000000) only [sm, sn, sxx, seval, arB_eq]
        try rfl
theorem arith_same (X : List Int) (D : List (List Rg)) (hX : X.length = 2) (hI : InD D X) (hD : DOk D) : Ctr Try.prog 60 [.ptr 3 0 0 0] (arB X (D, false)) (.tuple []) (arB X (sameA D (xat X 0) (xat X 1))) := by
  refine call_box Try.func60 Try.call60 e_arith_box_same ?_
  have hrows := ok_rows hD
  have i0 := hI 0 (by omega)
  have i1 := hI 1 (by omega)
  have hG0 := arith_getB X (D, false) 0 hI (by omega)
  have hG1 := arith_getB X (D, false) 1 hI (by omega)
  have hr0 := hrows _ (row_mem i0)
  have hr1 := hrows _ (row_mem i1)
  have hP0 := arith_put X (D, false) 0 (meetS (rowOf D (xat X 0)) (rowOf D (xat X 1))) hI (by omega)
  have hlen : (putA (D, false) (xat X 0) (meetS (rowOf D (xat X 0)) (rowOf D (xat X 1)))).1.length = D.length := by unfold putA; split <;> simp
  unfold sameA
  generalize putA (D, false) (xat X 0) (meetS (rowOf D (xat X 0)) (rowOf D (xat X 1))) = s1 at hP0 hlen ⊢
  have hI1 : InD s1.1 X := fun i hi => by have := hI i hi; omega
  have hG2 := arith_getB X s1 0 hI1 (by omega)
  have hP1 := arith_put X s1 1 (rowOf s1.1 (xat X 0)) hI1 (by omega)
  simp +contextual -implicitDefEqProofs (maxSteps := 1000000) only [c_arith_box_same, arB_eq, sm, sn, sxx, seval]
  refine callM_rule [0, 1] (hG0) (by decide) ?_ ?_ ?_ ?_ ?_ ?_
  · simp +contextual -implicitDefEqProofs (maxSteps := 1000000) only [sm, sn, sxx, seval, arB_eq]
    try rfl
  · simp +contextual -implicitDefEqProofs (maxSteps := 1000000) only [sm, sn, sxx, seval, arB_eq, eRgs]
  · simp +contextual -implicitDefEqProofs (maxSteps := 1000000) only [sm, sn, sxx, seval, arB_eq, eRgs]
    try rfl
  · simp +contextual -implicitDefEqProofs (maxSteps := 1000000) only [sm, sn, sxx, seval, arB_eq, eRgs]
  · simp +contextual -implicitDefEqProofs (maxSteps := 1000000) only [sm, sn, sxx, seval, arB_eq]
  · simp +contextual -implicitDefEqProofs (maxSteps := 1000000) only [sm, sn, sxx, seval, arB_eq, eRgs]
    refine callM_rule [0, 1] (hG1) (by decide) ?_ ?_ ?_ ?_ ?_ ?_
    · simp +contextual -implicitDefEqProofs (maxSteps := 1000000) only [sm, sn, sxx, seval, arB_eq]
      try rfl
    · simp +contextual -implicitDefEqProofs (maxSteps := 1000000) only [sm, sn, sxx, seval, arB_eq, eRgs]
    · simp +contextual -implicitDefEqProofs (maxSteps := 1000000) only [sm, sn, sxx, seval, arB_eq, eRgs]
      try rfl
    · simp +contextual -implicitDefEqProofs (maxSteps := 1000000) only [sm, sn, sxx, seval, arB_eq, eRgs]
    · simp +contextual -implicitDefEqProofs (maxSteps := 1000000) only [sm, sn, sxx, seval, arB_eq]
    · simp +contextual -implicitDefEqProofs (maxSteps := 1000000) only [sm, sn, sxx, seval, arB_eq, eRgs]
      refine callA_rule (set_Meet (rowOf D (xat X 0)) (rowOf D (xat X 1)) hr0 hr1) (by simp +contextual -implicitDefEqProofs (maxSteps := 1000000) only [sm, sn, sxx, seval, eRgs]) rfl ?_
      simp +contextual -implicitDefEqProofs (maxSteps := 1000000) only [sm, sn, sxx, seval, eRgs]
      refine callM_rule [0, 1] (hP0) (by decide) ?_ ?_ ?_ ?_ ?_ ?_
      · simp +contextual -implicitDefEqProofs (maxSteps := 1000000) only [sm, sn, sxx, seval, arB_eq]
        try rfl
      · simp +contextual -implicitDefEqProofs (maxSteps := 1000000) only [sm, sn, sxx, seval, arB_eq, eRgs]
      · simp +contextual -implicitDefEqProofs (maxSteps := 1000000) only [sm, sn, sxx, seval, arB_eq, eRgs]
        try rfl
      · simp +contextual -implicitDefEqProofs (maxSteps := 1000000) only [sm, sn, sxx, seval, arB_eq, eRgs]
      · simp +contextual -implicitDefEqProofs (maxSteps := 1000000) only [sm, sn, sxx, seval, arB_eq]
      · simp +contextual -implicitDefEqProofs (maxSteps := 1000000) only [sm, sn, sxx, seval, arB_eq, eRgs]
        refine callM_rule [0, 1] (hG2) (by decide) ?_ ?_ ?_ ?_ ?_ ?_
        · simp +contextual -implicitDefEqProofs (maxSteps := 1000000) only [sm, sn, sxx, seval, arB_eq]
          try rfl
        · simp +contextual -implicitDefEqProofs (maxSteps := 1000000) only [sm, sn, sxx, seval, arB_eq, eRgs]
        · simp +contextual -implicitDefEqProofs (maxSteps := 1000000) only [sm, sn, sxx, seval, arB_eq, eRgs]
          try rfl
        · simp +contextual -implicitDefEqProofs (maxSteps := 1000000) only [sm, sn, sxx, seval, arB_eq, eRgs]
        · simp +contextual -implicitDefEqProofs (maxSteps := 1000000) only [sm, sn, sxx, seval, arB_eq]
        · simp +contextual -implicitDefEqProofs (maxSteps := 1000000) only [sm, sn, sxx, seval, arB_eq, eRgs]
          refine callM_rule [0, 1] (hP1) (by decide) ?_ ?_ ?_ ?_ ?_ ?_
          · simp +contextual -implicitDefEqProofs (maxSteps := 1000000) only [sm, sn, sxx, seval, arB_eq]
            try rfl
          · simp +contextual -implicitDefEqProofs (maxSteps := 1000000) only [sm, sn, sxx, seval, arB_eq, eRgs]
          · simp +contextual -implicitDefEqProofs (maxSteps := 1000000) only [sm, sn, sxx, seval, arB_eq, eRgs]
            try rfl
          · simp +contextual -implicitDefEqProofs (maxSteps := 1000000) only [sm, sn, sxx, seval, arB_eq, eRgs]
          · simp +contextual -implicitDefEqProofs (maxSteps := 1000000) only [sm, sn, sxx, seval, arB_eq]
          · simp +contextual -implicitDefEqProofs (maxSteps := 1000000) only [sm, sn, sxx, seval, arB_eq, eRgs]
            refine ⟨[], [0, 1], by decide, ?_⟩
            simp +contextual -implicitDefEqProofs (maxSteps := 1000000) only [sm, sn, sxx, seval, arB_eq]
            try rfl
end Go.Proofs.Ytonkcemcledhiaa
