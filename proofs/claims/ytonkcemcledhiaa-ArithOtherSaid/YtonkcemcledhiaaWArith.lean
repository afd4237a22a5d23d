/- What the functions of package arith compute. -/
import Derived.Test.YtonkcemcledhiaaWArith1
import Derived.Test.YtonkcemcledhiaaGSet
import Derived.Test.YtonkcemcledhiaaGMod
import Derived.Test.YtonkcemcledhiaaCArith
namespace Go.Proofs.Ytonkcemcledhiaa
open Av
attribute [local irreducible] awp awpOpers
set_option linter.unusedSimpArgs false
set_option linter.unusedVariables false
set_option maxRecDepth 100000
set_option maxHeartbeats 4000000
/-- domains by places, in boxes -/
def arB (X : List Int) (s : Sd) : Bx := [some (3, [.agg [.sl 1 1 0 s.1.length, .list 1 (X.map eI), .bool s.2]]), some (1, s.1.map eRgs)]
theorem arB_eq (X : List Int) (s : Sd) : arB X s = [some (3, [.agg [.sl 1 1 0 s.1.length, .list 1 (X.map eI), .bool s.2]]), some (1, s.1.map eRgs)] := rfl
theorem set_rows2a (E : List (List Rg)) (n : Nat) (r : List Rg) : (E.map eRgs).set n (.list 2 (r.map eRg)) = (E.set n r).map eRgs := by
  simp [eRgs, List.map_set]
theorem ok_rows {D : List (List Rg)} (h : DOk D) : ∀ d ∈ D, d.length ≤ 1000000000000 := fun d hd => by
  obtain ⟨i, hi, rfl⟩ := List.getElem_of_mem hd
  have hx : 0 ≤ (i : Int) ∧ (i : Int) < D.length := by omega
  have h1 := dom_len (h i hx.1 hx.2)
  have e : rowOf D (i : Int) = D[i] := by
    have := row_get hx
    rw [Int.toNat_natCast, List.getElem?_eq_getElem hi] at this
    injection this with this
    exact this.symm
  rw [e] at h1
  omega
theorem arith_getB (X : List Int) (s : Sd) (i : Nat) (hI : InD s.1 X) (hi : i < X.length) : Ctr Try.prog 101 [.ptr 3 0 0 0, .int .i64 i] (arB X s) (eRgs (rowOf s.1 (xat X i))) (arB X s) := by
  refine call_box Try.func101 Try.call101 e_arith_box_get ?_
  have hx := xat_get hi
  have hin := hI i hi
  have hr := row_get hin
  have h0 := hin.1
  have hxn : (xat X i).toNat < s.1.length := by omega
  simp +contextual -implicitDefEqProofs (maxSteps := 1000000) only [c_arith_box_get, arB_eq, sm, sn, sxx, seval, hx, h0, hr, hxn]
  refine ⟨[], [0, 1], by decide, ?_⟩
  simp +contextual -implicitDefEqProofs (maxSteps := 1000000) only [sm, sn, sxx, seval, eRgs]
  try rfl
theorem arith_put (X : List Int) (s : Sd) (i : Nat) (l : List Rg) (hI : InD s.1 X) (hi : i < X.length) : Ctr Try.prog 102 [.ptr 3 0 0 0, .int .i64 i, eRgs l] (arB X s) (.tuple []) (arB X (putA s (xat X i) l)) := by
  refine call_box Try.func102 Try.call102 e_arith_box_put ?_
  have hx := xat_get hi
  have hin := hI i hi
  have h0 := hin.1
  have hxn : (xat X i).toNat < s.1.length := by omega
  obtain ⟨D, b⟩ := s
  simp only at hin hxn
  unfold putA
  by_cases h : l.length = 0
  · have h' : ((l.length : Int) = 0) = True := by simp only [eq_iff_iff, iff_true]; omega
    rw [if_pos h]
    simp +contextual -implicitDefEqProofs (maxSteps := 1000000) only [c_arith_box_put, arB_eq, eRgs, sm, sn, sxx, seval, h']
    refine ⟨[], [0, 1], by decide, ?_⟩
    simp +contextual -implicitDefEqProofs (maxSteps := 1000000) only [sm, sn, sxx, seval]
    try rfl
  · have h' : ((l.length : Int) = 0) = False := by simp only [eq_iff_iff, iff_false]; omega
    have hs := set_rows2a D (xat X i).toNat l
    obtain ⟨r, hr⟩ : ∃ r, D[(xat X i).toNat]? = some r := ⟨_, List.getElem?_eq_getElem hxn⟩
    rw [if_neg h]
    simp +contextual -implicitDefEqProofs (maxSteps := 1000000) only [c_arith_box_put, arB_eq, eRgs, sm, sn, sxx, seval, h', hx, h0, hxn, hr, hs]
    refine ⟨[], [0, 1], by decide, ?_⟩
    simp +contextual -implicitDefEqProofs (maxSteps := 1000000) only [sm, sn, sxx, seval, List.length_set]
    try rfl
theorem arith_cut (X : List Int) (s : Sd) (i : Nat) (lo hi : Int) (hI : InD s.1 X) (hd : DOk s.1) (hi' : i < X.length) : Ctr Try.prog 99 [.ptr 3 0 0 0, .int .i64 i, .int .i64 lo, .int .i64 hi] (arB X s) (.tuple []) (arB X (cutA s (xat X i) lo hi)) := by
  refine call_box Try.func99 Try.call99 e_arith_box_cut ?_
  have hrl := ok_rows hd _ (row_mem (hI i hi'))
  have hG := arith_getB X s i hI hi'
  have hP := arith_put X s i (cutS lo hi (rowOf s.1 (xat X i))) hI hi'
  unfold cutA
  cases hb : s.2
  · have hb' : ¬ false = true := by decide
    rw [if_neg hb']
    simp +contextual -implicitDefEqProofs (maxSteps := 1000000) only [c_arith_box_cut, arB_eq, sm, sn, sxx, seval, hb]
    refine callM_rule [0, 1] (hG) (by decide) ?_ ?_ ?_ ?_ ?_ ?_
    · simp +contextual -implicitDefEqProofs (maxSteps := 1000000) only [sm, sn, sxx, seval, arB_eq, hb]
      try rfl
    · simp +contextual -implicitDefEqProofs (maxSteps := 1000000) only [sm, sn, sxx, seval, arB_eq, eRgs, hb]
    · simp +contextual -implicitDefEqProofs (maxSteps := 1000000) only [sm, sn, sxx, seval, arB_eq, eRgs, hb]
      try rfl
    · simp +contextual -implicitDefEqProofs (maxSteps := 1000000) only [sm, sn, sxx, seval, arB_eq, eRgs, hb]
    · simp +contextual -implicitDefEqProofs (maxSteps := 1000000) only [sm, sn, sxx, seval, arB_eq, hb]
    · simp +contextual -implicitDefEqProofs (maxSteps := 1000000) only [sm, sn, sxx, seval, arB_eq, eRgs]
      refine callA_rule (set_Cut (rowOf s.1 (xat X i)) lo hi hrl) (by simp +contextual -implicitDefEqProofs (maxSteps := 1000000) only [sm, sn, sxx, seval, eRgs]) rfl ?_
      simp +contextual -implicitDefEqProofs (maxSteps := 1000000) only [sm, sn, sxx, seval, eRgs]
      refine callM_rule [0, 1] (hP) (by decide) ?_ ?_ ?_ ?_ ?_ ?_
      · simp +contextual -implicitDefEqProofs (maxSteps := 1000000) only [sm, sn, sxx, seval, arB_eq]
        try rfl
      · simp +contextual -implicitDefEqProofs (maxSteps := 1000000) only [sm, sn, sxx, seval, arB_eq, eRgs]
      · simp +contextual -implicitDefEqProofs (maxSteps := 1000000) only [sm, sn, sxx, seval, arB_eq, eRgs]
        try rfl
      · simp +contextual -implicitDefEqProofs (maxSteps := 1000000) only [sm, sn, sxx, seval, arB_eq, eRgs]
      · simp +contextual -implicitDefEqProofs (maxSteps := 1000000) only [sm, sn, sxx, seval, arB_eq]
      · simp +contextual -implicitDefEqProofs (maxSteps := 1000000) only [sm, sn, sxx, seval, arB_eq, eRgs]
        refine ⟨[], [0, 1], by decide, ?_⟩
        simp +contextual -implicitDefEqProofs (maxSteps := 1000000) only [sm, sn, sxx, seval, arB_eq]
        try rfl
  · rw [if_pos rfl]
    simp +contextual -implicitDefEqProofs (maxSteps := 1000000) only [c_arith_box_cut, arB_eq, sm, sn, sxx, seval, hb]
    refine ⟨[], [0, 1], by decide, ?_⟩
    simp +contextual -implicitDefEqProofs (maxSteps := 1000000) only [sm, sn, sxx, seval, hb]
    try rfl
theorem arith_least (X : List Int) (s : Sd) (i : Nat) (lo : Int) (hI : InD s.1 X) (hd : DOk s.1) (hi' : i < X.length) : Ctr Try.prog 104 [.ptr 3 0 0 0, .int .i64 i, .int .i64 lo] (arB X s) (.tuple []) (arB X (cutA s (xat X i) lo 1048576)) := by
  refine call_box Try.func104 Try.call104 e_arith_box_least ?_
  simp +contextual -implicitDefEqProofs (maxSteps := 1000000) only [c_arith_box_least, arB_eq, sm, sn, sxx, seval]
  refine callM_rule [0, 1] (arith_cut X s i lo 1048576 hI hd hi') (by decide) ?_ ?_ ?_ ?_ ?_ ?_
  · simp +contextual -implicitDefEqProofs (maxSteps := 1000000) only [sm, sn, sxx, seval, arB_eq]
    try rfl
  · simp +contextual -implicitDefEqProofs (maxSteps := 1000000) only [sm, sn, sxx, seval, arB_eq, eRgs]
  · simp +contextual -implicitDefEqProofs (maxSteps := 1000000) only [sm, sn, sxx, seval, arB_eq, eRgs]
    try rfl
  · simp +contextual -implicitDefEqProofs (maxSteps := 1000000) only [sm, sn, sxx, seval, arB_eq, eRgs]
  · simp +contextual -implicitDefEqProofs (maxSteps := 1000000) only [sm, sn, sxx, seval, arB_eq]
  · simp +contextual -implicitDefEqProofs (maxSteps := 1000000) only [sm, sn, sxx, seval, arB_eq, eRgs]
    refine ⟨[], [0, 1], by decide, ?_⟩
    simp +contextual -implicitDefEqProofs (maxSteps := 1000000) only [sm, sn, sxx, seval, arB_eq]
    try rfl
theorem arith_most (X : List Int) (s : Sd) (i : Nat) (hi : Int) (hI : InD s.1 X) (hd : DOk s.1) (hi' : i < X.length) : Ctr Try.prog 105 [.ptr 3 0 0 0, .int .i64 i, .int .i64 hi] (arB X s) (.tuple []) (arB X (cutA s (xat X i) (-1048576) hi)) := by
  refine call_box Try.func105 Try.call105 e_arith_box_most ?_
  simp +contextual -implicitDefEqProofs (maxSteps := 1000000) only [c_arith_box_most, arB_eq, sm, sn, sxx, seval]
  refine callM_rule [0, 1] (arith_cut X s i (-1048576) hi hI hd hi') (by decide) ?_ ?_ ?_ ?_ ?_ ?_
  · simp +contextual -implicitDefEqProofs (maxSteps := 1000000) only [sm, sn, sxx, seval, arB_eq]
    try rfl
  · simp +contextual -implicitDefEqProofs (maxSteps := 1000000) only [sm, sn, sxx, seval, arB_eq, eRgs]
  · simp +contextual -implicitDefEqProofs (maxSteps := 1000000) only [sm, sn, sxx, seval, arB_eq, eRgs]
    try rfl
  · simp +contextual -implicitDefEqProofs (maxSteps := 1000000) only [sm, sn, sxx, seval, arB_eq, eRgs]
  · simp +contextual -implicitDefEqProofs (maxSteps := 1000000) only [sm, sn, sxx, seval, arB_eq]
  · simp +contextual -implicitDefEqProofs (maxSteps := 1000000) only [sm, sn, sxx, seval, arB_eq, eRgs]
    refine ⟨[], [0, 1], by decide, ?_⟩
    simp +contextual -implicitDefEqProofs (maxSteps := 1000000) only [sm, sn, sxx, seval, arB_eq]
    try rfl
theorem arith_divide (X : List Int) (s : Sd) (i j : Nat) (hI : InD s.1 X) (hd : DOk s.1) (hi : i < X.length) (hj : j < X.length) (h2 : 2 < X.length) : Ctr Try.prog 103 [.ptr 3 0 0 0, .int .i64 i, .int .i64 j] (arB X s) (.tuple []) (arB X (divA s (xat X i) (xat X j) (xat X 2))) := by
  refine call_box Try.func103 Try.call103 e_arith_box_divide ?_
  have hrows := ok_rows hd
  have hEj := arith_ends s.1 X s.2 j hI hrows hj
  have hE2 := arith_ends s.1 X s.2 2 hI hrows h2
  obtain ⟨-, y1, y2, y3⟩ := eAt_facts hd (hI j hj)
  obtain ⟨-, z1, z2, z3⟩ := eAt_facts hd (hI 2 h2)
  have hC := fun lo hi' => arith_cut X s i lo hi' hI hd hi
  unfold divA
  cases hb : s.2
  · rw [if_neg (by decide)]
    rw [hb] at hEj hE2
    generalize eAt s.1 (xat X j) = y at hEj y1 y2 y3 ⊢
    generalize eAt s.1 (xat X 2) = z at hE2 z1 z2 z3 ⊢
    obtain ⟨ya, yb⟩ := y
    obtain ⟨za, zb⟩ := z
    simp only at y1 y2 y3 z1 z2 z3
    simp +contextual -implicitDefEqProofs (maxSteps := 1000000) only [c_arith_box_divide, arB_eq, sm, sn, sxx, seval, hb]
    refine callV_rule hEj ?_ rfl ?_
    · simp +contextual -implicitDefEqProofs (maxSteps := 1000000) only [sm, sn, sxx, seval, hb]
    by_cases c1 : ya ≤ 0
    · by_cases c2 : 0 ≤ yb
      · rw [if_pos ⟨c1, c2⟩]
        simp +contextual -implicitDefEqProofs (maxSteps := 1000000) only [sm, sn, sxx, seval, eRg, c1, c2]
        refine ⟨[], [0, 1], by decide, ?_⟩
        simp +contextual -implicitDefEqProofs (maxSteps := 1000000) only [sm, sn, sxx, seval, hb]
        try rfl
      · rw [if_neg (fun h => c2 h.2)]
        simp +contextual -implicitDefEqProofs (maxSteps := 1000000) only [sm, sn, sxx, seval, eRg, c1, c2]
        refine callV_rule hE2 ?_ rfl ?_
        · simp +contextual -implicitDefEqProofs (maxSteps := 1000000) only [sm, sn, sxx, seval, hb]
        have ny1 : ¬ ya = 0 := by omega
        have ny2 : ¬ yb = 0 := by omega
        simp +contextual -implicitDefEqProofs (maxSteps := 1000000) only [sm, sn, sxx, seval, eRg]
        refine callA_rule (arith_corners (za, zb) (ya, yb) 140 cel (arith_upC _ _ (by omega) ny1) (arith_upC _ _ (by omega) ny2) (arith_upC _ _ (by omega) ny1) (arith_upC _ _ (by omega) ny2)) (by simp +contextual -implicitDefEqProofs (maxSteps := 1000000) only [sm, sn, sxx, seval, eRg]) rfl ?_
        simp +contextual -implicitDefEqProofs (maxSteps := 1000000) only [sm, sn, sxx, seval, eRg]
        refine callA_rule (arith_corners (za, zb) (ya, yb) 141 flr (arith_down _ _ (by omega) ny1) (arith_down _ _ (by omega) ny2) (arith_down _ _ (by omega) ny1) (arith_down _ _ (by omega) ny2)) (by simp +contextual -implicitDefEqProofs (maxSteps := 1000000) only [sm, sn, sxx, seval, eRg]) rfl ?_
        simp +contextual -implicitDefEqProofs (maxSteps := 1000000) only [sm, sn, sxx, seval, eRg]
        refine callM_rule [0, 1] (hC (corn cel (za, zb) (ya, yb)).1 (corn flr (za, zb) (ya, yb)).2) (by decide) ?_ ?_ ?_ ?_ ?_ ?_
        · simp +contextual -implicitDefEqProofs (maxSteps := 1000000) only [sm, sn, sxx, seval, arB_eq, hb]
          try rfl
        · simp +contextual -implicitDefEqProofs (maxSteps := 1000000) only [sm, sn, sxx, seval, arB_eq, eRgs, hb]
        · simp +contextual -implicitDefEqProofs (maxSteps := 1000000) only [sm, sn, sxx, seval, arB_eq, eRgs, hb]
          try rfl
        · simp +contextual -implicitDefEqProofs (maxSteps := 1000000) only [sm, sn, sxx, seval, arB_eq, eRgs, hb]
        · simp +contextual -implicitDefEqProofs (maxSteps := 1000000) only [sm, sn, sxx, seval, arB_eq, hb]
        · simp +contextual -implicitDefEqProofs (maxSteps := 1000000) only [sm, sn, sxx, seval, arB_eq, eRgs]
          refine ⟨[], [0, 1], by decide, ?_⟩
          simp +contextual -implicitDefEqProofs (maxSteps := 1000000) only [sm, sn, sxx, seval, arB_eq]
          try rfl
    · rw [if_neg (fun h => c1 h.1)]
      simp +contextual -implicitDefEqProofs (maxSteps := 1000000) only [sm, sn, sxx, seval, eRg, c1]
      refine callV_rule hE2 ?_ rfl ?_
      · simp +contextual -implicitDefEqProofs (maxSteps := 1000000) only [sm, sn, sxx, seval, hb]
      have ny1 : ¬ ya = 0 := by omega
      have ny2 : ¬ yb = 0 := by omega
      simp +contextual -implicitDefEqProofs (maxSteps := 1000000) only [sm, sn, sxx, seval, eRg]
      refine callA_rule (arith_corners (za, zb) (ya, yb) 140 cel (arith_upC _ _ (by omega) ny1) (arith_upC _ _ (by omega) ny2) (arith_upC _ _ (by omega) ny1) (arith_upC _ _ (by omega) ny2)) (by simp +contextual -implicitDefEqProofs (maxSteps := 1000000) only [sm, sn, sxx, seval, eRg]) rfl ?_
      simp +contextual -implicitDefEqProofs (maxSteps := 1000000) only [sm, sn, sxx, seval, eRg]
      refine callA_rule (arith_corners (za, zb) (ya, yb) 141 flr (arith_down _ _ (by omega) ny1) (arith_down _ _ (by omega) ny2) (arith_down _ _ (by omega) ny1) (arith_down _ _ (by omega) ny2)) (by simp +contextual -implicitDefEqProofs (maxSteps := 1000000) only [sm, sn, sxx, seval, eRg]) rfl ?_
      simp +contextual -implicitDefEqProofs (maxSteps := 1000000) only [sm, sn, sxx, seval, eRg]
      refine callM_rule [0, 1] (hC (corn cel (za, zb) (ya, yb)).1 (corn flr (za, zb) (ya, yb)).2) (by decide) ?_ ?_ ?_ ?_ ?_ ?_
      · simp +contextual -implicitDefEqProofs (maxSteps := 1000000) only [sm, sn, sxx, seval, arB_eq, hb]
        try rfl
      · simp +contextual -implicitDefEqProofs (maxSteps := 1000000) only [sm, sn, sxx, seval, arB_eq, eRgs, hb]
      · simp +contextual -implicitDefEqProofs (maxSteps := 1000000) only [sm, sn, sxx, seval, arB_eq, eRgs, hb]
        try rfl
      · simp +contextual -implicitDefEqProofs (maxSteps := 1000000) only [sm, sn, sxx, seval, arB_eq, eRgs, hb]
      · simp +contextual -implicitDefEqProofs (maxSteps := 1000000) only [sm, sn, sxx, seval, arB_eq, hb]
      · simp +contextual -implicitDefEqProofs (maxSteps := 1000000) only [sm, sn, sxx, seval, arB_eq, eRgs]
        refine ⟨[], [0, 1], by decide, ?_⟩
        simp +contextual -implicitDefEqProofs (maxSteps := 1000000) only [sm, sn, sxx, seval, arB_eq]
        try rfl
  · rw [if_pos rfl]
    simp +contextual -implicitDefEqProofs (maxSteps := 1000000) only [c_arith_box_divide, arB_eq, sm, sn, sxx, seval, hb]
    refine ⟨[], [0, 1], by decide, ?_⟩
    simp +contextual -implicitDefEqProofs (maxSteps := 1000000) only [sm, sn, sxx, seval, hb]
    try rfl
end Go.Proofs.Ytonkcemcledhiaa
