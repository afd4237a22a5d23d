/- Plain laws of products, lesser and greater ones, sizes, likeness: where the first variables have one value each. -/
import Derived.Test.YtbhigfllanblpaaPlArith
namespace Go.Proofs.Ytbhigfllanblpaa
open Av
attribute [local irreducible] awp awpOpers
set_option linter.unusedSimpArgs false
set_option linter.unusedVariables false
set_option linter.unusedSectionVars false
theorem cut_one {D : List (List Rg)} {z : Int} (v : Int) (hD : DOk D) (hz : 0 ≤ z ∧ z < D.length) : (cutA (D, false) z v v).2 = true ∨ ∀ u, Mem (rowOf (cutA (D, false) z v v).1 z) u → u = v := by
  have hr := dom_right (hD z hz.1 hz.2)
  unfold cutA
  rw [if_neg (by simp)]
  unfold putA
  split
  · exact .inl rfl
  · right
    intro u hu
    simp only at hu
    rw [row_set hz.1 hz.2 hz.1, if_pos rfl] at hu
    have := ((cutS_facts v v hr.1).2 u).1 hu
    omega
theorem one_fixed {r : List Rg} {v : Int} (hr : domB r = true) (h : ∀ u, Mem r u → u = v) : (endsV r).1 = (endsV r).2 := by
  obtain ⟨m1, m2, -⟩ := ends_facts hr
  rw [h _ m1, h _ m2]
theorem dec_fin {D : List (List Rg)} {s s1 : Sd} {z v : Int} (ok : OkA D s) (le : LeD s.1 s1.1) (b : s1.2 = true → s.2 = true) (hz : 0 ≤ z ∧ z < D.length) (hc : s1.2 = true ∨ ∀ u, Mem (rowOf s1.1 z) u → u = v) :
    s.2 = true ∨ (OkA D s ∧ (eAt s.1 z).1 = (eAt s.1 z).2) := by
  rcases hc with h | h
  · exact .inl (b h)
  · have hl := ok.1.1
    have hl2 := le.1
    exact .inr ⟨ok, one_fixed (ok.2 z hz.1 (by omega)) fun u hu => h u ((le.2 z hz.1 (by omega)).2.2 u hu)⟩
theorem arith_decS {c : Con} {D : List (List Rg)} (hK : aKind c.1) (hm : modB (D, [c], 0, 0) = true) (hfix : ∀ k, k + 1 < c.2.1.length → (eAt D (xat c.2.1 k)).1 = (eAt D (xat c.2.1 k)).2) :
    (arithS c.1 D c.2.1).2 = true ∨ (OkA D (arithS c.1 D c.2.1) ∧ (eAt (arithS c.1 D c.2.1).1 (xat c.2.1 (c.2.1.length - 1))).1 = (eAt (arithS c.1 D c.2.1).1 (xat c.2.1 (c.2.1.length - 1))).2) := by
  obtain ⟨f1, hD, h0, h1, h2, h3, -⟩ := arith_idx hK hm
  unfold arithS
  unfold aKind at hK
  rcases hK with h | h | h | h | h <;> rw [h] at h2 h3 ⊢ <;> simp only [show ¬ (8 : Int) = 7 by decide, show ¬ (9 : Int) = 7 by decide, show ¬ (9 : Int) = 8 by decide, show ¬ (10 : Int) = 7 by decide, show ¬ (10 : Int) = 8 by decide, show ¬ (10 : Int) = 9 by decide, show ¬ (15 : Int) = 7 by decide, show ¬ (15 : Int) = 8 by decide, show ¬ (15 : Int) = 9 by decide, show ¬ (15 : Int) = 10 by decide, if_true, if_false]
  · obtain ⟨hl, h2⟩ := h2 (by simp)
    have x0 := hfix 0 (by omega)
    have x1 := hfix 1 (by omega)
    have e : c.2.1.length - 1 = 2 := by omega
    rw [e]
    obtain ⟨a, b, d⟩ := times_ok hD h0 h1 h2
    refine dec_fin a b d h2 (v := muls (eAt D (xat c.2.1 0)).2 (eAt D (xat c.2.1 1)).2) ?_
    have e1 : corn muls (eAt D (xat c.2.1 0)) (eAt D (xat c.2.1 1)) = (muls (eAt D (xat c.2.1 0)).2 (eAt D (xat c.2.1 1)).2, muls (eAt D (xat c.2.1 0)).2 (eAt D (xat c.2.1 1)).2) := by
      unfold corn
      rw [x0, x1]
      simp
    rw [e1]
    exact cut_one _ hD h2
  · obtain ⟨hl, h2⟩ := h2 (by simp)
    have x0 := hfix 0 (by omega)
    have x1 := hfix 1 (by omega)
    have e : c.2.1.length - 1 = 2 := by omega
    rw [e]
    obtain ⟨a, b, d⟩ := lesser_ok hD h0 h1 h2
    refine dec_fin a b d h2 (v := min (eAt D (xat c.2.1 0)).2 (eAt D (xat c.2.1 1)).2) ?_
    rw [x0, x1]
    exact cut_one _ hD h2
  · obtain ⟨hl, h2⟩ := h2 (by simp)
    have x0 := hfix 0 (by omega)
    have x1 := hfix 1 (by omega)
    have e : c.2.1.length - 1 = 2 := by omega
    rw [e]
    obtain ⟨a, b, d⟩ := greater_ok hD h0 h1 h2
    refine dec_fin a b d h2 (v := max (eAt D (xat c.2.1 0)).2 (eAt D (xat c.2.1 1)).2) ?_
    rw [x0, x1]
    exact cut_one _ hD h2
  · have hl := h3 (by simp)
    have x0 := hfix 0 (by omega)
    have e : c.2.1.length - 1 = 1 := by omega
    rw [e]
    obtain ⟨a, b, d⟩ := size_ok hD h0 h1
    refine dec_fin a b d h1 (v := max (eAt D (xat c.2.1 0)).2 (-(eAt D (xat c.2.1 0)).2)) ?_
    have e1 : size1 D (xat c.2.1 0) (xat c.2.1 1) = cutA (D, false) (xat c.2.1 1) (max (eAt D (xat c.2.1 0)).2 (-(eAt D (xat c.2.1 0)).2)) (max (eAt D (xat c.2.1 0)).2 (-(eAt D (xat c.2.1 0)).2)) := by
      unfold size1
      rw [x0]
      congr 1
      omega
    rw [e1]
    exact cut_one _ hD h1
  · have hl := h3 (by simp)
    have x0 := hfix 0 (by omega)
    have e : c.2.1.length - 1 = 1 := by omega
    rw [e]
    have r1 := dom_right (hD _ h0.1 h0.2)
    have r2 := dom_right (hD _ h1.1 h1.2)
    obtain ⟨m1, m2⟩ := meetS_facts r1.1 r2.1
    obtain ⟨-, -, hb, -⟩ := ends_facts (hD _ h0.1 h0.2)
    rcases (same_ok hD h0 h1).1 with hok | hbad
    · by_cases hz : (meetS (rowOf D (xat c.2.1 0)) (rowOf D (xat c.2.1 1))).length = 0
      · left
        unfold sameA
        have hp : putA (D, false) (xat c.2.1 0) (meetS (rowOf D (xat c.2.1 0)) (rowOf D (xat c.2.1 1))) = (D, true) := by unfold putA; rw [if_pos hz]
        rw [hp]
        unfold putA
        split <;> rfl
      · right
        refine ⟨hok, ?_⟩
        have hp : putA (D, false) (xat c.2.1 0) (meetS (rowOf D (xat c.2.1 0)) (rowOf D (xat c.2.1 1))) = (D.set (xat c.2.1 0).toNat (meetS (rowOf D (xat c.2.1 0)) (rowOf D (xat c.2.1 1))), false) := by unfold putA; rw [if_neg hz]
        have hrx : rowOf (D.set (xat c.2.1 0).toNat (meetS (rowOf D (xat c.2.1 0)) (rowOf D (xat c.2.1 1)))) (xat c.2.1 0) = meetS (rowOf D (xat c.2.1 0)) (rowOf D (xat c.2.1 1)) := by rw [row_set h0.1 h0.2 h0.1, if_pos rfl]
        have hrow : rowOf (sameA D (xat c.2.1 0) (xat c.2.1 1)).1 (xat c.2.1 1) = meetS (rowOf D (xat c.2.1 0)) (rowOf D (xat c.2.1 1)) := by
          unfold sameA
          rw [hp]
          simp only
          rw [hrx]
          unfold putA
          rw [if_neg hz]
          simp only
          rw [row_set h1.1 (by rw [List.length_set]; exact h1.2) h1.1, if_pos rfl]
        unfold eAt
        rw [hrow]
        refine one_fixed (v := (eAt D (xat c.2.1 0)).2) ?_ ?_
        · unfold domB
          rw [m1]
          simp
          omega
        · intro u hu
          have := hb u ((m2 u).1 hu).1
          unfold eAt at x0 ⊢
          omega
    · exact .inl hbad
theorem arith_decides {c : Con} {D : List (List Rg)} (hK : aKind c.1) (hm : modB (D, [c], 0, 0) = true) (hfix : ∀ k, k + 1 < c.2.1.length → (eAt D (xat c.2.1 k)).1 = (eAt D (xat c.2.1 k)).2) :
    arithL c D = ([], 12) ∨ ∃ E, arithL c D = (E, 0) ∧ E.length = D.length ∧ DOk E ∧ (eAt E (xat c.2.1 (c.2.1.length - 1))).1 = (eAt E (xat c.2.1 (c.2.1.length - 1))).2 := by
  rw [arith_l hK hm]
  have h := arith_decS hK hm hfix
  generalize arithS c.1 D c.2.1 = s at h ⊢
  obtain ⟨E, b⟩ := s
  cases b
  · rcases h with h | ⟨h, h2⟩
    · cases h
    · exact .inr ⟨E, rfl, h.1.1, h.2, h2⟩
  · exact .inl rfl
end Go.Proofs.Ytbhigfllanblpaa
