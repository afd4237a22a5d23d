/- Plain laws for unlike values: smaller domains, fixed ones, sizes. -/
import Derived.Test.YtonkcemcledhiaaPlHall3
import Derived.Test.YtonkcemcledhiaaGEvery
namespace Go.Proofs.Ytonkcemcledhiaa
open Av
attribute [local irreducible] awp awpOpers
set_option linter.unusedSimpArgs false
set_option linter.unusedVariables false
theorem hallN_sub {l : List Rg} {D : List (List Rg)} {X : List Int} (hD : DOk D) (hX : InD D X) : ∀ k, k ≤ X.length → LeD (hallN l D X k) D
  | 0, _ => le_refl_of hD
  | k + 1, h => by
    have ih := hallN_sub (l := l) hD hX k (by omega)
    have hx := hX k (by omega)
    have hs := ih.2 _ hx.1 hx.2
    exact le_setrow ih hx ((cut_sub hs.1 _ _).trans hs)
theorem hall_idx {c : Con} {D : List (List Rg)} (hm : modB (D, [c], 0, 0) = true) : D.length ≤ 64 ∧ DOk D ∧ c.2.1.length ≤ 32 ∧ InD D c.2.1 := by
  obtain ⟨f1, f2, f3⟩ := one_facts hm
  obtain ⟨g1, g2, g3, g4, g5⟩ := may_facts f3
  exact ⟨f1, fun x h0 h1 => f2 _ (row_mem ⟨h0, h1⟩), g2, g3⟩
theorem hall_l {c : Con} {D : List (List Rg)} (hK : c.1 = 18) (hm : modB (D, [c], 0, 0) = true) : hallL c D = if rroomB (endRows D c.2.1) = true then tell (hallN (endRows D c.2.1) D c.2.1 c.2.1.length, wholeB (hallN (endRows D c.2.1) D c.2.1 c.2.1.length)) else ([], 12) := by
  unfold hallL
  rw [if_pos hm, if_pos hK, rooms_eq]
theorem hall_res {c : Con} {D : List (List Rg)} (hK : c.1 = 18) (hm : modB (D, [c], 0, 0) = true) : hallL c D = ([], 12) ∨ ∃ E, hallL c D = (E, 0) ∧ LeD E D ∧ ∀ r ∈ E, 0 < r.length := by
  rw [hall_l hK hm]
  obtain ⟨f1, hD, h32, hX⟩ := hall_idx hm
  by_cases hr : rroomB (endRows D c.2.1) = true
  · rw [if_pos hr]
    have hN := hallN_sub (l := endRows D c.2.1) hD hX _ (Nat.le_refl _)
    cases hw : wholeB (hallN (endRows D c.2.1) D c.2.1 c.2.1.length)
    · exact .inl rfl
    · refine .inr ⟨_, rfl, hN, fun r hr => ?_⟩
      unfold wholeB at hw
      simp only [Bool.not_eq_true', List.any_eq_false, decide_eq_true_eq] at hw
      exact Nat.pos_of_ne_zero (hw r hr)
  · rw [if_neg hr]; exact .inl rfl
theorem hall_small {c : Con} {D : List (List Rg)} (hD : D.length ≤ 1000000000000) (hd : ∀ d ∈ D, d.length ≤ 1000000000000) : (hallL c D).1.length ≤ 1000000000000 ∧ ∀ d ∈ (hallL c D).1, d.length ≤ 1000000000000 := by
  by_cases hm : modB (D, [c], 0, 0) = true
  · by_cases hK : c.1 = 18
    · rcases hall_res hK hm with h | ⟨E, h, hle, hpos⟩
      · rw [h]; simp
      · rw [h]
        show E.length ≤ 1000000000000 ∧ ∀ d ∈ E, d.length ≤ 1000000000000
        refine ⟨by rw [hle.1]; exact hD, fun r hr => ?_⟩
        obtain ⟨k, hk, rfl⟩ := List.getElem_of_mem hr
        have hkD : k < D.length := by rw [← hle.1]; exact hk
        have hs := (hle.2 (k : Int) (by omega) (by omega)).1
        have hro : rowOf E (k : Int) = E[k] := by
          unfold rowOf
          rw [Int.toNat_natCast, List.getElem?_eq_getElem hk]
          rfl
        rw [hro] at hs
        have hp := hpos _ (List.getElem_mem hk)
        have := dom_len (d := E[k]) (by unfold domB; rw [hs]; simp; omega)
        omega
    · unfold hallL
      rw [if_pos hm, if_neg hK]; simp
  · unfold hallL
    rw [if_neg hm]; simp
/-! values that stand alone -/
end Go.Proofs.Ytonkcemcledhiaa
