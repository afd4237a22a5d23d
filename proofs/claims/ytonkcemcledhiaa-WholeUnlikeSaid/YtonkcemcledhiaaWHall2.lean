/- What the functions of package hall compute: ends. -/
import Derived.Test.YtonkcemcledhiaaPlHall
namespace Go.Proofs.Ytonkcemcledhiaa
open Av
attribute [local irreducible] awp awpOpers
set_option linter.unusedSimpArgs false
set_option linter.unusedVariables false
set_option maxRecDepth 100000
set_option maxHeartbeats 4000000
theorem hall_ends (r : Rg) (S : List Rg) (hS : S.length ≤ 1000000000000) (hB : InB S) (hr : (-1048577 ≤ r.1 ∧ r.1 ≤ 1048577) ∧ (-1048577 ≤ r.2 ∧ r.2 ≤ 1048577)) : Ctr Try.prog 62 [eRg r, eRgs S] [] (eRg (trimV S r)) [] := by
  refine call_pure Try.func62 Try.call62 e_hall_ends ?_
  obtain ⟨r1, r2⟩ := r
  simp only at hr
  simp +contextual -implicitDefEqProofs (maxSteps := 1000000) only [c_hall_ends, eRgs, eRg, sm, sn, sxx, seval]
  refine loop_rule (fun s : Int × Int × Bool => EndsJ S (r1, r2) s.1 s.2.1 ∧ (s.2.2 = false → covB S s.1 = false ∧ covB S s.2.1 = false)) (fun s => tm 49 [(1, .list 2 (S.map eRg)), (2, .ptr 2 0 0 0), (4, .ptr 2 1 0 0), (5, .bool s.2.2)])
    (fun s => [some (2, [.agg [.int .i64 s.1, .int .i64 s.2.1]]), some (2, [.agg [.int .i64 0, .int .i64 0]])]) (fun s => 2 * ((1048577 - s.1) + (s.2.1 + 1048577)).toNat + if s.2.2 = true then 1 else 0) (r1, r2, true) ⟨⟨⟨by (try dsimp only); omega, by (try dsimp only); omega⟩, fun v a b => by (try dsimp only at a b); omega, ⟨by (try dsimp only); omega, by (try dsimp only); omega⟩, fun v a b => by (try dsimp only at a b); omega⟩, fun h => by cases h⟩ ⟨[0, 1], by decide, rfl, ?_, ?_⟩ ?_
  · simp +contextual -implicitDefEqProofs (maxSteps := 1000000) only [sm, sn, sxx, seval]
  · simp +contextual -implicitDefEqProofs (maxSteps := 1000000) only [sm, sn, sxx, seval]
  · rintro ⟨a0, b0, ag0⟩ ⟨hJ0, hE⟩
    simp only at hJ0 hE
    cases ag0
    · obtain ⟨q1, q2⟩ := hE rfl
      rw [endsJ_eq hJ0 q1 q2]
      simp +contextual -implicitDefEqProofs (maxSteps := 1000000) only [sm, sn, sxx, seval]
    · clear hE
      simp +contextual -implicitDefEqProofs (maxSteps := 1000000) only [sm, sn, sxx, seval]
      refine loop_rule (fun s : Nat × Int × Int × Bool => s.1 ≤ S.length ∧ EndsJ S (r1, r2) s.2.1 s.2.2.1 ∧ a0 ≤ s.2.1 ∧ s.2.2.1 ≤ b0 ∧ (s.2.2.2 = true → (a0 < s.2.1 ∨ s.2.2.1 < b0)) ∧ (s.2.2.2 = false → s.2.1 = a0 ∧ s.2.2.1 = b0 ∧ ∀ (j : Nat) q, j < s.1 → S[j]? = some q → ¬ (q.1 ≤ a0 ∧ a0 ≤ q.2) ∧ ¬ (q.1 ≤ b0 ∧ b0 ≤ q.2)))
        (fun s => tm 49 [(1, .list 2 (S.map eRg)), (2, .ptr 2 0 0 0), (4, .ptr 2 1 0 0), (5, .bool s.2.2.2), (9, .list 2 (S.map eRg)), (10, .int .i64 S.length), (11, .int .i64 s.1)]) (fun s => [some (2, [.agg [.int .i64 s.2.1, .int .i64 s.2.2.1]]), some (2, [.agg [.int .i64 0, .int .i64 0]])]) (fun s => S.length - s.1) (0, a0, b0, false) ⟨by simp, hJ0, by simp, by simp, (fun h => by cases h), fun _ => ⟨rfl, rfl, fun j q h => by simp at h⟩⟩ ⟨[0, 1], by decide, rfl, ?_, ?_⟩ ?_
      · simp +contextual -implicitDefEqProofs (maxSteps := 1000000) only [sm, sn, sxx, seval]
      · simp +contextual -implicitDefEqProofs (maxSteps := 1000000) only [sm, sn, sxx, seval, Int.natCast_zero]
      · rintro ⟨k, a, b, ag⟩ ⟨hk, hJ, ha, hb, hT, hF⟩
        simp only at hk hJ ha hb hT hF
        by_cases hlt : k < S.length
        · obtain ⟨⟨x, y⟩, hx⟩ : ∃ r, S[k]? = some r := ⟨_, List.getElem?_eq_getElem hlt⟩
          have hlt' : (k : Int) < (S.length : Int) := by omega
          have e2 : IntKind.i64.wrap ((k : Int) + 1) = ((k + 1 : Nat) : Int) := by rw [wrap_i64] <;> omega
          have hbb := hB _ (List.mem_of_getElem? hx)
          simp only at hbb
          have w1 : x ≤ a → a ≤ y → IntKind.i64.wrap (y + 1) = y + 1 := fun _ _ => by have := hJ.1; rw [wrap_i64] <;> omega
          have w2 : x ≤ b → b ≤ y → IntKind.i64.wrap (x - 1) = x - 1 := fun _ _ => by have := hJ.2.2.1; rw [wrap_i64] <;> omega
          by_cases h1 : x ≤ a
          · by_cases h2 : a ≤ y
            · by_cases g1 : x ≤ b
              · by_cases g2 : b ≤ y
                · simp +contextual -implicitDefEqProofs (maxSteps := 1000000) only [sm, sn, sxx, seval, hlt', hx, e2, w1, w2, h1, h2, g1, g2]
                  refine ⟨(k + 1, y + 1, x - 1, true), ⟨by (try dsimp only); omega, (endsJ_dn hB (endsJ_up hB hJ hx h1 h2) hx g1 g2), by (try dsimp only); omega, by (try dsimp only); omega, ?_, ?_⟩, by (try dsimp only); omega, [0, 1], by decide, rfl, ?_, ?_⟩
                  · intro _; (try dsimp only); omega
                  · intro h; cases h
                  · simp +contextual -implicitDefEqProofs (maxSteps := 1000000) only [sm, sn, sxx, seval]
                  · simp +contextual -implicitDefEqProofs (maxSteps := 1000000) only [sm, sn, sxx, seval]
                · simp +contextual -implicitDefEqProofs (maxSteps := 1000000) only [sm, sn, sxx, seval, hlt', hx, e2, w1, w2, h1, h2, g1, g2]
                  refine ⟨(k + 1, y + 1, b, true), ⟨by (try dsimp only); omega, (endsJ_up hB hJ hx h1 h2), by (try dsimp only); omega, by (try dsimp only); omega, ?_, ?_⟩, by (try dsimp only); omega, [0, 1], by decide, rfl, ?_, ?_⟩
                  · intro _; (try dsimp only); omega
                  · intro h; cases h
                  · simp +contextual -implicitDefEqProofs (maxSteps := 1000000) only [sm, sn, sxx, seval]
                  · simp +contextual -implicitDefEqProofs (maxSteps := 1000000) only [sm, sn, sxx, seval]
              · simp +contextual -implicitDefEqProofs (maxSteps := 1000000) only [sm, sn, sxx, seval, hlt', hx, e2, w1, w2, h1, h2, g1]
                refine ⟨(k + 1, y + 1, b, true), ⟨by (try dsimp only); omega, (endsJ_up hB hJ hx h1 h2), by (try dsimp only); omega, by (try dsimp only); omega, ?_, ?_⟩, by (try dsimp only); omega, [0, 1], by decide, rfl, ?_, ?_⟩
                · intro _; (try dsimp only); omega
                · intro h; cases h
                · simp +contextual -implicitDefEqProofs (maxSteps := 1000000) only [sm, sn, sxx, seval]
                · simp +contextual -implicitDefEqProofs (maxSteps := 1000000) only [sm, sn, sxx, seval]

            · by_cases g1 : x ≤ b
              · by_cases g2 : b ≤ y
                · simp +contextual -implicitDefEqProofs (maxSteps := 1000000) only [sm, sn, sxx, seval, hlt', hx, e2, w1, w2, h1, h2, g1, g2]
                  refine ⟨(k + 1, a, x - 1, true), ⟨by (try dsimp only); omega, (endsJ_dn hB hJ hx g1 g2), by (try dsimp only); omega, by (try dsimp only); omega, ?_, ?_⟩, by (try dsimp only); omega, [0, 1], by decide, rfl, ?_, ?_⟩
                  · intro _; (try dsimp only); omega
                  · intro h; cases h
                  · simp +contextual -implicitDefEqProofs (maxSteps := 1000000) only [sm, sn, sxx, seval]
                  · simp +contextual -implicitDefEqProofs (maxSteps := 1000000) only [sm, sn, sxx, seval]
                · simp +contextual -implicitDefEqProofs (maxSteps := 1000000) only [sm, sn, sxx, seval, hlt', hx, e2, w1, w2, h1, h2, g1, g2]
                  refine ⟨(k + 1, a, b, ag), ⟨by (try dsimp only); omega, hJ, by (try dsimp only); omega, by (try dsimp only); omega, ?_, ?_⟩, by (try dsimp only); omega, [0, 1], by decide, rfl, ?_, ?_⟩
                  · exact hT
                  · intro h
                    obtain ⟨f1, f2, f3⟩ := hF h
                    refine ⟨f1, f2, fun j s hj hs => ?_⟩
                    rcases Nat.lt_succ_iff_lt_or_eq.1 hj with h' | rfl
                    · exact f3 j s h' hs
                    · rw [hx] at hs; injection hs with hs; subst hs
                      simp only
                      omega
                  · simp +contextual -implicitDefEqProofs (maxSteps := 1000000) only [sm, sn, sxx, seval]
                  · simp +contextual -implicitDefEqProofs (maxSteps := 1000000) only [sm, sn, sxx, seval]
              · simp +contextual -implicitDefEqProofs (maxSteps := 1000000) only [sm, sn, sxx, seval, hlt', hx, e2, w1, w2, h1, h2, g1]
                refine ⟨(k + 1, a, b, ag), ⟨by (try dsimp only); omega, hJ, by (try dsimp only); omega, by (try dsimp only); omega, ?_, ?_⟩, by (try dsimp only); omega, [0, 1], by decide, rfl, ?_, ?_⟩
                · exact hT
                · intro h
                  obtain ⟨f1, f2, f3⟩ := hF h
                  refine ⟨f1, f2, fun j s hj hs => ?_⟩
                  rcases Nat.lt_succ_iff_lt_or_eq.1 hj with h' | rfl
                  · exact f3 j s h' hs
                  · rw [hx] at hs; injection hs with hs; subst hs
                    simp only
                    omega
                · simp +contextual -implicitDefEqProofs (maxSteps := 1000000) only [sm, sn, sxx, seval]
                · simp +contextual -implicitDefEqProofs (maxSteps := 1000000) only [sm, sn, sxx, seval]

          · by_cases g1 : x ≤ b
            · by_cases g2 : b ≤ y
              · simp +contextual -implicitDefEqProofs (maxSteps := 1000000) only [sm, sn, sxx, seval, hlt', hx, e2, w1, w2, h1, g1, g2]
                refine ⟨(k + 1, a, x - 1, true), ⟨by (try dsimp only); omega, (endsJ_dn hB hJ hx g1 g2), by (try dsimp only); omega, by (try dsimp only); omega, ?_, ?_⟩, by (try dsimp only); omega, [0, 1], by decide, rfl, ?_, ?_⟩
                · intro _; (try dsimp only); omega
                · intro h; cases h
                · simp +contextual -implicitDefEqProofs (maxSteps := 1000000) only [sm, sn, sxx, seval]
                · simp +contextual -implicitDefEqProofs (maxSteps := 1000000) only [sm, sn, sxx, seval]
              · simp +contextual -implicitDefEqProofs (maxSteps := 1000000) only [sm, sn, sxx, seval, hlt', hx, e2, w1, w2, h1, g1, g2]
                refine ⟨(k + 1, a, b, ag), ⟨by (try dsimp only); omega, hJ, by (try dsimp only); omega, by (try dsimp only); omega, ?_, ?_⟩, by (try dsimp only); omega, [0, 1], by decide, rfl, ?_, ?_⟩
                · exact hT
                · intro h
                  obtain ⟨f1, f2, f3⟩ := hF h
                  refine ⟨f1, f2, fun j s hj hs => ?_⟩
                  rcases Nat.lt_succ_iff_lt_or_eq.1 hj with h' | rfl
                  · exact f3 j s h' hs
                  · rw [hx] at hs; injection hs with hs; subst hs
                    simp only
                    omega
                · simp +contextual -implicitDefEqProofs (maxSteps := 1000000) only [sm, sn, sxx, seval]
                · simp +contextual -implicitDefEqProofs (maxSteps := 1000000) only [sm, sn, sxx, seval]
            · simp +contextual -implicitDefEqProofs (maxSteps := 1000000) only [sm, sn, sxx, seval, hlt', hx, e2, w1, w2, h1, g1]
              refine ⟨(k + 1, a, b, ag), ⟨by (try dsimp only); omega, hJ, by (try dsimp only); omega, by (try dsimp only); omega, ?_, ?_⟩, by (try dsimp only); omega, [0, 1], by decide, rfl, ?_, ?_⟩
              · exact hT
              · intro h
                obtain ⟨f1, f2, f3⟩ := hF h
                refine ⟨f1, f2, fun j s hj hs => ?_⟩
                rcases Nat.lt_succ_iff_lt_or_eq.1 hj with h' | rfl
                · exact f3 j s h' hs
                · rw [hx] at hs; injection hs with hs; subst hs
                  simp only
                  omega
              · simp +contextual -implicitDefEqProofs (maxSteps := 1000000) only [sm, sn, sxx, seval]
              · simp +contextual -implicitDefEqProofs (maxSteps := 1000000) only [sm, sn, sxx, seval]

        · have hkn : k = S.length := by omega
          subst hkn
          simp +contextual -implicitDefEqProofs (maxSteps := 1000000) only [sm, sn, sxx, seval, Int.lt_irrefl]
          refine ⟨(a, b, ag), ⟨hJ, fun h => ?_⟩, ?_, [0, 1], by decide, rfl, ?_, ?_⟩
          · obtain ⟨f1, f2, f3⟩ := hF h
            simp only
            subst f1; subst f2
            exact ⟨cov_no fun j s hj => (f3 j s (List.getElem?_eq_some_iff.1 hj).1 hj).1, cov_no fun j s hj => (f3 j s (List.getElem?_eq_some_iff.1 hj).1 hj).2⟩
          · have j1 := hJ.1
            have j2 := hJ.2.2.1
            have j3 := hJ0.1
            have j4 := hJ0.2.2.1
            cases ag
            · obtain ⟨f1, f2, f3⟩ := hF rfl
              subst f1; subst f2
              simp
            · have := hT rfl
              simp
              omega
          · simp +contextual -implicitDefEqProofs (maxSteps := 1000000) only [sm, sn, sxx, seval]
          · simp +contextual -implicitDefEqProofs (maxSteps := 1000000) only [sm, sn, sxx, seval]
end Go.Proofs.Ytonkcemcledhiaa
