/- What joined and Of of package touchstoneref09 compute. -/
import Derived.Test.YtfcphijidcfboaaGSet
import Derived.Test.YtfcphijidcfboaaPlJoin
import Derived.Test.YtfcphijidcfboaaCRef09O
namespace Go.Proofs.Ytfcphijidcfboaa
open Av
attribute [local irreducible] awp awpOpers
set_option linter.unusedSimpArgs false
set_option linter.unusedVariables false
set_option maxRecDepth 100000
set_option maxHeartbeats 4000000
theorem ref09_joined (l : List Rg) (p0 q0 : Int) (hl : l.length ≤ 1000000000000) (hI0 : InR (p0, q0)) (hIl : ∀ d ∈ l, InR d) : Ctr Try.prog 119 [eRgs l, eRg (p0, q0)] [] (eRgs (joinedGo (p0, q0) false l)) [] := by
  refine call_pure Try.func119 Try.call119 e_ref09_joined ?_
  simp +contextual -implicitDefEqProofs (maxSteps := 1000000) only [c_ref09_joined, eRgs, eRg, sm, sn, sxx, seval]
  refine loop_ruleV [(5, 2)] (fun b : Nat × List Rg × Int × Int × Bool => b.1 ≤ l.length ∧ b.2.1.length ≤ 2 * b.1 ∧ InR (b.2.2.1, b.2.2.2.1) ∧ b.2.1 ++ joinedGo (b.2.2.1, b.2.2.2.1) b.2.2.2.2 (l.drop b.1) = joinedGo (p0, q0) false l)
    (fun b => tm 76 [(0, .list 2 (l.map eRg)), (3, .ptr 2 0 0 0), (5, .sl 2 1 0 b.2.1.length), (6, .bool b.2.2.2.2), (7, .int .i64 b.1)]) (fun b => [some (2, [.agg [.int .i64 b.2.2.1, .int .i64 b.2.2.2.1]]), some (2, b.2.1.map eRg)]) (fun b => l.length - b.1) (0, [], p0, q0, false) (by simp +contextual -implicitDefEqProofs (maxSteps := 1000000) only [sm, sn, sxx, seval]) ⟨by simp, by simp, hI0, by simp⟩ ⟨[0, 1], by decide, rfl, ?_, ?_⟩ ?_
  · simp +contextual -implicitDefEqProofs (maxSteps := 1000000) only [sm, sn, sxx, seval]
  · simp +contextual -implicitDefEqProofs (maxSteps := 1000000) only [sm, sn, sxx, seval, Int.natCast_zero]
  · rintro ⟨k, acc, p, q, b⟩ ⟨hk, hacc, hI, hgo⟩
    simp only at hk hacc hgo hI
    have hI2 := hI
    unfold InR at hI2
    simp only at hI2
    have w1 : IntKind.i64.wrap (q + 1) = q + 1 := by rw [wrap_i64] <;> omega
    by_cases hlt : k < l.length
    · obtain ⟨⟨x, y⟩, hx⟩ : ∃ r, l[k]? = some r := ⟨_, List.getElem?_eq_getElem hlt⟩
      have hd := drop_at hx
      have hxi := hIl _ (List.mem_of_getElem? hx)
      unfold InR at hxi
      simp only at hxi
      have hlt' : (k : Int) < (l.length : Int) := by omega
      have e2 : IntKind.i64.wrap ((k : Int) + 1) = ((k + 1 : Nat) : Int) := by rw [wrap_i64] <;> omega
      have w2 : IntKind.i64.wrap (y + 1) = y + 1 := by rw [wrap_i64] <;> omega
      have c1 : (acc.length + 1) * 16 ≤ 140737488355328 := by omega
      have c2 : acc.length + 1 ≤ maxLen := by unfold maxLen; omega
      have c3 : (acc.length + 1 + 1) * 16 ≤ 140737488355328 := by omega
      have c4 : acc.length + 1 + 1 ≤ maxLen := by unfold maxLen; omega
      by_cases h1 : y + 1 < p
      · simp +contextual -implicitDefEqProofs (maxSteps := 1000000) only [sm, sn, sxx, seval, hlt', hx, w2, h1, e2, c1, c2, eRg]
        refine ⟨(k + 1, acc ++ [(x, y)], p, q, b), ⟨by (try dsimp only); omega, by (try dsimp only); (try simp only [List.length_append, List.length_cons, List.length_nil]); omega, hI, by
          rw [← hgo, hd]; conv => rhs; unfold joinedGo; rw [if_pos h1]
          rw [List.append_assoc]; rfl⟩, by (try dsimp only); omega, [0, 2], by decide, rfl, ?_, ?_⟩
        · simp +contextual -implicitDefEqProofs (maxSteps := 1000000) only [sm, sn, sxx, seval, eRg, List.append_assoc]
        · simp +contextual -implicitDefEqProofs (maxSteps := 1000000) only [sm, sn, sxx, seval, List.append_assoc]
      · by_cases h2 : q + 1 < x
        · cases b
          · simp +contextual -implicitDefEqProofs (maxSteps := 1000000) only [sm, sn, sxx, seval, hlt', hx, w1, w2, h1, h2, e2, c1, c2, c3, c4, eRg]
            refine ⟨(k + 1, acc ++ [(p, q)] ++ [(x, y)], p, q, true), ⟨by (try dsimp only); omega, by (try dsimp only); (try simp only [List.length_append, List.length_cons, List.length_nil]); omega, hI, by
              rw [← hgo, hd]; conv => rhs; unfold joinedGo; rw [if_neg h1, if_pos h2]
              simp⟩, by (try dsimp only); omega, [0, 3], by decide, rfl, ?_, ?_⟩
            · simp +contextual -implicitDefEqProofs (maxSteps := 1000000) only [sm, sn, sxx, seval, eRg, List.append_assoc]
            · simp +contextual -implicitDefEqProofs (maxSteps := 1000000) only [sm, sn, sxx, seval, List.append_assoc]
          · simp +contextual -implicitDefEqProofs (maxSteps := 1000000) only [sm, sn, sxx, seval, hlt', hx, w1, w2, h1, h2, e2, c1, c2, eRg]
            refine ⟨(k + 1, acc ++ [(x, y)], p, q, true), ⟨by (try dsimp only); omega, by (try dsimp only); (try simp only [List.length_append, List.length_cons, List.length_nil]); omega, hI, by
              rw [← hgo, hd]; conv => rhs; unfold joinedGo; rw [if_neg h1, if_pos h2]
              simp⟩, by (try dsimp only); omega, [0, 2], by decide, rfl, ?_, ?_⟩
            · simp +contextual -implicitDefEqProofs (maxSteps := 1000000) only [sm, sn, sxx, seval, eRg, List.append_assoc]
            · simp +contextual -implicitDefEqProofs (maxSteps := 1000000) only [sm, sn, sxx, seval, List.append_assoc]
        · have hI' : InR (min p x, max q y) := by unfold InR; simp only; omega
          simp +contextual -implicitDefEqProofs (maxSteps := 1000000) only [sm, sn, sxx, seval, hlt', hx, w1, w2, h1, h2, e2, eRg]
          refine ⟨(k + 1, acc, min p x, max q y, b), ⟨by (try dsimp only); omega, by (try dsimp only); (try simp only [List.length_append, List.length_cons, List.length_nil]); omega, hI', by
            rw [← hgo, hd]; conv => rhs; unfold joinedGo; rw [if_neg h1, if_neg h2]⟩, by (try dsimp only); omega, [0, 1], by decide, rfl, ?_, ?_⟩
          · simp +contextual -implicitDefEqProofs (maxSteps := 1000000) only [sm, sn, sxx, seval, eRg, List.append_assoc]
          · simp +contextual -implicitDefEqProofs (maxSteps := 1000000) only [sm, sn, sxx, seval, List.append_assoc]
    · have hkn : k = l.length := by omega
      subst hkn
      rw [List.drop_length] at hgo
      cases b
      · have hgo' : joinedGo (p0, q0) false l = acc ++ [(p, q)] := by rw [← hgo]; rfl
        have c1 : (acc.length + 1) * 16 ≤ 140737488355328 := by omega
        have c2 : acc.length + 1 ≤ maxLen := by unfold maxLen; omega
        have ht : List.take (acc.length + 1) ((acc ++ [(p, q)]).map eRg) = (acc ++ [(p, q)]).map eRg := List.take_of_length_le (by simp)
        rw [hgo']
        simp +contextual -implicitDefEqProofs (maxSteps := 1000000) only [sm, sn, sxx, seval, Int.lt_irrefl, eRg, c1, c2, Nat.le_refl, ht]
      · have hgo' : joinedGo (p0, q0) false l = acc := by rw [← hgo]; simp [joinedGo]
        rw [hgo']
        simp +contextual -implicitDefEqProofs (maxSteps := 1000000) only [sm, sn, sxx, seval, Int.lt_irrefl, eRg]
theorem ref09_Of (l : List Rg) (hl : l.length ≤ 1000000000000) (hg : ∀ r ∈ l, r.1 ≤ r.2 ∧ InR r) : Ctr Try.prog 82 [eRgs l] [] (.tuple [eRgs (mergeS (sortV l)), .int .i64 0]) [] := by
  refine call_pure Try.func82 Try.call82 e_ref09_Of ?_
  have hw : ∀ v, -1048576 ≤ v ∧ v ≤ 1048576 → withinB v = true := fun v h => (withinB_iff v).2 h
  simp +contextual -implicitDefEqProofs (maxSteps := 1000000) only [c_ref09_Of, eRgs, sm, sn, sxx, seval]
  refine loop_rule (fun k : Nat => k ≤ l.length) (fun k => tm 46 [(0, .list 2 (l.map eRg)), (4, .list 2 ((joinK l k).map eRg)), (5, .int .i64 k)]) (fun _ => []) (fun k => l.length - k) 0 (Nat.zero_le _) ⟨[], by decide, rfl, ?_, ?_⟩ ?_
  · simp +contextual -implicitDefEqProofs (maxSteps := 1000000) only [sm, sn, sxx, seval]
  · have hj : joinK l 0 = [] := rfl
    simp +contextual -implicitDefEqProofs (maxSteps := 1000000) only [sm, sn, sxx, seval, Int.natCast_zero, hj]
  intro k hk
  obtain ⟨f1, -, f3, -⟩ := joinK_facts hg k hk
  by_cases hlt : k < l.length
  · have hlt' : (k : Int) < (l.length : Int) := by omega
    have e2 : IntKind.i64.wrap ((k : Int) + 1) = ((k + 1 : Nat) : Int) := by rw [wrap_i64] <;> omega
    obtain ⟨⟨lo, hi⟩, hr⟩ : ∃ r, l[k]? = some r := ⟨_, List.getElem?_eq_getElem hlt⟩
    obtain ⟨g1, g2⟩ := hg _ (List.mem_of_getElem? hr)
    have g3 := g2
    unfold InR at g2
    simp only at g1 g2
    have n1 : ¬ hi < lo := by omega
    have hst := joinK_step hr
    have hjc := ref09_joined (joinK l k) lo hi (by omega) g3 f3
    rw [← hst] at hjc
    generalize joinK l (k + 1) = jn at hjc hst ⊢
    generalize joinK l k = jk at hjc ⊢
    simp +contextual -implicitDefEqProofs (maxSteps := 1000000) only [sm, sn, sxx, seval, hlt', hr, n1, eRg]
    refine callA_rule (ref08_Within lo) (wkL_refl _) rfl ?_
    rw [hw lo ⟨g2.1, g2.2.1⟩]
    simp +contextual -implicitDefEqProofs (maxSteps := 1000000) only [sm, sn, sxx, seval, hr, eRg]
    refine callA_rule (ref08_Within hi) (wkL_refl _) rfl ?_
    rw [hw hi ⟨g2.2.2.1, g2.2.2.2⟩]
    simp +contextual -implicitDefEqProofs (maxSteps := 1000000) only [sm, sn, sxx, seval, hr, eRg]
    refine callA_rule hjc (by simp +contextual -implicitDefEqProofs (maxSteps := 1000000) only [sm, sn, sxx, seval, eRgs, eRg]) rfl ?_
    rw [hst]
    simp +contextual -implicitDefEqProofs (maxSteps := 1000000) only [sm, sn, sxx, seval, e2, eRgs]
    refine ⟨k + 1, by omega, by omega, [], by decide, rfl, ?_, ?_⟩
    · simp +contextual -implicitDefEqProofs (maxSteps := 1000000) only [sm, sn, sxx, seval]
    · rw [joinK_step hr]
      simp +contextual -implicitDefEqProofs (maxSteps := 1000000) only [sm, sn, sxx, seval]
  · have hkn : k = l.length := by omega
    subst hkn
    rw [join_eq hg]
    simp +contextual -implicitDefEqProofs (maxSteps := 1000000) only [sm, sn, sxx, seval, Int.lt_irrefl]
end Go.Proofs.Ytfcphijidcfboaa
