/- HallCounts. -/
import Derived.Test.YtonkcemcledhiaaWLaw17
import Derived.Test.YtonkcemcledhiaaPlHall3
import Derived.Test.YtonkcemcledhiaaCHallCounts
namespace Go.Proofs.Ytonkcemcledhiaa
open Av
attribute [local irreducible] awp awpOpers
set_option linter.unusedSimpArgs false
set_option linter.unusedVariables false
set_option maxRecDepth 100000
set_option maxHeartbeats 4000000
def allTo (l : List Rg) (p : Rg → Bool) (k : Nat) : Bool := (l.take k).all p
theorem allTo_next {l : List Rg} {k : Nat} {x : Rg} (h : l[k]? = some x) (p : Rg → Bool) : allTo l p (k + 1) = (allTo l p k && p x) := by
  unfold allTo
  rw [← take_snoc h, List.all_append]
  simp
theorem counts_pair (l : List Rg) (p q : Rg) : pairOk l p q = (decide ((cntR l p.1 q.2 : Int) = 0) || decide ((cntR l p.1 q.2 : Int) ≤ q.2 - p.1 + 1)) := by
  rw [Bool.eq_iff_iff, pairOk_iff]
  simp only [Bool.or_eq_true, decide_eq_true_eq]
  omega
theorem law_HallCounts (l : List Rg) : Ctr Try.prog 11 [eRgs l] [] (.bool true) [] := by
  refine call_pure Try.func11 Try.call11 e_law17_HallCounts ?_
  simp +contextual -implicitDefEqProofs (maxSteps := 1000000) only [c_law17_HallCounts, eRgs, sm, sn, sxx, seval]
  refine callA_rule law17_alive (wkL_refl _) rfl ?_
  by_cases h : 32 < l.length
  · have h' : (32 : Int) < (l.length : Int) := by omega
    simp +contextual -implicitDefEqProofs (maxSteps := 1000000) only [sm, sn, sxx, seval, h']
  have hn : l.length ≤ 32 := by omega
  have h' : ¬ (32 : Int) < (l.length : Int) := by omega
  simp +contextual -implicitDefEqProofs (maxSteps := 1000000) only [sm, sn, sxx, seval, h']
  refine loop_rule (fun k : Nat => k ≤ l.length ∧ ∀ (j : Nat) x, j < k → l[j]? = some x → okRg x = true) (fun k => tm 94 [(0, .list 2 (l.map eRg)), (18, .list 2 (l.map eRg)), (19, .int .i64 l.length), (20, .int .i64 k)]) (fun k => []) (fun k => l.length - k) 0 ⟨by omega, by omega⟩ ⟨[], by decide, rfl, ?_, ?_⟩ ?_
  · simp +contextual -implicitDefEqProofs (maxSteps := 1000000) only [sm, sn, sxx, seval]
  · simp +contextual -implicitDefEqProofs (maxSteps := 1000000) only [sm, sn, sxx, seval, Int.natCast_zero]
  · rintro k ⟨hk, hok⟩
    by_cases hlt : k < l.length
    · obtain ⟨⟨x, y⟩, hx⟩ : ∃ r, l[k]? = some r := ⟨_, List.getElem?_eq_getElem hlt⟩
      have hlt' : (k : Int) < (l.length : Int) := by omega
      have e2 : IntKind.i64.wrap ((k : Int) + 1) = ((k + 1 : Nat) : Int) := by rw [wrap_i64] <;> omega
      by_cases h1 : y < x
      · simp +contextual -implicitDefEqProofs (maxSteps := 1000000) only [sm, sn, sxx, seval, hlt', hx, h1]
      by_cases h2 : x < -1048576
      · simp +contextual -implicitDefEqProofs (maxSteps := 1000000) only [sm, sn, sxx, seval, hlt', hx, h1, h2]
      by_cases h3 : 1048576 < y
      · simp +contextual -implicitDefEqProofs (maxSteps := 1000000) only [sm, sn, sxx, seval, hlt', hx, h1, h2, h3]
      have hyes : okRg (x, y) = true := by unfold okRg withinB; simp only [Bool.and_eq_true, decide_eq_true_eq]; omega
      simp +contextual -implicitDefEqProofs (maxSteps := 1000000) only [sm, sn, sxx, seval, hlt', hx, h1, h2, h3, e2]
      refine ⟨k + 1, ⟨by omega, ?_⟩, by omega, [], by decide, rfl, ?_, ?_⟩
      · intro j y hj hy
        rcases Nat.lt_succ_iff_lt_or_eq.1 hj with h | rfl
        · first | exact hok j y h hy | simpa using hok j y h hy
        · rw [hx] at hy; injection hy with hy; subst hy; exact hyes
      · simp +contextual -implicitDefEqProofs (maxSteps := 1000000) only [sm, sn, sxx, seval]
      · simp +contextual -implicitDefEqProofs (maxSteps := 1000000) only [sm, sn, sxx, seval]
    · have hke : k = l.length := by omega
      subst hke
      have hall := listall_yes hok
      have hF : ∀ (r : Rg), r ∈ l → r.1 ≤ r.2 ∧ -1048576 ≤ r.1 ∧ r.2 ≤ 1048576 := fun r hr => okRg_facts (List.all_eq_true.1 hall r hr)
      simp +contextual -implicitDefEqProofs (maxSteps := 1000000) only [sm, sn, sxx, seval, Int.lt_irrefl]
      refine loop_rule (fun k : Nat => k ≤ l.length) (fun k => tm 94 [(0, .list 2 (l.map eRg)), (5, .bool (allTo l (fun p => l.all (pairOk l p)) k)), (40, .list 2 (l.map eRg)), (41, .int .i64 l.length), (42, .int .i64 k)]) (fun _ => []) (fun k => l.length - k) 0 (Nat.zero_le _) ⟨[], by decide, rfl, ?_, ?_⟩ ?_
      · simp +contextual -implicitDefEqProofs (maxSteps := 1000000) only [sm, sn, sxx, seval]
      · simp +contextual -implicitDefEqProofs (maxSteps := 1000000) only [sm, sn, sxx, seval, Int.natCast_zero, allTo, List.take_zero, List.all_nil]
      · intro kp hkp
        by_cases hltp : kp < l.length
        rotate_left
        · have hke : kp = l.length := by omega
          subst hke
          have hroom : roomB l = allTo l (fun p => l.all (pairOk l p)) l.length := by
            unfold roomB allTo
            rw [List.take_length, decide_eq_true hn, hall, Bool.true_and, Bool.true_and]
          rw [← hroom]
          simp +contextual -implicitDefEqProofs (maxSteps := 1000000) only [sm, sn, sxx, seval, Int.lt_irrefl]
          refine callA_rule (hall_Room l (by omega)) (wkL_refl _) rfl ?_
          cases roomB l <;> (simp +contextual -implicitDefEqProofs (maxSteps := 1000000) only [sm, sn, sxx, seval]; try rfl)
        obtain ⟨⟨px, py⟩, hxp⟩ : ∃ r, l[kp]? = some r := ⟨_, List.getElem?_eq_getElem hltp⟩
        have hltp' : (kp : Int) < (l.length : Int) := by omega
        have e2p : IntKind.i64.wrap ((kp : Int) + 1) = ((kp + 1 : Nat) : Int) := by rw [wrap_i64] <;> omega
        have hnext := allTo_next hxp (fun p => l.all (pairOk l p))
        generalize allTo l (fun p => l.all (pairOk l p)) (kp + 1) = okn at hnext
        generalize hok0 : allTo l (fun p => l.all (pairOk l p)) kp = ok0 at hnext ⊢
        simp +contextual -implicitDefEqProofs (maxSteps := 1000000) only [sm, sn, sxx, seval, hltp', hxp]
        refine loop_rule (fun k : Nat => k ≤ l.length) (fun k => tm 94 [(0, .list 2 (l.map eRg)), (5, .bool (ok0 && allTo l (pairOk l (px, py)) k)), (7, .ptr 2 0 0 0), (40, .list 2 (l.map eRg)), (41, .int .i64 l.length), (42, .int .i64 kp), (46, .list 2 (l.map eRg)), (47, .int .i64 l.length), (48, .int .i64 k)]) (fun _ => [some (2, [.agg [.int .i64 px, .int .i64 py]])]) (fun k => l.length - k) 0 (Nat.zero_le _) ⟨[0], by decide, rfl, ?_, ?_⟩ ?_
        · simp +contextual -implicitDefEqProofs (maxSteps := 1000000) only [sm, sn, sxx, seval]
        · simp +contextual -implicitDefEqProofs (maxSteps := 1000000) only [sm, sn, sxx, seval, Int.natCast_zero, allTo, List.take_zero, List.all_nil, Bool.and_true]
        · intro kq hkq
          by_cases hltq : kq < l.length
          rotate_left
          · have hke : kq = l.length := by omega
            subst hke
            have hfin : (ok0 && allTo l (pairOk l (px, py)) l.length) = okn := by rw [hnext]; unfold allTo; rw [List.take_length]
            have hfin2 : allTo l (fun p => l.all (pairOk l p)) (kp + 1) = okn := by rw [hnext, allTo_next hxp, hok0]
            rw [hfin]
            simp +contextual -implicitDefEqProofs (maxSteps := 1000000) only [sm, sn, sxx, seval, Int.lt_irrefl, e2p]
            refine ⟨kp + 1, by omega, by omega, [], by decide, rfl, ?_, ?_⟩
            · simp +contextual -implicitDefEqProofs (maxSteps := 1000000) only [sm, sn, sxx, seval]
            · simp +contextual -implicitDefEqProofs (maxSteps := 1000000) only [sm, sn, sxx, seval, hfin2]
          obtain ⟨⟨qx, qy⟩, hxq⟩ : ∃ r, l[kq]? = some r := ⟨_, List.getElem?_eq_getElem hltq⟩
          have hltq' : (kq : Int) < (l.length : Int) := by omega
          have e2q : IntKind.i64.wrap ((kq : Int) + 1) = ((kq + 1 : Nat) : Int) := by rw [wrap_i64] <;> omega
          have hnq := allTo_next hxq (pairOk l (px, py))
          rw [counts_pair] at hnq
          simp only at hnq
          generalize hokq : allTo l (pairOk l (px, py)) kq = okq at hnq ⊢
          simp +contextual -implicitDefEqProofs (maxSteps := 1000000) only [sm, sn, sxx, seval, hltq', hxq]
          refine loop_rule (fun k : Nat => k ≤ l.length) (fun k => tm 94 [(0, .list 2 (l.map eRg)), (5, .bool (ok0 && okq)), (7, .ptr 2 0 0 0), (9, .ptr 2 1 0 0), (10, .int .i64 (cntR (l.take k) px qy)), (40, .list 2 (l.map eRg)), (41, .int .i64 l.length), (42, .int .i64 kp), (46, .list 2 (l.map eRg)), (47, .int .i64 l.length), (48, .int .i64 kq), (52, .list 2 (l.map eRg)), (53, .int .i64 l.length), (54, .int .i64 k)]) (fun _ => [some (2, [.agg [.int .i64 px, .int .i64 py]]), some (2, [.agg [.int .i64 qx, .int .i64 qy]])]) (fun k => l.length - k) 0 (Nat.zero_le _) ⟨[0, 1], by decide, rfl, ?_, ?_⟩ ?_
          · simp +contextual -implicitDefEqProofs (maxSteps := 1000000) only [sm, sn, sxx, seval]
          · simp +contextual -implicitDefEqProofs (maxSteps := 1000000) only [sm, sn, sxx, seval, Int.natCast_zero, cntR, List.take_zero, List.filter_nil, List.length_nil]
          · intro k hk
            by_cases hlt : k < l.length
            · have hlt' : (k : Int) < (l.length : Int) := by omega
              have e2 : IntKind.i64.wrap ((k : Int) + 1) = ((k + 1 : Nat) : Int) := by rw [wrap_i64] <;> omega
              obtain ⟨⟨x, y⟩, hx⟩ : ∃ r, l[k]? = some r := ⟨_, List.getElem?_eq_getElem hlt⟩
              have hs := cntR_snoc hx px qy
              have hb := cntR_le (l.take k) px qy
              have hb2 : (l.take k).length ≤ l.length := List.length_take_le' k l
              have w1 : IntKind.i64.wrap ((cntR (l.take k) px qy : Int) + 1) = ((cntR (l.take k) px qy + 1 : Nat) : Int) := by rw [wrap_i64] <;> omega
              unfold inS at hs
              by_cases h1 : px ≤ x
              · by_cases h2 : y ≤ qy
                · simp only [h1, h2, decide_true, Bool.and_true, if_true] at hs
                  simp +contextual -implicitDefEqProofs (maxSteps := 1000000) only [sm, sn, sxx, seval, hlt', hx, e2, h1, h2, w1]
                  refine ⟨k + 1, by omega, by omega, [0, 1], by decide, rfl, ?_, ?_⟩
                  · simp +contextual -implicitDefEqProofs (maxSteps := 1000000) only [sm, sn, sxx, seval]
                  · simp +contextual -implicitDefEqProofs (maxSteps := 1000000) only [sm, sn, sxx, seval, hs]
                · simp only [h1, h2, decide_true, decide_false, Bool.and_false, Bool.false_eq_true, if_false, Nat.add_zero] at hs
                  simp +contextual -implicitDefEqProofs (maxSteps := 1000000) only [sm, sn, sxx, seval, hlt', hx, e2, h1, h2]
                  refine ⟨k + 1, by omega, by omega, [0, 1], by decide, rfl, ?_, ?_⟩
                  · simp +contextual -implicitDefEqProofs (maxSteps := 1000000) only [sm, sn, sxx, seval]
                  · simp +contextual -implicitDefEqProofs (maxSteps := 1000000) only [sm, sn, sxx, seval, hs]
              · simp only [h1, decide_false, Bool.false_and, Bool.false_eq_true, if_false, Nat.add_zero] at hs
                simp +contextual -implicitDefEqProofs (maxSteps := 1000000) only [sm, sn, sxx, seval, hlt', hx, e2, h1]
                refine ⟨k + 1, by omega, by omega, [0, 1], by decide, rfl, ?_, ?_⟩
                · simp +contextual -implicitDefEqProofs (maxSteps := 1000000) only [sm, sn, sxx, seval]
                · simp +contextual -implicitDefEqProofs (maxSteps := 1000000) only [sm, sn, sxx, seval, hs]
            · have hkn : k = l.length := by omega
              subst hkn
              rw [List.take_length]
              have hp := hF _ (List.mem_of_getElem? hxp)
              have hq := hF _ (List.mem_of_getElem? hxq)
              simp only at hp hq
              have w1 : IntKind.i64.wrap (qy - px) = qy - px := by rw [wrap_i64] <;> omega
              obtain ⟨m, hm⟩ : ∃ m, qy - px + 1 = m := ⟨_, rfl⟩
              have w2 : IntKind.i64.wrap (qy - px + 1) = m := by rw [wrap_i64] <;> omega
              have hfin2 : allTo l (pairOk l (px, py)) (kq + 1) = (okq && (decide ((cntR l px qy : Int) = 0) || decide ((cntR l px qy : Int) ≤ qy - px + 1))) := by rw [allTo_next hxq, counts_pair, hokq]
              generalize (cntR l px qy : Int) = n at hfin2 ⊢
              rw [hm] at hfin2
              cases ok0
              · simp +contextual -implicitDefEqProofs (maxSteps := 1000000) only [sm, sn, sxx, seval, Int.lt_irrefl, e2q, w1, w2, Bool.false_and]
                refine ⟨kq + 1, by omega, by omega, [0], by decide, rfl, ?_, ?_⟩
                · simp +contextual -implicitDefEqProofs (maxSteps := 1000000) only [sm, sn, sxx, seval]
                · simp +contextual -implicitDefEqProofs (maxSteps := 1000000) only [sm, sn, sxx, seval, Bool.false_and]
              cases okq
              · simp +contextual -implicitDefEqProofs (maxSteps := 1000000) only [sm, sn, sxx, seval, Int.lt_irrefl, e2q, w1, w2, Bool.and_false]
                refine ⟨kq + 1, by omega, by omega, [0], by decide, rfl, ?_, ?_⟩
                · simp +contextual -implicitDefEqProofs (maxSteps := 1000000) only [sm, sn, sxx, seval]
                · simp +contextual -implicitDefEqProofs (maxSteps := 1000000) only [sm, sn, sxx, seval, hfin2, Bool.false_and, Bool.and_false]
              by_cases g1 : n = 0
              · simp +contextual -implicitDefEqProofs (maxSteps := 1000000) only [sm, sn, sxx, seval, Int.lt_irrefl, e2q, w1, w2, Bool.and_self, g1]
                refine ⟨kq + 1, by omega, by omega, [0], by decide, rfl, ?_, ?_⟩
                · simp +contextual -implicitDefEqProofs (maxSteps := 1000000) only [sm, sn, sxx, seval]
                · simp +contextual -implicitDefEqProofs (maxSteps := 1000000) only [sm, sn, sxx, seval, hfin2, g1, Bool.true_or, Bool.and_self]
              by_cases g2 : n ≤ m
              · simp +contextual -implicitDefEqProofs (maxSteps := 1000000) only [sm, sn, sxx, seval, Int.lt_irrefl, e2q, w1, w2, Bool.and_self, g1, g2]
                refine ⟨kq + 1, by omega, by omega, [0], by decide, rfl, ?_, ?_⟩
                · simp +contextual -implicitDefEqProofs (maxSteps := 1000000) only [sm, sn, sxx, seval]
                · simp +contextual -implicitDefEqProofs (maxSteps := 1000000) only [sm, sn, sxx, seval, hfin2, g1, g2, Bool.or_true, Bool.and_self]
              · simp +contextual -implicitDefEqProofs (maxSteps := 1000000) only [sm, sn, sxx, seval, Int.lt_irrefl, e2q, w1, w2, Bool.and_self, g1, g2]
                refine ⟨kq + 1, by omega, by omega, [0], by decide, rfl, ?_, ?_⟩
                · simp +contextual -implicitDefEqProofs (maxSteps := 1000000) only [sm, sn, sxx, seval]
                · simp +contextual -implicitDefEqProofs (maxSteps := 1000000) only [sm, sn, sxx, seval, hfin2, g1, g2, Bool.or_self, Bool.and_false]
end Go.Proofs.Ytonkcemcledhiaa
