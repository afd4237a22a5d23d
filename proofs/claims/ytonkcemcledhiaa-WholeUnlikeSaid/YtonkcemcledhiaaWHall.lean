/- What the functions of package hall compute: within, count, Room. -/
import Derived.Test.YtonkcemcledhiaaPlMod
import Derived.Test.YtonkcemcledhiaaGSet
import Derived.Test.YtonkcemcledhiaaGMod
import Derived.Test.YtonkcemcledhiaaCHall
namespace Go.Proofs.Ytonkcemcledhiaa
open Av
attribute [local irreducible] awp awpOpers
set_option linter.unusedSimpArgs false
set_option linter.unusedVariables false
set_option maxRecDepth 100000
set_option maxHeartbeats 4000000
theorem hall_within (n : Int) : Ctr Try.prog 77 [.int .i64 n] [] (.bool (withinB n)) [] := by
  refine call_pure Try.func77 Try.call77 e_hall_within ?_
  unfold withinB
  by_cases h1 : -1048576 ≤ n
  · by_cases h2 : n ≤ 1048576 <;> simp +contextual -implicitDefEqProofs (maxSteps := 1000000) only [c_hall_within, sm, sn, sxx, seval, h1, h2]
  · simp +contextual -implicitDefEqProofs (maxSteps := 1000000) only [c_hall_within, sm, sn, sxx, seval, h1]
/-- how many ranges lie within a stretch -/
def inS (lo hi : Int) (r : Rg) : Bool := decide (lo ≤ r.1) && decide (r.2 ≤ hi)
def cntR (l : List Rg) (lo hi : Int) : Nat := (l.filter (inS lo hi)).length
theorem cntR_snoc {l : List Rg} {k : Nat} {r : Rg} (h : l[k]? = some r) (lo hi : Int) : cntR (l.take (k + 1)) lo hi = cntR (l.take k) lo hi + if inS lo hi r = true then 1 else 0 := by
  unfold cntR
  rw [← take_snoc h, List.filter_append, List.length_append]
  by_cases hy : inS lo hi r = true <;> simp [hy]
theorem cntR_le (l : List Rg) (lo hi : Int) : cntR l lo hi ≤ l.length := List.length_filter_le _ _
theorem hall_count (l : List Rg) (lo hi : Int) (hl : l.length ≤ 1000000000000) : Ctr Try.prog 78 [eRgs l, .int .i64 lo, .int .i64 hi] [] (.int .i64 (cntR l lo hi)) [] := by
  refine call_pure Try.func78 Try.call78 e_hall_count ?_
  simp +contextual -implicitDefEqProofs (maxSteps := 1000000) only [c_hall_count, eRgs, sm, sn, sxx, seval]
  refine loop_rule (fun k : Nat => k ≤ l.length) (fun k => tm 30 [(1, .int .i64 lo), (2, .int .i64 hi), (7, .int .i64 (cntR (l.take k) lo hi)), (10, .list 2 (l.map eRg)), (11, .int .i64 l.length), (12, .int .i64 k)]) (fun k => []) (fun k => l.length - k) 0 (Nat.zero_le _) ⟨[], by decide, rfl, ?_, ?_⟩ ?_
  · simp +contextual -implicitDefEqProofs (maxSteps := 1000000) only [sm, sn, sxx, seval]
  · simp +contextual -implicitDefEqProofs (maxSteps := 1000000) only [sm, sn, sxx, seval, Int.natCast_zero, cntR]
    rfl
  · intro k hk
    by_cases hlt : k < l.length
    · have hlt' : (k : Int) < (l.length : Int) := by omega
      have e2 : IntKind.i64.wrap ((k : Int) + 1) = ((k + 1 : Nat) : Int) := by rw [wrap_i64] <;> omega
      obtain ⟨⟨x, y⟩, hx⟩ : ∃ r, l[k]? = some r := ⟨_, List.getElem?_eq_getElem hlt⟩
      have hs := cntR_snoc hx lo hi
      have hb := cntR_le (l.take k) lo hi
      have hb2 : (l.take k).length ≤ l.length := List.length_take_le' k l
      have w1 : IntKind.i64.wrap ((cntR (l.take k) lo hi : Int) + 1) = ((cntR (l.take k) lo hi + 1 : Nat) : Int) := by rw [wrap_i64] <;> omega
      unfold inS at hs
      by_cases h1 : lo ≤ x
      · by_cases h2 : y ≤ hi
        · simp only [h1, h2, decide_true, Bool.and_true, if_true] at hs
          simp +contextual -implicitDefEqProofs (maxSteps := 1000000) only [sm, sn, sxx, seval, hlt', hx, e2, h1, h2, w1]
          refine ⟨k + 1, by omega, by omega, [], by decide, rfl, ?_, ?_⟩
          · simp +contextual -implicitDefEqProofs (maxSteps := 1000000) only [sm, sn, sxx, seval]
          · simp +contextual -implicitDefEqProofs (maxSteps := 1000000) only [sm, sn, sxx, seval, hs]
        · simp only [h1, h2, decide_true, decide_false, Bool.and_false, Bool.false_eq_true, if_false, Nat.add_zero] at hs
          simp +contextual -implicitDefEqProofs (maxSteps := 1000000) only [sm, sn, sxx, seval, hlt', hx, e2, h1, h2]
          refine ⟨k + 1, by omega, by omega, [], by decide, rfl, ?_, ?_⟩
          · simp +contextual -implicitDefEqProofs (maxSteps := 1000000) only [sm, sn, sxx, seval]
          · simp +contextual -implicitDefEqProofs (maxSteps := 1000000) only [sm, sn, sxx, seval, hs]
      · simp only [h1, decide_false, Bool.false_and, Bool.false_eq_true, if_false, Nat.add_zero] at hs
        simp +contextual -implicitDefEqProofs (maxSteps := 1000000) only [sm, sn, sxx, seval, hlt', hx, e2, h1]
        refine ⟨k + 1, by omega, by omega, [], by decide, rfl, ?_, ?_⟩
        · simp +contextual -implicitDefEqProofs (maxSteps := 1000000) only [sm, sn, sxx, seval]
        · simp +contextual -implicitDefEqProofs (maxSteps := 1000000) only [sm, sn, sxx, seval, hs]
    · have hkn : k = l.length := by omega
      subst hkn
      rw [List.take_length]
      simp +contextual -implicitDefEqProofs (maxSteps := 1000000) only [sm, sn, sxx, seval, Int.lt_irrefl]
def okRg (r : Rg) : Bool := decide (r.1 ≤ r.2) && withinB r.1 && withinB r.2
def pairOk (l : List Rg) (p q : Rg) : Bool := !(decide (0 < cntR l p.1 q.2) && decide (q.2 - p.1 + 1 < cntR l p.1 q.2))
def roomB (l : List Rg) : Bool := decide (l.length ≤ 32) && l.all okRg && l.all fun p => l.all (pairOk l p)
theorem okRg_facts {r : Rg} (h : okRg r = true) : r.1 ≤ r.2 ∧ -1048576 ≤ r.1 ∧ r.2 ≤ 1048576 := by
  simp only [okRg, withinB, Bool.and_eq_true, decide_eq_true_eq] at h; omega
theorem hall_Room (l : List Rg) (hl : l.length ≤ 1000000000000) : Ctr Try.prog 38 [eRgs l] [] (.bool (roomB l)) [] := by
  refine call_pure Try.func38 Try.call38 e_hall_Room ?_
  unfold roomB
  by_cases hnn : 32 < l.length
  · have hn : ¬ l.length ≤ 32 := by omega
    have hn' : (32 : Int) < (l.length : Int) := by omega
    simp +contextual -implicitDefEqProofs (maxSteps := 1000000) only [c_hall_Room, eRgs, sm, sn, sxx, seval, hn, hn', Bool.false_and]
  have hn : l.length ≤ 32 := by omega
  have hn' : ¬ (32 : Int) < (l.length : Int) := by omega
  simp +contextual -implicitDefEqProofs (maxSteps := 1000000) only [c_hall_Room, eRgs, sm, sn, sxx, seval, hn']
  refine loop_rule (fun k : Nat => k ≤ l.length ∧ ∀ (j : Nat) x, j < k → l[j]? = some x → okRg x = true) (fun k => tm 69 [(0, .list 2 (l.map eRg)), (13, .list 2 (l.map eRg)), (14, .int .i64 l.length), (15, .int .i64 k)]) (fun k => []) (fun k => l.length - k) 0 ⟨by omega, by omega⟩ ⟨[], by decide, rfl, ?_, ?_⟩ ?_
  · simp +contextual -implicitDefEqProofs (maxSteps := 1000000) only [sm, sn, sxx, seval]
  · simp +contextual -implicitDefEqProofs (maxSteps := 1000000) only [sm, sn, sxx, seval, Int.natCast_zero]
  · rintro k ⟨hk, hok⟩
    by_cases hlt : k < l.length
    · obtain ⟨⟨x, y⟩, hx⟩ : ∃ r, l[k]? = some r := ⟨_, List.getElem?_eq_getElem hlt⟩
      have hlt' : (k : Int) < (l.length : Int) := by omega
      have e2 : IntKind.i64.wrap ((k : Int) + 1) = ((k + 1 : Nat) : Int) := by rw [wrap_i64] <;> omega
      by_cases h1 : y < x
      · have hno : okRg (x, y) = false := by unfold okRg; rw [decide_eq_false (by simp only; omega)]; rfl
        have hall := listall_no hx hno
        simp +contextual -implicitDefEqProofs (maxSteps := 1000000) only [sm, sn, sxx, seval, hlt', hx, h1, hall, hn, Bool.and_false, Bool.false_and]
      have h1' : x ≤ y := by omega
      cases h2 : withinB x
      · have hno : okRg (x, y) = false := by unfold okRg; simp only [h2, Bool.and_false, Bool.false_and]
        have hall := listall_no hx hno
        simp +contextual -implicitDefEqProofs (maxSteps := 1000000) only [sm, sn, sxx, seval, hlt', hx, h1]
        refine callA_rule (hall_within x) (wkL_refl _) rfl ?_
        simp +contextual -implicitDefEqProofs (maxSteps := 1000000) only [sm, sn, sxx, seval, h2, hall, hn, Bool.and_false, Bool.false_and]
      cases h3 : withinB y
      · have hno : okRg (x, y) = false := by unfold okRg; simp only [h3, Bool.and_false]
        have hall := listall_no hx hno
        simp +contextual -implicitDefEqProofs (maxSteps := 1000000) only [sm, sn, sxx, seval, hlt', hx, h1]
        refine callA_rule (hall_within x) (wkL_refl _) rfl ?_
        simp +contextual -implicitDefEqProofs (maxSteps := 1000000) only [sm, sn, sxx, seval, h2]
        refine callA_rule (hall_within y) (wkL_refl _) rfl ?_
        simp +contextual -implicitDefEqProofs (maxSteps := 1000000) only [sm, sn, sxx, seval, h3, hall, hn, Bool.and_false, Bool.false_and]
      have hyes : okRg (x, y) = true := by unfold okRg; simp [h1', h2, h3]
      simp +contextual -implicitDefEqProofs (maxSteps := 1000000) only [sm, sn, sxx, seval, hlt', hx, h1]
      refine callA_rule (hall_within x) (wkL_refl _) rfl ?_
      simp +contextual -implicitDefEqProofs (maxSteps := 1000000) only [sm, sn, sxx, seval, h2]
      refine callA_rule (hall_within y) (wkL_refl _) rfl ?_
      simp +contextual -implicitDefEqProofs (maxSteps := 1000000) only [sm, sn, sxx, seval, h3, e2]
      refine ⟨k + 1, ⟨by omega, ?_⟩, by omega, [], by decide, rfl, ?_, ?_⟩
      · intro j y hj hy
        rcases Nat.lt_succ_iff_lt_or_eq.1 hj with h | rfl
        · first | exact hok j y h hy | simpa using hok j y h hy
        · rw [hx] at hy; injection hy with hy; subst hy; exact hyes
      · simp +contextual -implicitDefEqProofs (maxSteps := 1000000) only [sm, sn, sxx, seval]
      · simp +contextual -implicitDefEqProofs (maxSteps := 1000000) only [sm, sn, sxx, seval]
    · have hke : k = l.length := by omega
      subst hke
      have hall := listall_yes hok
      rw [hall, decide_eq_true hn]
      have hF : ∀ (r : Rg), r ∈ l → r.1 ≤ r.2 ∧ -1048576 ≤ r.1 ∧ r.2 ≤ 1048576 := fun r hr => okRg_facts (List.all_eq_true.1 hall r hr)
      simp +contextual -implicitDefEqProofs (maxSteps := 1000000) only [sm, sn, sxx, seval, Int.lt_irrefl]
      refine loop_rule (fun kp : Nat => kp ≤ l.length ∧ ∀ (j : Nat) x, j < kp → l[j]? = some x → (fun p => l.all (pairOk l p)) x = true) (fun kp => tm 69 [(0, .list 2 (l.map eRg)), (37, .list 2 (l.map eRg)), (38, .int .i64 l.length), (39, .int .i64 kp)]) (fun kp => []) (fun kp => l.length - kp) 0 ⟨by omega, by omega⟩ ⟨[], by decide, rfl, ?_, ?_⟩ ?_
      · simp +contextual -implicitDefEqProofs (maxSteps := 1000000) only [sm, sn, sxx, seval]
      · simp +contextual -implicitDefEqProofs (maxSteps := 1000000) only [sm, sn, sxx, seval, Int.natCast_zero]
      · rintro kp ⟨hkp, hokp⟩
        by_cases hltp : kp < l.length
        · obtain ⟨⟨px, py⟩, hxp⟩ : ∃ r, l[kp]? = some r := ⟨_, List.getElem?_eq_getElem hltp⟩
          have hltp' : (kp : Int) < (l.length : Int) := by omega
          have e2p : IntKind.i64.wrap ((kp : Int) + 1) = ((kp + 1 : Nat) : Int) := by rw [wrap_i64] <;> omega
          simp +contextual -implicitDefEqProofs (maxSteps := 1000000) only [sm, sn, sxx, seval, hltp', hxp]
          refine loop_rule (fun kq : Nat => kq ≤ l.length ∧ ∀ (j : Nat) x, j < kq → l[j]? = some x → (pairOk l (px, py)) x = true) (fun kq => tm 69 [(0, .list 2 (l.map eRg)), (6, .ptr 2 0 0 0), (37, .list 2 (l.map eRg)), (38, .int .i64 l.length), (39, .int .i64 kp), (43, .list 2 (l.map eRg)), (44, .int .i64 l.length), (45, .int .i64 kq)]) (fun kq => [some (2, [.agg [.int .i64 px, .int .i64 py]])]) (fun kq => l.length - kq) 0 ⟨by omega, by omega⟩ ⟨[0], by decide, rfl, ?_, ?_⟩ ?_
          · simp +contextual -implicitDefEqProofs (maxSteps := 1000000) only [sm, sn, sxx, seval]
          · simp +contextual -implicitDefEqProofs (maxSteps := 1000000) only [sm, sn, sxx, seval, Int.natCast_zero]
          · rintro kq ⟨hkq, hokq⟩
            by_cases hltq : kq < l.length
            · obtain ⟨⟨qx, qy⟩, hxq⟩ : ∃ r, l[kq]? = some r := ⟨_, List.getElem?_eq_getElem hltq⟩
              have hltq' : (kq : Int) < (l.length : Int) := by omega
              have e2q : IntKind.i64.wrap ((kq : Int) + 1) = ((kq + 1 : Nat) : Int) := by rw [wrap_i64] <;> omega
              have hp := hF _ (List.mem_of_getElem? hxp)
              have hq := hF _ (List.mem_of_getElem? hxq)
              simp only at hp hq
              have hc := cntR_le l px qy
              have w1 : IntKind.i64.wrap (qy - px) = qy - px := by rw [wrap_i64] <;> omega
              have w2 : IntKind.i64.wrap (qy - px + 1) = qy - px + 1 := by rw [wrap_i64] <;> omega
              simp +contextual -implicitDefEqProofs (maxSteps := 1000000) only [sm, sn, sxx, seval, hltq', hxq]
              refine callA_rule (hall_count l px qy (by omega)) (wkL_refl _) rfl ?_
              by_cases h1 : 0 < (cntR l px qy : Int)
              · have h1' : 0 < cntR l px qy := by omega
                by_cases h2 : qy - px + 1 < (cntR l px qy : Int)
                · have hno : pairOk l (px, py) (qx, qy) = false := by unfold pairOk; simp [h1', h2]
                  have hall2 := listall_no hxq hno
                  have hall3 := listall_no (p := fun p => l.all (pairOk l p)) hxp hall2
                  simp +contextual -implicitDefEqProofs (maxSteps := 1000000) only [sm, sn, sxx, seval, h1, h2, w1, w2, hall3, Bool.and_false]
                · have hyes : pairOk l (px, py) (qx, qy) = true := by unfold pairOk; simp [h1', h2]
                  simp +contextual -implicitDefEqProofs (maxSteps := 1000000) only [sm, sn, sxx, seval, h1, h2, w1, w2, e2q]
                  refine ⟨kq + 1, ⟨by omega, ?_⟩, by omega, [0], by decide, rfl, ?_, ?_⟩
                  · intro j y hj hy
                    rcases Nat.lt_succ_iff_lt_or_eq.1 hj with h | rfl
                    · first | exact hokq j y h hy | simpa using hokq j y h hy
                    · rw [hxq] at hy; injection hy with hy; subst hy; exact hyes
                  · simp +contextual -implicitDefEqProofs (maxSteps := 1000000) only [sm, sn, sxx, seval]
                  · simp +contextual -implicitDefEqProofs (maxSteps := 1000000) only [sm, sn, sxx, seval]
              · have h1' : ¬ 0 < cntR l px qy := by omega
                have hyes : pairOk l (px, py) (qx, qy) = true := by unfold pairOk; simp [h1']
                simp +contextual -implicitDefEqProofs (maxSteps := 1000000) only [sm, sn, sxx, seval, h1, e2q]
                refine ⟨kq + 1, ⟨by omega, ?_⟩, by omega, [0], by decide, rfl, ?_, ?_⟩
                · intro j y hj hy
                  rcases Nat.lt_succ_iff_lt_or_eq.1 hj with h | rfl
                  · first | exact hokq j y h hy | simpa using hokq j y h hy
                  · rw [hxq] at hy; injection hy with hy; subst hy; exact hyes
                · simp +contextual -implicitDefEqProofs (maxSteps := 1000000) only [sm, sn, sxx, seval]
                · simp +contextual -implicitDefEqProofs (maxSteps := 1000000) only [sm, sn, sxx, seval]
            · have hke : kq = l.length := by omega
              subst hke
              have hallq := listall_yes hokq
              simp +contextual -implicitDefEqProofs (maxSteps := 1000000) only [sm, sn, sxx, seval, Int.lt_irrefl, e2p]
              refine ⟨kp + 1, ⟨by omega, ?_⟩, by omega, [], by decide, rfl, ?_, ?_⟩
              · intro j y hj hy
                rcases Nat.lt_succ_iff_lt_or_eq.1 hj with h | rfl
                · first | exact hokp j y h hy | simpa using hokp j y h hy
                · rw [hxp] at hy; injection hy with hy; subst hy; exact hallq
              · simp +contextual -implicitDefEqProofs (maxSteps := 1000000) only [sm, sn, sxx, seval]
              · simp +contextual -implicitDefEqProofs (maxSteps := 1000000) only [sm, sn, sxx, seval]
        · have hke : kp = l.length := by omega
          subst hke
          have hallp := listall_yes hokp
          simp +contextual -implicitDefEqProofs (maxSteps := 1000000) only [sm, sn, sxx, seval, Int.lt_irrefl, hallp, Bool.and_true]
end Go.Proofs.Ytonkcemcledhiaa
