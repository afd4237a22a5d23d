/- What the reference computes for unlike values: without, given, Room. -/
import Derived.Test.YtonkcemcledhiaaPlRef17
import Derived.Test.YtonkcemcledhiaaGSet
import Derived.Test.YtonkcemcledhiaaCRef17
namespace Go.Proofs.Ytonkcemcledhiaa
open Av
attribute [local irreducible] awp awpOpers
set_option linter.unusedSimpArgs false
set_option linter.unusedVariables false
set_option maxRecDepth 100000
set_option maxHeartbeats 4000000
theorem ref17_without (l : List Rg) (k : Nat) (hl : l.length ≤ 1000000000000) : Ctr Try.prog 119 [eRgs l, .int .i64 k] [] (eRgs (l.eraseIdx k)) [] := by
  refine call_pure Try.func119 Try.call119 e_ref17_without ?_
  simp +contextual -implicitDefEqProofs (maxSteps := 1000000) only [c_ref17_without, eRgs, sm, sn, sxx, seval]
  refine loop_ruleV [(5, 2)] (fun i : Nat => i ≤ l.length) (fun i => tm 24 [(0, .list 2 (l.map eRg)), (1, .int .i64 k), (5, .sl 2 0 0 ((l.take i).eraseIdx k).length), (6, .int .i64 i)]) (fun i => [some (2, ((l.take i).eraseIdx k).map eRg)]) (fun i => l.length - i) 0 (by simp +contextual -implicitDefEqProofs (maxSteps := 1000000) only [sm, sn, sxx, seval]) (Nat.zero_le _) ⟨[0], by decide, rfl, ?_, ?_⟩ ?_
  · simp +contextual -implicitDefEqProofs (maxSteps := 1000000) only [sm, sn, sxx, seval, List.take_zero, List.eraseIdx_nil, List.map_nil]
  · simp +contextual -implicitDefEqProofs (maxSteps := 1000000) only [sm, sn, sxx, seval, Int.natCast_zero, List.take_zero, List.eraseIdx_nil, List.length_nil]
  · intro i hi
    by_cases hlt : i < l.length
    · obtain ⟨⟨x, y⟩, hx⟩ : ∃ r, l[i]? = some r := ⟨_, List.getElem?_eq_getElem hlt⟩
      have hlt' : (i : Int) < (l.length : Int) := by omega
      have e2 : IntKind.i64.wrap ((i : Int) + 1) = ((i + 1 : Nat) : Int) := by rw [wrap_i64] <;> omega
      by_cases hk : i = k
      · have hs := erase_skip hx hk
        subst hk
        have hk' : ((i : Int) = (i : Int)) = True := by simp
        simp +contextual -implicitDefEqProofs (maxSteps := 1000000) only [sm, sn, sxx, seval, hlt', hx, e2, hk']
        refine ⟨i + 1, by omega, by omega, [0], by decide, rfl, ?_, ?_⟩
        · simp +contextual -implicitDefEqProofs (maxSteps := 1000000) only [sm, sn, sxx, seval, hs]
        · simp +contextual -implicitDefEqProofs (maxSteps := 1000000) only [sm, sn, sxx, seval, hs, hk']
      · have hs := erase_keep hx hk
        have hk' : ¬ (i : Int) = (k : Int) := by omega
        have hle : ((l.take i).eraseIdx k).length ≤ l.length := Nat.le_trans (erase_len_le _ _) (List.length_take_le' i l)
        generalize (l.take i).eraseIdx k = acc at hs hle ⊢
        have c1 : (acc.length + 1) * 16 ≤ 140737488355328 := by omega
        have c2 : acc.length + 1 ≤ maxLen := by unfold maxLen; omega
        simp +contextual -implicitDefEqProofs (maxSteps := 1000000) only [sm, sn, sxx, seval, hlt', hlt, hx, e2, hk', c1, c2]
        refine ⟨i + 1, by omega, by omega, [1], by decide, rfl, ?_, ?_⟩
        · simp +contextual -implicitDefEqProofs (maxSteps := 1000000) only [sm, sn, sxx, seval, hs]
        · simp +contextual -implicitDefEqProofs (maxSteps := 1000000) only [sm, sn, sxx, seval, hs, List.length_append, List.length_cons, List.length_nil]
    · have hin : i = l.length := by omega
      subst hin
      rw [List.take_length]
      simp +contextual -implicitDefEqProofs (maxSteps := 1000000) only [sm, sn, sxx, seval, Int.lt_irrefl]
theorem ref17_given (l0 : List Rg) (hl : l0.length ≤ 32) (hF : ∀ r ∈ l0, (-1048576 ≤ r.1 ∧ r.1 ≤ 1048576) ∧ (-1048576 ≤ r.2 ∧ r.2 ≤ 1048576)) : Ctr Try.prog 80 [eRgs l0] [] (.bool (givenB l0 (-2097152))) [] := by
  refine call_pure Try.func80 Try.call80 e_ref17_given ?_
  simp +contextual -implicitDefEqProofs (maxSteps := 1000000) only [c_ref17_given, eRgs, sm, sn, sxx, seval]
  refine loop_rule (fun s : List Rg × Int => s.1.length ≤ 32 ∧ (∀ r ∈ s.1, (-1048576 ≤ r.1 ∧ r.1 ≤ 1048576) ∧ (-1048576 ≤ r.2 ∧ r.2 ≤ 1048576)) ∧ (-2097152 ≤ s.2 ∧ s.2 ≤ 2097152) ∧ givenB s.1 s.2 = givenB l0 (-2097152)) (fun s => tm 74 [(0, .list 2 (s.1.map eRg)), (3, .int .i64 s.2)]) (fun _ => []) (fun s => s.1.length) (l0, -2097152) ⟨hl, hF, by simp, rfl⟩ ⟨[], by decide, rfl, ?_, ?_⟩ ?_
  · simp +contextual -implicitDefEqProofs (maxSteps := 1000000) only [sm, sn, sxx, seval]
  · simp +contextual -implicitDefEqProofs (maxSteps := 1000000) only [sm, sn, sxx, seval]
  · rintro ⟨l, v⟩ ⟨h1, h2, h3, h4⟩
    simp only at h1 h2 h3 h4
    clear hl hF
    rw [← h4]
    by_cases h0 : 0 < l.length
    rotate_left
    · have hz : l.length = 0 := by omega
      have h0' : ¬ (0 : Int) < (l.length : Int) := by omega
      have hg : givenB l v = true := by unfold givenB; rw [hz]; rfl
      rw [hg]
      simp +contextual -implicitDefEqProofs (maxSteps := 1000000) only [sm, sn, sxx, seval, h0']
    have h0' : (0 : Int) < (l.length : Int) := by omega
    obtain ⟨⟨a0, b0⟩, hx0⟩ : ∃ r, l[0]? = some r := ⟨_, List.getElem?_eq_getElem h0⟩
    have hm0 : minGo l 0 = a0 := by unfold minGo rgAt; rw [hx0]; rfl
    have hbd : ∀ k, k ≤ l.length → -1048576 ≤ minGo l k ∧ minGo l k ≤ 1048576 := by
      intro k
      induction k with
      | zero => intro _; rw [hm0]; exact (h2 _ (List.mem_of_getElem? hx0)).1
      | succ k ih =>
        intro hk
        have b := (h2 _ (List.mem_of_getElem? (rgAt_get (l := l) (k := k) (by omega)))).1
        have := ih (by omega)
        unfold minGo
        omega
    simp +contextual -implicitDefEqProofs (maxSteps := 1000000) only [sm, sn, sxx, seval, h0', hx0, h0]
    refine loop_rule (fun i : Nat => i ≤ l.length) (fun i => tm 74 [(0, .list 2 (l.map eRg)), (3, .int .i64 v), (4, .int .i64 (minGo l i)), (5, .int .i64 i)]) (fun _ => []) (fun i => l.length - i) 0 (Nat.zero_le _) ⟨[], by decide, rfl, ?_, ?_⟩ ?_
    · simp +contextual -implicitDefEqProofs (maxSteps := 1000000) only [sm, sn, sxx, seval]
    · simp +contextual -implicitDefEqProofs (maxSteps := 1000000) only [sm, sn, sxx, seval, Int.natCast_zero, hm0]
    · intro i hi
      by_cases hlt : i < l.length
      · obtain ⟨⟨x, y⟩, hx⟩ : ∃ r, l[i]? = some r := ⟨_, List.getElem?_eq_getElem hlt⟩
        have hlt' : (i : Int) < (l.length : Int) := by omega
        have e2 : IntKind.i64.wrap ((i : Int) + 1) = ((i + 1 : Nat) : Int) := by rw [wrap_i64] <;> omega
        have hs : min (minGo l i) x = minGo l (i + 1) := by conv => rhs; unfold minGo rgAt
                                                            rw [hx]; rfl
        simp +contextual -implicitDefEqProofs (maxSteps := 1000000) only [sm, sn, sxx, seval, hlt', hx, e2, hs]
        refine ⟨i + 1, by omega, by omega, [], by decide, rfl, ?_, ?_⟩
        · simp +contextual -implicitDefEqProofs (maxSteps := 1000000) only [sm, sn, sxx, seval]
        · simp +contextual -implicitDefEqProofs (maxSteps := 1000000) only [sm, sn, sxx, seval]
      · have hin : i = l.length := by omega
        subst hin
        have hfv : max v (minGo l l.length) = fromV l v := rfl
        have hmb := hbd l.length (Nat.le_refl _)
        have hfb : -1048576 ≤ fromV l v ∧ fromV l v ≤ 2097152 := by rw [← hfv]; omega
        simp +contextual -implicitDefEqProofs (maxSteps := 1000000) only [sm, sn, sxx, seval, Int.lt_irrefl, hfv]
        refine loop_rule (fun i : Nat => i ≤ l.length) (fun i => tm 74 [(0, .list 2 (l.map eRg)), (3, .int .i64 (fromV l v)), (6, .int .i64 (bestGo l (fromV l v) i)), (7, .int .i64 i)]) (fun _ => []) (fun i => l.length - i) 0 (Nat.zero_le _) ⟨[], by decide, rfl, ?_, ?_⟩ ?_
        · simp +contextual -implicitDefEqProofs (maxSteps := 1000000) only [sm, sn, sxx, seval]
        · simp +contextual -implicitDefEqProofs (maxSteps := 1000000) only [sm, sn, sxx, seval, Int.natCast_zero, bestGo]
        · intro i hi
          by_cases hlt : i < l.length
          · obtain ⟨⟨x, y⟩, hx⟩ : ∃ r, l[i]? = some r := ⟨_, List.getElem?_eq_getElem hlt⟩
            have hlt' : (i : Int) < (l.length : Int) := by omega
            have e2 : IntKind.i64.wrap ((i : Int) + 1) = ((i + 1 : Nat) : Int) := by rw [wrap_i64] <;> omega
            have hbl := bestGo_lt l (fromV l v) i
            have hs : bestGo l (fromV l v) (i + 1) = if x ≤ fromV l v ∧ (bestGo l (fromV l v) i < 0 ∨ y < (rgAt l (bestGo l (fromV l v) i).toNat).2) then (i : Int) else bestGo l (fromV l v) i := by
              conv => lhs; unfold bestGo
              rw [show rgAt l i = (x, y) by unfold rgAt; rw [hx]; rfl]
            generalize fromV l v = w at hs hbl ⊢
            generalize bestGo l w i = b at hs hbl ⊢
            by_cases g1 : x ≤ w
            · by_cases g2 : b < 0
              · rw [if_pos ⟨g1, .inl g2⟩] at hs
                simp +contextual -implicitDefEqProofs (maxSteps := 1000000) only [sm, sn, sxx, seval, hlt', hx, e2, g1, g2]
                refine ⟨i + 1, by omega, by omega, [], by decide, rfl, ?_, ?_⟩
                · simp +contextual -implicitDefEqProofs (maxSteps := 1000000) only [sm, sn, sxx, seval]
                · simp +contextual -implicitDefEqProofs (maxSteps := 1000000) only [sm, sn, sxx, seval, hs]
              · have hbn : b.toNat < l.length := by omega
                have hb0 : 0 ≤ b := by omega
                obtain ⟨⟨x2, y2⟩, hx2⟩ : ∃ r, l[b.toNat]? = some r := ⟨_, List.getElem?_eq_getElem hbn⟩
                rw [show rgAt l b.toNat = (x2, y2) by unfold rgAt; rw [hx2]; rfl] at hs
                simp only at hs
                by_cases g3 : y < y2
                · rw [if_pos ⟨g1, .inr g3⟩] at hs
                  simp +contextual -implicitDefEqProofs (maxSteps := 1000000) only [sm, sn, sxx, seval, hlt', hx, e2, g1, g2, hb0, hx2, g3]
                  refine ⟨i + 1, by omega, by omega, [], by decide, rfl, ?_, ?_⟩
                  · simp +contextual -implicitDefEqProofs (maxSteps := 1000000) only [sm, sn, sxx, seval]
                  · simp +contextual -implicitDefEqProofs (maxSteps := 1000000) only [sm, sn, sxx, seval, hs]
                · rw [if_neg (by omega)] at hs
                  simp +contextual -implicitDefEqProofs (maxSteps := 1000000) only [sm, sn, sxx, seval, hlt', hx, e2, g1, g2, hb0, hx2, g3]
                  refine ⟨i + 1, by omega, by omega, [], by decide, rfl, ?_, ?_⟩
                  · simp +contextual -implicitDefEqProofs (maxSteps := 1000000) only [sm, sn, sxx, seval]
                  · simp +contextual -implicitDefEqProofs (maxSteps := 1000000) only [sm, sn, sxx, seval, hs]
            · rw [if_neg (by omega)] at hs
              simp +contextual -implicitDefEqProofs (maxSteps := 1000000) only [sm, sn, sxx, seval, hlt', hx, e2, g1]
              refine ⟨i + 1, by omega, by omega, [], by decide, rfl, ?_, ?_⟩
              · simp +contextual -implicitDefEqProofs (maxSteps := 1000000) only [sm, sn, sxx, seval]
              · simp +contextual -implicitDefEqProofs (maxSteps := 1000000) only [sm, sn, sxx, seval, hs]
          · have hin : i = l.length := by omega
            subst hin
            have hbl := bestGo_lt l (fromV l v) l.length
            have hb0 : 0 ≤ bestGo l (fromV l v) l.length := by
              obtain ⟨j, j1, j2⟩ := minGo_at l l.length
              exact bestGo_some l _ _ ⟨j, by omega, by rw [j2, ← hfv]; omega⟩
            have hbv : (bestV l v : Int) = bestGo l (fromV l v) l.length := by unfold bestV; omega
            have hbn : bestV l v < l.length := by omega
            have hgv : givenB l v = if (rgAt l (bestV l v)).2 < fromV l v then false else givenB (l.eraseIdx (bestV l v)) (fromV l v + 1) := by
              unfold givenB
              obtain ⟨n, hn⟩ : ∃ n, l.length = n + 1 := ⟨l.length - 1, by omega⟩
              have hn2 : (l.eraseIdx (bestV l v)).length = n := by rw [List.length_eraseIdx, if_pos hbn]; omega
              rw [hn2, hn]
              conv => lhs; unfold givenGo
              rw [if_neg (by omega)]
            rw [hgv]
            rw [← hbv]
            have hel : (l.eraseIdx (bestV l v)).length = l.length - 1 := by rw [List.length_eraseIdx, if_pos hbn]
            obtain ⟨⟨x2, y2⟩, hx2⟩ : ∃ r, l[bestV l v]? = some r := ⟨_, List.getElem?_eq_getElem hbn⟩
            rw [show rgAt l (bestV l v) = (x2, y2) by unfold rgAt; rw [hx2]; rfl]
            generalize bestV l v = b at hbn hx2 hel ⊢
            have hyb := (h2 _ (List.mem_of_getElem? hx2)).2
            generalize fromV l v = w at hfb ⊢
            simp only at hyb ⊢
            by_cases g : y2 < w
            · rw [if_pos g]
              simp +contextual -implicitDefEqProofs (maxSteps := 1000000) only [sm, sn, sxx, seval, Int.lt_irrefl, hx2, hbn, g]
            · rw [if_neg g]
              have w1 : IntKind.i64.wrap (w + 1) = w + 1 := by rw [wrap_i64] <;> omega
              simp +contextual -implicitDefEqProofs (maxSteps := 1000000) only [sm, sn, sxx, seval, Int.lt_irrefl, hx2, hbn, g]
              refine callA_rule (ref17_without l b (by omega)) (wkL_refl _) rfl ?_
              simp +contextual -implicitDefEqProofs (maxSteps := 1000000) only [sm, sn, sxx, seval, eRgs, w1]
              refine ⟨(l.eraseIdx b, w + 1), ⟨by (try dsimp only); omega, fun r hr => h2 r (List.mem_of_mem_eraseIdx hr), by (try dsimp only); omega, rfl⟩, by (try dsimp only); omega, [], by decide, rfl, ?_, ?_⟩
              · simp +contextual -implicitDefEqProofs (maxSteps := 1000000) only [sm, sn, sxx, seval]
              · simp +contextual -implicitDefEqProofs (maxSteps := 1000000) only [sm, sn, sxx, seval]
theorem ref17_Room (l : List Rg) (hl : l.length ≤ 1000000000000) : Ctr Try.prog 39 [eRgs l] [] (.bool (rroomB l)) [] := by
  refine call_pure Try.func39 Try.call39 e_ref17_Room ?_
  unfold rroomB
  by_cases hnn : 32 < l.length
  · have hn : ¬ l.length ≤ 32 := by omega
    have hn' : (32 : Int) < (l.length : Int) := by omega
    simp +contextual -implicitDefEqProofs (maxSteps := 1000000) only [c_ref17_Room, eRgs, sm, sn, sxx, seval, hn, hn', Bool.false_and]
  have hn : l.length ≤ 32 := by omega
  have hn' : ¬ (32 : Int) < (l.length : Int) := by omega
  simp +contextual -implicitDefEqProofs (maxSteps := 1000000) only [c_ref17_Room, eRgs, sm, sn, sxx, seval, hn']
  refine loop_rule (fun k : Nat => k ≤ l.length ∧ ∀ (j : Nat) x, j < k → l[j]? = some x → inW x = true) (fun k => tm 31 [(0, .list 2 (l.map eRg)), (3, .int .i64 k)]) (fun k => []) (fun k => l.length - k) 0 ⟨by omega, by omega⟩ ⟨[], by decide, rfl, ?_, ?_⟩ ?_
  · simp +contextual -implicitDefEqProofs (maxSteps := 1000000) only [sm, sn, sxx, seval]
  · simp +contextual -implicitDefEqProofs (maxSteps := 1000000) only [sm, sn, sxx, seval, Int.natCast_zero]
  · rintro k ⟨hk, hok⟩
    by_cases hlt : k < l.length
    · obtain ⟨⟨x, y⟩, hx⟩ : ∃ r, l[k]? = some r := ⟨_, List.getElem?_eq_getElem hlt⟩
      have hlt' : (k : Int) < (l.length : Int) := by omega
      have e2 : IntKind.i64.wrap ((k : Int) + 1) = ((k + 1 : Nat) : Int) := by rw [wrap_i64] <;> omega
      cases h2 : withinB x
      · have hno : inW (x, y) = false := by unfold inW; simp only [h2, Bool.false_and]
        have hall := listall_no hx hno
        simp +contextual -implicitDefEqProofs (maxSteps := 1000000) only [sm, sn, sxx, seval, hlt', hx]
        refine callA_rule (ref08_Within x) (wkL_refl _) rfl ?_
        simp +contextual -implicitDefEqProofs (maxSteps := 1000000) only [sm, sn, sxx, seval, h2, hall, hn, Bool.and_false, Bool.false_and]
      cases h3 : withinB y
      · have hno : inW (x, y) = false := by unfold inW; simp only [h3, Bool.and_false]
        have hall := listall_no hx hno
        simp +contextual -implicitDefEqProofs (maxSteps := 1000000) only [sm, sn, sxx, seval, hlt', hx]
        refine callA_rule (ref08_Within x) (wkL_refl _) rfl ?_
        simp +contextual -implicitDefEqProofs (maxSteps := 1000000) only [sm, sn, sxx, seval, h2, hlt', hx]
        refine callA_rule (ref08_Within y) (wkL_refl _) rfl ?_
        simp +contextual -implicitDefEqProofs (maxSteps := 1000000) only [sm, sn, sxx, seval, h3, hall, hn, Bool.and_false, Bool.false_and]
      have hyes : inW (x, y) = true := by unfold inW; simp [h2, h3]
      simp +contextual -implicitDefEqProofs (maxSteps := 1000000) only [sm, sn, sxx, seval, hlt', hx]
      refine callA_rule (ref08_Within x) (wkL_refl _) rfl ?_
      simp +contextual -implicitDefEqProofs (maxSteps := 1000000) only [sm, sn, sxx, seval, h2, hlt', hx]
      refine callA_rule (ref08_Within y) (wkL_refl _) rfl ?_
      simp +contextual -implicitDefEqProofs (maxSteps := 1000000) only [sm, sn, sxx, seval, h3, e2]
      refine ⟨k + 1, ⟨by omega, ?_⟩, by omega, [], by decide, rfl, ?_, ?_⟩
      · intro j y hj hy
        rcases Nat.lt_succ_iff_lt_or_eq.1 hj with h | rfl
        · first | exact hok j y h hy | simpa using hok j y h hy
        · rw [hx] at hy; injection hy with hy; subst hy; exact hyes
      · simp +contextual -implicitDefEqProofs (maxSteps := 1000000) only [sm, sn, sxx, seval]
      · simp +contextual -implicitDefEqProofs (maxSteps := 1000000) only [sm, sn, sxx, seval]
    · have hke : k = l.length := by omega
      subst hke
      have hall := listall_yes hok
      rw [hall, decide_eq_true hn]
      have hF : ∀ r ∈ l, (-1048576 ≤ r.1 ∧ r.1 ≤ 1048576) ∧ (-1048576 ≤ r.2 ∧ r.2 ≤ 1048576) := fun r hr => by
        have := List.all_eq_true.1 hall r hr
        simp only [inW, withinB, Bool.and_eq_true, decide_eq_true_eq] at this
        omega
      simp +contextual -implicitDefEqProofs (maxSteps := 1000000) only [sm, sn, sxx, seval, Int.lt_irrefl]
      refine callA_rule (ref17_given l hn hF) (wkL_refl _) rfl ?_
      simp +contextual -implicitDefEqProofs (maxSteps := 1000000) only [sm, sn, sxx, seval, Bool.true_and]
end Go.Proofs.Ytonkcemcledhiaa
