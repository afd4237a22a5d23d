/- What the functions of package hall compute: full. -/
import Derived.Test.YtonkcemcledhiaaWHall2
import Derived.Test.YtonkcemcledhiaaWRows2
import Derived.Test.YtonkcemcledhiaaWDel
import Derived.Test.YtonkcemcledhiaaWSortF
import Derived.Test.YtonkcemcledhiaaCHallF
namespace Go.Proofs.Ytonkcemcledhiaa
open Av
attribute [local irreducible] awp awpOpers
set_option linter.unusedSimpArgs false
set_option linter.unusedVariables false
set_option maxRecDepth 100000
set_option maxHeartbeats 4000000
set_option maxHeartbeats 1000000 in
theorem full_cmp : SortCmp 110 := by
  intro x y W
  have hcon := fun W' => cmp_old x.1 y.1 W'
  unfold cmpF
  generalize cmpL x.1 y.1 = r at hcon ⊢
  go_enter Try.func110, Try.ntmps110
  go_wp2_with (go_at_call 111; refine (hcon _).mono ?_; rintro e w' ⟨rfl, n1, rfl⟩)
  go_ret
  refine ⟨rfl, n1, #[Obj.cells #[.int .i64 x.1, .int .i64 x.2] 36 (0, 0)] ++ #[Obj.cells #[.int .i64 y.1, .int .i64 y.2] 36 (0, 0)], ?_⟩
  rw [Go.Sort.alloc_eq_grow, Go.Sort.alloc_eq_grow, Go.Sort.grow_grow]
  rfl
theorem hall_full (l : List Rg) (i : Nat) (hi : i < l.length) (hl : l.length ≤ 32) (hF : ∀ r ∈ l, r.1 ≤ r.2 ∧ -1048576 ≤ r.1 ∧ r.2 ≤ 1048576) :
    Ctr Try.prog 63 [eRgs l, .int .i64 i] [] (eRgs (sortV (fullU (l.eraseIdx i) (l.eraseIdx i)))) [] := by
  refine call_pure Try.func63 Try.call63 e_hall_full ?_
  have w0 : IntKind.i64.wrap ((i : Int) + 1) = (i : Int) + 1 := by rw [wrap_i64] <;> omega
  have hd := del_rgs l i hi
  have hol : (l.eraseIdx i).length = l.length - 1 := by rw [List.length_eraseIdx, if_pos hi]
  have hOF : ∀ r ∈ l.eraseIdx i, r.1 ≤ r.2 ∧ -1048576 ≤ r.1 ∧ r.2 ≤ 1048576 := fun r hr => hF r (List.mem_of_mem_eraseIdx hr)
  rw [← hol] at hd
  have hO : (l.eraseIdx i).length ≤ 32 := by omega
  have hfl := fullU_len (l.eraseIdx i) (l.eraseIdx i)
  have hfl2 : (fullU (l.eraseIdx i) (l.eraseIdx i)).length ≤ 1024 := Nat.le_trans hfl (Nat.le_trans (Nat.mul_le_mul hO hO) (by decide))
  generalize l.eraseIdx i = O at hd hol hOF hO hfl hfl2 ⊢
  simp +contextual -implicitDefEqProofs (maxSteps := 1000000) only [c_hall_full, eRgs, sm, sn, sxx, seval]
  refine callO_rule (clone_rgsO l (by omega)) ?_ ?_ ?_ ?_ ?_
  · simp +contextual -implicitDefEqProofs (maxSteps := 1000000) only [sm, sn, sxx, seval, eRgs]
  · simp +contextual -implicitDefEqProofs (maxSteps := 1000000) only [sm, sn, sxx, seval, eRgs]
  · simp +contextual -implicitDefEqProofs (maxSteps := 1000000) only [sm, sn, sxx, seval]
  · simp +contextual -implicitDefEqProofs (maxSteps := 1000000) only [sm, sn, sxx, seval]
  simp +contextual -implicitDefEqProofs (maxSteps := 1000000) only [sm, sn, sxx, seval, w0]
  refine callM_rule [0] hd (by decide) ?_ ?_ ?_ ?_ ?_ ?_
  · simp +contextual -implicitDefEqProofs (maxSteps := 1000000) only [sm, sn, sxx, seval]
  · simp +contextual -implicitDefEqProofs (maxSteps := 1000000) only [sm, sn, sxx, seval]
  · simp +contextual -implicitDefEqProofs (maxSteps := 1000000) only [sm, sn, sxx, seval]
  · simp +contextual -implicitDefEqProofs (maxSteps := 1000000) only [sm, sn, sxx, seval]
  · simp +contextual -implicitDefEqProofs (maxSteps := 1000000) only [sm, sn, sxx, seval]
  simp +contextual -implicitDefEqProofs (maxSteps := 1000000) only [sm, sn, sxx, seval]
  refine loop_ruleV [(6, 2)] (fun s : Nat × List Rg => s.1 ≤ O.length ∧ s.2 ++ fullU O (O.drop s.1) = fullU O O) (fun s => tm 61 [(5, .sl 2 0 0 O.length), (6, .sl 2 1 0 s.2.length), (18, .sl 2 0 0 O.length), (19, .int .i64 O.length), (20, .int .i64 s.1)]) (fun s => [some (2, O.map eRg), some (2, s.2.map eRg)]) (fun s => O.length - s.1) (0, []) (by simp +contextual -implicitDefEqProofs (maxSteps := 1000000) only [sm, sn, sxx, seval]) ⟨by simp, by simp⟩ ⟨[0, 1], by decide, rfl, ?_, ?_⟩ ?_
  · simp +contextual -implicitDefEqProofs (maxSteps := 1000000) only [sm, sn, sxx, seval]
  · simp +contextual -implicitDefEqProofs (maxSteps := 1000000) only [sm, sn, sxx, seval, Int.natCast_zero]
  · rintro ⟨kp, acc0⟩ ⟨hkp, hg0⟩
    simp only at hkp hg0
    by_cases hltp : kp < O.length
    · obtain ⟨⟨px, py⟩, hxp⟩ : ∃ r, O[kp]? = some r := ⟨_, List.getElem?_eq_getElem hltp⟩
      have hdp := drop_at hxp
      have hltp' : (kp : Int) < (O.length : Int) := by omega
      have e2p : IntKind.i64.wrap ((kp : Int) + 1) = ((kp + 1 : Nat) : Int) := by rw [wrap_i64] <;> omega
      rw [hdp, fullU_cons] at hg0
      simp +contextual -implicitDefEqProofs (maxSteps := 1000000) only [sm, sn, sxx, seval, hltp', hltp, hxp]
      refine loop_rule (fun s : Nat × List Rg => s.1 ≤ O.length ∧ s.2 ++ (rowU O (px, py) (O.drop s.1) ++ fullU O (O.drop (kp + 1))) = fullU O O) (fun s => tm 61 [(5, .sl 2 0 0 O.length), (6, .sl 2 1 0 s.2.length), (8, .ptr 2 2 0 0), (18, .sl 2 0 0 O.length), (19, .int .i64 O.length), (20, .int .i64 kp), (24, .sl 2 0 0 O.length), (25, .int .i64 O.length), (26, .int .i64 s.1)]) (fun s => [some (2, O.map eRg), some (2, s.2.map eRg), some (2, [.agg [.int .i64 px, .int .i64 py]])]) (fun s => O.length - s.1) (0, acc0) ⟨by simp, by simpa using hg0⟩ ⟨[0, 1, 2], by decide, rfl, ?_, ?_⟩ ?_
      · simp +contextual -implicitDefEqProofs (maxSteps := 1000000) only [sm, sn, sxx, seval]
      · simp +contextual -implicitDefEqProofs (maxSteps := 1000000) only [sm, sn, sxx, seval, Int.natCast_zero]
      · rintro ⟨kq, acc⟩ ⟨hkq, hg⟩
        simp only at hkq hg
        by_cases hltq : kq < O.length
        · obtain ⟨⟨qx, qy⟩, hxq⟩ : ∃ r, O[kq]? = some r := ⟨_, List.getElem?_eq_getElem hltq⟩
          have hdq := drop_at hxq
          have hltq' : (kq : Int) < (O.length : Int) := by omega
          have e2q : IntKind.i64.wrap ((kq : Int) + 1) = ((kq + 1 : Nat) : Int) := by rw [wrap_i64] <;> omega
          rw [hdq, rowU_cons] at hg
          have hp := hOF _ (List.mem_of_getElem? hxp)
          have hq := hOF _ (List.mem_of_getElem? hxq)
          simp only at hp hq
          have hal : acc.length ≤ 1024 := by
            have := congrArg List.length hg
            simp only [List.length_append] at this
            omega
          have c1 : (acc.length + 1) * 16 ≤ 140737488355328 := by omega
          have c2 : acc.length + 1 ≤ maxLen := by unfold maxLen; omega
          have w1 : IntKind.i64.wrap (qy - px) = qy - px := by rw [wrap_i64] <;> omega
          have w2 : IntKind.i64.wrap (qy - px + 1) = qy - px + 1 := by rw [wrap_i64] <;> omega
          simp +contextual -implicitDefEqProofs (maxSteps := 1000000) only [sm, sn, sxx, seval, hltq', hltq, hxq]
          refine callV_rule (hall_count O px qy (by omega)) ?_ rfl ?_
          · simp +contextual -implicitDefEqProofs (maxSteps := 1000000) only [sm, sn, sxx, seval, eRgs]
          by_cases h1 : 0 < (cntR O px qy : Int)
          · by_cases h2 : (cntR O px qy : Int) = qy - px + 1
            · have ht : tightB O (px, py) (qx, qy) = true := by unfold tightB; simp [h2]; omega
              rw [ht] at hg
              have h1b : 0 < qy - px + 1 := by omega
              simp +contextual -implicitDefEqProofs (maxSteps := 1000000) only [sm, sn, sxx, seval, h1, h1b, h2, w1, w2, e2q, c1, c2]
              refine ⟨(kq + 1, acc ++ [(px, qy)]), ⟨by (try dsimp only); omega, by (try dsimp only); simpa using hg⟩, by (try dsimp only); omega, [0, 4, 2], by decide, rfl, ?_, ?_⟩
              · simp +contextual -implicitDefEqProofs (maxSteps := 1000000) only [sm, sn, sxx, seval]
              · simp +contextual -implicitDefEqProofs (maxSteps := 1000000) only [sm, sn, sxx, seval]
            · have ht : tightB O (px, py) (qx, qy) = false := by unfold tightB; simp [h2]
              rw [ht] at hg
              simp +contextual -implicitDefEqProofs (maxSteps := 1000000) only [sm, sn, sxx, seval, h1, h2, w1, w2, e2q]
              refine ⟨(kq + 1, acc), ⟨by (try dsimp only); omega, by (try dsimp only); simpa using hg⟩, by (try dsimp only); omega, [0, 1, 2], by decide, rfl, ?_, ?_⟩
              · simp +contextual -implicitDefEqProofs (maxSteps := 1000000) only [sm, sn, sxx, seval]
              · simp +contextual -implicitDefEqProofs (maxSteps := 1000000) only [sm, sn, sxx, seval]
          · have ht : tightB O (px, py) (qx, qy) = false := by unfold tightB; simp; omega
            rw [ht] at hg
            simp +contextual -implicitDefEqProofs (maxSteps := 1000000) only [sm, sn, sxx, seval, h1, e2q]
            refine ⟨(kq + 1, acc), ⟨by (try dsimp only); omega, by (try dsimp only); simpa using hg⟩, by (try dsimp only); omega, [0, 1, 2], by decide, rfl, ?_, ?_⟩
            · simp +contextual -implicitDefEqProofs (maxSteps := 1000000) only [sm, sn, sxx, seval]
            · simp +contextual -implicitDefEqProofs (maxSteps := 1000000) only [sm, sn, sxx, seval]
        · have hkn : kq = O.length := by omega
          subst hkn
          rw [List.drop_length, rowU_nil, List.nil_append] at hg
          simp +contextual -implicitDefEqProofs (maxSteps := 1000000) only [sm, sn, sxx, seval, Int.lt_irrefl, e2p]
          refine ⟨(kp + 1, acc), ⟨by (try dsimp only); omega, hg⟩, by (try dsimp only); omega, [0, 1], by decide, rfl, ?_, ?_⟩
          · simp +contextual -implicitDefEqProofs (maxSteps := 1000000) only [sm, sn, sxx, seval]
          · simp +contextual -implicitDefEqProofs (maxSteps := 1000000) only [sm, sn, sxx, seval]
    · have hkn : kp = O.length := by omega
      subst hkn
      rw [List.drop_length, fullU_nil, List.append_nil] at hg0
      subst hg0
      simp +contextual -implicitDefEqProofs (maxSteps := 1000000) only [sm, sn, sxx, seval, Int.lt_irrefl]
      refine callM_rule [1] (sortf_ctr 110 Try.call110 full_cmp (fullU O O) (by omega)) (by decide) ?_ ?_ ?_ ?_ ?_ ?_
      · simp +contextual -implicitDefEqProofs (maxSteps := 1000000) only [sm, sn, sxx, seval]
      · simp +contextual -implicitDefEqProofs (maxSteps := 1000000) only [sm, sn, sxx, seval]
      · simp +contextual -implicitDefEqProofs (maxSteps := 1000000) only [sm, sn, sxx, seval]
      · simp +contextual -implicitDefEqProofs (maxSteps := 1000000) only [sm, sn, sxx, seval]
      · simp +contextual -implicitDefEqProofs (maxSteps := 1000000) only [sm, sn, sxx, seval]
      have hsl := (sortV_perm (fullU O O)).length_eq
      rw [← hsl]
      simp +contextual -implicitDefEqProofs (maxSteps := 1000000) only [sm, sn, sxx, seval]
end Go.Proofs.Ytonkcemcledhiaa
