/- What the reference computes for tasks. -/
import Derived.Test.YtnhedjpghpdbdaaPlTask3
import Derived.Test.YtnhedjpghpdbdaaWTask4
import Derived.Test.YtnhedjpghpdbdaaGRef08
import Derived.Test.YtnhedjpghpdbdaaGRef12
import Derived.Test.YtnhedjpghpdbdaaGRef09
import Derived.Test.YtnhedjpghpdbdaaCRef18
namespace Go.Proofs.Ytnhedjpghpdbdaa
open Av
attribute [local irreducible] awp awpOpers
set_option linter.unusedSimpArgs false
set_option linter.unusedVariables false
set_option maxRecDepth 100000
set_option maxHeartbeats 4000000
/-- what a constraint on tasks has -/
structure TkC (X A : List Int) (C : Int) (D : List (List Rg)) : Prop where
  hD : D.length ≤ 64
  dk : DOk D
  hX : X.length ≤ 32
  hI : InD D X
  hA : A.length = 2 * X.length
  hT : TaskOk (edRows D X) A C
  hd : ∀ d ∈ D, d.length ≤ 1000000000000
theorem tkc_of {X A : List Int} {C : Int} {D : List (List Rg)} (hm : modB (D, [(19, X, A, C)], 0, 0) = true) : TkC X A C D := by
  obtain ⟨f1, hDk, h32, hI, hAl, hT⟩ := task_facts hm
  have hdm := (one_facts hm).2.1
  exact ⟨f1, hDk, h32, hI, hAl, hT, fun d h => by have := dom_len (hdm d h); omega⟩
theorem TkC.row {X A : List Int} {C : Int} {D : List (List Rg)} (h : TkC X A C D) {k : Nat} (hk : k < X.length) : D[(xat X k).toNat]? = some (rowOf D (xat X k)) ∧ 0 ≤ xat X k ∧ (xat X k).toNat < D.length ∧ rightB (rowOf D (xat X k)) = true ∧ 0 < (rowOf D (xat X k)).length ∧ (rowOf D (xat X k)).length ≤ 1000000000000 := by
  have hin := h.hI k hk
  have hdm := dom_right (h.dk _ hin.1 hin.2)
  exact ⟨row_get hin, hin.1, by omega, hdm.1, hdm.2, h.hd _ (row_mem hin)⟩
theorem ref18_sure (X A : List Int) (C : Int) (D : List (List Rg)) (k : Nat) (t : Int) (hT : TkC X A C D) (hlt : k < X.length) : Ctr Try.prog 96 [eCon (19, X, A, C), eDoms D, .int .i64 k, .int .i64 t] [] (.bool (sureT (edRows D X) A k t)) [] := by
  refine call_pure Try.func96 Try.call96 e_ref18_sure ?_
  have hx := xat_get hlt
  obtain ⟨hr, h0, hxn, g1, g2, g3⟩ := hT.row hlt
  have ha : A[k]? = some (xat A k) := xat_get (by have := hT.hA; omega)
  have hla : k < A.length := by have := hT.hA; omega
  have hEk := edRows_at (D := D) hlt
  have hb := task_rg hT.hT k
  have hb2 := task_at hT.hT k
  have hsu : sureT (edRows D X) A k t = (decide ((edAt (edRows D X) k).2 ≤ t) && decide (t < (edAt (edRows D X) k).1 + xat A k)) := rfl
  rw [hEk] at hb hsu
  rw [hsu]
  have hHi := ref12_Hi (rowOf D (xat X k)) g1 g2 g3
  have hLo := ref12_Lo (rowOf D (xat X k)) g1 g2
  generalize (endsV (rowOf D (xat X k))).1 = p at hb hLo ⊢
  generalize (endsV (rowOf D (xat X k))).2 = q at hb hHi ⊢
  have w1 : IntKind.i64.wrap (p + xat A k) = p + xat A k := by rw [wrap_i64] <;> omega
  simp +contextual -implicitDefEqProofs (maxSteps := 1000000) only [c_ref18_sure, eCon, eIs, eDoms, sm, sn, sxx, seval, hx, h0, hr, hxn]
  refine callA_rule hHi (by simp +contextual -implicitDefEqProofs (maxSteps := 1000000) only [sm, sn, sxx, seval, eRgs]) rfl ?_
  by_cases q1 : q ≤ t
  · simp +contextual -implicitDefEqProofs (maxSteps := 1000000) only [sm, sn, sxx, seval, q1]
    refine callA_rule hLo (by simp +contextual -implicitDefEqProofs (maxSteps := 1000000) only [sm, sn, sxx, seval, eRgs]) rfl ?_
    by_cases q2 : t < p + xat A k
    · simp +contextual -implicitDefEqProofs (maxSteps := 1000000) only [sm, sn, sxx, seval, ha, hla, w1, q2]
    · simp +contextual -implicitDefEqProofs (maxSteps := 1000000) only [sm, sn, sxx, seval, ha, hla, w1, q2]
  · simp +contextual -implicitDefEqProofs (maxSteps := 1000000) only [sm, sn, sxx, seval, q1]
theorem ref18_load (X A : List Int) (C : Int) (D : List (List Rg)) (t but : Int) (hT : TkC X A C D) : Ctr Try.prog 57 [eCon (19, X, A, C), eDoms D, .int .i64 t, .int .i64 but] [] (.int .i64 (ldV (edRows D X) A but t)) [] := by
  refine call_pure Try.func57 Try.call57 e_ref18_load ?_
  have hsu := fun k hk => ref18_sure X A C D k t hT hk
  have hEl := edRows_len D X
  have hTT := hT.hT
  have hn := hT.hX
  have hAl := hT.hA
  have hv : ldV (edRows D X) A but t = ldN (edRows D X) A but t X.length := by unfold ldV; rw [hEl]
  rw [hv]
  generalize edRows D X = E at hsu hEl hTT ⊢
  simp +contextual -implicitDefEqProofs (maxSteps := 1000000) only [c_ref18_load, eCon, eIs, eDoms, sm, sn, sxx, seval]
  refine loop_rule (fun k : Nat => k ≤ X.length) (fun k => tm 40 [(1, .list 1 (D.map eRgs)), (2, .int .i64 t), (3, .int .i64 but), (4, .ptr 4 0 0 0), (9, .int .i64 (ldN E A but t k)), (10, .int .i64 k)]) (fun k => [some (4, [eCon (19, X, A, C)])]) (fun k => X.length - k) 0 (Nat.zero_le _) ⟨[0], by decide, rfl, ?_, ?_⟩ ?_
  · simp +contextual -implicitDefEqProofs (maxSteps := 1000000) only [sm, sn, sxx, seval, eCon, eIs]
  · simp +contextual -implicitDefEqProofs (maxSteps := 1000000) only [sm, sn, sxx, seval, Int.natCast_zero, ldN]
  · intro k hk
    by_cases hlt : k < X.length
    · have hlt' : (k : Int) < (X.length : Int) := by omega
      have e2 : IntKind.i64.wrap ((k : Int) + 1) = ((k + 1 : Nat) : Int) := by rw [wrap_i64] <;> omega
      have b1 := ldN_bound hTT but t k
      have b2 := task_at hTT (E.length + k)
      have hnd : needT E A k = xat A (X.length + k) := by unfold needT; rw [hEl]
      have hb : A[X.length + k]? = some (xat A (X.length + k)) := xat_get (by omega)
      have hlb : X.length + k < A.length := by omega
      rw [hEl] at b2
      have w1 : IntKind.i64.wrap (ldN E A but t k + xat A (X.length + k)) = ldN E A but t k + xat A (X.length + k) := by rw [wrap_i64] <;> omega
      have w2 : IntKind.i64.wrap ((X.length : Int) + (k : Int)) = ((X.length + k : Nat) : Int) := by rw [wrap_i64] <;> omega
      have hst : ldN E A but t (k + 1) = ldN E A but t k + if (k : Int) ≠ but ∧ sureT E A k t = true then needT E A k else 0 := rfl
      rw [hnd] at hst
      have hat := hsu k hlt
      by_cases hbu : (k : Int) = but
      · rw [if_neg (fun h => h.1 hbu), Int.add_zero] at hst
        subst hbu
        simp +contextual -implicitDefEqProofs (maxSteps := 1000000) only [sm, sn, sxx, seval, eCon, eIs, hlt', e2]
        refine ⟨k + 1, by omega, by omega, [0], by decide, rfl, ?_, ?_⟩
        · simp +contextual -implicitDefEqProofs (maxSteps := 1000000) only [sm, sn, sxx, seval, eCon, eIs]
        · simp +contextual -implicitDefEqProofs (maxSteps := 1000000) only [sm, sn, sxx, seval, hst]
      · simp +contextual -implicitDefEqProofs (maxSteps := 1000000) only [sm, sn, sxx, seval, eCon, eIs, hlt', hbu]
        refine callA_rule hat (by simp +contextual -implicitDefEqProofs (maxSteps := 1000000) only [sm, sn, sxx, seval, eCon, eIs, eDoms]) rfl ?_
        cases hs : sureT E A k t
        · rw [if_neg (fun h => by rw [hs] at h; exact absurd h.2 (by simp)), Int.add_zero] at hst
          simp +contextual -implicitDefEqProofs (maxSteps := 1000000) only [sm, sn, sxx, seval, e2, eCon, eIs]
          refine ⟨k + 1, by omega, by omega, [0], by decide, rfl, ?_, ?_⟩
          · simp +contextual -implicitDefEqProofs (maxSteps := 1000000) only [sm, sn, sxx, seval, eCon, eIs]
          · simp +contextual -implicitDefEqProofs (maxSteps := 1000000) only [sm, sn, sxx, seval, hst]
        · rw [if_pos ⟨hbu, hs⟩] at hst
          simp +contextual -implicitDefEqProofs (maxSteps := 1000000) only [sm, sn, sxx, seval, e2, w1, w2, hb, hlb, eCon, eIs]
          refine ⟨k + 1, by omega, by omega, [0], by decide, rfl, ?_, ?_⟩
          · simp +contextual -implicitDefEqProofs (maxSteps := 1000000) only [sm, sn, sxx, seval, eCon, eIs]
          · simp +contextual -implicitDefEqProofs (maxSteps := 1000000) only [sm, sn, sxx, seval, hst]
    · have hkn : k = X.length := by omega
      subst hkn
      simp +contextual -implicitDefEqProofs (maxSteps := 1000000) only [sm, sn, sxx, seval, Int.lt_irrefl, eCon, eIs]
theorem ref18_Load (c : Con) (D : List (List Rg)) (t : Int) (hD : D.length ≤ 1000000000000) (hd : ∀ d ∈ D, d.length ≤ 1000000000000) (hc : conFits c) :
    Ctr Try.prog 28 [eCon c, eDoms D, .int .i64 t] [] (.tuple [.int .i64 (loadL c D t).1, .bool (loadL c D t).2]) [] := by
  obtain ⟨K, X, A, C⟩ := c
  refine call_pure Try.func28 Try.call28 e_ref18_Load ?_
  simp +contextual -implicitDefEqProofs (maxSteps := 1000000) only [c_ref18_Load, eCon, eIs, eDoms, sm, sn, sxx, seval]
  refine callA_rule (ref12_Fit (K, X, A, C) D hD hd hc) (by simp +contextual -implicitDefEqProofs (maxSteps := 1000000) only [sm, sn, sxx, seval, eCon, eIs, eDoms]) rfl ?_
  cases hm : fitB (K, X, A, C) D
  · have hm : modB (D, [(K, X, A, C)], 0, 0) = false := hm
    have hres : loadL (K, X, A, C) D t = (0, false) := by unfold loadL; rw [if_neg (by simp [hm])]
    rw [hres]
    simp +contextual -implicitDefEqProofs (maxSteps := 1000000) only [sm, sn, sxx, seval]
  have hm : modB (D, [(K, X, A, C)], 0, 0) = true := hm
  by_cases hK : K = 19
  · subst hK
    have hres : loadL (19, X, A, C) D t = (ldV (edRows D X) A (-1) t, true) := by unfold loadL; rw [if_pos hm, if_pos rfl]
    rw [hres]
    simp +contextual -implicitDefEqProofs (maxSteps := 1000000) only [sm, sn, sxx, seval, eCon, eIs]
    refine callA_rule (ref18_load X A C D t (-1) (tkc_of hm)) (by simp +contextual -implicitDefEqProofs (maxSteps := 1000000) only [sm, sn, sxx, seval, eCon, eIs, eDoms]) rfl ?_
    simp +contextual -implicitDefEqProofs (maxSteps := 1000000) only [sm, sn, sxx, seval]
  · have hres : loadL (K, X, A, C) D t = (0, false) := by unfold loadL; rw [if_pos hm, if_neg hK]
    rw [hres]
    simp +contextual -implicitDefEqProofs (maxSteps := 1000000) only [sm, sn, sxx, seval, eCon, eIs, hK]
theorem ref18_over (X A : List Int) (C : Int) (D : List (List Rg)) (hT : TkC X A C D) : Ctr Try.prog 45 [eCon (19, X, A, C), eDoms D] [] (.bool (overT (edRows D X) A C)) [] := by
  refine call_pure Try.func45 Try.call45 e_ref18_over ?_
  have hld := fun t => ref18_load X A C D t (-1) hT
  have hEl := edRows_len D X
  have hn := hT.hX
  simp +contextual -implicitDefEqProofs (maxSteps := 1000000) only [c_ref18_over, eCon, eIs, eDoms, sm, sn, sxx, seval]
  refine loop_rule (fun k : Nat => k ≤ X.length ∧ ∀ j, j < k → (fun j => !decide (C < ldV (edRows D X) A (-1) (edAt (edRows D X) j).2)) j = true) (fun k => tm 28 [(1, .list 1 (D.map eRgs)), (2, .ptr 4 0 0 0), (5, .int .i64 k)]) (fun k => [some (4, [eCon (19, X, A, C)])]) (fun k => X.length - k) 0 ⟨by omega, by omega⟩ ⟨[0], by decide, rfl, ?_, ?_⟩ ?_
  · simp +contextual -implicitDefEqProofs (maxSteps := 1000000) only [sm, sn, sxx, seval, eCon, eIs]
  · simp +contextual -implicitDefEqProofs (maxSteps := 1000000) only [sm, sn, sxx, seval, Int.natCast_zero, eCon, eIs]
  · rintro k ⟨hk, hok⟩
    by_cases hlt : k < X.length
    · have hlt' : (k : Int) < ((X.length : Nat) : Int) := by omega
      have e2 : IntKind.i64.wrap ((k : Int) + 1) = ((k + 1 : Nat) : Int) := by rw [wrap_i64] <;> omega
      have hx := xat_get hlt
      obtain ⟨hr, h0, hxn, g1, g2, g3⟩ := hT.row hlt
      have ha : A[k]? = some (xat A k) := xat_get (by have := hT.hA; omega)
      have hla : k < A.length := by have := hT.hA; omega
      have hEk := edRows_at (D := D) hlt
      have hHi := ref12_Hi (rowOf D (xat X k)) g1 g2 g3
      rw [← hEk] at hHi
      by_cases hc : C < ldV (edRows D X) A (-1) (edAt (edRows D X) k).2
      · have hno : overT (edRows D X) A C = true := by
          unfold overT
          rw [List.any_eq_true]
          exact ⟨k, List.mem_range.2 (by omega), decide_eq_true hc⟩
        rw [hno]
        simp +contextual -implicitDefEqProofs (maxSteps := 1000000) only [sm, sn, sxx, seval, eCon, eIs, hlt', hx, h0, hr, hxn]
        refine callA_rule hHi (by simp +contextual -implicitDefEqProofs (maxSteps := 1000000) only [sm, sn, sxx, seval, eRgs]) rfl ?_
        simp +contextual -implicitDefEqProofs (maxSteps := 1000000) only [sm, sn, sxx, seval, eCon, eIs]
        refine callA_rule (hld (edAt (edRows D X) k).2) (by simp +contextual -implicitDefEqProofs (maxSteps := 1000000) only [sm, sn, sxx, seval, eCon, eIs, eDoms]) rfl ?_
        simp +contextual -implicitDefEqProofs (maxSteps := 1000000) only [sm, sn, sxx, seval, hc, eCon, eIs]
      · simp +contextual -implicitDefEqProofs (maxSteps := 1000000) only [sm, sn, sxx, seval, eCon, eIs, hlt', hx, h0, hr, hxn]
        refine callA_rule hHi (by simp +contextual -implicitDefEqProofs (maxSteps := 1000000) only [sm, sn, sxx, seval, eRgs]) rfl ?_
        simp +contextual -implicitDefEqProofs (maxSteps := 1000000) only [sm, sn, sxx, seval, eCon, eIs]
        refine callA_rule (hld (edAt (edRows D X) k).2) (by simp +contextual -implicitDefEqProofs (maxSteps := 1000000) only [sm, sn, sxx, seval, eCon, eIs, eDoms]) rfl ?_
        simp +contextual -implicitDefEqProofs (maxSteps := 1000000) only [sm, sn, sxx, seval, hc, e2, eCon, eIs]
        refine ⟨k + 1, ⟨by omega, ?_⟩, by omega, [0], by decide, rfl, ?_, ?_⟩
        · intro j hj
          rcases Nat.lt_succ_iff_lt_or_eq.1 hj with h | rfl
          · first | exact hok j h | simpa using hok j h
          · simp [hc]
        · simp +contextual -implicitDefEqProofs (maxSteps := 1000000) only [sm, sn, sxx, seval, eCon, eIs]
        · simp +contextual -implicitDefEqProofs (maxSteps := 1000000) only [sm, sn, sxx, seval, eCon, eIs]
    · have hke : k = X.length := by omega
      subst hke
      have hall := hok
      have hu : overT (edRows D X) A C = false := by
        unfold overT
        rw [List.any_eq_false]
        intro j hj
        have := hall j (by have := List.mem_range.1 hj; omega)
        simpa using this
      rw [hu]
      simp +contextual -implicitDefEqProofs (maxSteps := 1000000) only [sm, sn, sxx, seval, Int.lt_irrefl, eCon, eIs]
def clashM (E : List Rg) (A : List Int) (C : Int) (i : Nat) (s : Int) : Nat → Bool
  | 0 => false
  | j + 1 => clashN E A C i s j
theorem clashM_1 (E : List Rg) (A : List Int) (C : Int) (i : Nat) (s : Int) : clashM E A C i s 1 = (clashM E A C i s 0 || clashAt E A C i s s) := by
  unfold clashM clashN
  simp
theorem clashM_s (E : List Rg) (A : List Int) (C : Int) (i : Nat) (s : Int) (k : Nat) : clashM E A C i s (k + 1 + 1) = (clashM E A C i s (k + 1) || clashAt E A C i s (edAt E k).2) := by
  show clashN E A C i s (k + 1) = (clashN E A C i s k || clashAt E A C i s (edAt E k).2)
  unfold clashN
  rw [List.range_succ, List.any_append, Bool.or_assoc]
  simp
theorem ref18_clash (X A : List Int) (C : Int) (D : List (List Rg)) (i : Nat) (s : Int) (hT : TkC X A C D) (hi : i < X.length) (hs : -2097152 ≤ s ∧ s ≤ 2097152) :
    Ctr Try.prog 90 [eCon (19, X, A, C), eDoms D, .int .i64 i, .int .i64 s] [] (.tuple [.any, .bool (clashB (edRows D X) A C i s)]) [] := by
  refine call_pure Try.func90 Try.call90 e_ref18_clash ?_
  have hld := fun t => ref18_load X A C D t i hT
  have hHi : ∀ k, k < X.length → Ctr Try.prog 88 [eRgs (rowOf D (xat X k))] [] (.int .i64 (edAt (edRows D X) k).2) [] := fun k hk => by
    obtain ⟨-, -, -, g1, g2, g3⟩ := hT.row hk
    rw [edRows_at hk]
    exact ref12_Hi _ g1 g2 g3
  have hEl := edRows_len D X
  have hn := hT.hX
  have hAl := hT.hA
  have hTT := hT.hT
  have hCb := hTT.2.2.2.1
  have hia : A[i]? = some (xat A i) := xat_get (by omega)
  have hib : A[X.length + i]? = some (xat A (X.length + i)) := xat_get (by omega)
  have hail : i < A.length := by omega
  have hbil : X.length + i < A.length := by omega
  have b1 := task_at hTT i
  have b2 := task_at hTT (X.length + i)
  have w1 : IntKind.i64.wrap (s + xat A i) = s + xat A i := by rw [wrap_i64] <;> omega
  have w2 : IntKind.i64.wrap ((X.length : Int) + (i : Int)) = ((X.length + i : Nat) : Int) := by rw [wrap_i64] <;> omega
  have hnd : needT (edRows D X) A i = xat A (X.length + i) := by unfold needT; rw [hEl]
  have hcB : clashB (edRows D X) A C i s = clashM (edRows D X) A C i s (X.length + 1) := by unfold clashB clashM; rw [hEl]
  rw [hcB]
  generalize edRows D X = E at hld hHi hEl hTT hnd ⊢
  obtain ⟨ai, hai⟩ : ∃ ai, xat A i = ai := ⟨_, rfl⟩
  obtain ⟨nd, hndv⟩ : ∃ nd, xat A (X.length + i) = nd := ⟨_, rfl⟩
  rw [hndv] at hib b2 hnd
  rw [hai] at hia b1 w1
  simp +contextual -implicitDefEqProofs (maxSteps := 1000000) only [c_ref18_clash, eCon, eIs, eDoms, sm, sn, sxx, seval, w2, hib, hbil]
  refine loop_rule (fun b : Nat × Int × Bool => b.1 ≤ X.length + 1 ∧ clashM E A C i s b.1 = b.2.2) (fun b => tm 79 [(1, .list 1 (D.map eRgs)), (2, .int .i64 i), (3, .int .i64 s), (4, .ptr 4 0 0 0), (10, .int .i64 nd), (11, .bool b.2.2), (12, .int .i64 b.2.1), (13, .int .i64 ((b.1 : Int) - 1))]) (fun b => [some (4, [eCon (19, X, A, C)])]) (fun b => X.length + 1 - b.1) (0, 0, false) ⟨by dsimp only; omega, rfl⟩ ⟨[0], by decide, rfl, ?_, ?_⟩ ?_
  · simp +contextual -implicitDefEqProofs (maxSteps := 1000000) only [sm, sn, sxx, seval, eCon, eIs]
  · simp +contextual -implicitDefEqProofs (maxSteps := 1000000) only [sm, sn, sxx, seval, Int.natCast_zero, Int.zero_sub]
  · rintro ⟨j, f, b⟩ ⟨hj, hb⟩
    simp only at hj hb
    by_cases hlt : j < X.length + 1
    · have hlt' : (j : Int) - 1 < (X.length : Int) := by omega
      rcases j with _ | k
      · have e3 : IntKind.i64.wrap (((0 : Nat) : Int) - 1 + 1) = ((0 + 1 : Nat) : Int) - 1 := by rw [wrap_i64] <;> omega
        have ez : IntKind.i64.wrap 0 = 0 := by rw [wrap_i64] <;> omega
        have hneg : ¬ (0 : Int) ≤ ((0 : Nat) : Int) - 1 := by omega
        have hM := clashM_1 E A C i s
        simp +contextual -implicitDefEqProofs (maxSteps := 1000000) only [sm, sn, sxx, seval, eCon, eIs, hlt', hneg]
        have hcl : clashAt E A C i s s = (decide (s ≤ s) && decide (s < s + ai) && decide (C < ldV E A i s + nd)) := by unfold clashAt; rw [hai, hnd]
        have hv := ldV_bound hTT i s
        have w3 : IntKind.i64.wrap (ldV E A i s + nd) = ldV E A i s + nd := by rw [wrap_i64] <;> omega
        have c1 : ¬ s < s := Int.lt_irrefl s
        by_cases c2 : s + ai ≤ s
        · rw [show clashAt E A C i s s = false from by rw [hcl]; simp; omega, Bool.or_false] at hM
          simp +contextual -implicitDefEqProofs (maxSteps := 1000000) only [sm, sn, sxx, seval, c1, c2, w1, hia, hail, e3, ez, eCon, eIs]
          refine ⟨(0 + 1, f, b), ⟨by dsimp only; omega, by dsimp only; rw [hM]; exact hb⟩, by dsimp only; omega, [0], by decide, rfl, ?_, ?_⟩
          · simp +contextual -implicitDefEqProofs (maxSteps := 1000000) only [sm, sn, sxx, seval, eCon, eIs]
          · simp +contextual -implicitDefEqProofs (maxSteps := 1000000) only [sm, sn, sxx, seval, Nat.zero_add, ez]
        simp +contextual -implicitDefEqProofs (maxSteps := 1000000) only [sm, sn, sxx, seval, c1, c2, w1, hia, hail, eCon, eIs]
        refine callA_rule (hld s) (by simp +contextual -implicitDefEqProofs (maxSteps := 1000000) only [sm, sn, sxx, seval, eCon, eIs, eDoms]) rfl ?_
        by_cases c3 : ldV E A i s + nd ≤ C
        · rw [show clashAt E A C i s s = false from by rw [hcl]; simp; omega, Bool.or_false] at hM
          simp +contextual -implicitDefEqProofs (maxSteps := 1000000) only [sm, sn, sxx, seval, c3, w3, e3, ez, eCon, eIs]
          refine ⟨(0 + 1, f, b), ⟨by dsimp only; omega, by dsimp only; rw [hM]; exact hb⟩, by dsimp only; omega, [0], by decide, rfl, ?_, ?_⟩
          · simp +contextual -implicitDefEqProofs (maxSteps := 1000000) only [sm, sn, sxx, seval, eCon, eIs]
          · simp +contextual -implicitDefEqProofs (maxSteps := 1000000) only [sm, sn, sxx, seval, Nat.zero_add, ez]
        rw [show clashAt E A C i s s = true from by rw [hcl]; simp; omega, Bool.or_true] at hM
        simp +contextual -implicitDefEqProofs (maxSteps := 1000000) only [sm, sn, sxx, seval, c3, w3, eCon, eIs]
        cases b
        · simp +contextual -implicitDefEqProofs (maxSteps := 1000000) only [sm, sn, sxx, seval, e3, ez, eCon, eIs]
          refine ⟨(0 + 1, s, true), ⟨by dsimp only; omega, by dsimp only; rw [hM]⟩, by dsimp only; omega, [0], by decide, rfl, ?_, ?_⟩
          · simp +contextual -implicitDefEqProofs (maxSteps := 1000000) only [sm, sn, sxx, seval, eCon, eIs]
          · simp +contextual -implicitDefEqProofs (maxSteps := 1000000) only [sm, sn, sxx, seval, Nat.zero_add, ez]
        by_cases c4 : s < f
        · simp +contextual -implicitDefEqProofs (maxSteps := 1000000) only [sm, sn, sxx, seval, c4, e3, ez, eCon, eIs]
          refine ⟨(0 + 1, s, true), ⟨by dsimp only; omega, by dsimp only; rw [hM]⟩, by dsimp only; omega, [0], by decide, rfl, ?_, ?_⟩
          · simp +contextual -implicitDefEqProofs (maxSteps := 1000000) only [sm, sn, sxx, seval, eCon, eIs]
          · simp +contextual -implicitDefEqProofs (maxSteps := 1000000) only [sm, sn, sxx, seval, Nat.zero_add, ez]
        · simp +contextual -implicitDefEqProofs (maxSteps := 1000000) only [sm, sn, sxx, seval, c4, e3, ez, eCon, eIs]
          refine ⟨(0 + 1, f, true), ⟨by dsimp only; omega, by dsimp only; rw [hM]⟩, by dsimp only; omega, [0], by decide, rfl, ?_, ?_⟩
          · simp +contextual -implicitDefEqProofs (maxSteps := 1000000) only [sm, sn, sxx, seval, eCon, eIs]
          · simp +contextual -implicitDefEqProofs (maxSteps := 1000000) only [sm, sn, sxx, seval, Nat.zero_add, ez]
      · have hk : k < X.length := by omega
        have e3 : IntKind.i64.wrap (((k + 1 : Nat) : Int) - 1 + 1) = ((k + 1 + 1 : Nat) : Int) - 1 := by rw [wrap_i64] <;> omega
        have e4 : ((k + 1 : Nat) : Int) - 1 = (k : Int) := by omega
        have hpos : (0 : Int) ≤ (k : Int) := by omega
        have hlt2 : (k : Int) < (X.length : Int) := by omega
        have hM := clashM_s E A C i s k
        rw [e4] at e3
        have hx := xat_get hk
        obtain ⟨hr, h0, hxn, g1, g2, g3⟩ := hT.row hk
        have hH := hHi k hk
        generalize (edAt E k).2 = t at hH hM
        simp +contextual -implicitDefEqProofs (maxSteps := 1000000) only [sm, sn, sxx, seval, eCon, eIs, e4, hlt2, hpos, hx, h0, hr, hxn]
        refine callA_rule hH (by simp +contextual -implicitDefEqProofs (maxSteps := 1000000) only [sm, sn, sxx, seval, eRgs]) rfl ?_
        have hcl : clashAt E A C i s t = (decide (s ≤ t) && decide (t < s + ai) && decide (C < ldV E A i t + nd)) := by unfold clashAt; rw [hai, hnd]
        have hv := ldV_bound hTT i t
        have w3 : IntKind.i64.wrap (ldV E A i t + nd) = ldV E A i t + nd := by rw [wrap_i64] <;> omega
        by_cases c1 : t < s
        · rw [show clashAt E A C i s t = false from by rw [hcl]; simp; omega, Bool.or_false] at hM
          simp +contextual -implicitDefEqProofs (maxSteps := 1000000) only [sm, sn, sxx, seval, c1, e3, eCon, eIs]
          refine ⟨(k + 1 + 1, f, b), ⟨by dsimp only; omega, by dsimp only; rw [hM]; exact hb⟩, by dsimp only; omega, [0], by decide, rfl, ?_, ?_⟩
          · simp +contextual -implicitDefEqProofs (maxSteps := 1000000) only [sm, sn, sxx, seval, eCon, eIs]
          · simp +contextual -implicitDefEqProofs (maxSteps := 1000000) only [sm, sn, sxx, seval, e4]
        by_cases c2 : s + ai ≤ t
        · rw [show clashAt E A C i s t = false from by rw [hcl]; simp; omega, Bool.or_false] at hM
          simp +contextual -implicitDefEqProofs (maxSteps := 1000000) only [sm, sn, sxx, seval, c1, c2, w1, hia, hail, e3, eCon, eIs]
          refine ⟨(k + 1 + 1, f, b), ⟨by dsimp only; omega, by dsimp only; rw [hM]; exact hb⟩, by dsimp only; omega, [0], by decide, rfl, ?_, ?_⟩
          · simp +contextual -implicitDefEqProofs (maxSteps := 1000000) only [sm, sn, sxx, seval, eCon, eIs]
          · simp +contextual -implicitDefEqProofs (maxSteps := 1000000) only [sm, sn, sxx, seval, e4]
        simp +contextual -implicitDefEqProofs (maxSteps := 1000000) only [sm, sn, sxx, seval, c1, c2, w1, hia, hail, eCon, eIs]
        refine callA_rule (hld t) (by simp +contextual -implicitDefEqProofs (maxSteps := 1000000) only [sm, sn, sxx, seval, eCon, eIs, eDoms]) rfl ?_
        by_cases c3 : ldV E A i t + nd ≤ C
        · rw [show clashAt E A C i s t = false from by rw [hcl]; simp; omega, Bool.or_false] at hM
          simp +contextual -implicitDefEqProofs (maxSteps := 1000000) only [sm, sn, sxx, seval, c3, w3, e3, eCon, eIs]
          refine ⟨(k + 1 + 1, f, b), ⟨by dsimp only; omega, by dsimp only; rw [hM]; exact hb⟩, by dsimp only; omega, [0], by decide, rfl, ?_, ?_⟩
          · simp +contextual -implicitDefEqProofs (maxSteps := 1000000) only [sm, sn, sxx, seval, eCon, eIs]
          · simp +contextual -implicitDefEqProofs (maxSteps := 1000000) only [sm, sn, sxx, seval, e4]
        rw [show clashAt E A C i s t = true from by rw [hcl]; simp; omega, Bool.or_true] at hM
        simp +contextual -implicitDefEqProofs (maxSteps := 1000000) only [sm, sn, sxx, seval, c3, w3, eCon, eIs]
        cases b
        · simp +contextual -implicitDefEqProofs (maxSteps := 1000000) only [sm, sn, sxx, seval, e3, eCon, eIs]
          refine ⟨(k + 1 + 1, t, true), ⟨by dsimp only; omega, by dsimp only; rw [hM]⟩, by dsimp only; omega, [0], by decide, rfl, ?_, ?_⟩
          · simp +contextual -implicitDefEqProofs (maxSteps := 1000000) only [sm, sn, sxx, seval, eCon, eIs]
          · simp +contextual -implicitDefEqProofs (maxSteps := 1000000) only [sm, sn, sxx, seval, e4]
        by_cases c4 : t < f
        · simp +contextual -implicitDefEqProofs (maxSteps := 1000000) only [sm, sn, sxx, seval, c4, e3, eCon, eIs]
          refine ⟨(k + 1 + 1, t, true), ⟨by dsimp only; omega, by dsimp only; rw [hM]⟩, by dsimp only; omega, [0], by decide, rfl, ?_, ?_⟩
          · simp +contextual -implicitDefEqProofs (maxSteps := 1000000) only [sm, sn, sxx, seval, eCon, eIs]
          · simp +contextual -implicitDefEqProofs (maxSteps := 1000000) only [sm, sn, sxx, seval, e4]
        · simp +contextual -implicitDefEqProofs (maxSteps := 1000000) only [sm, sn, sxx, seval, c4, e3, eCon, eIs]
          refine ⟨(k + 1 + 1, f, true), ⟨by dsimp only; omega, by dsimp only; rw [hM]⟩, by dsimp only; omega, [0], by decide, rfl, ?_, ?_⟩
          · simp +contextual -implicitDefEqProofs (maxSteps := 1000000) only [sm, sn, sxx, seval, eCon, eIs]
          · simp +contextual -implicitDefEqProofs (maxSteps := 1000000) only [sm, sn, sxx, seval, e4]
    · have hjn : j = X.length + 1 := by omega
      subst hjn
      have e4 : ((X.length + 1 : Nat) : Int) - 1 = (X.length : Int) := by omega
      rw [hb]
      simp +contextual -implicitDefEqProofs (maxSteps := 1000000) only [sm, sn, sxx, seval, e4, Int.lt_irrefl, eCon, eIs]
end Go.Proofs.Ytnhedjpghpdbdaa
