/- TasksOther. -/
import Derived.Test.YtnhedjpghpdbdaaWLaw18
import Derived.Test.YtnhedjpghpdbdaaWTasksN
import Derived.Test.YtnhedjpghpdbdaaWOther
import Derived.Test.YtnhedjpghpdbdaaPlTask3
import Derived.Test.YtnhedjpghpdbdaaCTasksO
namespace Go.Proofs.Ytnhedjpghpdbdaa
open Av
attribute [local irreducible] awp awpOpers
set_option linter.unusedSimpArgs false
set_option linter.unusedVariables false
set_option maxRecDepth 100000
set_option maxHeartbeats 4000000
attribute [local irreducible] oB
theorem no_tell {s : List (List Rg) × Bool} (h : ¬ (tell s).2 = 0) : (tell s).1 = [] := by
  obtain ⟨E, b⟩ := s
  cases b
  · first | rfl | exact absurd rfl h
  · first | rfl | exact absurd rfl h
theorem tasks_no {c : Con} {D : List (List Rg)} : ¬ (tasksL c D).2 = 0 → (tasksL c D).1 = [] := by
  unfold tasksL
  repeat' split
  all_goals intro h
  all_goals first | rfl | exact no_tell h | exact absurd rfl h
theorem law_TasksOther (c : Con) (D : List (List Rg)) : Ctr Try.prog 10 [eCon c, eDoms D] [] (.bool true) [] := by
  refine call_pure Try.func10 Try.call10 e_law18_TasksOther ?_
  have hcon : ∃ K X A G, c = (K, X, A, G) := ⟨c.1, c.2.1, c.2.2.1, c.2.2.2, rfl⟩
  obtain ⟨K, X, A, C, rfl⟩ := hcon
  simp +contextual -implicitDefEqProofs (maxSteps := 1000000) only [c_law18_TasksOther, eCon, eIs, eDoms, sm, sn, sxx, seval]
  refine callA_rule law18_alive (wkL_refl _) rfl ?_
  simp +contextual -implicitDefEqProofs (maxSteps := 1000000) only [sm, sn, sxx, seval, eCon, eIs]
  refine callA_rule (law18_mine (K, X, A, C) D) (wkL_refl _) rfl ?_
  cases hM : mine18B (K, X, A, C) D
  · simp +contextual -implicitDefEqProofs (maxSteps := 1000000) only [sm, sn, sxx, seval]
  obtain ⟨hK, hFt, hm⟩ := mine18_facts hM
  obtain ⟨s1, s2, s3, s4⟩ := fits_facts hFt
  have hNar := tasks_Narrow (K, X, A, C) D (by omega) (fun d h => by have := s2 d h; omega) ⟨by simp only at s3; simp only; omega, by simp only at s4; simp only; omega⟩
  simp only at s3 s4
  have hd : ∀ d ∈ D, d.length ≤ 1000000000000 := fun d h => by have := s2 d h; omega
  have hd9 : ∀ d ∈ D, d.length ≤ 9223372036854775807 := fun d h => by have := hd d h; omega
  have c1 : D.length * 24 ≤ 140737488355328 := by omega
  have c2 : D.length ≤ maxLen := by unfold maxLen; omega
  have z0 := wasR_zero D
  simp +contextual -implicitDefEqProofs (maxSteps := 1000000) only [sm, sn, sxx, seval, eCon, eIs, c1, c2, Int.natCast_nonneg]
  refine ⟨by omega, by omega, ?_⟩
  refine loop_rule (fun k : Nat => k ≤ D.length) (fun k => tm 105 [(1, .list 1 (D.map eRgs)), (2, .ptr 4 0 0 0), (5, .sl 1 1 0 D.length), (24, .int .i64 D.length), (25, .int .i64 k)])
    (fun k => [some (4, [eCon (K, X, A, C)]), some (1, wasR D k)]) (fun k => D.length - k) 0 (Nat.zero_le _) ⟨[0, 1], by decide, rfl, ?_, ?_⟩ ?_
  · have hwf := wasR_flat D 0
    rw [z0] at hwf
    simp +contextual -implicitDefEqProofs (maxSteps := 1000000) only [sm, sn, sxx, seval, eCon, eIs, z0, hwf]
  · simp +contextual -implicitDefEqProofs (maxSteps := 1000000) only [sm, sn, sxx, seval, Int.natCast_zero]
  · intro k hk
    have hwl := wasR_len D hk
    have hwf := wasR_flat D k
    by_cases hlt : k < D.length
    · obtain ⟨r, hr⟩ : ∃ r, D[k]? = some r := ⟨_, List.getElem?_eq_getElem hlt⟩
      have hlt' : (k : Int) < (D.length : Int) := by omega
      have e2 : IntKind.i64.wrap ((k : Int) + 1) = ((k + 1 : Nat) : Int) := by rw [wrap_i64] <;> omega
      have hrl := s2 r (List.mem_of_getElem? hr)
      have b1 : r.length * 16 ≤ 140737488355328 := by omega
      have b2 : r.length ≤ 9223372036854775807 := by omega
      have hws : (wasR D k).set k (.list 2 (r.map eRg)) = wasR D (k + 1) := wasR_set hr
      have hwf' := wasR_flat D (k + 1)
      have hwa := wasR_at hlt
      simp +contextual -implicitDefEqProofs (maxSteps := 1000000) only [sm, sn, sxx, seval, eRgs, hlt', hlt, hr, hwl, b1, b2, e2, flatL_rg, hwa, hws]
      refine ⟨k + 1, by omega, by omega, [0, 1], by decide, rfl, ?_, ?_⟩
      · simp +contextual -implicitDefEqProofs (maxSteps := 1000000) only [sm, sn, sxx, seval, eCon, eIs, hwf']
      · simp +contextual -implicitDefEqProofs (maxSteps := 1000000) only [sm, sn, sxx, seval]
    · have hkn : k = D.length := by omega
      subst hkn
      rw [wasR_full]
      simp +contextual -implicitDefEqProofs (maxSteps := 1000000) only [sm, sn, sxx, seval, Int.lt_irrefl, eCon, eIs]
      by_cases hE : (tasksL (K, X, A, C) D).2 = 0
      · obtain ⟨G, hG⟩ : ∃ G, tasksL (K, X, A, C) D = (G, 0) := ⟨_, Prod.ext rfl hE⟩
        obtain ⟨hkp, hlen, hX⟩ := tasks_kp hG
        simp only at hkp hX
        have hI2 : ∀ x ∈ X, 0 ≤ x := fun x hx => by
          obtain ⟨j, hj⟩ := List.getElem?_of_mem hx
          have hjl := (List.getElem?_eq_some_iff.1 hj).1
          have := (hX j hjl).1
          rw [show xat X j = x from by unfold xat; rw [hj]; rfl] at this
          exact this
        have hGd : ∀ d ∈ G, d.length ≤ 1000000000000 := by
          rcases tasks_res (c := (K, X, A, C)) hK hm with h | ⟨E, h, hle, -⟩
          · rw [hG] at h; simp at h
          · rw [hG] at h; injection h with h1 h2; subst h1; exact le_rowsO hle
        refine callN_rule (F := G) (tasks_NarrowO (K, X, A, C) D G (by omega) hd ⟨by simp only; omega, by simp only; omega⟩ hG) rfl ?_ ?_
        · simp +contextual -implicitDefEqProofs (maxSteps := 1000000) only [sm, sn, sxx, seval, eCon, eIs, eDoms]
        have hoB := oB_eq (K, X, A, C) D G G
        simp only [eCon, eIs] at hoB
        simp +contextual -implicitDefEqProofs (maxSteps := 1000000) only [sm, sn, sxx, seval, eCon, eIs]
        rw [← hoB]
        refine callV_rule (law08_Doms D D (by omega) hd9) (by simp +contextual -implicitDefEqProofs (maxSteps := 1000000) only [sm, sn, sxx, seval, oB_1, eDoms]) rfl ?_
        simp +contextual -implicitDefEqProofs (maxSteps := 1000000) only [sm, sn, sxx, seval]
        refine loop_rule (fun b : Nat × List (List Rg) => b.1 ≤ G.length ∧ b.2.length = G.length ∧ ∀ j, b.1 ≤ j → b.2[j]? = G[j]?) (fun b => tm 105 [(1, .list 1 (D.map eRgs)), (2, .ptr 4 0 0 0), (5, .sl 1 1 0 D.length), (7, .sl 1 2 0 G.length), (53, .int .i64 G.length), (54, .int .i64 b.1)])
          (fun b => oB (K, X, A, C) D G b.2) (fun b => G.length - b.1) (0, G) ⟨Nat.zero_le _, rfl, fun _ _ => rfl⟩ (oB_emb rfl ?_) ?_
        · have g0 : 0 < G.length + 3 := by omega
          have g1 : 1 < G.length + 3 := by omega
          have g2 : 2 < G.length + 3 := by omega
          simp +contextual -implicitDefEqProofs (maxSteps := 1000000) only [sm, sn, sxx, seval, getN_range, g0, g1, g2, Int.natCast_zero]
        rintro ⟨k, F⟩ ⟨hk, hFl, hFG⟩
        simp only at hk hFl hFG
        have g1 : 1 < F.length + 3 := by omega
        have g2 : 2 < F.length + 3 := by omega
        have g0 : 0 < F.length + 3 := by omega
        by_cases hlt : k < G.length
        · obtain ⟨r, hr⟩ : ∃ r, G[k]? = some r := ⟨_, List.getElem?_eq_getElem hlt⟩
          have hlt' : (k : Int) < (G.length : Int) := by omega
          have e2 : IntKind.i64.wrap ((k : Int) + 1) = ((k + 1 : Nat) : Int) := by rw [wrap_i64] <;> omega
          have hFr : F[k]? = some r := by rw [hFG k (Nat.le_refl _)]; exact hr
          have hrow := oB_row (c := (K, X, A, C)) (D := D) (G := G) hFr
          have hown := rowsM_own (b := 3) hr
          have hrm := rowsM_len 3 G G.length
          have hrg := hGd r (List.mem_of_getElem? hr)
          simp +contextual -implicitDefEqProofs (maxSteps := 1000000) only [sm, sn, sxx, seval, hlt', oB_0, eCon, eIs]
          refine loop_rule (fun i : Nat => i ≤ X.length) (fun i => tm 105 [(1, .list 1 (D.map eRgs)), (2, .ptr 4 0 0 0), (5, .sl 1 1 0 D.length), (7, .sl 1 2 0 G.length), (9, .int .i64 k), (10, .bool ((X.take i).any fun z => decide ((k : Int) = z))), (53, .int .i64 G.length), (54, .int .i64 k), (58, .list 1 (X.map eI)), (59, .int .i64 X.length), (60, .int .i64 i)])
            (fun _ => oB (K, X, A, C) D G F) (fun i => X.length - i) 0 (Nat.zero_le _) (oB_emb hFl ?_) ?_
          · simp +contextual -implicitDefEqProofs (maxSteps := 1000000) only [sm, sn, sxx, seval, getN_range, g0, g1, g2, Int.natCast_zero, List.take_zero, List.any_nil]
          intro i hi
          by_cases hil : i < X.length
          · obtain ⟨y, hy⟩ : ∃ y, X[i]? = some y := ⟨_, List.getElem?_eq_getElem hil⟩
            have hil' : (i : Int) < (X.length : Int) := by omega
            have e3 : IntKind.i64.wrap ((i : Int) + 1) = ((i + 1 : Nat) : Int) := by rw [wrap_i64] <;> omega
            have hup := anyUp (x := (k : Int)) hy
            cases hb : (X.take i).any fun z => decide ((k : Int) = z)
            · rw [hb, Bool.false_or] at hup
              simp +contextual -implicitDefEqProofs (maxSteps := 1000000) only [sm, sn, sxx, seval, hil', hy, e3]
              refine ⟨i + 1, by omega, by omega, oB_emb hFl ?_⟩
              simp +contextual -implicitDefEqProofs (maxSteps := 1000000) only [sm, sn, sxx, seval, getN_range, g0, g1, g2, hup]
            · rw [hb, Bool.true_or] at hup
              simp +contextual -implicitDefEqProofs (maxSteps := 1000000) only [sm, sn, sxx, seval, hil', hy, e3]
              refine ⟨i + 1, by omega, by omega, oB_emb hFl ?_⟩
              simp +contextual -implicitDefEqProofs (maxSteps := 1000000) only [sm, sn, sxx, seval, getN_range, g0, g1, g2, hup]
          · have hin : i = X.length := by omega
            subst hin
            rw [List.take_length]
            have hset0 : F.set k (t77 r 0) = F := by rw [t77_zero]; exact set_same hFr
            cases hmv : X.any fun z => decide ((k : Int) = z)
            · have hno : ∀ x ∈ X, x.toNat ≠ k := by
                intro x hx he
                have h0 := hI2 x hx
                have : X.any (fun z => decide ((k : Int) = z)) = true := List.any_eq_true.2 ⟨x, hx, by simp; omega⟩
                rw [this] at hmv
                cases hmv
              have hDr : D[k]? = some r := by rw [← hkp k hno]; exact hr
              have hltD : k < D.length := (List.getElem?_eq_some_iff.1 hDr).1
              have hltD' : (k : Int) < (D.length : Int) := by omega
              have hrb := hd r (List.mem_of_getElem? hDr)
              simp +contextual -implicitDefEqProofs (maxSteps := 1000000) only [sm, sn, sxx, seval, hil, Int.lt_irrefl, oB_2, oB_1, oB_0, hown, hrm, hlt, hDr, hltD, hltD']
              refine callV_rule (law08_Ranges r r (by omega)) (by simp +contextual -implicitDefEqProofs (maxSteps := 1000000) only [sm, sn, sxx, seval, hrow, eRgs]) rfl ?_
              simp +contextual -implicitDefEqProofs (maxSteps := 1000000) only [sm, sn, sxx, seval, oB_2, oB_1, oB_0, hown, hrm, hlt, hDr]
              refine loop_rule (fun i : Nat => i ≤ r.length) (fun i => tm 105 [(1, .list 1 (D.map eRgs)), (2, .ptr 4 0 0 0), (5, .sl 1 1 0 D.length), (7, .sl 1 2 0 G.length), (9, .int .i64 k), (53, .int .i64 G.length), (54, .int .i64 k), (89, .int .i64 r.length), (90, .int .i64 i)])
                (fun i => oB (K, X, A, C) D G (F.set k (t77 r i))) (fun i => r.length - i) 0 (Nat.zero_le _) (by rw [hset0]; exact oB_emb hFl (by simp +contextual -implicitDefEqProofs (maxSteps := 1000000) only [sm, sn, sxx, seval, getN_range, g0, g1, g2, Int.natCast_zero])) ?_
              intro i hi
              have hFs : (F.set k (t77 r i)).length = G.length := by rw [List.length_set]; exact hFl
              have hFk : (F.set k (t77 r i))[k]? = some (t77 r i) := List.getElem?_set_self (by omega)
              have hrow2 := oB_row (c := (K, X, A, C)) (D := D) (G := G) hFk
              by_cases hir : i < r.length
              · obtain ⟨⟨lo, hi0⟩, hp⟩ : ∃ p, r[i]? = some p := ⟨_, List.getElem?_eq_getElem hir⟩
                have hir' : (i : Int) < (r.length : Int) := by omega
                have e4 : IntKind.i64.wrap ((i : Int) + 1) = ((i + 1 : Nat) : Int) := by rw [wrap_i64] <;> omega
                have hp2 := t77_at hp
                have hpl := t77_len r i
                have hput := oB_put (K, X, A, C) D G (F.set k (t77 r i)) k (t77 r (i + 1))
                have hws := t77_seteq hp
                simp +contextual -implicitDefEqProofs (maxSteps := 1000000) only [sm, sn, sxx, seval, hir', hir, oB_2, oB_1, oB_0, hown, hrm, hlt, hrow2, hp2, hpl, hws, hput, e4, List.set_set]
                refine ⟨i + 1, by omega, by omega, oB_emb (by rw [List.length_set]; exact hFl) ?_⟩
                have g1 : 1 < (F.set k (t77 r (i + 1))).length + 3 := by omega
                have g2 : 2 < (F.set k (t77 r (i + 1))).length + 3 := by omega
                have g0 : 0 < (F.set k (t77 r (i + 1))).length + 3 := by omega
                simp +contextual -implicitDefEqProofs (maxSteps := 1000000) only [sm, sn, sxx, seval, getN_range, g0, g1, g2]
              · have hin : i = r.length := by omega
                subst hin
                simp +contextual -implicitDefEqProofs (maxSteps := 1000000) only [sm, sn, sxx, seval, hir, Int.lt_irrefl, e2]
                refine ⟨(k + 1, F.set k (t77 r r.length)), ⟨by omega, hFs, ?_⟩, by omega, oB_emb hFs ?_⟩
                · intro j hj
                  rw [List.getElem?_set_ne (by omega)]
                  exact hFG j (by omega)
                · have g1 : 1 < (F.set k (t77 r r.length)).length + 3 := by omega
                  have g2 : 2 < (F.set k (t77 r r.length)).length + 3 := by omega
                  have g0 : 0 < (F.set k (t77 r r.length)).length + 3 := by omega
                  simp +contextual -implicitDefEqProofs (maxSteps := 1000000) only [sm, sn, sxx, seval, getN_range, g0, g1, g2]
            · simp +contextual -implicitDefEqProofs (maxSteps := 1000000) only [sm, sn, sxx, seval, hil, Int.lt_irrefl, oB_2, oB_1, oB_0, hown, hrm, hlt]
              refine loop_rule (fun i : Nat => i ≤ r.length) (fun i => tm 105 [(1, .list 1 (D.map eRgs)), (2, .ptr 4 0 0 0), (5, .sl 1 1 0 D.length), (7, .sl 1 2 0 G.length), (9, .int .i64 k), (53, .int .i64 G.length), (54, .int .i64 k), (89, .int .i64 r.length), (90, .int .i64 i)])
                (fun i => oB (K, X, A, C) D G (F.set k (t77 r i))) (fun i => r.length - i) 0 (Nat.zero_le _) (by rw [hset0]; exact oB_emb hFl (by simp +contextual -implicitDefEqProofs (maxSteps := 1000000) only [sm, sn, sxx, seval, getN_range, g0, g1, g2, Int.natCast_zero])) ?_
              intro i hi
              have hFs : (F.set k (t77 r i)).length = G.length := by rw [List.length_set]; exact hFl
              have hFk : (F.set k (t77 r i))[k]? = some (t77 r i) := List.getElem?_set_self (by omega)
              have hrow2 := oB_row (c := (K, X, A, C)) (D := D) (G := G) hFk
              by_cases hir : i < r.length
              · obtain ⟨⟨lo, hi0⟩, hp⟩ : ∃ p, r[i]? = some p := ⟨_, List.getElem?_eq_getElem hir⟩
                have hir' : (i : Int) < (r.length : Int) := by omega
                have e4 : IntKind.i64.wrap ((i : Int) + 1) = ((i + 1 : Nat) : Int) := by rw [wrap_i64] <;> omega
                have hp2 := t77_at hp
                have hpl := t77_len r i
                have hput := oB_put (K, X, A, C) D G (F.set k (t77 r i)) k (t77 r (i + 1))
                have hws := t77_seteq hp
                simp +contextual -implicitDefEqProofs (maxSteps := 1000000) only [sm, sn, sxx, seval, hir', hir, oB_2, oB_1, oB_0, hown, hrm, hlt, hrow2, hp2, hpl, hws, hput, e4, List.set_set]
                refine ⟨i + 1, by omega, by omega, oB_emb (by rw [List.length_set]; exact hFl) ?_⟩
                have g1 : 1 < (F.set k (t77 r (i + 1))).length + 3 := by omega
                have g2 : 2 < (F.set k (t77 r (i + 1))).length + 3 := by omega
                have g0 : 0 < (F.set k (t77 r (i + 1))).length + 3 := by omega
                simp +contextual -implicitDefEqProofs (maxSteps := 1000000) only [sm, sn, sxx, seval, getN_range, g0, g1, g2]
              · have hin : i = r.length := by omega
                subst hin
                simp +contextual -implicitDefEqProofs (maxSteps := 1000000) only [sm, sn, sxx, seval, hir, Int.lt_irrefl, e2]
                refine ⟨(k + 1, F.set k (t77 r r.length)), ⟨by omega, hFs, ?_⟩, by omega, oB_emb hFs ?_⟩
                · intro j hj
                  rw [List.getElem?_set_ne (by omega)]
                  exact hFG j (by omega)
                · have g1 : 1 < (F.set k (t77 r r.length)).length + 3 := by omega
                  have g2 : 2 < (F.set k (t77 r r.length)).length + 3 := by omega
                  have g0 : 0 < (F.set k (t77 r r.length)).length + 3 := by omega
                  simp +contextual -implicitDefEqProofs (maxSteps := 1000000) only [sm, sn, sxx, seval, getN_range, g0, g1, g2]
        · have hkn : k = G.length := by omega
          subst hkn
          simp +contextual -implicitDefEqProofs (maxSteps := 1000000) only [sm, sn, sxx, seval, Int.lt_irrefl, oB_1]
          refine callV_rule (law08_Doms D D (by omega) hd9) (by simp +contextual -implicitDefEqProofs (maxSteps := 1000000) only [sm, sn, sxx, seval, oB_1, eDoms]) rfl ?_
          simp +contextual -implicitDefEqProofs (maxSteps := 1000000) only [sm, sn, sxx, seval]
      · have hE0 := tasks_no hE
        generalize tasksL (K, X, A, C) D = Q at hE hE0 hNar ⊢
        obtain ⟨G, e⟩ := Q
        simp only at hE hE0
        subst hE0
        refine callO_rule hNar rfl ?_ rfl rfl ?_
        · simp +contextual -implicitDefEqProofs (maxSteps := 1000000) only [sm, sn, sxx, seval, eCon, eIs, eDoms]
        simp +contextual -implicitDefEqProofs (maxSteps := 1000000) only [sm, sn, sxx, seval, eCon, eIs, eDoms, List.map_nil]
        refine callV_rule (law08_Doms D D (by omega) hd9) (by simp +contextual -implicitDefEqProofs (maxSteps := 1000000) only [sm, sn, sxx, seval, eDoms]) rfl ?_
        simp +contextual -implicitDefEqProofs (maxSteps := 1000000) only [sm, sn, sxx, seval, hE, eDoms]
end Go.Proofs.Ytnhedjpghpdbdaa
