/- reify.Narrow: its rows are its caller's own. -/
import Derived.Test.YtonkcemcledhiaaWReify
import Derived.Test.YtonkcemcledhiaaWOther
import Derived.Test.YtonkcemcledhiaaCReifyN
namespace Go.Proofs.Ytonkcemcledhiaa
open Av
attribute [local irreducible] awp awpOpers
set_option linter.unusedSimpArgs false
set_option linter.unusedVariables false
set_option maxRecDepth 100000
set_option maxHeartbeats 4000000
theorem reify_NarrowO (c : Con) (D G : List (List Rg)) (hD : D.length ≤ 1000000000000) (hd : ∀ d ∈ D, d.length ≤ 1000000000000) (hc : conFits c) (hG : reifyL c D = (G, 0)) :
    Ctr Try.prog 26 [eCon c, eDoms D] [] (.tuple [.sl 1 0 0 G.length, .int .i64 0]) (some (1, rowsM 1 G G.length) :: rowB G) := by
  obtain ⟨K, X, A, C⟩ := c
  refine call_box Try.func26 Try.call26 e_reify_NarrowO ?_
  simp +contextual -implicitDefEqProofs (maxSteps := 1000000) only [c_reify_NarrowO, eCon, eIs, eDoms, sm, sn, sxx, seval]
  refine callA_rule (model_Right (D, [(K, X, A, C)], 0, 0) hD hd (by simp) (by simpa using hc)) (wkL_refl _) rfl ?_
  cases hm : modB (D, [(K, X, A, C)], 0, 0)
  · have hres : reifyL (K, X, A, C) D = ([], 2) := by
      unfold reifyL
      rw [if_neg (by simp [hm])]
    rw [hres] at hG
    simp at hG
  by_cases k1 : K < 4
  · have hres : reifyL (K, X, A, C) D = ([], 10) := by
      unfold reifyL
      rw [if_pos hm, if_neg (by simp only; omega)]
    rw [hres] at hG
    simp at hG
  by_cases k2 : 6 < K
  · have hres : reifyL (K, X, A, C) D = ([], 10) := by
      unfold reifyL
      rw [if_pos hm, if_neg (by simp only; omega)]
    rw [hres] at hG
    simp at hG
  have hK : 4 ≤ K ∧ K ≤ 6 := by omega
  have hN := reify_narrow (K, X, A, C) D hK hm
  obtain ⟨f1, f2, f3, f4, f5, f6⟩ := sum_facts hm (by simp only; omega)
  have hxl := reif_len (c := (K, X, A, C)) hK hm
  obtain ⟨hf, hft⟩ := flag_facts (c := (K, X, A, C)) hK hm
  simp only at f4 f5 f6 hxl
  have e1 : IntKind.i64.wrap ((X.length : Int) - 1) = ((X.length - 1 : Nat) : Int) := by rw [wrap_i64] <;> omega
  have hx := xat_get (X := X) (i := X.length - 1) (by omega)
  have hle1 : X.length - 1 ≤ X.length := by omega
  have ht : List.take (X.length - 1) (X.map eI) = (headX (K, X, A, C)).map eI := by unfold headX; rw [List.map_take]
  have hfl : flagX (K, X, A, C) = xat X (X.length - 1) := rfl
  have hres : reifyL (K, X, A, C) D = tell (reifyS K D (termsOf (K, X, A, C)) C (flagX (K, X, A, C))) := by
    unfold reifyL
    rw [if_pos hm, if_pos hK]
  obtain ⟨E, b, hs⟩ : ∃ E b, reifyS K D (termsOf (K, X, A, C)) C (flagX (K, X, A, C)) = (E, b) := ⟨_, _, rfl⟩
  obtain ⟨hl1, hl2⟩ := reifyS_le f2 f3 hf hs
  rw [hs] at hN
  rw [hres, hs] at hG
  simp +contextual -implicitDefEqProofs (maxSteps := 1000000) only [sm, sn, sxx, seval, eCon, eIs, k1, k2, e1, hx, hle1, ht, Nat.zero_le]
  refine callM_rule [1] hN (by decide) ?_ ?_ ?_ ?_ ?_ ?_
  · simp +contextual -implicitDefEqProofs (maxSteps := 1000000) only [sm, sn, sxx, seval, flB_eq, hfl]
    try rfl
  · simp +contextual -implicitDefEqProofs (maxSteps := 1000000) only [sm, sn, sxx, seval, flB_eq]
  · simp +contextual -implicitDefEqProofs (maxSteps := 1000000) only [sm, sn, sxx, seval, flB_eq, eDoms, eIs]
    try rfl
  · simp +contextual -implicitDefEqProofs (maxSteps := 1000000) only [sm, sn, sxx, seval, flB_eq, eDoms]
  · simp +contextual -implicitDefEqProofs (maxSteps := 1000000) only [sm, sn, sxx, seval, flB_eq]
  cases b
  · simp [tell] at hG
  · have hEG : E = G := by simpa [tell] using hG
    subst hEG
    have hEl := hl1.1
    have hEd := le_rows hl1
    have hB0 : rowB [] = [] := rfl
    have hz0 := rowsM_nil 1
    simp +contextual -implicitDefEqProofs (maxSteps := 1000000) only [sm, sn, sxx, seval, flB_eq, tell_0, eDoms]
    refine loop_ruleV [(10, 1)] (fun k : Nat => k ≤ E.length) (fun k => tm 73 [(10, .sl 1 0 0 k), (60, .list 1 (E.map eRgs)), (61, .int .i64 E.length), (62, .int .i64 k)]) (fun k => some (1, rowsM 1 (E.take k) k) :: rowB (E.take k)) (fun k => E.length - k) 0 (by simp +contextual -implicitDefEqProofs (maxSteps := 1000000) only [sm, sn, sxx, seval]) (Nat.zero_le _) ⟨[2], by decide, rfl, ?_, ?_⟩ ?_
    · simp +contextual -implicitDefEqProofs (maxSteps := 1000000) only [sm, sn, sxx, seval, List.take_zero, hB0, hz0]
    · simp +contextual -implicitDefEqProofs (maxSteps := 1000000) only [sm, sn, sxx, seval, Int.natCast_zero, List.take_zero, hB0]
    · intro k hk
      have hkl : (E.take k).length = k := by rw [List.length_take]; omega
      have hRl : (rowB (E.take k)).length = k := by rw [rowB_len, hkl]
      have hrm : (rowsM 1 (E.take k) k).length = k := by rw [rowsM_len, hkl]
      by_cases hlt : k < E.length
      · have hlt' : (k : Int) < (E.length : Int) := by omega
        have e2 : IntKind.i64.wrap ((k : Int) + 1) = ((k + 1 : Nat) : Int) := by rw [wrap_i64] <;> omega
        obtain ⟨r, hr⟩ : ∃ r, E[k]? = some r := ⟨_, List.getElem?_eq_getElem hlt⟩
        have hs := rowsM_snoc (b := 1) hr
        have c1 : (k + 1) * 24 ≤ 140737488355328 := by omega
        have c2 : k + 1 ≤ maxLen := by unfold maxLen; omega
        simp +contextual -implicitDefEqProofs (maxSteps := 1000000) only [sm, sn, sxx, seval, hlt', hlt, hr]
        have hCl := clone_rgsO r (hEd r (List.mem_of_getElem? hr))
        refine callO_rule hCl rfl (wkL_refl _) rfl ?_ ?_
        · simp +contextual -implicitDefEqProofs (maxSteps := 1000000) only [sm, sn, sxx, seval]
        have h2k : (AV.sl 2 (k + 1) 0 r.length) = .sl 2 (1 + k) 0 r.length := by rw [show k + 1 = 1 + k by omega]
        simp +contextual -implicitDefEqProofs (maxSteps := 1000000) only [sm, sn, sxx, seval, eRgs, hkl, hRl, hrm, c1, c2, e2, h2k]
        have hbg : bxGet (rowB (E.take k) ++ [some (2, r.map eRg)] ++ [some (1, [AV.sl 2 (1 + k) 0 r.length])]) (k + 1) = some (1, [AV.sl 2 (1 + k) 0 r.length]) := by
          have := bxGet_end (rowB (E.take k) ++ [some (2, r.map eRg)]) (some (1, [AV.sl 2 (1 + k) 0 r.length]))
          rwa [List.length_append, hRl] at this
        simp +contextual -implicitDefEqProofs (maxSteps := 1000000) only [sm, sn, sxx, seval, hbg, c1, c2, hrm]
        rw [← hs, rowB_take hr]
        have hR1 : (rowB (E.take (k + 1))).length = k + 1 := by rw [rowB_len, List.length_take]; omega
        have hg := fun x (hx : x < k + 1) => (getN_eq ((k + 3) :: List.range' 1 (k + 1)) (1 + x) (1 + x) (by rw [Nat.add_comm 1 x, List.getElem?_cons_succ, List.getElem?_range' hx]; congr 1; omega))
        refine ⟨k + 1, by omega, by omega, (k + 3) :: List.range' 1 (k + 1), ?_, rfl, ?_, ?_⟩
        · rw [List.nodup_cons]
          exact ⟨by simp [List.mem_range']; intro x _; omega, List.nodup_range'⟩
        · have he := emb_grow (n := k + 2) (pre := [none]) (b := 1) (lit := some (1, [AV.sl 2 (1 + k) 0 r.length])) hr rfl hg (by omega)
          simp only [List.length_cons, hR1]
          rw [show 1 + k + 2 = k + 3 by omega] at he
          exact he
        · simp only [List.length_cons, hR1]
          have q0 : 0 < k + 1 + 1 := by omega
          simp +contextual -implicitDefEqProofs (maxSteps := 1000000) only [sm, sn, sxx, seval, q0]
          try rfl
      · have hkn : k = E.length := by omega
        subst hkn
        rw [List.take_length]
        simp +contextual -implicitDefEqProofs (maxSteps := 1000000) only [sm, sn, sxx, seval, Int.lt_irrefl]
        have hlE := rowB_len E
        have hg := fun x (hx : x < E.length) => (getN_eq (0 :: List.range' 1 E.length) (1 + x) (1 + x) (by rw [Nat.add_comm 1 x, List.getElem?_cons_succ, List.getElem?_range' hx]; congr 1; omega))
        have key := fun bx h1 h2 => emb_rows (n := E.length + 1) (ix := 0 :: List.range' 1 E.length) (bx := bx) (rowB E) 1 (rowB_flat E) h1 h2
        simp only [hlE] at key
        refine ⟨[], 0 :: List.range' 1 E.length, ?_, ?_⟩
        · rw [List.nodup_cons]
          exact ⟨by simp [List.mem_range']; intro x _; omega, List.nodup_range'⟩
        · rw [hlE]
          try simp only [hol]
          exact ⟨emb_own rfl (rowsM_reW (p := 1) (q := 1) hg) (rowsM_ok (by omega)) (key _ (fun j _ => bxGet_pre [_] (rowB E) j) (by simp only [List.length_cons, hlE]; omega)), by omega, rfl⟩
end Go.Proofs.Ytonkcemcledhiaa
