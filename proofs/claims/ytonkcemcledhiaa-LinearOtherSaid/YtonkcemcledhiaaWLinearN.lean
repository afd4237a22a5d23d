/- linear.Narrow: its rows are its caller's own. -/
import Derived.Test.YtonkcemcledhiaaGLinLaw
import Derived.Test.YtonkcemcledhiaaWOther
import Derived.Test.YtonkcemcledhiaaCLinearN
namespace Go.Proofs.Ytonkcemcledhiaa
open Av
attribute [local irreducible] awp awpOpers
set_option linter.unusedSimpArgs false
set_option linter.unusedVariables false
set_option maxRecDepth 100000
set_option maxHeartbeats 4000000
theorem linear_ownO (D : List (List Rg)) (hD : D.length ≤ 1000000000000) (hd : ∀ d ∈ D, d.length ≤ 1000000000000) :
    Ctr Try.prog 54 [.sl 1 0 0 D.length] [some (1, D.map eRgs)] (.sl 1 1 0 D.length) (some (1, D.map eRgs) :: some (1, rowsM 2 D D.length) :: rowB D) := by
  refine call_box Try.func54 Try.call54 e_linear_ownO ?_
  have hB0 : rowB [] = [] := rfl
  have hz0 := rowsM_nil 2
  have hfl : flatL (D.map eRgs) = true := by have := wasR_flat D D.length; rwa [wasR_full] at this
  simp +contextual -implicitDefEqProofs (maxSteps := 1000000) only [c_linear_ownO, sm, sn, sxx, seval]
  refine loop_ruleV [(3, 1)] (fun k : Nat => k ≤ D.length) (fun k => tm 19 [(3, .sl 1 1 0 k), (6, .sl 1 0 0 D.length), (7, .int .i64 D.length), (8, .int .i64 k)])
    (fun k => some (1, D.map eRgs) :: some (1, rowsM 2 (D.take k) k) :: rowB (D.take k)) (fun k => D.length - k) 0 (by simp +contextual -implicitDefEqProofs (maxSteps := 1000000) only [sm, sn, sxx, seval]) (Nat.zero_le _) ⟨[0, 1], by decide, rfl, ?_, ?_⟩ ?_
  · simp +contextual -implicitDefEqProofs (maxSteps := 1000000) only [sm, sn, sxx, seval, List.take_zero, hB0, hz0]
  · simp +contextual -implicitDefEqProofs (maxSteps := 1000000) only [sm, sn, sxx, seval, Int.natCast_zero, List.take_zero, hB0]
  · intro k hk
    have hkl : (D.take k).length = k := by rw [List.length_take]; omega
    have hRl : (rowB (D.take k)).length = k := by rw [rowB_len, hkl]
    have hrm : (rowsM 2 (D.take k) k).length = k := by rw [rowsM_len, hkl]
    by_cases hlt : k < D.length
    · have hlt' : (k : Int) < (D.length : Int) := by omega
      have e2 : IntKind.i64.wrap ((k : Int) + 1) = ((k + 1 : Nat) : Int) := by rw [wrap_i64] <;> omega
      obtain ⟨r, hr⟩ : ∃ r, D[k]? = some r := ⟨_, List.getElem?_eq_getElem hlt⟩
      have hs := rowsM_snoc (b := 2) hr
      have c1 : (k + 1) * 24 ≤ 140737488355328 := by omega
      have c2 : k + 1 ≤ maxLen := by unfold maxLen; omega
      simp +contextual -implicitDefEqProofs (maxSteps := 1000000) only [sm, sn, sxx, seval, hlt', hlt, hr]
      have hCl := clone_rgsO r (hd r (List.mem_of_getElem? hr))
      refine callO_rule hCl rfl (wkL_refl _) rfl ?_ ?_
      · simp +contextual -implicitDefEqProofs (maxSteps := 1000000) only [sm, sn, sxx, seval]
      have h2k : (AV.sl 2 (k + 1 + 1) 0 r.length) = .sl 2 (2 + k) 0 r.length := by rw [show k + 1 + 1 = 2 + k by omega]
      simp +contextual -implicitDefEqProofs (maxSteps := 1000000) only [sm, sn, sxx, seval, eRgs, hkl, hRl, hrm, c1, c2, e2, h2k]
      have hbg : bxGet (rowB (D.take k) ++ [some (2, r.map eRg)] ++ [some (1, [AV.sl 2 (2 + k) 0 r.length])]) (k + 1) = some (1, [AV.sl 2 (2 + k) 0 r.length]) := by
        have := bxGet_end (rowB (D.take k) ++ [some (2, r.map eRg)]) (some (1, [AV.sl 2 (2 + k) 0 r.length]))
        rwa [List.length_append, hRl] at this
      simp +contextual -implicitDefEqProofs (maxSteps := 1000000) only [sm, sn, sxx, seval, hbg, c1, c2, hrm]
      rw [← hs, rowB_take hr]
      have hR1 : (rowB (D.take (k + 1))).length = k + 1 := by rw [rowB_len, List.length_take]; omega
      have hg := fun x (hx : x < k + 1) => (getN_eq (0 :: (k + 4) :: List.range' 2 (k + 1)) (2 + x) (2 + x) (by rw [Nat.add_comm 2 x, List.getElem?_cons_succ, List.getElem?_cons_succ, List.getElem?_range' hx]; congr 1; omega))
      refine ⟨k + 1, by omega, by omega, 0 :: (k + 4) :: List.range' 2 (k + 1), ?_, rfl, ?_, ?_⟩
      · rw [List.nodup_cons, List.nodup_cons]
        exact ⟨by simp [List.mem_range']; intro x _; omega, by simp [List.mem_range']; intro x _; omega, List.nodup_range'⟩
      · have he := emb_grow (n := k + 3) (pre := [some (1, D.map eRgs), none]) (b := 2) (lit := some (1, [AV.sl 2 (2 + k) 0 r.length])) hr rfl hg (by omega)
        simp only [List.length_cons, hR1]
        refine emb_own rfl (renEs_flat _ hfl) (okEs_flat _ hfl) ?_
        rw [show 2 + k + 2 = k + 4 by omega] at he
        exact he
      · simp only [List.length_cons, hR1]
        have q1 : 1 < k + 1 + 1 + 1 := by omega
        have q0 : 0 < k + 1 + 1 + 1 := by omega
        simp +contextual -implicitDefEqProofs (maxSteps := 1000000) only [sm, sn, sxx, seval, q0, q1]
        try rfl
    · have hkn : k = D.length := by omega
      subst hkn
      rw [List.take_length]
      simp +contextual -implicitDefEqProofs (maxSteps := 1000000) only [sm, sn, sxx, seval, Int.lt_irrefl]
      have hlD := rowB_len D
      refine ⟨[], 0 :: 1 :: List.range' 2 D.length, ?_, ?_⟩
      · rw [List.nodup_cons, List.nodup_cons]
        exact ⟨by simp [List.mem_range']; intro x _; omega, by simp [List.mem_range']; intro x _; omega, List.nodup_range'⟩
      · rw [hlD]
        have hg := fun x (hx : x < D.length) => (getN_eq (0 :: 1 :: List.range' 2 D.length) (2 + x) (2 + x) (by rw [Nat.add_comm 2 x, List.getElem?_cons_succ, List.getElem?_cons_succ, List.getElem?_range' hx]; congr 1; omega))
        refine ⟨rfl, emb_own rfl (renEs_flat _ hfl) (okEs_flat _ hfl) (emb_own rfl (rowsM_reW hg) (rowsM_ok (by omega)) ?_), by omega, rfl⟩
        have := emb_rows (n := D.length + 1 + 1) (ix := 0 :: 1 :: List.range' 2 D.length) (bx := some (1, D.map eRgs) :: some (1, rowsM 2 D D.length) :: rowB D) (rowB D) 2 (rowB_flat D) (fun j _ => bxGet_pre [_, _] (rowB D) j) (by simp only [List.length_cons]; omega)
        rwa [hlD] at this
theorem bxGet_some : ∀ {bx : Bx} {i : Nat} {v : Nat × List AV}, bxGet bx i = some v → i < bx.length
  | [], i, v, h => by cases i <;> simp [bxGet] at h
  | b :: bx, 0, v, h => by simp
  | b :: bx, i + 1, v, h => by
    have : bxGet bx i = some v := by cases b <;> exact h
    have := bxGet_some this
    simp only [List.length_cons]; omega
/-- a call that makes rows of its own out of rows in a box -/
theorem callOwn_rule {P : Program} {fid : FuncId} {K : AV → Bx → Prop} {bx : Bx} {i : Nat} {E : List (List Rg)}
    (hc : Ctr P fid [.sl 1 0 0 E.length] [some (1, E.map eRgs)] (.sl 1 1 0 E.length) (some (1, E.map eRgs) :: some (1, rowsM 2 E E.length) :: rowB E)) (hi : bxGet bx i = some (1, E.map eRgs))
    (h : K (.sl 1 bx.length 0 E.length) (bxSet bx i (some (1, E.map eRgs)) ++ (some (1, rowsM (bx.length + 1) E E.length) :: rowB E))) : CallMK P (.fn (.func fid) []) [.sl 1 i 0 E.length] K bx := by
  have hfl : flatL (E.map eRgs) = true := by have := wasR_flat E E.length; rwa [wasR_full] at this
  have hlt := bxGet_some hi
  have hd : (some (1, E.map eRgs) :: some (1, rowsM 2 E E.length) :: rowB E : Bx).length - [some (1, E.map eRgs)].length = E.length + 1 := by simp [rowB_len]
  refine callM_rule [i] hc (by simp) ?_ rfl (wkL_refl _) ?_ ?_ ?_
  · exact emb_own hi (renEs_flat _ hfl) (okEs_flat _ hfl) trivial
  · simp [okR, okC, okL]
  · simp only [okBx, List.length_cons, rowB_len, Bool.and_eq_true]
    exact ⟨okEs_flat _ hfl, rowsM_ok (by omega), okBx_flat _ (rowB_flat _)⟩
  rw [hd, List.singleton_append]
  have hg : ∀ x, x < E.length + 1 → getN (i :: newIx bx.length (E.length + 1)) (1 + x) = bx.length + x := fun x hx => getN_eq _ _ _ (by rw [Nat.add_comm 1 x, List.getElem?_cons_succ, newIx_get _ _ _ hx])
  have e1 : ren (i :: newIx bx.length (E.length + 1)) (.sl 1 1 0 E.length) = .sl 1 bx.length 0 E.length := by
    have := hg 0 (by omega)
    simp only [ren, renC, renL]
    rw [show 1 = 1 + 0 from rfl, this]
    rfl
  have e2 : mergeB (i :: newIx bx.length (E.length + 1)) (i :: newIx bx.length (E.length + 1)) (some (1, E.map eRgs) :: some (1, rowsM 2 E E.length) :: rowB E) bx = bxSet bx i (some (1, E.map eRgs)) ++ (some (1, rowsM (bx.length + 1) E E.length) :: rowB E) := by
    rw [mg_cons, decide_eq_true hlt]
    have hr : reB (i :: newIx bx.length (E.length + 1)) (some (1, E.map eRgs)) = some (1, E.map eRgs) := by
      simp only [reB, renEs, hfl]
    simp only [hr]
    have hm := merge_push (i :: newIx bx.length (E.length + 1)) (E.length + 1) (some (1, rowsM 2 E E.length) :: rowB E) (bxSet bx i (some (1, E.map eRgs))) (by simp [rowB_len])
    rw [bxSet_length] at hm
    rw [hm]
    congr 1
    have hre : (reBox (i :: newIx bx.length (E.length + 1))) = reB (i :: newIx bx.length (E.length + 1)) := by
      funext b; rw [reB_eq]; rfl
    rw [hre, List.map_cons, rowB_re]
    congr 1
    simp only [reB]
    rw [rowsM_re (p := 2) (q := bx.length + 1)]
    intro x hx
    have := hg (1 + x) (by omega)
    rw [show 2 + x = 1 + (1 + x) by omega, this]
    omega
  rw [e1, e2]
  exact h
theorem linear_NarrowO (c : Con) (D G : List (List Rg)) (hD : D.length ≤ 1000000000000) (hd : ∀ d ∈ D, d.length ≤ 1000000000000) (hc : conFits c) (hk : 1 ≤ c.1 ∧ c.1 ≤ 3) (hG : linearL c D = (G, 0)) :
    Ctr Try.prog 23 [eCon c, eDoms D] [] (.tuple [.sl 1 0 0 G.length, .int .i64 0]) (some (1, rowsM 1 G G.length) :: rowB G) := by
  obtain ⟨K, X, A, C⟩ := c
  refine call_box Try.func23 Try.call23 e_linear_NarrowO ?_
  simp +contextual -implicitDefEqProofs (maxSteps := 1000000) only [c_linear_NarrowO, eCon, eIs, eDoms, sm, sn, sxx, seval]
  refine callA_rule (linear_fit (K, X, A, C) D hD hd hc) (wkL_refl _) rfl ?_
  cases hm : modB (D, [(K, X, A, C)], 0, 0)
  · have hres : linearL (K, X, A, C) D = ([], 2) := by
      unfold linearL
      rw [if_neg (by simp [hm])]
    rw [hres] at hG
    simp at hG
  obtain ⟨f1, f2, f3, f4, f5, f6⟩ := sum_facts hm (by simp only at hk ⊢; omega)
  simp only at f4 f5 f6 hk
  simp +contextual -implicitDefEqProofs (maxSteps := 1000000) only [sm, sn, sxx, seval, eCon, eIs]
  refine callO_rule (linear_terms (K, X, A, C) D hD f5 (by simp only; omega)) rfl (wkL_refl _) rfl ?_ ?_
  · simp +contextual -implicitDefEqProofs (maxSteps := 1000000) only [sm, sn, sxx, seval, sumX_eq]
  have hcase : K = 1 ∨ K = 2 ∨ K = 3 := by omega
  rcases hcase with hK | hK | hK
  · subst hK
    obtain ⟨E, b, hs⟩ : ∃ E b, isS D (termsOf (1, X, A, C)) C = (E, b) := ⟨_, _, rfl⟩
    have hres : linearL (1, X, A, C) D = tell (E, b) := by
      unfold linearL
      rw [if_pos hm]
      simp only [if_true]
      rw [← hs]
    have hle := is_len f2 f3 hs
    have hEl := hle.1
    have hEd := le_rows hle
    obtain ⟨T', hci⟩ := linear_is D (termsOf (1, X, A, C)) C f2 f1 f3 f4 hs
    generalize termsOf (1, X, A, C) = T at hci ⊢
    simp +contextual -implicitDefEqProofs (maxSteps := 1000000) only [sm, sn, sxx, seval, eCon, eIs]
    refine callM_rule [1, 2, 3] (hci) (by decide) ?_ ?_ ?_ ?_ ?_ ?_
    · simp +contextual -implicitDefEqProofs (maxSteps := 1000000) only [sm, sn, sxx, seval, sumX_eq]
      try rfl
    · simp +contextual -implicitDefEqProofs (maxSteps := 1000000) only [sm, sn, sxx, seval, sumX_eq]
    · simp +contextual -implicitDefEqProofs (maxSteps := 1000000) only [sm, sn, sxx, seval, sumX_eq]
      try rfl
    · simp +contextual -implicitDefEqProofs (maxSteps := 1000000) only [sm, sn, sxx, seval, sumX_eq]
    · simp +contextual -implicitDefEqProofs (maxSteps := 1000000) only [sm, sn, sxx, seval, sumX_eq]
    · simp +contextual -implicitDefEqProofs (maxSteps := 1000000) only [sm, sn, sxx, seval, sumX_eq]
      cases b
      · rw [hres] at hG
        simp [tell] at hG
      · have hEG : E = G := by rw [hres] at hG; simpa [tell] using hG
        subst hEG
        have hfl : flatL (E.map eRgs) = true := by have := wasR_flat E E.length; rwa [wasR_full] at this
        simp +contextual -implicitDefEqProofs (maxSteps := 1000000) only [sm, sn, sxx, seval]
        refine callOwn_rule (linear_ownO E (by omega) hEd) ?_ ?_
        · simp +contextual -implicitDefEqProofs (maxSteps := 1000000) only [sm, sn, sxx, seval]
        simp +contextual -implicitDefEqProofs (maxSteps := 1000000) only [sm, sn, sxx, seval]
        have hlE := rowB_len E
        refine ⟨[], 4 :: List.range' 5 E.length, ?_, ?_⟩
        · rw [List.nodup_cons]
          exact ⟨by simp [List.mem_range']; intro x _; omega, List.nodup_range'⟩
        · rw [hlE]
          simp only [hol]
          have hg := fun x (hx : x < E.length) => (getN_eq (4 :: List.range' 5 E.length) (1 + x) (5 + x) (by rw [Nat.add_comm 1 x, List.getElem?_cons_succ, List.getElem?_range' hx]; congr 1; omega))
          have key := fun bx h1 h2 => emb_rows (n := E.length + 1) (ix := 4 :: List.range' 5 E.length) (bx := bx) (rowB E) 5 (rowB_flat E) h1 h2
          simp only [hlE] at key
          exact ⟨emb_own rfl (rowsM_reW (p := 1) (q := 5) hg) (rowsM_ok (by omega)) (key _ (fun j _ => bxGet_pre [_, _, _, _, _] (rowB E) j) (by simp only [List.length_cons, hlE]; omega)), by omega, rfl⟩
  · subst hK
    obtain ⟨E, b, hs⟩ : ∃ E b, mostS D (termsOf (2, X, A, C)) C = (E, b) := ⟨_, _, rfl⟩
    have hres : linearL (2, X, A, C) D = tell (E, b) := by
      unfold linearL
      rw [if_pos hm]
      simp only [show ¬ (2 : Int) = 1 by decide, if_false, if_true]
      rw [← hs]
    have hle := most_len f2 f3 hs
    have hEl := hle.1
    have hEd := le_rows hle
    simp +contextual -implicitDefEqProofs (maxSteps := 1000000) only [sm, sn, sxx, seval, eCon, eIs]
    refine callM_rule [1, 2, 3] (linear_most D _ C f2 f1 f3 f4 hs) (by decide) ?_ ?_ ?_ ?_ ?_ ?_
    · simp +contextual -implicitDefEqProofs (maxSteps := 1000000) only [sm, sn, sxx, seval, sumX_eq]
      try rfl
    · simp +contextual -implicitDefEqProofs (maxSteps := 1000000) only [sm, sn, sxx, seval, sumX_eq]
    · simp +contextual -implicitDefEqProofs (maxSteps := 1000000) only [sm, sn, sxx, seval, sumX_eq]
      try rfl
    · simp +contextual -implicitDefEqProofs (maxSteps := 1000000) only [sm, sn, sxx, seval, sumX_eq]
    · simp +contextual -implicitDefEqProofs (maxSteps := 1000000) only [sm, sn, sxx, seval, sumX_eq]
    · simp +contextual -implicitDefEqProofs (maxSteps := 1000000) only [sm, sn, sxx, seval, sumX_eq]
      cases b
      · rw [hres] at hG
        simp [tell] at hG
      · have hEG : E = G := by rw [hres] at hG; simpa [tell] using hG
        subst hEG
        have hfl : flatL (E.map eRgs) = true := by have := wasR_flat E E.length; rwa [wasR_full] at this
        simp +contextual -implicitDefEqProofs (maxSteps := 1000000) only [sm, sn, sxx, seval]
        refine callOwn_rule (linear_ownO E (by omega) hEd) ?_ ?_
        · simp +contextual -implicitDefEqProofs (maxSteps := 1000000) only [sm, sn, sxx, seval]
        simp +contextual -implicitDefEqProofs (maxSteps := 1000000) only [sm, sn, sxx, seval]
        have hlE := rowB_len E
        refine ⟨[], 4 :: List.range' 5 E.length, ?_, ?_⟩
        · rw [List.nodup_cons]
          exact ⟨by simp [List.mem_range']; intro x _; omega, List.nodup_range'⟩
        · rw [hlE]
          simp only [hol]
          have hg := fun x (hx : x < E.length) => (getN_eq (4 :: List.range' 5 E.length) (1 + x) (5 + x) (by rw [Nat.add_comm 1 x, List.getElem?_cons_succ, List.getElem?_range' hx]; congr 1; omega))
          have key := fun bx h1 h2 => emb_rows (n := E.length + 1) (ix := 4 :: List.range' 5 E.length) (bx := bx) (rowB E) 5 (rowB_flat E) h1 h2
          simp only [hlE] at key
          exact ⟨emb_own rfl (rowsM_reW (p := 1) (q := 5) hg) (rowsM_ok (by omega)) (key _ (fun j _ => bxGet_pre [_, _, _, _, _] (rowB E) j) (by simp only [List.length_cons, hlE]; omega)), by omega, rfl⟩
  · subst hK
    obtain ⟨E, b, hs⟩ : ∃ E b, notS D (termsOf (3, X, A, C)) C = (E, b) := ⟨_, _, rfl⟩
    have hres : linearL (3, X, A, C) D = tell (E, b) := by
      unfold linearL
      rw [if_pos hm]
      simp only [show ¬ (3 : Int) = 1 by decide, show ¬ (3 : Int) = 2 by decide, if_false, if_true]
      rw [← hs]
    have hle := not_len f2 f3 hs
    have hEl := hle.1
    have hEd := le_rows hle
    simp +contextual -implicitDefEqProofs (maxSteps := 1000000) only [sm, sn, sxx, seval, eCon, eIs]
    refine callM_rule [1, 2, 3] (linear_not D _ C f2 f1 f3 f4 hs) (by decide) ?_ ?_ ?_ ?_ ?_ ?_
    · simp +contextual -implicitDefEqProofs (maxSteps := 1000000) only [sm, sn, sxx, seval, sumX_eq]
      try rfl
    · simp +contextual -implicitDefEqProofs (maxSteps := 1000000) only [sm, sn, sxx, seval, sumX_eq]
    · simp +contextual -implicitDefEqProofs (maxSteps := 1000000) only [sm, sn, sxx, seval, sumX_eq]
      try rfl
    · simp +contextual -implicitDefEqProofs (maxSteps := 1000000) only [sm, sn, sxx, seval, sumX_eq]
    · simp +contextual -implicitDefEqProofs (maxSteps := 1000000) only [sm, sn, sxx, seval, sumX_eq]
    · simp +contextual -implicitDefEqProofs (maxSteps := 1000000) only [sm, sn, sxx, seval, sumX_eq]
      cases b
      · rw [hres] at hG
        simp [tell] at hG
      · have hEG : E = G := by rw [hres] at hG; simpa [tell] using hG
        subst hEG
        have hfl : flatL (E.map eRgs) = true := by have := wasR_flat E E.length; rwa [wasR_full] at this
        simp +contextual -implicitDefEqProofs (maxSteps := 1000000) only [sm, sn, sxx, seval]
        refine callOwn_rule (linear_ownO E (by omega) hEd) ?_ ?_
        · simp +contextual -implicitDefEqProofs (maxSteps := 1000000) only [sm, sn, sxx, seval]
        simp +contextual -implicitDefEqProofs (maxSteps := 1000000) only [sm, sn, sxx, seval]
        have hlE := rowB_len E
        refine ⟨[], 4 :: List.range' 5 E.length, ?_, ?_⟩
        · rw [List.nodup_cons]
          exact ⟨by simp [List.mem_range']; intro x _; omega, List.nodup_range'⟩
        · rw [hlE]
          simp only [hol]
          have hg := fun x (hx : x < E.length) => (getN_eq (4 :: List.range' 5 E.length) (1 + x) (5 + x) (by rw [Nat.add_comm 1 x, List.getElem?_cons_succ, List.getElem?_range' hx]; congr 1; omega))
          have key := fun bx h1 h2 => emb_rows (n := E.length + 1) (ix := 4 :: List.range' 5 E.length) (bx := bx) (rowB E) 5 (rowB_flat E) h1 h2
          simp only [hlE] at key
          exact ⟨emb_own rfl (rowsM_reW (p := 1) (q := 5) hg) (rowsM_ok (by omega)) (key _ (fun j _ => bxGet_pre [_, _, _, _, _] (rowB E) j) (by simp only [List.length_cons, hlE]; omega)), by omega, rfl⟩
end Go.Proofs.Ytonkcemcledhiaa
