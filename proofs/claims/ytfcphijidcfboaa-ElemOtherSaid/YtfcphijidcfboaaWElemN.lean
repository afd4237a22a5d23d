/- elem.Narrow: its rows are its caller's own. -/
import Derived.Test.YtfcphijidcfboaaWElem5
import Derived.Test.YtfcphijidcfboaaWOther
import Derived.Test.YtfcphijidcfboaaCElemN
namespace Go.Proofs.Ytfcphijidcfboaa
open Av
attribute [local irreducible] awp awpOpers
set_option linter.unusedSimpArgs false
set_option linter.unusedVariables false
set_option maxRecDepth 100000
set_option maxHeartbeats 4000000
theorem elem_NarrowO (c : Con) (D G : List (List Rg)) (hD : D.length ≤ 1000000000000) (hd : ∀ d ∈ D, d.length ≤ 1000000000000) (hc : conFits c) (hG : elemL c D = (G, 0)) :
    Ctr Try.prog 15 [eCon c, eDoms D] [] (.tuple [.sl 1 0 0 G.length, .int .i64 0]) (some (1, rowsM 1 G G.length) :: rowB G) := by
  obtain ⟨K, X, A, C⟩ := c
  refine call_box Try.func15 Try.call15 e_elem_NarrowO ?_
  simp +contextual -implicitDefEqProofs (maxSteps := 1000000) only [c_elem_NarrowO, eCon, eIs, eDoms, sm, sn, sxx, seval]
  refine callA_rule (model_Right (D, [(K, X, A, C)], 0, 0) hD hd (by simp) (by simpa using hc)) (by simp +contextual -implicitDefEqProofs (maxSteps := 1000000) only [sm, sn, sxx, seval, eMod, eCons, eCon, eIs, eDoms, List.map_cons, List.map_nil]) rfl ?_
  cases hm : modB (D, [(K, X, A, C)], 0, 0)
  · have hres : elemL (K, X, A, C) D = ([], 2) := by
      unfold elemL
      rw [if_neg (by simp [hm])]
    rw [hres] at hG
    simp at hG
  by_cases hK : K = 16
  · subst hK
    have hres : elemL (16, X, A, C) D = finE (narE (xat X 0) (lastV0 X) ((chsA A).filter (keepC (rowOf D (xat X 0)) (rowOf D (lastV0 X)))) D) := by
      unfold elemL
      rw [if_pos hm]
      rfl
    rw [hres] at hG
    obtain ⟨L, hL⟩ : ∃ L, chsA A = L := ⟨_, rfl⟩
    obtain ⟨hX2, hAl, hX32, hi, hr, hdm, hAk⟩ := tab_facts hm
    have hd2 : ∀ d ∈ D, d.length ≤ 2000000 := fun d h => by have := dom_len (hdm d h); omega
    obtain ⟨hLl, hLc, hLk, hLg⟩ := chsA_facts hAl hAk
    rw [hL] at hLl hLc hLk hLg
    have ho := elem_of_tab X A C D hD (by omega) (by omega) (by omega)
    rw [hL] at ho
    have hn := elem_narrow (xat X 0) (lastV0 X) L D hi hr hd2 hLc hLl hLk hLg
    rw [hL] at hG
    obtain ⟨E1, hE1⟩ : ∃ E1, narE (xat X 0) (lastV0 X) (L.filter (keepC (rowOf D (xat X 0)) (rowOf D (lastV0 X)))) D = E1 := ⟨_, rfl⟩
    have hE1l : E1.length = D.length := by rw [← hE1]; exact narE_len _ _ _ _
    have hE1r : ∀ d ∈ E1, rightB d = true := by rw [← hE1]; exact narE_right hi hr hdm (fun c h => hLk c (List.mem_filter.1 h).1) (fun c h => hLg c (List.mem_filter.1 h).1)
    have hE1d := right_rows hE1r
    rw [hE1] at hn
    rw [hE1] at hG
    generalize L.filter (keepC (rowOf D (xat X 0)) (rowOf D (lastV0 X))) = K0 at hn hG
    rw [elB_eq] at ho
    rw [elB_eq, elB_eq, hE1l] at hn
    generalize xat X 0 = i at hn ho hG
    generalize lastV0 X = r at hn ho hG
    simp +contextual -implicitDefEqProofs (maxSteps := 1000000) only [sm, sn, sxx, seval, eCon, eIs]
    refine callO_rule ho rfl (by simp +contextual -implicitDefEqProofs (maxSteps := 1000000) only [sm, sn, sxx, seval, eCon, eIs, eDoms]) ?_ ?_ ?_
    · simp +contextual -implicitDefEqProofs (maxSteps := 1000000) only [sm, sn, sxx, seval]
    · simp +contextual -implicitDefEqProofs (maxSteps := 1000000) only [sm, sn, sxx, seval, eCh_flat]
    simp +contextual -implicitDefEqProofs (maxSteps := 1000000) only [sm, sn, sxx, seval, eCh_flat]
    refine callM_rule [1, 2, 3] hn (by decide) ?_ ?_ ?_ ?_ ?_ ?_
    · simp +contextual -implicitDefEqProofs (maxSteps := 1000000) only [sm, sn, sxx, seval, eCh_flat]
    · simp +contextual -implicitDefEqProofs (maxSteps := 1000000) only [sm, sn, sxx, seval]
    · simp +contextual -implicitDefEqProofs (maxSteps := 1000000) only [sm, sn, sxx, seval]
    · simp +contextual -implicitDefEqProofs (maxSteps := 1000000) only [sm, sn, sxx, seval]
    · simp +contextual -implicitDefEqProofs (maxSteps := 1000000) only [sm, sn, sxx, seval, eCh_flat]
    simp +contextual -implicitDefEqProofs (maxSteps := 1000000) only [sm, sn, sxx, seval, eCh_flat, eCon, eIs]
    have hEG : E1 = G ∧ wholeB E1 = true := by
      unfold finE at hG
      cases hw : wholeB E1 <;> rw [hw] at hG <;> simp [tell] at hG
      exact ⟨hG, rfl⟩
    obtain ⟨rfl, hw⟩ := hEG
    have hne : ∀ (k : Nat) (r : List Rg), E1[k]? = some r → ¬ ((r.length : Int) = 0) := by
      intro k r hr h0
      have h0' : r.length = 0 := by omega
      unfold wholeB at hw
      have : E1.any (fun d => decide (d.length = 0)) = true := List.any_eq_true.2 ⟨r, List.mem_of_getElem? hr, by simp [h0']⟩
      rw [this] at hw
      cases hw
    have hB0 : rowB [] = [] := rfl
    have hz0 := rowsM_nil 2
    have hfl : flatL (E1.map eRgs) = true := by have := wasR_flat E1 E1.length; rwa [wasR_full] at this
    rw [← hE1l]
    refine loop_ruleV [(8, 1)] (fun k : Nat => k ≤ E1.length) (fun k => tm 53 [(8, .sl 1 1 0 k), (37, .sl 1 0 0 E1.length), (38, .int .i64 E1.length), (39, .int .i64 k)])
      (fun k => some (1, E1.map eRgs) :: some (1, rowsM 2 (E1.take k) k) :: rowB (E1.take k)) (fun k => E1.length - k) 0 (by simp +contextual -implicitDefEqProofs (maxSteps := 1000000) only [sm, sn, sxx, seval]) (Nat.zero_le _) ⟨[3, 4], by decide, rfl, ?_, ?_⟩ ?_
    · simp +contextual -implicitDefEqProofs (maxSteps := 1000000) only [sm, sn, sxx, seval, List.take_zero, hB0, hz0]
    · simp +contextual -implicitDefEqProofs (maxSteps := 1000000) only [sm, sn, sxx, seval, Int.natCast_zero, List.take_zero, hB0]
    intro k hk
    have hkl : (E1.take k).length = k := by rw [List.length_take]; omega
    have hRl : (rowB (E1.take k)).length = k := by rw [rowB_len, hkl]
    have hrm : (rowsM 2 (E1.take k) k).length = k := by rw [rowsM_len, hkl]
    by_cases hlt : k < E1.length
    · have hlt' : (k : Int) < (E1.length : Int) := by omega
      have e2 : IntKind.i64.wrap ((k : Int) + 1) = ((k + 1 : Nat) : Int) := by rw [wrap_i64] <;> omega
      obtain ⟨r, hr⟩ : ∃ r, E1[k]? = some r := ⟨_, List.getElem?_eq_getElem hlt⟩
      have hs := rowsM_snoc (b := 2) hr
      have h0' := hne k r hr
      have c1 : (k + 1) * 24 ≤ 140737488355328 := by omega
      have c2 : k + 1 ≤ maxLen := by unfold maxLen; omega
      simp +contextual -implicitDefEqProofs (maxSteps := 1000000) only [sm, sn, sxx, seval, hlt', hlt, hr, eRgs, h0']
      have hCl := clone_rgsO r (hE1d r (List.mem_of_getElem? hr))
      refine callO_rule hCl rfl (by simp +contextual -implicitDefEqProofs (maxSteps := 1000000) only [sm, sn, sxx, seval, eRgs]) rfl ?_ ?_
      · simp +contextual -implicitDefEqProofs (maxSteps := 1000000) only [sm, sn, sxx, seval]
      have h2k : (AV.sl 2 (k + 1 + 1) 0 r.length) = .sl 2 (2 + k) 0 r.length := by rw [show k + 1 + 1 = 2 + k by omega]
      have hbg : bxGet (rowB (E1.take k) ++ [some (2, r.map eRg)] ++ [some (1, [AV.sl 2 (2 + k) 0 r.length])]) (k + 1) = some (1, [AV.sl 2 (2 + k) 0 r.length]) := by
        have := bxGet_end (rowB (E1.take k) ++ [some (2, r.map eRg)]) (some (1, [AV.sl 2 (2 + k) 0 r.length]))
        rwa [List.length_append, hRl] at this
      simp +contextual -implicitDefEqProofs (maxSteps := 1000000) only [sm, sn, sxx, seval, eRgs, hkl, hRl, hrm, c1, c2, e2, h2k]
      simp +contextual -implicitDefEqProofs (maxSteps := 1000000) only [sm, sn, sxx, seval, hbg, c1, c2, hrm]
      rw [← hs, rowB_take hr]
      have hR1 : (rowB (E1.take (k + 1))).length = k + 1 := by rw [rowB_len, List.length_take]; omega
      have hg := fun x (hx : x < k + 1) => (getN_eq (0 :: (k + 4) :: List.range' 2 (k + 1)) (2 + x) (2 + x) (by rw [Nat.add_comm 2 x, List.getElem?_cons_succ, List.getElem?_cons_succ, List.getElem?_range' hx]; congr 1; omega))
      refine ⟨k + 1, by omega, by omega, 0 :: (k + 4) :: List.range' 2 (k + 1), ?_, rfl, ?_, ?_⟩
      · rw [List.nodup_cons, List.nodup_cons]
        exact ⟨by simp [List.mem_range']; intro x _; omega, by simp [List.mem_range']; intro x _; omega, List.nodup_range'⟩
      · have he := emb_grow (n := k + 3) (pre := [some (1, E1.map eRgs), none]) (b := 2) (lit := some (1, [AV.sl 2 (2 + k) 0 r.length])) hr rfl hg (by omega)
        simp only [List.length_cons, hR1]
        refine emb_own rfl (renEs_flat _ hfl) (okEs_flat _ hfl) ?_
        rw [show 2 + k + 2 = k + 4 by omega] at he
        exact he
      · simp only [List.length_cons, hR1]
        have q1 : 1 < k + 1 + 1 + 1 := by omega
        have q0 : 0 < k + 1 + 1 + 1 := by omega
        simp +contextual -implicitDefEqProofs (maxSteps := 1000000) only [sm, sn, sxx, seval, q0, q1]
        try rfl
    · have hkn : k = E1.length := by omega
      subst hkn
      rw [List.take_length]
      simp +contextual -implicitDefEqProofs (maxSteps := 1000000) only [sm, sn, sxx, seval, Int.lt_irrefl]
      have hlE := rowB_len E1
      refine ⟨[], 1 :: List.range' 2 E1.length, ?_, ?_⟩
      · rw [List.nodup_cons]
        exact ⟨by simp [List.mem_range']; intro x _; omega, List.nodup_range'⟩
      · rw [hlE]
        try simp only [hol]
        have hg := fun x (hx : x < E1.length) => (getN_eq (1 :: List.range' 2 E1.length) (1 + x) (2 + x) (by rw [Nat.add_comm 1 x, List.getElem?_cons_succ, List.getElem?_range' hx]; congr 1; omega))
        have key := fun bx h1 h2 => emb_rows (n := E1.length + 1) (ix := 1 :: List.range' 2 E1.length) (bx := bx) (rowB E1) 2 (rowB_flat E1) h1 h2
        simp only [hlE] at key
        exact ⟨emb_own rfl (rowsM_reW (p := 1) (q := 2) hg) (rowsM_ok (by omega)) (key _ (fun j _ => bxGet_pre [_, _] (rowB E1) j) (by simp only [List.length_cons, hlE]; omega)), by omega, rfl⟩
  by_cases hK : K = 17
  · subst hK
    have hres : elemL (17, X, A, C) D = finE (choE X (xat X 0) (lastV0 X) (narE (xat X 0) (lastV0 X) ((chsX D ((X.take (X.length - 1)).drop 1)).filter (keepC (rowOf D (xat X 0)) (rowOf D (lastV0 X)))) D)) := by
      unfold elemL
      rw [if_pos hm]
      rfl
    rw [hres] at hG
    obtain ⟨L, hL⟩ : ∃ L, chsX D ((X.take (X.length - 1)).drop 1) = L := ⟨_, rfl⟩
    obtain ⟨hX3, hA0, hX32, hI, hi, hr, hdm⟩ := var_facts hm
    have hd2 : ∀ d ∈ D, d.length ≤ 2000000 := fun d h => by have := dom_len (hdm d h); omega
    obtain ⟨hLl, hLc, hLk, hLg⟩ := chsX_facts hX3 hX32 hI hdm
    rw [hL] at hLl hLc hLk hLg
    have ho := elem_of_var X A C D hD (by omega) (by omega) (by omega) hX3 hI
    rw [hL] at ho
    have hn := elem_narrow (xat X 0) (lastV0 X) L D hi hr hd2 hLc hLl hLk hLg
    rw [hL] at hG
    obtain ⟨E1, hE1⟩ : ∃ E1, narE (xat X 0) (lastV0 X) (L.filter (keepC (rowOf D (xat X 0)) (rowOf D (lastV0 X)))) D = E1 := ⟨_, rfl⟩
    have hE1l : E1.length = D.length := by rw [← hE1]; exact narE_len _ _ _ _
    have hE1r : ∀ d ∈ E1, rightB d = true := by rw [← hE1]; exact narE_right hi hr hdm (fun c h => hLk c (List.mem_filter.1 h).1) (fun c h => hLg c (List.mem_filter.1 h).1)
    have hE1d := right_rows hE1r
    have hvo := var_one (p := keepC (rowOf D (xat X 0)) (rowOf D (lastV0 X))) hX3 hX32 hI hi hr hdm
    rw [hL, hE1] at hvo
    have hch := elem_chosen X (xat X 0) (lastV0 X) (L.filter (keepC (rowOf D (xat X 0)) (rowOf D (lastV0 X)))) E1 (by omega) (by omega) hE1d (fun a b => by rw [hE1l]; exact hvo a b)
    rw [hE1] at hn
    rw [hE1] at hG
    generalize L.filter (keepC (rowOf D (xat X 0)) (rowOf D (lastV0 X))) = K0 at hn hch hG
    rw [elB_eq] at ho
    rw [elB_eq, elB_eq, hE1l] at hn
    generalize xat X 0 = i at hn ho hch hG
    generalize lastV0 X = r at hn ho hch hG
    simp +contextual -implicitDefEqProofs (maxSteps := 1000000) only [sm, sn, sxx, seval, eCon, eIs]
    refine callO_rule ho rfl (by simp +contextual -implicitDefEqProofs (maxSteps := 1000000) only [sm, sn, sxx, seval, eCon, eIs, eDoms]) ?_ ?_ ?_
    · simp +contextual -implicitDefEqProofs (maxSteps := 1000000) only [sm, sn, sxx, seval]
    · simp +contextual -implicitDefEqProofs (maxSteps := 1000000) only [sm, sn, sxx, seval, eCh_flat]
    simp +contextual -implicitDefEqProofs (maxSteps := 1000000) only [sm, sn, sxx, seval, eCh_flat]
    refine callM_rule [1, 2, 3] hn (by decide) ?_ ?_ ?_ ?_ ?_ ?_
    · simp +contextual -implicitDefEqProofs (maxSteps := 1000000) only [sm, sn, sxx, seval, eCh_flat]
    · simp +contextual -implicitDefEqProofs (maxSteps := 1000000) only [sm, sn, sxx, seval]
    · simp +contextual -implicitDefEqProofs (maxSteps := 1000000) only [sm, sn, sxx, seval]
    · simp +contextual -implicitDefEqProofs (maxSteps := 1000000) only [sm, sn, sxx, seval]
    · simp +contextual -implicitDefEqProofs (maxSteps := 1000000) only [sm, sn, sxx, seval, eCh_flat]
    simp +contextual -implicitDefEqProofs (maxSteps := 1000000) only [sm, sn, sxx, seval, eCh_flat, eCon, eIs]
    obtain ⟨E2, hE2⟩ : ∃ E2, choE X i r E1 = E2 := ⟨_, rfl⟩
    have hE2l : E2.length = D.length := by rw [← hE2, choE_len, hE1l]
    have hE2d : ∀ d ∈ E2, d.length ≤ 1000000000000 := by rw [← hE2]; exact right_rows (choE_right hE1r)
    rw [elB_eq, elB_eq, hE2, hE2l, hE1l] at hch
    rw [hE2] at hG
    refine callM_rule [1, 2, 3] hch (by decide) ?_ ?_ ?_ ?_ ?_ ?_
    · simp +contextual -implicitDefEqProofs (maxSteps := 1000000) only [sm, sn, sxx, seval, eCh_flat]
    · simp +contextual -implicitDefEqProofs (maxSteps := 1000000) only [sm, sn, sxx, seval]
    · simp +contextual -implicitDefEqProofs (maxSteps := 1000000) only [sm, sn, sxx, seval]
    · simp +contextual -implicitDefEqProofs (maxSteps := 1000000) only [sm, sn, sxx, seval]
    · simp +contextual -implicitDefEqProofs (maxSteps := 1000000) only [sm, sn, sxx, seval, eCh_flat]
    simp +contextual -implicitDefEqProofs (maxSteps := 1000000) only [sm, sn, sxx, seval, eCh_flat]
    have hEG : E2 = G ∧ wholeB E2 = true := by
      unfold finE at hG
      cases hw : wholeB E2 <;> rw [hw] at hG <;> simp [tell] at hG
      exact ⟨hG, rfl⟩
    obtain ⟨rfl, hw⟩ := hEG
    have hne : ∀ (k : Nat) (r : List Rg), E2[k]? = some r → ¬ ((r.length : Int) = 0) := by
      intro k r hr h0
      have h0' : r.length = 0 := by omega
      unfold wholeB at hw
      have : E2.any (fun d => decide (d.length = 0)) = true := List.any_eq_true.2 ⟨r, List.mem_of_getElem? hr, by simp [h0']⟩
      rw [this] at hw
      cases hw
    have hB0 : rowB [] = [] := rfl
    have hz0 := rowsM_nil 2
    have hfl : flatL (E2.map eRgs) = true := by have := wasR_flat E2 E2.length; rwa [wasR_full] at this
    rw [← hE2l]
    refine loop_ruleV [(8, 1)] (fun k : Nat => k ≤ E2.length) (fun k => tm 53 [(8, .sl 1 1 0 k), (37, .sl 1 0 0 E2.length), (38, .int .i64 E2.length), (39, .int .i64 k)])
      (fun k => some (1, E2.map eRgs) :: some (1, rowsM 2 (E2.take k) k) :: rowB (E2.take k)) (fun k => E2.length - k) 0 (by simp +contextual -implicitDefEqProofs (maxSteps := 1000000) only [sm, sn, sxx, seval]) (Nat.zero_le _) ⟨[3, 4], by decide, rfl, ?_, ?_⟩ ?_
    · simp +contextual -implicitDefEqProofs (maxSteps := 1000000) only [sm, sn, sxx, seval, List.take_zero, hB0, hz0]
    · simp +contextual -implicitDefEqProofs (maxSteps := 1000000) only [sm, sn, sxx, seval, Int.natCast_zero, List.take_zero, hB0]
    intro k hk
    have hkl : (E2.take k).length = k := by rw [List.length_take]; omega
    have hRl : (rowB (E2.take k)).length = k := by rw [rowB_len, hkl]
    have hrm : (rowsM 2 (E2.take k) k).length = k := by rw [rowsM_len, hkl]
    by_cases hlt : k < E2.length
    · have hlt' : (k : Int) < (E2.length : Int) := by omega
      have e2 : IntKind.i64.wrap ((k : Int) + 1) = ((k + 1 : Nat) : Int) := by rw [wrap_i64] <;> omega
      obtain ⟨r, hr⟩ : ∃ r, E2[k]? = some r := ⟨_, List.getElem?_eq_getElem hlt⟩
      have hs := rowsM_snoc (b := 2) hr
      have h0' := hne k r hr
      have c1 : (k + 1) * 24 ≤ 140737488355328 := by omega
      have c2 : k + 1 ≤ maxLen := by unfold maxLen; omega
      simp +contextual -implicitDefEqProofs (maxSteps := 1000000) only [sm, sn, sxx, seval, hlt', hlt, hr, eRgs, h0']
      have hCl := clone_rgsO r (hE2d r (List.mem_of_getElem? hr))
      refine callO_rule hCl rfl (by simp +contextual -implicitDefEqProofs (maxSteps := 1000000) only [sm, sn, sxx, seval, eRgs]) rfl ?_ ?_
      · simp +contextual -implicitDefEqProofs (maxSteps := 1000000) only [sm, sn, sxx, seval]
      have h2k : (AV.sl 2 (k + 1 + 1) 0 r.length) = .sl 2 (2 + k) 0 r.length := by rw [show k + 1 + 1 = 2 + k by omega]
      have hbg : bxGet (rowB (E2.take k) ++ [some (2, r.map eRg)] ++ [some (1, [AV.sl 2 (2 + k) 0 r.length])]) (k + 1) = some (1, [AV.sl 2 (2 + k) 0 r.length]) := by
        have := bxGet_end (rowB (E2.take k) ++ [some (2, r.map eRg)]) (some (1, [AV.sl 2 (2 + k) 0 r.length]))
        rwa [List.length_append, hRl] at this
      simp +contextual -implicitDefEqProofs (maxSteps := 1000000) only [sm, sn, sxx, seval, eRgs, hkl, hRl, hrm, c1, c2, e2, h2k]
      simp +contextual -implicitDefEqProofs (maxSteps := 1000000) only [sm, sn, sxx, seval, hbg, c1, c2, hrm]
      rw [← hs, rowB_take hr]
      have hR1 : (rowB (E2.take (k + 1))).length = k + 1 := by rw [rowB_len, List.length_take]; omega
      have hg := fun x (hx : x < k + 1) => (getN_eq (0 :: (k + 4) :: List.range' 2 (k + 1)) (2 + x) (2 + x) (by rw [Nat.add_comm 2 x, List.getElem?_cons_succ, List.getElem?_cons_succ, List.getElem?_range' hx]; congr 1; omega))
      refine ⟨k + 1, by omega, by omega, 0 :: (k + 4) :: List.range' 2 (k + 1), ?_, rfl, ?_, ?_⟩
      · rw [List.nodup_cons, List.nodup_cons]
        exact ⟨by simp [List.mem_range']; intro x _; omega, by simp [List.mem_range']; intro x _; omega, List.nodup_range'⟩
      · have he := emb_grow (n := k + 3) (pre := [some (1, E2.map eRgs), none]) (b := 2) (lit := some (1, [AV.sl 2 (2 + k) 0 r.length])) hr rfl hg (by omega)
        simp only [List.length_cons, hR1]
        refine emb_own rfl (renEs_flat _ hfl) (okEs_flat _ hfl) ?_
        rw [show 2 + k + 2 = k + 4 by omega] at he
        exact he
      · simp only [List.length_cons, hR1]
        have q1 : 1 < k + 1 + 1 + 1 := by omega
        have q0 : 0 < k + 1 + 1 + 1 := by omega
        simp +contextual -implicitDefEqProofs (maxSteps := 1000000) only [sm, sn, sxx, seval, q0, q1]
        try rfl
    · have hkn : k = E2.length := by omega
      subst hkn
      rw [List.take_length]
      simp +contextual -implicitDefEqProofs (maxSteps := 1000000) only [sm, sn, sxx, seval, Int.lt_irrefl]
      have hlE := rowB_len E2
      refine ⟨[], 1 :: List.range' 2 E2.length, ?_, ?_⟩
      · rw [List.nodup_cons]
        exact ⟨by simp [List.mem_range']; intro x _; omega, List.nodup_range'⟩
      · rw [hlE]
        try simp only [hol]
        have hg := fun x (hx : x < E2.length) => (getN_eq (1 :: List.range' 2 E2.length) (1 + x) (2 + x) (by rw [Nat.add_comm 1 x, List.getElem?_cons_succ, List.getElem?_range' hx]; congr 1; omega))
        have key := fun bx h1 h2 => emb_rows (n := E2.length + 1) (ix := 1 :: List.range' 2 E2.length) (bx := bx) (rowB E2) 2 (rowB_flat E2) h1 h2
        simp only [hlE] at key
        exact ⟨emb_own rfl (rowsM_reW (p := 1) (q := 2) hg) (rowsM_ok (by omega)) (key _ (fun j _ => bxGet_pre [_, _] (rowB E2) j) (by simp only [List.length_cons, hlE]; omega)), by omega, rfl⟩
  have hres : elemL (K, X, A, C) D = ([], 10) := by
    unfold elemL
    rw [if_pos hm]
    rename_i h16
    rw [if_neg h16, if_neg hK]
  rw [hres] at hG
  simp at hG
end Go.Proofs.Ytfcphijidcfboaa
