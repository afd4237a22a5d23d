/- What the functions of package hall compute: Narrow. -/
import Derived.Test.YtonkcemcledhiaaWHall3
import Derived.Test.YtonkcemcledhiaaGSet
import Derived.Test.YtonkcemcledhiaaCHallN
namespace Go.Proofs.Ytonkcemcledhiaa
open Av
attribute [local irreducible] awp awpOpers
set_option linter.unusedSimpArgs false
set_option linter.unusedVariables false
set_option maxRecDepth 100000
set_option maxHeartbeats 4000000
theorem hall_Narrow (c : Con) (D : List (List Rg)) (hD : D.length ≤ 1000000000000) (hd : ∀ d ∈ D, d.length ≤ 1000000000000) (hc : conFits c) :
    Ctr Try.prog 31 [eCon c, eDoms D] [] (.tuple [eDoms (hallL c D).1, .int .i64 (hallL c D).2]) [] := by
  obtain ⟨K, X, A, C⟩ := c
  refine call_pure Try.func31 Try.call31 e_hall_Narrow ?_
  simp +contextual -implicitDefEqProofs (maxSteps := 1000000) only [c_hall_Narrow, eCon, eIs, eDoms, sm, sn, sxx, seval]
  refine callA_rule (model_Right (D, [(K, X, A, C)], 0, 0) hD hd (by simp) (by simpa using hc)) (by simp +contextual -implicitDefEqProofs (maxSteps := 1000000) only [sm, sn, sxx, seval, eMod, eCons, eCon, eIs, eDoms, List.map_cons, List.map_nil]) rfl ?_
  cases hm : modB (D, [(K, X, A, C)], 0, 0)
  · have hres : hallL (K, X, A, C) D = ([], 2) := by
      unfold hallL
      rw [if_neg (by simp [hm])]
    rw [hres]
    simp +contextual -implicitDefEqProofs (maxSteps := 1000000) only [sm, sn, sxx, seval, eDoms]
  obtain ⟨f1, f2, f3⟩ := one_facts hm
  obtain ⟨g1, g2, g3, g4, g5⟩ := may_facts f3
  simp only at g2 g3
  by_cases hK : K = 18
  rotate_left
  · have hres : hallL (K, X, A, C) D = ([], 10) := by
      unfold hallL
      rw [if_pos hm, if_neg (by simp only; omega)]
    rw [hres]
    simp +contextual -implicitDefEqProofs (maxSteps := 1000000) only [sm, sn, sxx, seval, eCon, eIs, hK, eDoms]
  subst hK
  have hen : ∀ k, k < X.length → endRows D X = (endRows D X) := fun _ _ => rfl
  have hll := endRows_len D X
  simp +contextual -implicitDefEqProofs (maxSteps := 1000000) only [sm, sn, sxx, seval, eCon, eIs]
  refine loop_ruleV [(6, 2)] (fun k : Nat => k ≤ X.length) (fun k => tm 102 [(1, .list 1 (D.map eRgs)), (2, .ptr 4 0 0 0), (6, .sl 2 1 0 k), (28, .list 1 (X.map eI)), (29, .int .i64 X.length), (30, .int .i64 k)])
    (fun k => [some (4, [eCon (18, X, A, C)]), some (2, ((endRows D X).take k).map eRg)]) (fun k => X.length - k) 0 (by simp +contextual -implicitDefEqProofs (maxSteps := 1000000) only [sm, sn, sxx, seval]) (Nat.zero_le _) ⟨[0, 1], by decide, rfl, ?_, ?_⟩ ?_
  · simp +contextual -implicitDefEqProofs (maxSteps := 1000000) only [sm, sn, sxx, seval, eCon, eIs, List.take_zero, List.map_nil]
  · simp +contextual -implicitDefEqProofs (maxSteps := 1000000) only [sm, sn, sxx, seval, Int.natCast_zero]
  · intro k hk
    by_cases hlt : k < X.length
    · have hlt' : (k : Int) < (X.length : Int) := by omega
      have e2 : IntKind.i64.wrap ((k : Int) + 1) = ((k + 1 : Nat) : Int) := by rw [wrap_i64] <;> omega
      have hx := xat_get hlt
      have hin := g3 k hlt
      have hr := row_get hin
      have h0 := hin.1
      have hlen := hd _ (row_mem hin)
      have he := endRows_get (D := D) hlt
      have hsn := take_snoc he
      have htl : ((endRows D X).take k).length = k := by rw [List.length_take, hll]; omega
      have c1 : (k + 1) * 16 ≤ 140737488355328 := by omega
      have c2 : k + 1 ≤ maxLen := by unfold maxLen; omega
      generalize hxx : xat X k = x at hx hin hr h0 hlen he hsn
      generalize rowOf D x = row at hr hlen he hsn
      obtain ⟨⟨p, q⟩, hpq⟩ : ∃ y, endsV row = y := ⟨_, rfl⟩
      rw [hpq] at hsn
      simp +contextual -implicitDefEqProofs (maxSteps := 1000000) only [sm, sn, sxx, seval, eCon, eIs, hlt', hlt, hx, h0, hr]
      refine callA_rule (set_Ends row hlen) (wkL_refl _) rfl ?_
      rw [hpq]
      simp +contextual -implicitDefEqProofs (maxSteps := 1000000) only [sm, sn, sxx, seval, eRg, e2, c1, c2, htl, List.length_map]
      refine ⟨k + 1, by omega, by omega, [0, 3], by decide, rfl, ?_, ?_⟩
      · simp +contextual -implicitDefEqProofs (maxSteps := 1000000) only [sm, sn, sxx, seval, eCon, eIs, hsn]
      · simp +contextual -implicitDefEqProofs (maxSteps := 1000000) only [sm, sn, sxx, seval]
    · have hkn : k = X.length := by omega
      subst hkn
      rw [show (endRows D X).take X.length = endRows D X by rw [← hll, List.take_length]]
      have htk : List.take X.length ((endRows D X).map eRg) = (endRows D X).map eRg := by
        have := take_map eRg (endRows D X)
        rwa [hll] at this
      simp +contextual -implicitDefEqProofs (maxSteps := 1000000) only [sm, sn, sxx, seval, Int.lt_irrefl]
      refine callV_rule (hall_Room (endRows D X) (by omega)) ?_ rfl ?_
      · simp +contextual -implicitDefEqProofs (maxSteps := 1000000) only [sm, sn, sxx, seval, eRgs, hll, htk]
      cases hroom : roomB (endRows D X)
      · have hres : hallL (18, X, A, C) D = ([], 12) := by
          unfold hallL
          rw [if_pos hm, if_pos rfl, if_neg (by simp [hroom])]
        rw [hres]
        simp +contextual -implicitDefEqProofs (maxSteps := 1000000) only [sm, sn, sxx, seval, eDoms]
      have hF : ∀ r ∈ endRows D X, r.1 ≤ r.2 ∧ -1048576 ≤ r.1 ∧ r.2 ≤ 1048576 := by
        unfold roomB at hroom
        simp only [Bool.and_eq_true, decide_eq_true_eq] at hroom
        exact fun r hr => okRg_facts (List.all_eq_true.1 hroom.1.2 r hr)
      have hres : hallL (18, X, A, C) D = tell (hallN (endRows D X) D X X.length, wholeB (hallN (endRows D X) D X X.length)) := by
        unfold hallL
        rw [if_pos hm, if_pos rfl, if_pos hroom]
      rw [hres]
      generalize endRows D X = L at hll hF htk ⊢
      simp +contextual -implicitDefEqProofs (maxSteps := 1000000) only [sm, sn, sxx, seval]
      refine callO_rule (clone_doms D hD) rfl (wkL_refl _) rfl ?_ ?_
      · simp +contextual -implicitDefEqProofs (maxSteps := 1000000) only [sm, sn, sxx, seval]
      simp +contextual -implicitDefEqProofs (maxSteps := 1000000) only [sm, sn, sxx, seval, eCon, eIs]
      refine loop_freeze [6] ?_
      simp +contextual -implicitDefEqProofs (maxSteps := 1000000) only [sm, sn, sxx, seval, hll, flatL_eRg, List.length_map, List.drop_zero, htk]
      refine loop_rule (fun k : Nat => k ≤ X.length) (fun k => tm 102 [(6, .list 2 (L.map eRg)), (11, .sl 1 0 0 D.length), (53, .list 1 (X.map eI)), (54, .int .i64 X.length), (55, .int .i64 k)])
        (fun k => [some (1, (hallN L D X k).map eRgs)]) (fun k => X.length - k) 0 (Nat.zero_le _) ⟨[2], by decide, rfl, ?_, ?_⟩ ?_
      · simp +contextual -implicitDefEqProofs (maxSteps := 1000000) only [sm, sn, sxx, seval, hallN]
      · simp +contextual -implicitDefEqProofs (maxSteps := 1000000) only [sm, sn, sxx, seval, Int.natCast_zero]
      · intro k hk
        by_cases hlt : k < X.length
        · have hlt' : (k : Int) < (X.length : Int) := by omega
          have e2 : IntKind.i64.wrap ((k : Int) + 1) = ((k + 1 : Nat) : Int) := by rw [wrap_i64] <;> omega
          have hkl : k < L.length := by omega
          have hx := xat_get hlt
          have hin := g3 k hlt
          have hEl := hallN_len L D X k
          have hEd := hallN_rows (l := L) (X := X) hd k
          have hnx : hallN L D X (k + 1) = (hallN L D X k).set (xat X k).toNat (cutS (tightV L k).1 (tightV L k).2 (rowOf (hallN L D X k) (xat X k))) := rfl
          have hLk := rgAt_get hkl
          have htt : tightV L k = trimV (sortV (fullU (L.eraseIdx k) (L.eraseIdx k))) (rgAt L k) := (trim_perm (sortV_perm _) _).symm
          generalize hallN L D X k = E at hEl hEd hnx ⊢
          have hr := row_get (D := E) (x := xat X k) (by omega)
          have hrl : (rowOf E (xat X k)).length ≤ 1000000000000 := hEd _ (List.mem_of_getElem? hr)
          have h0 := hin.1
          have hxn : (xat X k).toNat < D.length := by omega
          generalize xat X k = x at hx hin hnx hr hrl h0 hxn ⊢
          generalize rowOf E x = row at hnx hr hrl ⊢
          have hB : InB (sortV (fullU (L.eraseIdx k) (L.eraseIdx k))) := by
            intro s hs
            obtain ⟨p, hp, q, hq, -, rfl⟩ := mem_fullU.1 ((sortV_perm _).mem_iff.1 hs)
            have b1 := hF p (List.mem_of_mem_eraseIdx hp)
            have b2 := hF q (List.mem_of_mem_eraseIdx hq)
            exact ⟨b1.2.1, b2.2.2⟩
          have hrk := hF _ (List.mem_of_getElem? hLk)
          have hUl : (sortV (fullU (L.eraseIdx k) (L.eraseIdx k))).length ≤ 1000000000000 := by
            rw [(sortV_perm _).length_eq]
            have a1 := fullU_len (L.eraseIdx k) (L.eraseIdx k)
            have a2 : (L.eraseIdx k).length ≤ 32 := by rw [List.length_eraseIdx]; split <;> omega
            have a3 := Nat.mul_le_mul a2 a2
            omega
          obtain ⟨⟨p, q⟩, hpq⟩ : ∃ y, rgAt L k = y := ⟨_, rfl⟩
          obtain ⟨⟨t1, t2⟩, ht⟩ : ∃ y, tightV L k = y := ⟨_, rfl⟩
          rw [hpq] at hLk hrk htt
          rw [ht] at hnx htt
          simp only at hnx hrk
          simp +contextual -implicitDefEqProofs (maxSteps := 1000000) only [sm, sn, sxx, seval, hlt', hlt, hkl, hx, hLk]
          refine callA_rule (hall_full L k hkl (by omega) hF) (wkL_refl _) rfl ?_
          simp +contextual -implicitDefEqProofs (maxSteps := 1000000) only [sm, sn, sxx, seval, eRgs]
          refine callA_rule (hall_ends (p, q) _ hUl hB ⟨by simp only; omega, by simp only; omega⟩) (wkL_refl _) rfl ?_
          rw [← htt]
          simp +contextual -implicitDefEqProofs (maxSteps := 1000000) only [sm, sn, sxx, seval, eRg, hEl, h0, hr, hxn]
          refine callA_rule (set_Cut row t1 t2 hrl) (wkL_refl _) rfl ?_
          simp +contextual -implicitDefEqProofs (maxSteps := 1000000) only [sm, sn, sxx, seval, eRgs, hEl, h0, hr, hxn, e2, set_rowH, List.length_map]
          refine ⟨k + 1, by omega, by omega, [0], by decide, rfl, ?_, ?_⟩
          · simp +contextual -implicitDefEqProofs (maxSteps := 1000000) only [sm, sn, sxx, seval, hnx]
            try rfl
          · simp +contextual -implicitDefEqProofs (maxSteps := 1000000) only [sm, sn, sxx, seval]
        · have hkn : k = X.length := by omega
          subst hkn
          have hEl := hallN_len L D X X.length
          have hEd := hallN_rows (l := L) (X := X) hd X.length
          generalize hallN L D X X.length = E at hEl hEd ⊢
          rw [← hEl]
          simp +contextual -implicitDefEqProofs (maxSteps := 1000000) only [sm, sn, sxx, seval, Int.lt_irrefl]
          refine loop_rule (fun k : Nat => k ≤ E.length ∧ ∀ (j : Nat) x, j < k → E[j]? = some x → (fun d : List Rg => !decide (d.length = 0)) x = true) (fun k => tm 102 [(11, .sl 1 0 0 E.length), (82, .int .i64 E.length), (83, .int .i64 k)]) (fun k => [some (1, E.map eRgs)]) (fun k => E.length - k) 0 ⟨by omega, by omega⟩ ⟨[0], by decide, rfl, ?_, ?_⟩ ?_
          · simp +contextual -implicitDefEqProofs (maxSteps := 1000000) only [sm, sn, sxx, seval]
          · simp +contextual -implicitDefEqProofs (maxSteps := 1000000) only [sm, sn, sxx, seval, Int.natCast_zero]
          · rintro k ⟨hk, hok⟩
            by_cases hlt : k < E.length
            · obtain ⟨r, hx⟩ : ∃ r, E[k]? = some r := ⟨_, List.getElem?_eq_getElem hlt⟩
              have hlt' : (k : Int) < (E.length : Int) := by omega
              have e2 : IntKind.i64.wrap ((k : Int) + 1) = ((k + 1 : Nat) : Int) := by rw [wrap_i64] <;> omega
              by_cases h0 : r.length = 0
              · have hno := listall_no (p := fun d : List Rg => !decide (d.length = 0)) hx (by simp [h0])
                have hw : wholeB E = false := by
                  unfold wholeB
                  rw [← List.not_any_eq_all_not] at hno
                  simpa using hno
                rw [hw]
                have h0' : (r.length : Int) = 0 := by omega
                simp +contextual -implicitDefEqProofs (maxSteps := 1000000) only [sm, sn, sxx, seval, hlt', hlt, hx, h0', tell, eDoms]
              · have h0' : ¬ (r.length : Int) = 0 := by omega
                have hrs := rows_sameH hx
                simp +contextual -implicitDefEqProofs (maxSteps := 1000000) only [sm, sn, sxx, seval, hlt', hlt, hx, h0']
                refine callA_rule (clone_rgs r (hEd r (List.mem_of_getElem? hx))) (wkL_refl _) rfl ?_
                simp +contextual -implicitDefEqProofs (maxSteps := 1000000) only [sm, sn, sxx, seval, hlt', hlt, hx, eRgs, hrs, e2]
                refine ⟨k + 1, ⟨by omega, ?_⟩, by omega, [0], by decide, rfl, ?_, ?_⟩
                · intro j y hj hy
                  rcases Nat.lt_succ_iff_lt_or_eq.1 hj with h | rfl
                  · first | exact hok j y h hy | simpa using hok j y h hy
                  · rw [hx] at hy; injection hy with hy; subst hy; simp [h0]
                · simp +contextual -implicitDefEqProofs (maxSteps := 1000000) only [sm, sn, sxx, seval]
                · simp +contextual -implicitDefEqProofs (maxSteps := 1000000) only [sm, sn, sxx, seval]
            · have hke : k = E.length := by omega
              subst hke
              have hall := listall_yes hok
              have hw : wholeB E = true := by
                unfold wholeB
                rw [← List.not_any_eq_all_not] at hall
                simpa using hall
              rw [hw]
              simp +contextual -implicitDefEqProofs (maxSteps := 1000000) only [sm, sn, sxx, seval, Int.lt_irrefl, tell, eDoms]

end Go.Proofs.Ytonkcemcledhiaa
