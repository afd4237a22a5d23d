/- What the functions of package touchstoneref16 compute. -/
import Derived.Test.YtfcphijidcfboaaWRef09o
import Derived.Test.YtfcphijidcfboaaWElem5
import Derived.Test.YtfcphijidcfboaaGRef09
import Derived.Test.YtfcphijidcfboaaGRef12
import Derived.Test.YtfcphijidcfboaaWRef12k
import Derived.Test.YtfcphijidcfboaaWRef17b
import Derived.Test.YtfcphijidcfboaaWFrz
import Derived.Test.YtfcphijidcfboaaGRef08
import Derived.Test.YtfcphijidcfboaaCRef16
namespace Go.Proofs.Ytfcphijidcfboaa
open Av
attribute [local irreducible] awp awpOpers
set_option linter.unusedSimpArgs false
set_option linter.unusedVariables false
set_option maxRecDepth 100000
set_option maxHeartbeats 4000000
theorem ref09_OfO (l : List Rg) (hl : l.length ≤ 1000000000000) (hg : ∀ r ∈ l, r.1 ≤ r.2 ∧ InR r) : Ctr Try.prog 82 [.sl 2 0 0 l.length] [some (2, l.map eRg)] (.tuple [eRgs (mergeS (sortV l)), .int .i64 0]) [none] := by
  have t1 : List.take l.length (l.map eRg) = l.map eRg := take_map _ _
  refine ctr_frz [] [0] (ctr_more (bs := [none]) (ref09_Of l hl hg) rfl rfl) rfl ?_ ?_
  · intro k hk
    have : k = 0 := by simp at hk; omega
    subst this; simp
  · intro j v v' hv hv'
    have hj : j = 0 := by
      rcases Nat.lt_or_ge j 1 with h | h
      · omega
      · rw [List.getElem?_eq_none (by simpa using h)] at hv; cases hv
    subst hj
    injection hv with hv; injection hv' with hv'; subst hv; subst hv'
    right
    simp +contextual -implicitDefEqProofs (maxSteps := 1000000) only [sm, sn, sxx, seval, eRgs, killL, t1]
theorem ref16_choices (K : Int) (X A : List Int) (C : Int) (n : Nat) (hX : X.length ≤ 1000000000000) (hA : A.length ≤ 1000000000000) (hn : K = 16 ∧ n = A.length ∨ K ≠ 16 ∧ n + 2 = X.length) : Ctr Try.prog 80 [eCon (K, X, A, C)] [] (.int .i64 n) [] := by
  refine call_pure Try.func80 Try.call80 e_ref16_choices ?_
  rcases hn with ⟨rfl, rfl⟩ | ⟨hK, hn⟩
  · simp +contextual -implicitDefEqProofs (maxSteps := 1000000) only [c_ref16_choices, eCon, eIs, sm, sn, sxx, seval]
  · have w1 : IntKind.i64.wrap ((X.length : Int) - 2) = (n : Int) := by rw [wrap_i64] <;> omega
    have hK' : (K = 16) = False := by simp [hK]
    simp +contextual -implicitDefEqProofs (maxSteps := 1000000) only [c_ref16_choices, eCon, eIs, sm, sn, sxx, seval, hK', w1]
theorem ref16_choiceT (X A : List Int) (C : Int) (D : List (List Rg)) (k : Nat) (hk : k < A.length) (hA : A.length ≤ 1000000000000) : Ctr Try.prog 81 [eCon (16, X, A, C), eDoms D, .int .i64 ((k + 1 : Nat) : Int)] [] (eRgs [(xat A k, xat A k)]) [] := by
  refine call_pure Try.func81 Try.call81 e_ref16_choice ?_
  have w1 : IntKind.i64.wrap (((k + 1 : Nat) : Int) - 1) = (k : Int) := by rw [wrap_i64] <;> omega
  have ha := xat_get hk
  simp +contextual -implicitDefEqProofs (maxSteps := 1000000) only [c_ref16_choice, eCon, eIs, eDoms, eRgs, eRg, sm, sn, sxx, seval, w1, ha]
theorem ref16_choiceV (K : Int) (X A : List Int) (C : Int) (D : List (List Rg)) (k : Nat) (hK : K ≠ 16) (hk : k + 1 < X.length) (hx : 0 ≤ xat X (k + 1) ∧ xat X (k + 1) < D.length) : Ctr Try.prog 81 [eCon (K, X, A, C), eDoms D, .int .i64 ((k + 1 : Nat) : Int)] [] (eRgs (rowOf D (xat X (k + 1)))) [] := by
  refine call_pure Try.func81 Try.call81 e_ref16_choice ?_
  have hK' : (K = 16) = False := by simp [hK]
  have ha := xat_get hk
  have hr := row_get hx
  have h0 := hx.1
  simp +contextual -implicitDefEqProofs (maxSteps := 1000000) only [c_ref16_choice, eCon, eIs, eDoms, eRgs, sm, sn, sxx, seval, hK', ha, hr, h0]
/-- what narrow of the reference leaves -/
def rnarE (K : Int) (X : List Int) (L : List Ch) (D : List (List Rg)) : List (List Rg) :=
  if wholeB (narE (xat X 0) (lastV0 X) (L.filter (keepC (rowOf D (xat X 0)) (rowOf D (lastV0 X)))) D) = true ∧ K ≠ 16 then choE X (xat X 0) (lastV0 X) (narE (xat X 0) (lastV0 X) (L.filter (keepC (rowOf D (xat X 0)) (rowOf D (lastV0 X)))) D)
  else narE (xat X 0) (lastV0 X) (L.filter (keepC (rowOf D (xat X 0)) (rowOf D (lastV0 X)))) D
theorem ref16_narrow (K : Int) (X A : List Int) (C : Int) (D : List (List Rg)) (L : List Ch) (hD : D.length ≤ 1000000000000) (hX : 2 ≤ X.length ∧ X.length ≤ 1000) (hi : 0 ≤ xat X 0 ∧ xat X 0 < D.length) (hr : 0 ≤ lastV0 X ∧ lastV0 X < D.length) (hdm : ∀ d ∈ D, domB d = true)
    (hLl : L.length ≤ 500) (hLc : ∀ c ∈ L, c.2.length ≤ 2000000) (hLk : ∀ c ∈ L, -1048576 ≤ c.1 ∧ c.1 ≤ 1048576) (hLg : ∀ c ∈ L, ∀ q ∈ c.2, q.1 ≤ q.2 ∧ InR q)
    (hn : Ctr Try.prog 80 [eCon (K, X, A, C)] [] (.int .i64 L.length) [])
    (hch : ∀ (k : Nat) v row, L[k]? = some (v, row) → v = ((k + 1 : Nat) : Int) ∧ Ctr Try.prog 81 [eCon (K, X, A, C), eDoms D, .int .i64 ((k + 1 : Nat) : Int)] [] (eRgs row) [])
    (hone : K ≠ 16 → ∀ E, E = narE (xat X 0) (lastV0 X) (L.filter (keepC (rowOf D (xat X 0)) (rowOf D (lastV0 X)))) D → endsB (rowOf E (xat X 0)) = true → (endsV (rowOf E (xat X 0))).1 = (endsV (rowOf E (xat X 0))).2 →
      (0 ≤ (endsV (rowOf E (xat X 0))).1 ∧ (endsV (rowOf E (xat X 0))).1 < X.length) ∧ 0 ≤ xat X (endsV (rowOf E (xat X 0))).1.toNat ∧ xat X (endsV (rowOf E (xat X 0))).1.toNat < D.length) :
    Ctr Try.prog 48 [eCon (K, X, A, C), eDoms D] [] (eDoms (rnarE K X L D)) [] := by
  refine call_pure Try.func48 Try.call48 e_ref16_narrow ?_
  have w1 : IntKind.i64.wrap ((X.length : Int) - 1) = ((X.length - 1 : Nat) : Int) := by rw [wrap_i64] <;> omega
  have g0 : X[0]? = some (xat X 0) := xat_get (by omega)
  have g1 : X[X.length - 1]? = some (lastV0 X) := xat_get (by omega)
  have hri := row_get hi
  have hrr := row_get hr
  have hli := dom_len (hdm _ (row_mem hi))
  have hlr := dom_len (hdm _ (row_mem hr))
  have hE1 := narE_right hi hr hdm (K := L.filter (keepC (rowOf D (xat X 0)) (rowOf D (lastV0 X)))) (fun c h => hLk c (List.mem_filter.1 h).1) (fun c h => hLg c (List.mem_filter.1 h).1)
  have hi0 := hi.1
  have hr0 := hr.1
  have hcn1 : ((xat X 0).toNat : Int) = xat X 0 := by omega
  have hcn2 : ((lastV0 X).toNat : Int) = lastV0 X := by omega
  have hd2 : ∀ d ∈ D, d.length ≤ 2000000 := fun d h => by have := dom_len (hdm d h); omega
  obtain ⟨Z, hZ⟩ : ∃ Z, rnarE K X L D = Z := ⟨_, rfl⟩
  rw [hZ]
  unfold rnarE at hZ
  generalize hxi : xat X 0 = i at *
  generalize hxr : lastV0 X = r at *
  obtain ⟨ri, hrie⟩ : ∃ ri, rowOf D i = ri := ⟨_, rfl⟩
  obtain ⟨rr, hrre⟩ : ∃ rr, rowOf D r = rr := ⟨_, rfl⟩
  rw [hrie] at hri hli hE1 hZ hone
  rw [hrre] at hrr hlr hE1 hZ hone
  obtain ⟨p, hp⟩ : ∃ p, keepC ri rr = p := ⟨_, rfl⟩
  rw [hp] at hE1 hZ hone
  have hpe : ∀ v row, p (v, row) = (rhasB ri v && decide (0 < (rmeetS row rr).length)) := by
    intro v row
    rw [← hp]
    unfold keepC
    simp only
    rw [has_eq, meet_eq]
    congr 1
    rw [Bool.eq_iff_iff]
    simp only [Bool.not_eq_true', decide_eq_false_iff_not, decide_eq_true_eq]
    omega
  have hkb : ∀ k, k ≤ L.length → (kept p L k).length ≤ 500 ∧ ((kept p L k).flatMap fun c => c.2).length ≤ 1000000000 := by
    intro k hk
    have h1 := kept_le p L k hk
    have h2 := flat_le (K := kept p L k) (fun c h => hLc c (List.mem_of_mem_take (List.mem_filter.1 h).1)) (kept p L k).length
    rw [List.take_length] at h2
    omega
  simp +contextual -implicitDefEqProofs (maxSteps := 1000000) only [c_ref16_narrow, eCon, eIs, eDoms, sm, sn, sxx, seval, w1, g0, g1]
  refine loop_ruleV [(7, 2), (8, 2)] (fun k : Nat => k ≤ L.length) (fun k => tm 133 [(1, .list 1 (D.map eRgs)), (2, .ptr 4 0 0 0), (5, .int .i64 i), (6, .int .i64 r), (7, .sl 2 1 0 (kept p L k).length), (8, .sl 2 2 0 ((kept p L k).flatMap fun c => c.2).length), (9, .int .i64 ((k + 1 : Nat) : Int))])
    (fun k => [some (4, [eCon (K, X, A, C)]), some (2, ((kept p L k).map fun c => ((c.1, c.1) : Rg)).map eRg), some (2, ((kept p L k).flatMap fun c => c.2).map eRg)]) (fun k => L.length - k) 0 (by simp +contextual -implicitDefEqProofs (maxSteps := 1000000) only [sm, sn, sxx, seval, eCon, eIs]) (Nat.zero_le _) ⟨[0, 1, 2], by decide, rfl, ?_, ?_⟩ ?_
  · have hz : kept p L 0 = [] := rfl
    simp +contextual -implicitDefEqProofs (maxSteps := 1000000) only [sm, sn, sxx, seval, eCon, eIs, hz, List.flatMap_nil, List.map_nil]
  · have hz : kept p L 0 = [] := rfl
    have h1 : ((0 + 1 : Nat) : Int) = 1 := rfl
    simp +contextual -implicitDefEqProofs (maxSteps := 1000000) only [sm, sn, sxx, seval, hz, List.flatMap_nil, List.map_nil, h1]
  intro k hk
  obtain ⟨b1, b2⟩ := hkb k hk
  by_cases hlt : k < L.length
  · have hlt' : ((k + 1 : Nat) : Int) ≤ (L.length : Int) := by omega
    have e2 : IntKind.i64.wrap (((k + 1 : Nat) : Int) + 1) = ((k + 1 + 1 : Nat) : Int) := by rw [wrap_i64] <;> omega
    obtain ⟨⟨v, s⟩, hx⟩ : ∃ c, L[k]? = some c := ⟨_, List.getElem?_eq_getElem hlt⟩
    have hsl := hLc _ (List.mem_of_getElem? hx)
    simp only at hsl
    obtain ⟨hv, hcc⟩ := hch k v s hx
    have hpv := hpe v s
    have hky := kept_yes (p := p) hx
    have hkn := kept_no (p := p) hx
    subst hv
    generalize hKk : kept p L k = Kk at b1 b2 hky hkn ⊢
    have hml : Kk.map (fun c => ((c.1, c.1) : Rg)) = Kk.map (fun c => ((c.1, c.1) : Rg)) := rfl
    simp +contextual -implicitDefEqProofs (maxSteps := 1000000) only [sm, sn, sxx, seval, eCon, eIs]
    refine callA_rule hn (by simp +contextual -implicitDefEqProofs (maxSteps := 1000000) only [sm, sn, sxx, seval, eCon, eIs]) rfl ?_
    simp +contextual -implicitDefEqProofs (maxSteps := 1000000) only [sm, sn, sxx, seval, eCon, eIs, hlt']
    refine callA_rule hcc (by simp +contextual -implicitDefEqProofs (maxSteps := 1000000) only [sm, sn, sxx, seval, eCon, eIs, eDoms]) rfl ?_
    simp +contextual -implicitDefEqProofs (maxSteps := 1000000) only [sm, sn, sxx, seval, eCon, eIs, hi0, hri, eRgs]
    refine callA_rule (ref09_Has ri ((k + 1 : Nat) : Int) (by omega)) (by simp +contextual -implicitDefEqProofs (maxSteps := 1000000) only [sm, sn, sxx, seval, eRgs]) rfl ?_
    cases hb : rhasB ri ((k + 1 : Nat) : Int)
    · rw [hb, Bool.false_and] at hpv
      simp +contextual -implicitDefEqProofs (maxSteps := 1000000) only [sm, sn, sxx, seval, eCon, eIs, e2]
      refine ⟨k + 1, by omega, by omega, [0, 1, 2], by decide, rfl, ?_, ?_⟩
      · rw [hkn hpv]
        simp +contextual -implicitDefEqProofs (maxSteps := 1000000) only [sm, sn, sxx, seval, eCon, eIs]
      · rw [hkn hpv]
        simp +contextual -implicitDefEqProofs (maxSteps := 1000000) only [sm, sn, sxx, seval]
    rw [hb, Bool.true_and] at hpv
    simp +contextual -implicitDefEqProofs (maxSteps := 1000000) only [sm, sn, sxx, seval, eCon, eIs, hr0, hrr, eRgs]
    refine callA_rule (ref09_Meet s rr (by omega) (by omega)) (by simp +contextual -implicitDefEqProofs (maxSteps := 1000000) only [sm, sn, sxx, seval, eRgs]) rfl ?_
    generalize rmeetS s rr = m at hpv ⊢
    by_cases hm0 : 0 < m.length
    · rw [decide_eq_true hm0] at hpv
      have hm1 : (0 : Int) < (m.length : Int) := by omega
      have c1 : (Kk.length + 1) * 16 ≤ 140737488355328 := by omega
      have c2 : Kk.length + 1 ≤ maxLen := by unfold maxLen; omega
      have hs1 : (Kk.map fun c => ((c.1, c.1) : Rg)).map eRg ++ [AV.agg [.int .i64 ((k + 1 : Nat) : Int), .int .i64 ((k + 1 : Nat) : Int)]] = ((Kk ++ [(((k + 1 : Nat) : Int), s)]).map fun c => ((c.1, c.1) : Rg)).map eRg := by rw [List.map_append, List.map_append]; rfl
      have hR2 : ((Kk ++ [(((k + 1 : Nat) : Int), s)]).flatMap fun c => c.2) = (Kk.flatMap fun c => c.2) ++ s := by rw [List.flatMap_append]; simp
      have hl1 : (Kk ++ [(((k + 1 : Nat) : Int), s)]).length = Kk.length + 1 := by rw [List.length_append]; rfl
      have hkl : (Kk.map fun c => ((c.1, c.1) : Rg)).length = Kk.length := List.length_map _
      generalize hRR : (Kk.flatMap fun c => c.2) = R at b2 hR2 ⊢
      have c3 : (R.length + s.length) * 16 ≤ 140737488355328 := by omega
      have c4 : R.length + s.length ≤ maxLen := by unfold maxLen; omega
      have hs2 : R.map eRg ++ s.map eRg = (((Kk ++ [(((k + 1 : Nat) : Int), s)]).flatMap fun c => c.2)).map eRg := by rw [hR2, List.map_append]
      have hl2 : ((Kk ++ [(((k + 1 : Nat) : Int), s)]).flatMap fun c => c.2).length = R.length + s.length := by rw [hR2, List.length_append]
      simp +contextual -implicitDefEqProofs (maxSteps := 1000000) only [sm, sn, sxx, seval, eCon, eIs, eRgs, hm1, c1, c2, c3, c4, hkl, hs1, hs2, e2]
      refine ⟨k + 1, by omega, by omega, [0, 3, 4], by decide, rfl, ?_, ?_⟩
      · rw [hky hpv]
        simp +contextual -implicitDefEqProofs (maxSteps := 1000000) only [sm, sn, sxx, seval, eCon, eIs]
      · rw [hky hpv]
        simp +contextual -implicitDefEqProofs (maxSteps := 1000000) only [sm, sn, sxx, seval, hl1, hl2]
    · have hm1 : ¬ (0 : Int) < (m.length : Int) := by omega
      rw [decide_eq_false hm0] at hpv
      simp +contextual -implicitDefEqProofs (maxSteps := 1000000) only [sm, sn, sxx, seval, eCon, eIs, eRgs, hm1, e2]
      refine ⟨k + 1, by omega, by omega, [0, 1, 2], by decide, rfl, ?_, ?_⟩
      · rw [hkn hpv]
        simp +contextual -implicitDefEqProofs (maxSteps := 1000000) only [sm, sn, sxx, seval, eCon, eIs]
      · rw [hkn hpv]
        simp +contextual -implicitDefEqProofs (maxSteps := 1000000) only [sm, sn, sxx, seval]
  · have hkn : k = L.length := by omega
    subst hkn
    have hno : ¬ ((L.length + 1 : Nat) : Int) ≤ (L.length : Int) := by omega
    rw [kept_full] at b1 b2 ⊢
    have hKm : ∀ c ∈ L.filter p, c ∈ L := fun c h => (List.mem_filter.1 h).1
    have hIg := idx_good (K := L.filter p) fun c h => hLk c (hKm c h)
    have hRg := all_good (K := L.filter p) fun c h => hLg c (hKm c h)
    have hEl := narE_len i r (L.filter p) D
    obtain ⟨E, hE⟩ : ∃ E, narE i r (L.filter p) D = E := ⟨_, rfl⟩
    rw [hE] at hE1 hZ hone hEl
    unfold narE idxE allE at hE
    generalize L.filter p = F at *
    have hIl : (F.map fun c => ((c.1, c.1) : Rg)).length = F.length := List.length_map _
    generalize (F.map fun c => ((c.1, c.1) : Rg)) = I at hIl hIg hE ⊢
    rw [← hIl] at b1 ⊢
    generalize (F.flatMap fun c => c.2) = U at hRg hE b2 ⊢
    have hO1 := ref09_OfO I (by omega) hIg
    have hO2 := ref09_OfO U (by omega) hRg
    have hll := merge_len hRg
    have hll1 := merge_len hIg
    have hI1 := (of_facts hIg).1
    generalize mergeS (sortV I) = J at hO1 hE hll1 hI1 ⊢
    generalize mergeS (sortV U) = V at hO2 hE hll ⊢
    simp +contextual -implicitDefEqProofs (maxSteps := 1000000) only [sm, sn, sxx, seval, eCon, eIs]
    refine callA_rule hn (by simp +contextual -implicitDefEqProofs (maxSteps := 1000000) only [sm, sn, sxx, seval, eCon, eIs]) rfl ?_
    simp +contextual -implicitDefEqProofs (maxSteps := 1000000) only [sm, sn, sxx, seval, eCon, eIs, hno]
    refine callM_rule [1] hO1 (by decide) ?_ ?_ ?_ ?_ ?_ ?_
    · simp +contextual -implicitDefEqProofs (maxSteps := 1000000) only [sm, sn, sxx, seval]
    · simp +contextual -implicitDefEqProofs (maxSteps := 1000000) only [sm, sn, sxx, seval]
    · simp +contextual -implicitDefEqProofs (maxSteps := 1000000) only [sm, sn, sxx, seval]
    · simp +contextual -implicitDefEqProofs (maxSteps := 1000000) only [sm, sn, sxx, seval, eRgs]
    · simp +contextual -implicitDefEqProofs (maxSteps := 1000000) only [sm, sn, sxx, seval]
    simp +contextual -implicitDefEqProofs (maxSteps := 1000000) only [sm, sn, sxx, seval, eRgs]
    refine callM_rule [2] hO2 (by decide) ?_ ?_ ?_ ?_ ?_ ?_
    · simp +contextual -implicitDefEqProofs (maxSteps := 1000000) only [sm, sn, sxx, seval]
    · simp +contextual -implicitDefEqProofs (maxSteps := 1000000) only [sm, sn, sxx, seval]
    · simp +contextual -implicitDefEqProofs (maxSteps := 1000000) only [sm, sn, sxx, seval]
    · simp +contextual -implicitDefEqProofs (maxSteps := 1000000) only [sm, sn, sxx, seval, eRgs]
    · simp +contextual -implicitDefEqProofs (maxSteps := 1000000) only [sm, sn, sxx, seval]
    simp +contextual -implicitDefEqProofs (maxSteps := 1000000) only [sm, sn, sxx, seval, eRgs]
    have hD1 : (D.set i.toNat J).length = D.length := List.length_set
    have hr1 := row_get (D := D.set i.toNat J) (x := r) (by rw [hD1]; exact hr)
    have hl1 : (rowOf (D.set i.toNat J) r).length ≤ 1000000000000 := by
      rw [row_set hi.1 hi.2 hr.1]
      split
      · omega
      · rw [hrre]; omega
    refine callA_rule (ref12_With D i.toNat J hD) (by simp +contextual -implicitDefEqProofs (maxSteps := 1000000) only [sm, sn, sxx, seval, eRgs, eDoms, hcn1]) rfl ?_
    generalize D.set i.toNat J = D1 at hD1 hr1 hl1 hE ⊢
    generalize rowOf D1 r = w at hr1 hl1 hE ⊢
    rw [meet_eq] at hE
    simp +contextual -implicitDefEqProofs (maxSteps := 1000000) only [sm, sn, sxx, seval, eRgs, eDoms, hr0, hr1]
    refine callA_rule (ref09_Meet w V (by omega) (by omega)) (by simp +contextual -implicitDefEqProofs (maxSteps := 1000000) only [sm, sn, sxx, seval, eRgs]) rfl ?_
    simp +contextual -implicitDefEqProofs (maxSteps := 1000000) only [sm, sn, sxx, seval, eRgs, eDoms]
    refine callA_rule (ref12_With D1 r.toNat (rmeetS w V) (by omega)) (by simp +contextual -implicitDefEqProofs (maxSteps := 1000000) only [sm, sn, sxx, seval, eRgs, eDoms, hcn2]) rfl ?_
    rw [hE]
    simp +contextual -implicitDefEqProofs (maxSteps := 1000000) only [sm, sn, sxx, seval, eRgs, eDoms]
    refine callA_rule (ref12_Empty E (by omega)) (by simp +contextual -implicitDefEqProofs (maxSteps := 1000000) only [sm, sn, sxx, seval, eDoms]) rfl ?_
    cases hw : wholeB E
    · rw [hw, if_neg (by simp)] at hZ
      subst hZ
      simp +contextual -implicitDefEqProofs (maxSteps := 1000000) only [sm, sn, sxx, seval, eCon, eIs]
    rw [hw] at hZ
    by_cases hK : K = 16
    · rw [if_neg (by simp [hK])] at hZ
      subst hZ
      subst hK
      simp +contextual -implicitDefEqProofs (maxSteps := 1000000) only [sm, sn, sxx, seval, eCon, eIs]
    have hK' : (K = 16) = False := by simp [hK]
    rw [if_pos ⟨rfl, hK⟩] at hZ
    replace hone := hone hK E rfl
    have hiE : 0 ≤ i ∧ i < E.length := by omega
    have hrE : 0 ≤ r ∧ r < E.length := by omega
    have hmi := row_mem hiE
    have hgi := row_get hiE
    have hgr := row_get hrE
    have hRi := hE1 _ hmi
    have hLi := right_length hRi
    have hLr := right_length (hE1 _ (row_mem hrE))
    have hne : 0 < (rowOf E i).length := by
      unfold wholeB at hw
      rw [Bool.not_eq_true', List.any_eq_false] at hw
      have := hw _ hmi
      simp only [decide_eq_true_eq] at this
      omega
    have hbe : endsB (rowOf E i) = true := by
      unfold endsB
      rw [hRi]
      cases hq : rowOf E i with
      | nil => rw [hq] at hne; simp at hne
      | cons a b => rfl
    unfold choE at hZ
    rw [hbe] at hZ
    have hone2 := hone hbe
    clear hone
    generalize rowOf E i = qi at *
    generalize hqr : rowOf E r = qr at *
    have hfx := ref12_Fixed qi hRi hne (by omega)
    have hlo := ref12_Lo qi hRi hne
    generalize endsV qi = ee at *
    obtain ⟨e0, e1⟩ := ee
    simp only at hone2 hfx hlo hZ
    simp +contextual -implicitDefEqProofs (maxSteps := 1000000) only [sm, sn, sxx, seval, eCon, eIs, hK', hi0, hgi]
    refine callA_rule hfx (by simp +contextual -implicitDefEqProofs (maxSteps := 1000000) only [sm, sn, sxx, seval, eRgs]) rfl ?_
    by_cases he : e0 = e1
    · obtain ⟨⟨p0, p1⟩, o0, o1⟩ := hone2 he
      rw [if_pos (by simp [he])] at hZ
      rw [decide_eq_true he]
      have hxp := xat_get (X := X) (i := e0.toNat) (by omega)
      have hcn3 : (((xat X e0.toNat).toNat : Nat) : Int) = xat X e0.toNat := by omega
      generalize xat X e0.toNat = one at *
      have hoE : 0 ≤ one ∧ one < E.length := by omega
      have hro := row_get hoE
      have hLo := right_length (hE1 _ (row_mem hoE))
      generalize rowOf E one = ro at *
      rw [meet_eq] at hZ
      simp +contextual -implicitDefEqProofs (maxSteps := 1000000) only [sm, sn, sxx, seval, hi0, hgi]
      refine callA_rule hlo (by simp +contextual -implicitDefEqProofs (maxSteps := 1000000) only [sm, sn, sxx, seval, eRgs]) rfl ?_
      simp +contextual -implicitDefEqProofs (maxSteps := 1000000) only [sm, sn, sxx, seval, eCon, eIs, p0, hxp, o0, hro, hr0, hgr]
      refine callA_rule (ref09_Meet ro qr (by omega) (by omega)) (by simp +contextual -implicitDefEqProofs (maxSteps := 1000000) only [sm, sn, sxx, seval, eRgs]) rfl ?_
      simp +contextual -implicitDefEqProofs (maxSteps := 1000000) only [sm, sn, sxx, seval, eCon, eIs, eRgs, p0, hxp]
      refine callA_rule (ref12_With E one.toNat (rmeetS ro qr) (by omega)) (by simp +contextual -implicitDefEqProofs (maxSteps := 1000000) only [sm, sn, sxx, seval, eRgs, eDoms, hcn3]) rfl ?_
      simp +contextual -implicitDefEqProofs (maxSteps := 1000000) only [sm, sn, sxx, seval, eDoms, eRgs]
      refine callA_rule (ref12_With (E.set one.toNat (rmeetS ro qr)) r.toNat (rmeetS ro qr) (by rw [List.length_set]; omega)) (by simp +contextual -implicitDefEqProofs (maxSteps := 1000000) only [sm, sn, sxx, seval, eRgs, eDoms, hcn2]) rfl ?_
      rw [hZ]
      simp +contextual -implicitDefEqProofs (maxSteps := 1000000) only [sm, sn, sxx, seval, eDoms]
    · rw [if_neg (by simp [he])] at hZ
      subst hZ
      rw [decide_eq_false he]
      simp +contextual -implicitDefEqProofs (maxSteps := 1000000) only [sm, sn, sxx, seval]
end Go.Proofs.Ytfcphijidcfboaa
