/- What the reference computes for unlike values: with, ends, Narrow. -/
import Derived.Test.YtonkcemcledhiaaWRef17
import Derived.Test.YtonkcemcledhiaaGRef08
import Derived.Test.YtonkcemcledhiaaGRef12
import Derived.Test.YtonkcemcledhiaaWRef12k
import Derived.Test.YtonkcemcledhiaaGRef09
import Derived.Test.YtonkcemcledhiaaCRef17N
namespace Go.Proofs.Ytonkcemcledhiaa
open Av
attribute [local irreducible] awp awpOpers
set_option linter.unusedSimpArgs false
set_option linter.unusedVariables false
set_option maxRecDepth 100000
set_option maxHeartbeats 4000000
theorem upR_step {l : List Rg} {k : Nat} {hi lo : Int} (h1 : lo < hi) (h2 : rroomB (l.set k (lo, lo)) = false) : upR l k hi (hi - lo).toNat lo = upR l k hi (hi - (lo + 1)).toNat (lo + 1) := by
  obtain ⟨n, hn⟩ : ∃ n, (hi - lo).toNat = n + 1 := ⟨(hi - lo).toNat - 1, by omega⟩
  have e : (hi - (lo + 1)).toNat = n := by omega
  rw [hn, e]
  conv => lhs; unfold upR
  rw [if_pos ⟨h1, h2⟩]
theorem upR_stop {l : List Rg} {k : Nat} {hi lo : Int} (h : ¬ (lo < hi ∧ rroomB (l.set k (lo, lo)) = false)) (n : Nat) : upR l k hi n lo = lo := by
  cases n with
  | zero => rfl
  | succ n => unfold upR; rw [if_neg h]
theorem dnR_step {l : List Rg} {k : Nat} {hi lo : Int} (h1 : lo < hi) (h2 : rroomB (l.set k (hi, hi)) = false) : dnR l k lo (hi - lo).toNat hi = dnR l k lo (hi - 1 - lo).toNat (hi - 1) := by
  obtain ⟨n, hn⟩ : ∃ n, (hi - lo).toNat = n + 1 := ⟨(hi - lo).toNat - 1, by omega⟩
  have e : (hi - 1 - lo).toNat = n := by omega
  rw [hn, e]
  conv => lhs; unfold dnR
  rw [if_pos ⟨h1, h2⟩]
theorem dnR_stop {l : List Rg} {k : Nat} {hi lo : Int} (h : ¬ (lo < hi ∧ rroomB (l.set k (hi, hi)) = false)) (n : Nat) : dnR l k lo n hi = hi := by
  cases n with
  | zero => rfl
  | succ n => unfold dnR; rw [if_neg h]
theorem set_rg2 (l : List Rg) (i : Nat) (x y : Int) : (l.map eRg).set i (.agg [.int .i64 x, .int .i64 y]) = (l.set i (x, y)).map eRg := by rw [List.map_set]; rfl
theorem ref17_with (l : List Rg) (k : Nat) (v : Int) (hk : k < l.length) (hl : l.length ≤ 1000000000000) : Ctr Try.prog 113 [eRgs l, .int .i64 k, .int .i64 v] [] (eRgs (l.set k (v, v))) [] := by
  refine call_pure Try.func113 Try.call113 e_ref17_with ?_
  have c1 : l.length * 16 ≤ 140737488355328 := by omega
  have c2 : l.length ≤ maxLen := by unfold maxLen; omega
  have t4 : List.take l.length ((l.set k (v, v)).map eRg) = (l.set k (v, v)).map eRg := by have := take_map eRg (l.set k (v, v)); rwa [List.length_set] at this
  obtain ⟨⟨x, y⟩, hx⟩ : ∃ r, l[k]? = some r := ⟨_, List.getElem?_eq_getElem hk⟩
  simp +contextual -implicitDefEqProofs (maxSteps := 1000000) only [c_ref17_with, eRgs, sm, sn, sxx, seval, c1, c2, hk, hx, set_rg2, List.length_map, List.nil_append, List.length_set, Nat.le_refl, t4]
theorem ref17_ends (l : List Rg) (k : Nat) (hk : k < l.length) (hl : l.length ≤ 1000000000000) (hb : (-1048576 ≤ (rgAt l k).1 ∧ (rgAt l k).1 ≤ 1048576) ∧ (-1048576 ≤ (rgAt l k).2 ∧ (rgAt l k).2 ≤ 1048576)) : Ctr Try.prog 67 [eRgs l, .int .i64 k] [] (eRg (rendsV l k)) [] := by
  refine call_pure Try.func67 Try.call67 e_ref17_ends ?_
  have hx := rgAt_get hk
  have hv : rendsV l k = (upR l k (rgAt l k).2 ((rgAt l k).2 - (rgAt l k).1).toNat (rgAt l k).1, dnR l k (upR l k (rgAt l k).2 ((rgAt l k).2 - (rgAt l k).1).toNat (rgAt l k).1) ((rgAt l k).2 - (upR l k (rgAt l k).2 ((rgAt l k).2 - (rgAt l k).1).toNat (rgAt l k).1)).toNat (rgAt l k).2) := rfl
  obtain ⟨⟨r1, r2⟩, hr⟩ : ∃ y, rgAt l k = y := ⟨_, rfl⟩
  rw [hr] at hx hv hb
  simp only at hv hb
  obtain ⟨X, hX⟩ : ∃ X, upR l k r2 (r2 - r1).toNat r1 = X := ⟨_, rfl⟩
  rw [hX] at hv
  obtain ⟨Y, hY⟩ : ∃ Y, dnR l k X (r2 - X).toNat r2 = Y := ⟨_, rfl⟩
  rw [hY] at hv
  rw [hv]
  simp +contextual -implicitDefEqProofs (maxSteps := 1000000) only [c_ref17_ends, eRgs, eRg, sm, sn, sxx, seval, hk, hx]
  refine loop_rule (fun lo : Int => -1048576 ≤ lo ∧ lo ≤ 1048576 ∧ upR l k r2 (r2 - lo).toNat lo = X) (fun lo => tm 47 [(0, .list 2 (l.map eRg)), (1, .int .i64 k), (4, .ptr 2 0 0 0), (5, .ptr 2 1 0 0)]) (fun lo => [some (2, [.agg [.int .i64 0, .int .i64 0]]), some (2, [.agg [.int .i64 lo, .int .i64 r2]])]) (fun lo => (r2 - lo).toNat) r1 ⟨by omega, by omega, hX⟩ ⟨[0, 1], by decide, rfl, ?_, ?_⟩ ?_
  · simp +contextual -implicitDefEqProofs (maxSteps := 1000000) only [sm, sn, sxx, seval]
  · simp +contextual -implicitDefEqProofs (maxSteps := 1000000) only [sm, sn, sxx, seval]
  · rintro lo ⟨h1, h2, h3⟩
    have second : ∀ lo, lo = X → lo ≤ 1048576 → -1048576 ≤ lo → True := fun _ _ _ _ => trivial
    by_cases hlt : lo < r2
    · cases hroom : rroomB (l.set k (lo, lo))
      · have hs := upR_step hlt hroom
        have w1 : IntKind.i64.wrap (lo + 1) = lo + 1 := by rw [wrap_i64] <;> omega
        simp +contextual -implicitDefEqProofs (maxSteps := 1000000) only [sm, sn, sxx, seval, hlt]
        refine callA_rule (ref17_with l k lo hk hl) (wkL_refl _) rfl ?_
        simp +contextual -implicitDefEqProofs (maxSteps := 1000000) only [sm, sn, sxx, seval, eRgs]
        refine callA_rule (ref17_Room (l.set k (lo, lo)) (by rw [List.length_set]; exact hl)) (wkL_refl _) rfl ?_
        rw [hroom]
        simp +contextual -implicitDefEqProofs (maxSteps := 1000000) only [sm, sn, sxx, seval, w1]
        refine ⟨lo + 1, ⟨by omega, by omega, by rw [← hs]; exact h3⟩, by omega, [0, 1], by decide, rfl, ?_, ?_⟩
        · simp +contextual -implicitDefEqProofs (maxSteps := 1000000) only [sm, sn, sxx, seval]
        · simp +contextual -implicitDefEqProofs (maxSteps := 1000000) only [sm, sn, sxx, seval]
      · have hs := upR_stop (l := l) (k := k) (hi := r2) (lo := lo) (by rw [hroom]; simp) (r2 - lo).toNat
        rw [hs] at h3
        subst h3
        simp +contextual -implicitDefEqProofs (maxSteps := 1000000) only [sm, sn, sxx, seval, hlt]
        refine callA_rule (ref17_with l k lo hk hl) (wkL_refl _) rfl ?_
        simp +contextual -implicitDefEqProofs (maxSteps := 1000000) only [sm, sn, sxx, seval, eRgs]
        refine callA_rule (ref17_Room (l.set k (lo, lo)) (by rw [List.length_set]; exact hl)) (wkL_refl _) rfl ?_
        rw [hroom]
        simp +contextual -implicitDefEqProofs (maxSteps := 1000000) only [sm, sn, sxx, seval]
        refine loop_rule (fun hi : Int => -1048576 ≤ hi ∧ hi ≤ 1048576 ∧ dnR l k lo (hi - lo).toNat hi = Y) (fun hi => tm 47 [(0, .list 2 (l.map eRg)), (1, .int .i64 k), (4, .ptr 2 0 0 0), (5, .ptr 2 1 0 0)]) (fun hi => [some (2, [.agg [.int .i64 0, .int .i64 0]]), some (2, [.agg [.int .i64 lo, .int .i64 hi]])]) (fun hi => (hi - lo).toNat) r2 ⟨by omega, by omega, hY⟩ ⟨[0, 1], by decide, rfl, ?_, ?_⟩ ?_
        · simp +contextual -implicitDefEqProofs (maxSteps := 1000000) only [sm, sn, sxx, seval]
        · simp +contextual -implicitDefEqProofs (maxSteps := 1000000) only [sm, sn, sxx, seval]
        · rintro hi ⟨j1, j2, j3⟩
          by_cases hlh : lo < hi
          · cases hroom2 : rroomB (l.set k (hi, hi))
            · have hs2 := dnR_step hlh hroom2
              have w1 : IntKind.i64.wrap (hi - 1) = hi - 1 := by rw [wrap_i64] <;> omega
              simp +contextual -implicitDefEqProofs (maxSteps := 1000000) only [sm, sn, sxx, seval, hlh]
              refine callA_rule (ref17_with l k hi hk hl) (wkL_refl _) rfl ?_
              simp +contextual -implicitDefEqProofs (maxSteps := 1000000) only [sm, sn, sxx, seval, eRgs]
              refine callA_rule (ref17_Room (l.set k (hi, hi)) (by rw [List.length_set]; exact hl)) (wkL_refl _) rfl ?_
              rw [hroom2]
              simp +contextual -implicitDefEqProofs (maxSteps := 1000000) only [sm, sn, sxx, seval, w1]
              refine ⟨hi - 1, ⟨by omega, by omega, by rw [← hs2]; exact j3⟩, by omega, [0, 1], by decide, rfl, ?_, ?_⟩
              · simp +contextual -implicitDefEqProofs (maxSteps := 1000000) only [sm, sn, sxx, seval]
              · simp +contextual -implicitDefEqProofs (maxSteps := 1000000) only [sm, sn, sxx, seval]
            · have hs2 := dnR_stop (l := l) (k := k) (hi := hi) (lo := lo) (by rw [hroom2]; simp) (hi - lo).toNat
              rw [hs2] at j3
              subst j3
              simp +contextual -implicitDefEqProofs (maxSteps := 1000000) only [sm, sn, sxx, seval, hlh]
              refine callA_rule (ref17_with l k hi hk hl) (wkL_refl _) rfl ?_
              simp +contextual -implicitDefEqProofs (maxSteps := 1000000) only [sm, sn, sxx, seval, eRgs]
              refine callA_rule (ref17_Room (l.set k (hi, hi)) (by rw [List.length_set]; exact hl)) (wkL_refl _) rfl ?_
              rw [hroom2]
              simp +contextual -implicitDefEqProofs (maxSteps := 1000000) only [sm, sn, sxx, seval]
          · have hs2 := dnR_stop (l := l) (k := k) (hi := hi) (lo := lo) (by omega) (hi - lo).toNat
            rw [hs2] at j3
            subst j3
            simp +contextual -implicitDefEqProofs (maxSteps := 1000000) only [sm, sn, sxx, seval, hlh]
    · have hs := upR_stop (l := l) (k := k) (hi := r2) (lo := lo) (by omega) (r2 - lo).toNat
      rw [hs] at h3
      subst h3
      simp +contextual -implicitDefEqProofs (maxSteps := 1000000) only [sm, sn, sxx, seval, hlt]
      refine loop_rule (fun hi : Int => -1048576 ≤ hi ∧ hi ≤ 1048576 ∧ dnR l k lo (hi - lo).toNat hi = Y) (fun hi => tm 47 [(0, .list 2 (l.map eRg)), (1, .int .i64 k), (4, .ptr 2 0 0 0), (5, .ptr 2 1 0 0)]) (fun hi => [some (2, [.agg [.int .i64 0, .int .i64 0]]), some (2, [.agg [.int .i64 lo, .int .i64 hi]])]) (fun hi => (hi - lo).toNat) r2 ⟨by omega, by omega, hY⟩ ⟨[0, 1], by decide, rfl, ?_, ?_⟩ ?_
      · simp +contextual -implicitDefEqProofs (maxSteps := 1000000) only [sm, sn, sxx, seval]
      · simp +contextual -implicitDefEqProofs (maxSteps := 1000000) only [sm, sn, sxx, seval]
      · rintro hi ⟨j1, j2, j3⟩
        by_cases hlh : lo < hi
        · cases hroom2 : rroomB (l.set k (hi, hi))
          · have hs2 := dnR_step hlh hroom2
            have w1 : IntKind.i64.wrap (hi - 1) = hi - 1 := by rw [wrap_i64] <;> omega
            simp +contextual -implicitDefEqProofs (maxSteps := 1000000) only [sm, sn, sxx, seval, hlh]
            refine callA_rule (ref17_with l k hi hk hl) (wkL_refl _) rfl ?_
            simp +contextual -implicitDefEqProofs (maxSteps := 1000000) only [sm, sn, sxx, seval, eRgs]
            refine callA_rule (ref17_Room (l.set k (hi, hi)) (by rw [List.length_set]; exact hl)) (wkL_refl _) rfl ?_
            rw [hroom2]
            simp +contextual -implicitDefEqProofs (maxSteps := 1000000) only [sm, sn, sxx, seval, w1]
            refine ⟨hi - 1, ⟨by omega, by omega, by rw [← hs2]; exact j3⟩, by omega, [0, 1], by decide, rfl, ?_, ?_⟩
            · simp +contextual -implicitDefEqProofs (maxSteps := 1000000) only [sm, sn, sxx, seval]
            · simp +contextual -implicitDefEqProofs (maxSteps := 1000000) only [sm, sn, sxx, seval]
          · have hs2 := dnR_stop (l := l) (k := k) (hi := hi) (lo := lo) (by rw [hroom2]; simp) (hi - lo).toNat
            rw [hs2] at j3
            subst j3
            simp +contextual -implicitDefEqProofs (maxSteps := 1000000) only [sm, sn, sxx, seval, hlh]
            refine callA_rule (ref17_with l k hi hk hl) (wkL_refl _) rfl ?_
            simp +contextual -implicitDefEqProofs (maxSteps := 1000000) only [sm, sn, sxx, seval, eRgs]
            refine callA_rule (ref17_Room (l.set k (hi, hi)) (by rw [List.length_set]; exact hl)) (wkL_refl _) rfl ?_
            rw [hroom2]
            simp +contextual -implicitDefEqProofs (maxSteps := 1000000) only [sm, sn, sxx, seval]
        · have hs2 := dnR_stop (l := l) (k := k) (hi := hi) (lo := lo) (by omega) (hi - lo).toNat
          rw [hs2] at j3
          subst j3
          simp +contextual -implicitDefEqProofs (maxSteps := 1000000) only [sm, sn, sxx, seval, hlh]
theorem ref12_Done (D : List (List Rg)) (hD : D.length ≤ 1000000000000) : Ctr Try.prog 70 [eDoms D] [] (.tuple [eDoms (tell (D, wholeB D)).1, .int .i64 (tell (D, wholeB D)).2]) [] := by
  refine call_pure Try.func70 Try.call70 e_ref12_Done ?_
  simp +contextual -implicitDefEqProofs (maxSteps := 1000000) only [c_ref12_Done, eDoms, sm, sn, sxx, seval]
  refine callA_rule (ref12_Empty D hD) (wkL_refl _) rfl ?_
  cases hw : wholeB D
  · simp +contextual -implicitDefEqProofs (maxSteps := 1000000) only [sm, sn, sxx, seval, tell, Bool.not_false]
  · simp +contextual -implicitDefEqProofs (maxSteps := 1000000) only [sm, sn, sxx, seval, tell, Bool.not_true]
theorem rhallN_len (l : List Rg) (D : List (List Rg)) (X : List Int) : ∀ k, (rhallN l D X k).length = D.length
  | 0 => rfl
  | k + 1 => by unfold rhallN; rw [List.length_set]; exact rhallN_len l D X k
theorem rhallN_rows {l : List Rg} {D : List (List Rg)} {X : List Int} {n : Nat} (h : ∀ d ∈ D, d.length ≤ n) : ∀ k, ∀ d ∈ rhallN l D X k, d.length ≤ n
  | 0 => h
  | k + 1 => fun d hd => by
    unfold rhallN at hd
    rcases List.mem_or_eq_of_mem_set hd with h1 | rfl
    · exact rhallN_rows h k d h1
    · have ih := rhallN_rows (l := l) (X := X) h k
      refine Nat.le_trans (rcutS_length _ _ _) ?_
      unfold rowOf
      cases hr : (rhallN l D X k)[(xat X k).toNat]? with
      | none => simp
      | some r => exact ih r (List.mem_of_getElem? hr)
theorem ref17_Narrow (c : Con) (D : List (List Rg)) (hD : D.length ≤ 1000000000000) (hd : ∀ d ∈ D, d.length ≤ 1000000000000) (hc : conFits c) :
    Ctr Try.prog 32 [eCon c, eDoms D] [] (.tuple [eDoms (rhallL c D).1, .int .i64 (rhallL c D).2]) [] := by
  obtain ⟨K, X, A, C⟩ := c
  refine call_pure Try.func32 Try.call32 e_ref17_Narrow ?_
  simp +contextual -implicitDefEqProofs (maxSteps := 1000000) only [c_ref17_Narrow, eCon, eIs, eDoms, sm, sn, sxx, seval]
  refine callA_rule (ref12_Fit (K, X, A, C) D hD hd hc) (wkL_refl _) rfl ?_
  cases hm : fitB (K, X, A, C) D
  · have hm : modB (D, [(K, X, A, C)], 0, 0) = false := hm
    have hres : rhallL (K, X, A, C) D = ([], 2) := by
      unfold rhallL
      rw [if_neg (by simp [hm])]
    rw [hres]
    simp +contextual -implicitDefEqProofs (maxSteps := 1000000) only [sm, sn, sxx, seval, eDoms]
  have hm : modB (D, [(K, X, A, C)], 0, 0) = true := hm
  obtain ⟨f1, f2, f3⟩ := one_facts hm
  obtain ⟨g1, g2, g3, g4, g5⟩ := may_facts f3
  simp only at g2 g3
  by_cases hK : K = 18
  rotate_left
  · have hres : rhallL (K, X, A, C) D = ([], 10) := by
      unfold rhallL
      rw [if_pos hm, if_neg (by simp only; omega)]
    rw [hres]
    simp +contextual -implicitDefEqProofs (maxSteps := 1000000) only [sm, sn, sxx, seval, eCon, eIs, hK, eDoms]
  subst hK
  have hll := endRows_len D X
  simp +contextual -implicitDefEqProofs (maxSteps := 1000000) only [sm, sn, sxx, seval, eCon, eIs]
  refine loop_ruleV [(6, 2)] (fun k : Nat => k ≤ X.length) (fun k => tm 79 [(1, .list 1 (D.map eRgs)), (2, .ptr 4 0 0 0), (6, .sl 2 1 0 k), (7, .int .i64 k)])
    (fun k => [some (4, [eCon (18, X, A, C)]), some (2, ((endRows D X).take k).map eRg)]) (fun k => X.length - k) 0 (by simp +contextual -implicitDefEqProofs (maxSteps := 1000000) only [sm, sn, sxx, seval]) (Nat.zero_le _) ⟨[0, 1], by decide, rfl, ?_, ?_⟩ ?_
  · simp +contextual -implicitDefEqProofs (maxSteps := 1000000) only [sm, sn, sxx, seval, eCon, eIs, List.take_zero, List.map_nil]
  · simp +contextual -implicitDefEqProofs (maxSteps := 1000000) only [sm, sn, sxx, seval, Int.natCast_zero]
  · intro k hk
    by_cases hlt : k < X.length
    · have hlt' : (k : Int) < (X.length : Int) := by omega
      have e2 : IntKind.i64.wrap ((k : Int) + 1) = ((k + 1 : Nat) : Int) := by rw [wrap_i64] <;> omega
      have hx := xat_get hlt
      have hin := g3 k hlt
      have hr := row_get hin
      have h0 := hin.1
      have hlen := hd _ (row_mem hin)
      have hdm := dom_right (f2 _ (row_mem hin))
      have he := endRows_get (D := D) hlt
      have hsn := take_snoc he
      have htl : ((endRows D X).take k).length = k := by rw [List.length_take, hll]; omega
      have c1 : (k + 1) * 16 ≤ 140737488355328 := by omega
      have c2 : k + 1 ≤ maxLen := by unfold maxLen; omega
      generalize hxx : xat X k = x at hx hin hr h0 hlen he hsn hdm
      generalize rowOf D x = row at hr hlen he hsn hdm
      obtain ⟨⟨p, q⟩, hpq⟩ : ∃ y, endsV row = y := ⟨_, rfl⟩
      rw [hpq] at hsn
      simp +contextual -implicitDefEqProofs (maxSteps := 1000000) only [sm, sn, sxx, seval, eCon, eIs, hlt', hlt, hx, h0, hr]
      refine callA_rule (ref12_Lo row hdm.1 hdm.2) (wkL_refl _) rfl ?_
      rw [hpq]
      simp +contextual -implicitDefEqProofs (maxSteps := 1000000) only [sm, sn, sxx, seval]
      refine callA_rule (ref12_Hi row hdm.1 hdm.2 hlen) (wkL_refl _) rfl ?_
      rw [hpq]
      simp +contextual -implicitDefEqProofs (maxSteps := 1000000) only [sm, sn, sxx, seval, e2, c1, c2, htl, List.length_map]
      refine ⟨k + 1, by omega, by omega, [0, 2], by decide, rfl, ?_, ?_⟩
      · simp +contextual -implicitDefEqProofs (maxSteps := 1000000) only [sm, sn, sxx, seval, eCon, eIs, hsn]
      · simp +contextual -implicitDefEqProofs (maxSteps := 1000000) only [sm, sn, sxx, seval]
    · have hkn : k = X.length := by omega
      subst hkn
      rw [show (endRows D X).take X.length = endRows D X by rw [← hll, List.take_length]]
      have htk : List.take X.length ((endRows D X).map eRg) = (endRows D X).map eRg := by
        have := take_map eRg (endRows D X)
        rwa [hll] at this
      simp +contextual -implicitDefEqProofs (maxSteps := 1000000) only [sm, sn, sxx, seval, eCon, eIs, Int.lt_irrefl]
      refine callV_rule (ref17_Room (endRows D X) (by omega)) ?_ rfl ?_
      · simp +contextual -implicitDefEqProofs (maxSteps := 1000000) only [sm, sn, sxx, seval, eRgs, hll, htk]
      cases hroom : rroomB (endRows D X)
      · have hres : rhallL (18, X, A, C) D = ([], 12) := by
          unfold rhallL
          rw [if_pos hm, if_pos rfl, if_neg (by simp [hroom])]
        rw [hres]
        simp +contextual -implicitDefEqProofs (maxSteps := 1000000) only [sm, sn, sxx, seval, eDoms]
      have hF : ∀ r ∈ endRows D X, (-1048576 ≤ r.1 ∧ r.1 ≤ 1048576) ∧ (-1048576 ≤ r.2 ∧ r.2 ≤ 1048576) := by
        unfold rroomB at hroom
        simp only [Bool.and_eq_true, decide_eq_true_eq] at hroom
        intro r hr
        have := List.all_eq_true.1 hroom.1.2 r hr
        simp only [inW, withinB, Bool.and_eq_true, decide_eq_true_eq] at this
        omega
      have hres : rhallL (18, X, A, C) D = tell (rhallN (endRows D X) D X X.length, wholeB (rhallN (endRows D X) D X X.length)) := by
        unfold rhallL
        rw [if_pos hm, if_pos rfl, if_pos hroom]
      rw [hres]
      clear hres hroom hlt
      generalize endRows D X = L at hll hF htk ⊢
      simp +contextual -implicitDefEqProofs (maxSteps := 1000000) only [sm, sn, sxx, seval]
      refine loop_rule (fun k : Nat => k ≤ X.length) (fun k => tm 79 [(2, .ptr 4 0 0 0), (6, .sl 2 1 0 X.length), (9, .list 1 ((rhallN L D X k).map eRgs)), (10, .int .i64 k)])
        (fun k => [some (4, [eCon (18, X, A, C)]), some (2, L.map eRg)]) (fun k => X.length - k) 0 (Nat.zero_le _) ⟨[0, 1], by decide, rfl, ?_, ?_⟩ ?_
      · simp +contextual -implicitDefEqProofs (maxSteps := 1000000) only [sm, sn, sxx, seval, eCon, eIs]
      · simp +contextual -implicitDefEqProofs (maxSteps := 1000000) only [sm, sn, sxx, seval, Int.natCast_zero, rhallN]
      · intro k hk
        by_cases hlt : k < X.length
        · have hlt' : (k : Int) < (X.length : Int) := by omega
          have e2 : IntKind.i64.wrap ((k : Int) + 1) = ((k + 1 : Nat) : Int) := by rw [wrap_i64] <;> omega
          have hkl : k < L.length := by omega
          have hx := xat_get hlt
          have hin := g3 k hlt
          have hEl := rhallN_len L D X k
          have hEd := rhallN_rows (l := L) (X := X) hd k
          have hnx : rhallN L D X (k + 1) = (rhallN L D X k).set (xat X k).toNat (rcutS (rendsV L k).1 (rendsV L k).2 (rowOf (rhallN L D X k) (xat X k))) := rfl
          generalize rhallN L D X k = E at hEl hEd hnx ⊢
          have hr := row_get (D := E) (x := xat X k) (by omega)
          have hrl : (rowOf E (xat X k)).length ≤ 1000000000000 := hEd _ (List.mem_of_getElem? hr)
          have h0 := hin.1
          have hcn : ((xat X k).toNat : Int) = xat X k := by omega
          generalize xat X k = x at hx hin hnx hr hrl h0 hcn ⊢
          generalize rowOf E x = row at hnx hr hrl ⊢
          have hrk := hF _ (List.mem_of_getElem? (rgAt_get hkl))
          obtain ⟨⟨t1, t2⟩, ht⟩ : ∃ y, rendsV L k = y := ⟨_, rfl⟩
          rw [ht] at hnx
          simp only at hnx
          simp +contextual -implicitDefEqProofs (maxSteps := 1000000) only [sm, sn, sxx, seval, eCon, eIs, hlt']
          refine callV_rule (ref17_ends L k hkl (by omega) hrk) ?_ ?_ ?_
          · simp +contextual -implicitDefEqProofs (maxSteps := 1000000) only [sm, sn, sxx, seval, eRgs, hll, htk]
          · rfl
          rw [ht]
          simp +contextual -implicitDefEqProofs (maxSteps := 1000000) only [sm, sn, sxx, seval, eRg, eCon, eIs, hlt', hx, h0, hr]
          refine callA_rule (ref09_Cut row t1 t2 hrl) (wkL_refl _) rfl ?_
          simp +contextual -implicitDefEqProofs (maxSteps := 1000000) only [sm, sn, sxx, seval, eRgs]
          refine callA_rule (ref12_With E x.toNat (rcutS t1 t2 row) (by omega)) (by simp +contextual -implicitDefEqProofs (maxSteps := 1000000) only [sm, sn, sxx, seval, eDoms, eRgs, hcn]) rfl ?_
          simp +contextual -implicitDefEqProofs (maxSteps := 1000000) only [sm, sn, sxx, seval, eDoms, e2]
          refine ⟨k + 1, by omega, by omega, [0, 1], by decide, rfl, ?_, ?_⟩
          · simp +contextual -implicitDefEqProofs (maxSteps := 1000000) only [sm, sn, sxx, seval, eCon, eIs]
          · simp +contextual -implicitDefEqProofs (maxSteps := 1000000) only [sm, sn, sxx, seval, hnx]
        · have hkn : k = X.length := by omega
          subst hkn
          have hEl := rhallN_len L D X X.length
          generalize rhallN L D X X.length = E at hEl ⊢
          simp +contextual -implicitDefEqProofs (maxSteps := 1000000) only [sm, sn, sxx, seval, Int.lt_irrefl]
          refine callA_rule (ref12_Done E (by omega)) (wkL_refl _) rfl ?_
          simp +contextual -implicitDefEqProofs (maxSteps := 1000000) only [sm, sn, sxx, seval, eDoms]
end Go.Proofs.Ytonkcemcledhiaa
