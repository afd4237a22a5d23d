/- What the functions of package touchstoneref13 compute. -/
import Derived.Test.YtbhigfllanblpaaWReify
import Derived.Test.YtbhigfllanblpaaWRef12k
import Derived.Test.YtbhigfllanblpaaCRef13
namespace Go.Proofs.Ytbhigfllanblpaa
open Av
attribute [local irreducible] awp awpOpers
set_option linter.unusedSimpArgs false
set_option linter.unusedVariables false
set_option maxRecDepth 100000
set_option maxHeartbeats 4000000
theorem term_le {D : List (List Rg)} {t : Tm} (hD : DOk D) (hx : 0 ≤ t.2 ∧ t.2 < D.length) : (termE D t).1 ≤ (termE D t).2 := by
  obtain ⟨_, h4, h5, h6⟩ := eAt_facts hD hx
  unfold termE
  split
  · exact Int.mul_le_mul_of_nonpos_left (by omega) h5
  · exact Int.mul_le_mul_of_nonneg_left h5 (by omega)
theorem span_le {D : List (List Rg)} {T : List Tm} (hD : DOk D) (hT : TOk T D) : ∀ {k : Nat}, k ≤ T.length → (spanK D T k).1 ≤ (spanK D T k).2
  | 0, _ => by simp [spanK]
  | k + 1, h => by
    have h1 := span_le hD hT (k := k) (by omega)
    have h2 := term_le hD (hT.2 k (by omega)).2
    unfold spanK
    simp only
    omega
def refS (K : Int) (D : List (List Rg)) (T : List Tm) (C f : Int) : List (List Rg) × Bool :=
  if (eAt D f).1 = 1 then (if K = 4 then keepIsS D T C else keepS D T C)
  else if (eAt D f).2 = 0 ∧ K = 4 then notS D T C
  else if (eAt D f).2 = 0 ∧ K = 5 then keepS D (opp T) (-C - 1)
  else if K = 5 ∧ (spanK D T T.length).2 ≤ C then loseS D f 0
  else if K = 4 ∧ (spanK D T T.length).1 = C ∧ (spanK D T T.length).2 = C then loseS D f 0
  else if C < (spanK D T T.length).1 ∨ (K = 4 ∧ (spanK D T T.length).2 < C) then loseS D f 1 else (D, true)
theorem tell_ref {K C f : Int} {D : List (List Rg)} {T : List Tm} (hK : 4 ≤ K ∧ K ≤ 6) (hD : DOk D) (hT : TOk T D) : tell (refS K D T C f) = tell (reifyS K D T C f) := by
  have hsp := span_le hD hT (Nat.le_refl T.length)
  have hopen : (eAt D f).1 ≠ 1 → ¬ ((eAt D f).2 = 0 ∧ K = 4) → ¬ ((eAt D f).2 = 0 ∧ K = 5) → refS K D T C f = openS K D T C f := by
    intro h1 h2 h3
    unfold refS openS
    rw [if_neg h1, if_neg h2, if_neg h3]
    generalize (spanK D T T.length).1 = lo at hsp ⊢
    generalize (spanK D T T.length).2 = hi at hsp ⊢
    by_cases a1 : K = 5 ∧ hi ≤ C
    · rw [if_pos a1, if_neg (by omega), if_pos (.inl a1)]
    · rw [if_neg a1]
      by_cases a2 : K = 4 ∧ lo = C ∧ hi = C
      · rw [if_pos a2, if_neg (by omega), if_pos (.inr a2)]
      · rw [if_neg a2]
        by_cases a3 : C < lo ∨ (K = 4 ∧ hi < C)
        · rw [if_pos a3, if_pos a3]
        · rw [if_neg a3, if_neg a3, if_neg (by omega)]
  unfold reifyS set1S set0S
  by_cases h1 : (eAt D f).1 = 1
  · rw [if_pos h1]
    unfold refS
    rw [if_pos h1]
    by_cases k4 : K = 4
    · rw [if_pos k4, if_pos k4]; exact tell_keepIs D T C
    · rw [if_neg k4, if_neg k4]; exact tell_keep D T C
  · rw [if_neg h1]
    by_cases h0 : (eAt D f).2 = 0
    · rw [if_pos h0]
      by_cases k4 : K = 4
      · rw [if_pos k4]
        unfold refS
        rw [if_neg h1, if_pos ⟨h0, k4⟩]
      · rw [if_neg k4]
        by_cases k5 : K = 5
        · rw [if_pos k5]
          unfold refS
          rw [if_neg h1, if_neg (fun h => k4 h.2), if_pos ⟨h0, k5⟩]
          exact tell_keep D (opp T) (-C - 1)
        · rw [if_neg k5, hopen h1 (fun h => k4 h.2) (fun h => k5 h.2)]
    · rw [if_neg h0, hopen h1 (fun h => h0 h.1) (fun h => h0 h.1)]
theorem ref13_lose (D : List (List Rg)) (x v : Int) (hx : 0 ≤ x ∧ x < D.length) (hD : D.length ≤ 1000000000000) (hd : ∀ d ∈ D, d.length ≤ 1000000000000) : Ctr Try.prog 108 [eDoms D, .int .i64 x, .int .i64 v] [] (.tuple [eDoms (loseS D x v).1, .bool (loseS D x v).2]) [] := by
  refine call_pure Try.func108 Try.call108 e_ref13_lose ?_
  have hr := row_get hx
  have h0 := hx.1
  have hl := hd _ (row_mem hx)
  have hxx : ((x.toNat : Nat) : Int) = x := by omega
  unfold loseS
  simp +contextual -implicitDefEqProofs (maxSteps := 1000000) only [c_ref13_lose, eDoms, sm, sn, seval, h0, hr]
  refine callA_rule (ref09_Without (rowOf D x) v hl) (by simp +contextual -implicitDefEqProofs (maxSteps := 1000000) only [sm, sn, seval, eRgs]) rfl ?_
  rw [← without_eq]
  have hws := ref12_With D x.toNat (withoutS v (rowOf D x)) hD
  rw [hxx] at hws
  simp +contextual -implicitDefEqProofs (maxSteps := 1000000) only [sm, sn, seval, eRgs]
  refine callA_rule hws (by simp +contextual -implicitDefEqProofs (maxSteps := 1000000) only [sm, sn, seval, eDoms, eRgs]) rfl ?_
  simp +contextual -implicitDefEqProofs (maxSteps := 1000000) only [sm, sn, seval, eDoms]
  refine callA_rule (ref12_Empty _ (by rw [List.length_set]; omega)) (wkL_refl _) rfl ?_
  simp +contextual -implicitDefEqProofs (maxSteps := 1000000) only [sm, sn, seval, Bool.not_not]
theorem ref13_narrow (c : Con) (D : List (List Rg)) (hK : 4 ≤ c.1 ∧ c.1 ≤ 6) (hm : modB (D, [c], 0, 0) = true) :
    Ctr Try.prog 60 [eCon c, eDoms D] [] (.tuple [eDoms (refS c.1 D (termsOf c) c.2.2.2 (flagX c)).1, .bool (refS c.1 D (termsOf c) c.2.2.2 (flagX c)).2]) [] := by
  obtain ⟨f1, f2, f3, f4, f5, f6⟩ := sum_facts hm (by omega)
  have hd := mod_rows hm
  have hhl := head_len hK hm
  have hxl := reif_len hK hm
  obtain ⟨hf, hft⟩ := flag_facts hK hm
  have hth := terms_head 1 hK hm
  have hTT : zipT c.2.2.1 (headX c) = termsOf c := hth
  have hTl := zip_len (A := c.2.2.1) (X := headX c) (by omega)
  have hTz : TOk (zipT c.2.2.1 (headX c)) D := by rw [hTT]; exact f3
  have hzo := zip_opp c.2.2.1 (headX c)
  have hTo : TOk (zipT (c.2.2.1.map fun a => -a) (headX c)) D := by rw [hzo]; exact opp_ok hTz rfl
  have hA : ∀ a ∈ c.2.2.1, -1048576 ≤ a ∧ a ≤ 1048576 := fun a ha => by
    have := (may_facts (one_facts hm).2.2).2.2.2.2 a ha
    exact (withinB_iff a).1 this
  have hfl : flagX c = xat c.2.1 (c.2.1.length - 1) := rfl
  have ht : List.take (c.2.1.length - 1) (c.2.1.map eI) = (headX c).map eI := by unfold headX; rw [List.map_take]
  have hsb := span_bound f2 f3 (Nat.le_refl (termsOf c).length)
  have h32 := f3.1
  have hos := opp_span (D := D) (Nat.le_refl (termsOf c).length)
  have c1 := ref12_Least c.2.2.1 (headX c) D f2 f1 (by omega) hTz
  have c2 := ref12_Least (c.2.2.1.map fun a => -a) (headX c) D f2 f1 (by rw [List.length_map]; omega) hTo
  rw [List.length_map, hzo, hTT] at c2
  rw [← hTl, hTT] at c1 c2
  rw [hos] at c2
  have k1 := ref12_KeepIs c.2.2.1 (headX c) c.2.2.2 D f2 f1 (by omega) hA hTz (by omega)
  have k2 := ref12_Keep c.2.2.1 (headX c) c.2.2.2 D f2 f1 (by omega) hTz (by omega)
  have k3 := ref12_KeepNot c.2.2.1 (headX c) c.2.2.2 D f2 f1 (by omega) hTz (by omega)
  have k4 := ref12_Keep (c.2.2.1.map fun a => -a) (headX c) (-c.2.2.2 - 1) D f2 f1 (by rw [List.length_map]; omega) hTo (by omega)
  have k5 := ref12_Opposite c.2.2.1 (by omega) hA
  have k6 := ref13_lose D (flagX c) 0 hf (by omega) hd
  have k7 := ref13_lose D (flagX c) 1 hf (by omega) hd
  rw [hTT] at k1 k2 k3
  rw [hzo, hTT] at k4
  have hfr := dom_right (f2 _ hf.1 hf.2)
  have hLo := ref12_Lo _ hfr.1 hfr.2
  have hHi := ref12_Hi _ hfr.1 hfr.2 (hd _ (row_mem hf))
  have q : endsV (rowOf D (flagX c)) = eAt D (flagX c) := rfl
  rw [q] at hLo hHi
  have hr := row_get hf
  have h0 := hf.1
  have e1 : IntKind.i64.wrap ((c.2.1.length : Int) - 1) = ((c.2.1.length - 1 : Nat) : Int) := by rw [wrap_i64] <;> omega
  have hx := xat_get (X := c.2.1) (i := c.2.1.length - 1) (by omega)
  rw [← hfl] at hx
  have hle1 : c.2.1.length - 1 ≤ c.2.1.length := by omega
  have w1 : IntKind.i64.wrap (0 - -(spanK D (termsOf c) (termsOf c).length).2) = (spanK D (termsOf c) (termsOf c).length).2 := by rw [wrap_i64] <;> omega
  have w2 : IntKind.i64.wrap (0 - c.2.2.2) = -c.2.2.2 := by rw [wrap_i64] <;> omega
  have w3 : IntKind.i64.wrap (-c.2.2.2 - 1) = -c.2.2.2 - 1 := by rw [wrap_i64] <;> omega
  unfold refS
  generalize notS D (termsOf c) c.2.2.2 = s3 at k3 ⊢
  generalize keepIsS D (termsOf c) c.2.2.2 = s1 at k1 ⊢
  generalize keepS D (termsOf c) c.2.2.2 = s2 at k2 ⊢
  generalize keepS D (opp (termsOf c)) (-c.2.2.2 - 1) = s4 at k4 ⊢
  generalize loseS D (flagX c) 0 = s6 at k6 ⊢
  generalize loseS D (flagX c) 1 = s7 at k7 ⊢
  generalize (spanK D (termsOf c) (termsOf c).length).1 = lo at c1 ⊢
  generalize (spanK D (termsOf c) (termsOf c).length).2 = hi at c2 w1 ⊢
  generalize (eAt D (flagX c)).1 = flo at hLo ⊢
  generalize (eAt D (flagX c)).2 = fhi at hHi ⊢
  generalize flagX c = f at hr h0 hx k6 k7 hLo hHi
  generalize headX c = H at ht c1 c2 k1 k2 k3 k4
  clear hTT hTl hTz hzo hTo hfl hsb hos hfr q hf hft hth
  obtain ⟨K, X, A, C⟩ := c
  simp only at *
  generalize hro : rowOf D f = r at hr hLo hHi
  refine call_pure Try.func60 Try.call60 e_ref13_narrow ?_
  simp +contextual -implicitDefEqProofs (maxSteps := 1000000) only [c_ref13_narrow, eCon, eIs, eDoms, sm, sn, seval, e1, hx, hle1, ht, Nat.zero_le]
  refine callA_rule c1 (by simp +contextual -implicitDefEqProofs (maxSteps := 1000000) only [sm, sn, seval, eIs, eDoms]) rfl ?_
  simp +contextual -implicitDefEqProofs (maxSteps := 1000000) only [sm, sn, seval]
  refine callA_rule k5 (by simp +contextual -implicitDefEqProofs (maxSteps := 1000000) only [sm, sn, seval, eIs, eDoms]) rfl ?_
  simp +contextual -implicitDefEqProofs (maxSteps := 1000000) only [sm, sn, seval, eIs]
  refine callA_rule c2 (by simp +contextual -implicitDefEqProofs (maxSteps := 1000000) only [sm, sn, seval, eIs, eDoms]) rfl ?_
  simp +contextual -implicitDefEqProofs (maxSteps := 1000000) only [sm, sn, seval, w1, h0, hr]
  refine callA_rule hLo (by simp +contextual -implicitDefEqProofs (maxSteps := 1000000) only [sm, sn, seval, eRgs]) rfl ?_
  simp +contextual -implicitDefEqProofs (maxSteps := 1000000) only [sm, sn, seval, h0, hr]
  refine callA_rule hHi (by simp +contextual -implicitDefEqProofs (maxSteps := 1000000) only [sm, sn, seval, eRgs]) rfl ?_
  by_cases a1 : flo = 1
  · rw [if_pos a1]
    by_cases g4 : K = 4
    · rw [if_pos g4]
      simp +contextual -implicitDefEqProofs (maxSteps := 1000000) only [sm, sn, seval, a1, g4]
      refine callA_rule k1 (by simp +contextual -implicitDefEqProofs (maxSteps := 1000000) only [sm, sn, seval, eIs, eDoms]) rfl ?_
      simp +contextual -implicitDefEqProofs (maxSteps := 1000000) only [sm, sn, seval, eDoms]
    · rw [if_neg g4]
      simp +contextual -implicitDefEqProofs (maxSteps := 1000000) only [sm, sn, seval, a1, g4]
      refine callA_rule k2 (by simp +contextual -implicitDefEqProofs (maxSteps := 1000000) only [sm, sn, seval, eIs, eDoms]) rfl ?_
      simp +contextual -implicitDefEqProofs (maxSteps := 1000000) only [sm, sn, seval, eDoms]
  · rw [if_neg a1]
    have hc : K = 4 ∨ K = 5 ∨ K = 6 := by omega
    rcases hc with rfl | rfl | rfl
    · by_cases a2 : fhi = 0
      · rw [if_pos ⟨a2, rfl⟩]
        simp +contextual -implicitDefEqProofs (maxSteps := 1000000) only [sm, sn, seval, a1, a2]
        refine callA_rule k3 (by simp +contextual -implicitDefEqProofs (maxSteps := 1000000) only [sm, sn, seval, eIs, eDoms]) rfl ?_
        simp +contextual -implicitDefEqProofs (maxSteps := 1000000) only [sm, sn, seval, eDoms]
      · rw [if_neg (fun h => a2 h.1), if_neg (by omega), if_neg (by omega)]
        by_cases b1 : lo = C
        · by_cases b2 : hi = C
          · rw [if_pos ⟨rfl, b1, b2⟩]
            simp +contextual -implicitDefEqProofs (maxSteps := 1000000) only [sm, sn, seval, a1, a2, b1, b2]
            refine callA_rule k6 (by simp +contextual -implicitDefEqProofs (maxSteps := 1000000) only [sm, sn, seval, eIs, eDoms]) rfl ?_
            simp +contextual -implicitDefEqProofs (maxSteps := 1000000) only [sm, sn, seval, eDoms]
          · rw [if_neg (by omega)]
            by_cases b3 : hi < C
            · rw [if_pos (.inr ⟨rfl, b3⟩)]
              simp +contextual -implicitDefEqProofs (maxSteps := 1000000) only [sm, sn, seval, a1, a2, b1, b2, b3, Int.lt_irrefl]
              refine callA_rule k7 (by simp +contextual -implicitDefEqProofs (maxSteps := 1000000) only [sm, sn, seval, eIs, eDoms]) rfl ?_
              simp +contextual -implicitDefEqProofs (maxSteps := 1000000) only [sm, sn, seval, eDoms]
            · rw [if_neg (by omega)]
              simp +contextual -implicitDefEqProofs (maxSteps := 1000000) only [sm, sn, seval, a1, a2, b1, b2, b3, Int.lt_irrefl, eDoms]
        · rw [if_neg (by omega)]
          by_cases b3 : C < lo
          · rw [if_pos (.inl b3)]
            simp +contextual -implicitDefEqProofs (maxSteps := 1000000) only [sm, sn, seval, a1, a2, b1, b3]
            refine callA_rule k7 (by simp +contextual -implicitDefEqProofs (maxSteps := 1000000) only [sm, sn, seval, eIs, eDoms]) rfl ?_
            simp +contextual -implicitDefEqProofs (maxSteps := 1000000) only [sm, sn, seval, eDoms]
          · by_cases b4 : hi < C
            · rw [if_pos (.inr ⟨rfl, b4⟩)]
              simp +contextual -implicitDefEqProofs (maxSteps := 1000000) only [sm, sn, seval, a1, a2, b1, b3, b4]
              refine callA_rule k7 (by simp +contextual -implicitDefEqProofs (maxSteps := 1000000) only [sm, sn, seval, eIs, eDoms]) rfl ?_
              simp +contextual -implicitDefEqProofs (maxSteps := 1000000) only [sm, sn, seval, eDoms]
            · rw [if_neg (by omega)]
              simp +contextual -implicitDefEqProofs (maxSteps := 1000000) only [sm, sn, seval, a1, a2, b1, b3, b4, eDoms]
    · rw [if_neg (by omega)]
      by_cases a2 : fhi = 0
      · rw [if_pos ⟨a2, rfl⟩]
        simp +contextual -implicitDefEqProofs (maxSteps := 1000000) only [sm, sn, seval, a1, a2]
        refine callA_rule k5 (by simp +contextual -implicitDefEqProofs (maxSteps := 1000000) only [sm, sn, seval, eIs, eDoms]) rfl ?_
        simp +contextual -implicitDefEqProofs (maxSteps := 1000000) only [sm, sn, seval, eIs, w2, w3]
        refine callA_rule k4 (by simp +contextual -implicitDefEqProofs (maxSteps := 1000000) only [sm, sn, seval, eIs, eDoms]) rfl ?_
        simp +contextual -implicitDefEqProofs (maxSteps := 1000000) only [sm, sn, seval, eDoms]
      · rw [if_neg (fun h => a2 h.1)]
        by_cases b1 : hi ≤ C
        · rw [if_pos ⟨rfl, b1⟩]
          simp +contextual -implicitDefEqProofs (maxSteps := 1000000) only [sm, sn, seval, a1, a2, b1]
          refine callA_rule k6 (by simp +contextual -implicitDefEqProofs (maxSteps := 1000000) only [sm, sn, seval, eIs, eDoms]) rfl ?_
          simp +contextual -implicitDefEqProofs (maxSteps := 1000000) only [sm, sn, seval, eDoms]
        · rw [if_neg (by omega), if_neg (by omega)]
          by_cases b3 : C < lo
          · rw [if_pos (.inl b3)]
            simp +contextual -implicitDefEqProofs (maxSteps := 1000000) only [sm, sn, seval, a1, a2, b1, b3]
            refine callA_rule k7 (by simp +contextual -implicitDefEqProofs (maxSteps := 1000000) only [sm, sn, seval, eIs, eDoms]) rfl ?_
            simp +contextual -implicitDefEqProofs (maxSteps := 1000000) only [sm, sn, seval, eDoms]
          · rw [if_neg (by omega)]
            simp +contextual -implicitDefEqProofs (maxSteps := 1000000) only [sm, sn, seval, a1, a2, b1, b3, eDoms]
    · rw [if_neg (by omega), if_neg (by omega), if_neg (by omega), if_neg (by omega)]
      by_cases a2 : fhi = 0
      · by_cases b3 : C < lo
        · rw [if_pos (.inl b3)]
          simp +contextual -implicitDefEqProofs (maxSteps := 1000000) only [sm, sn, seval, a1, a2, b3]
          refine callA_rule k7 (by simp +contextual -implicitDefEqProofs (maxSteps := 1000000) only [sm, sn, seval, eIs, eDoms]) rfl ?_
          simp +contextual -implicitDefEqProofs (maxSteps := 1000000) only [sm, sn, seval, eDoms]
        · rw [if_neg (by omega)]
          simp +contextual -implicitDefEqProofs (maxSteps := 1000000) only [sm, sn, seval, a1, a2, b3, eDoms]
      · by_cases b3 : C < lo
        · rw [if_pos (.inl b3)]
          simp +contextual -implicitDefEqProofs (maxSteps := 1000000) only [sm, sn, seval, a1, a2, b3]
          refine callA_rule k7 (by simp +contextual -implicitDefEqProofs (maxSteps := 1000000) only [sm, sn, seval, eIs, eDoms]) rfl ?_
          simp +contextual -implicitDefEqProofs (maxSteps := 1000000) only [sm, sn, seval, eDoms]
        · rw [if_neg (by omega)]
          simp +contextual -implicitDefEqProofs (maxSteps := 1000000) only [sm, sn, seval, a1, a2, b3, eDoms]
theorem ref13_Narrow (c : Con) (D : List (List Rg)) (hD : D.length ≤ 1000000000000) (hd : ∀ d ∈ D, d.length ≤ 1000000000000) (hc : conFits c) :
    Ctr Try.prog 29 [eCon c, eDoms D] [] (.tuple [eDoms (reifyL c D).1, .int .i64 (reifyL c D).2]) [] := by
  obtain ⟨K, X, A, C⟩ := c
  refine call_pure Try.func29 Try.call29 e_ref13_Narrow ?_
  simp +contextual -implicitDefEqProofs (maxSteps := 1000000) only [c_ref13_Narrow, eCon, eIs, eDoms, sm, sn, seval]
  refine callA_rule (ref12_Fit (K, X, A, C) D hD hd hc) (wkL_refl _) rfl ?_
  cases hm : fitB (K, X, A, C) D
  · have hres : reifyL (K, X, A, C) D = ([], 2) := by
      unfold reifyL
      rw [if_neg (by unfold fitB at hm; simp [hm])]
    rw [hres]
    simp +contextual -implicitDefEqProofs (maxSteps := 1000000) only [sm, sn, seval, eDoms]
  have hm' : modB (D, [(K, X, A, C)], 0, 0) = true := hm
  by_cases k1 : K < 4
  · have hres : reifyL (K, X, A, C) D = ([], 10) := by
      unfold reifyL
      rw [if_pos hm', if_neg (by simp only; omega)]
    rw [hres]
    simp +contextual -implicitDefEqProofs (maxSteps := 1000000) only [sm, sn, seval, eCon, eIs, eDoms, k1]
  by_cases k2 : 6 < K
  · have hres : reifyL (K, X, A, C) D = ([], 10) := by
      unfold reifyL
      rw [if_pos hm', if_neg (by simp only; omega)]
    rw [hres]
    simp +contextual -implicitDefEqProofs (maxSteps := 1000000) only [sm, sn, seval, eCon, eIs, eDoms, k1, k2]
  have hK : 4 ≤ K ∧ K ≤ 6 := by omega
  obtain ⟨f1, f2, f3, f4, f5, f6⟩ := sum_facts hm' (by simp only; omega)
  have hN := ref13_narrow (K, X, A, C) D hK hm'
  have hres : reifyL (K, X, A, C) D = tell (refS K D (termsOf (K, X, A, C)) C (flagX (K, X, A, C))) := by
    unfold reifyL
    rw [if_pos hm', if_pos hK, tell_ref hK f2 f3]
  rw [hres]
  obtain ⟨E, b, hs⟩ : ∃ E b, refS K D (termsOf (K, X, A, C)) C (flagX (K, X, A, C)) = (E, b) := ⟨_, _, rfl⟩
  simp only at hN
  rw [hs] at hN ⊢
  simp +contextual -implicitDefEqProofs (maxSteps := 1000000) only [sm, sn, seval, eCon, eIs, k1, k2]
  refine callA_rule hN (by simp +contextual -implicitDefEqProofs (maxSteps := 1000000) only [sm, sn, seval, eCon, eIs, eDoms]) rfl ?_
  cases b
  · simp +contextual -implicitDefEqProofs (maxSteps := 1000000) only [sm, sn, seval, tell_12, eDoms]
  · simp +contextual -implicitDefEqProofs (maxSteps := 1000000) only [sm, sn, seval, tell_0, eDoms]
theorem reify_size {c : Con} {D : List (List Rg)} (hD : D.length ≤ 1000000000000) (hd : ∀ d ∈ D, d.length ≤ 1000000000000) : (reifyL c D).1.length ≤ 1000000000000 ∧ ∀ d ∈ (reifyL c D).1, d.length ≤ 1000000000000 := by
  by_cases hm : modB (D, [c], 0, 0) = true
  · by_cases hK : 4 ≤ c.1 ∧ c.1 ≤ 6
    · rcases reify_res hK hm with h | ⟨E, h, hle, -⟩
      · rw [h]; simp
      · rw [h]; exact ⟨by have := hle.1; simp only; omega, le_rows hle⟩
    · unfold reifyL; rw [if_pos hm, if_neg hK]; simp
  · unfold reifyL; rw [if_neg hm]; simp
end Go.Proofs.Ytbhigfllanblpaa
