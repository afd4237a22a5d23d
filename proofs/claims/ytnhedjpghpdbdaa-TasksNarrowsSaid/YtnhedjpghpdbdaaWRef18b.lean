/- What the reference computes for tasks: ends, Narrow. -/
import Derived.Test.YtnhedjpghpdbdaaWRef18
import Derived.Test.YtnhedjpghpdbdaaCRef17N
import Derived.Test.YtnhedjpghpdbdaaCRef12k
namespace Go.Proofs.Ytnhedjpghpdbdaa
open Av
attribute [local irreducible] awp awpOpers
set_option linter.unusedSimpArgs false
set_option linter.unusedVariables false
set_option maxRecDepth 100000
set_option maxHeartbeats 4000000
theorem ref12_EmptyT (D : List (List Rg)) (hD : D.length ≤ 1000000000000) : Ctr Try.prog 91 [eDoms D] [] (.bool (!wholeB D)) [] := by
  refine call_pure Try.func91 Try.call91 e_ref12_Empty ?_
  simp +contextual -implicitDefEqProofs (maxSteps := 1000000) only [c_ref12_Empty, eDoms, sm, sn, sxx, seval]
  refine loop_rule (fun k : Nat => k ≤ D.length ∧ ∀ (j : Nat) x, j < k → D[j]? = some x → (fun r : List Rg => !decide (r.length = 0)) x = true) (fun k => tm 16 [(0, .list 1 (D.map eRgs)), (3, .int .i64 k)]) (fun _ => []) (fun k => D.length - k) 0 ⟨by omega, by omega⟩ ⟨[], by decide, rfl, ?_, ?_⟩ ?_
  · simp +contextual -implicitDefEqProofs (maxSteps := 1000000) only [sm, sn, sxx, seval]
  · simp +contextual -implicitDefEqProofs (maxSteps := 1000000) only [sm, sn, sxx, seval, Int.natCast_zero]
  · rintro k ⟨hk, hok⟩
    by_cases hlt : k < D.length
    · obtain ⟨x, hx⟩ : ∃ r, D[k]? = some r := ⟨_, List.getElem?_eq_getElem hlt⟩
      have hlt' : (k : Int) < (D.length : Int) := by omega
      have e2 : IntKind.i64.wrap ((k : Int) + 1) = ((k + 1 : Nat) : Int) := by rw [wrap_i64] <;> omega
      by_cases h0 : x.length = 0
      · have h0' : ((x.length : Int) = 0) = True := by simp only [eq_iff_iff, iff_true]; omega
        have hno : wholeB D = false := by
          unfold wholeB
          rw [List.any_eq_true.2 ⟨x, List.mem_of_getElem? hx, by simp [h0]⟩]; rfl
        rw [hno]
        simp +contextual -implicitDefEqProofs (maxSteps := 1000000) only [sm, sn, sxx, seval, hlt', hx, h0', eRgs]
      · have h0' : ((x.length : Int) = 0) = False := by simp only [eq_iff_iff, iff_false]; omega
        simp +contextual -implicitDefEqProofs (maxSteps := 1000000) only [sm, sn, sxx, seval, hlt', hx, h0', eRgs, e2]
        refine ⟨k + 1, ⟨by omega, ?_⟩, by omega, [], by decide, rfl, ?_, ?_⟩
        · intro j y hj hy
          rcases Nat.lt_succ_iff_lt_or_eq.1 hj with h | rfl
          · exact hok j y h hy
          · rw [hx] at hy; injection hy with hy; subst hy; simp [h0]
        · simp +contextual -implicitDefEqProofs (maxSteps := 1000000) only [sm, sn, sxx, seval]
        · simp +contextual -implicitDefEqProofs (maxSteps := 1000000) only [sm, sn, sxx, seval]
    · have : k = D.length := by omega
      subst this
      have hall := listall_yes hok
      have hyes : wholeB D = true := by
        unfold wholeB
        rw [Bool.not_eq_true', List.any_eq_false]
        intro r hr
        have := List.all_eq_true.1 hall r hr
        simpa using this
      rw [hyes]
      simp +contextual -implicitDefEqProofs (maxSteps := 1000000) only [sm, sn, sxx, seval, Int.lt_irrefl]
/-- what Keep leaves -/
def keepS (D : List (List Rg)) (T : List Tm) (n : Int) : List (List Rg) × Bool :=
  if n - (spanK D T T.length).1 < 0 then ([], false) else (mostK D T (n - (spanK D T T.length).1) T.length, wholeB (mostK D T (n - (spanK D T T.length).1) T.length))
theorem ref12_DoneT (D : List (List Rg)) (hD : D.length ≤ 1000000000000) : Ctr Try.prog 49 [eDoms D] [] (.tuple [eDoms (tell (D, wholeB D)).1, .int .i64 (tell (D, wholeB D)).2]) [] := by
  refine call_pure Try.func49 Try.call49 e_ref12_Done ?_
  simp +contextual -implicitDefEqProofs (maxSteps := 1000000) only [c_ref12_Done, eDoms, sm, sn, sxx, seval]
  refine callA_rule (ref12_EmptyT D hD) (wkL_refl _) rfl ?_
  cases hw : wholeB D
  · simp +contextual -implicitDefEqProofs (maxSteps := 1000000) only [sm, sn, sxx, seval, tell, Bool.not_false]
  · simp +contextual -implicitDefEqProofs (maxSteps := 1000000) only [sm, sn, sxx, seval, tell, Bool.not_true]
theorem upT_step {E : List Rg} {A : List Int} {C : Int} {i : Nat} {hi lo : Int} (h1 : lo ≤ hi) (h2 : clashB E A C i lo = true) : upT E A C i hi (hi - lo + 1).toNat lo = upT E A C i hi (hi - (lo + 1) + 1).toNat (lo + 1) := by
  obtain ⟨n, hn⟩ : ∃ n, (hi - lo + 1).toNat = n + 1 := ⟨(hi - lo + 1).toNat - 1, by omega⟩
  have e : (hi - (lo + 1) + 1).toNat = n := by omega
  rw [hn, e]
  conv => lhs; unfold upT
  rw [if_pos ⟨h1, h2⟩]
theorem upT_stop {E : List Rg} {A : List Int} {C : Int} {i : Nat} {hi lo : Int} (h : ¬ (lo ≤ hi ∧ clashB E A C i lo = true)) (n : Nat) : upT E A C i hi n lo = lo := by
  cases n with
  | zero => rfl
  | succ n => unfold upT; rw [if_neg h]
theorem dnT_step {E : List Rg} {A : List Int} {C : Int} {i : Nat} {hi lo : Int} (h1 : lo ≤ hi) (h2 : clashB E A C i hi = true) : dnT E A C i lo (hi - lo + 1).toNat hi = dnT E A C i lo (hi - 1 - lo + 1).toNat (hi - 1) := by
  obtain ⟨n, hn⟩ : ∃ n, (hi - lo + 1).toNat = n + 1 := ⟨(hi - lo + 1).toNat - 1, by omega⟩
  have e : (hi - 1 - lo + 1).toNat = n := by omega
  rw [hn, e]
  conv => lhs; unfold dnT
  rw [if_pos ⟨h1, h2⟩]
theorem dnT_stop {E : List Rg} {A : List Int} {C : Int} {i : Nat} {hi lo : Int} (h : ¬ (lo ≤ hi ∧ clashB E A C i hi = true)) (n : Nat) : dnT E A C i lo n hi = hi := by
  cases n with
  | zero => rfl
  | succ n => unfold dnT; rw [if_neg h]
theorem ref18_ends (X A : List Int) (C : Int) (D : List (List Rg)) (k : Nat) (hT : TkC X A C D) (hlt : k < X.length) : Ctr Try.prog 46 [eCon (19, X, A, C), eDoms D, .int .i64 k] [] (.tuple [eRg (rendsT (edRows D X) A C k), .bool (decide ((rendsT (edRows D X) A C k).1 ≤ (rendsT (edRows D X) A C k).2))]) [] := by
  refine call_pure Try.func46 Try.call46 e_ref18_ends ?_
  have hx := xat_get hlt
  obtain ⟨hr, h0, hxn, g1, g2, g3⟩ := hT.row hlt
  have hb := task_rg hT.hT k
  have hHi := ref12_Hi (rowOf D (xat X k)) g1 g2 g3
  have hLo := ref12_Lo (rowOf D (xat X k)) g1 g2
  have hcl := fun s hs => ref18_clash X A C D k s hT hlt hs
  rw [← edRows_at (D := D) hlt] at hHi hLo
  have hv : rendsT (edRows D X) A C k = (upT (edRows D X) A C k (edAt (edRows D X) k).2 ((edAt (edRows D X) k).2 - (edAt (edRows D X) k).1 + 1).toNat (edAt (edRows D X) k).1, dnT (edRows D X) A C k (upT (edRows D X) A C k (edAt (edRows D X) k).2 ((edAt (edRows D X) k).2 - (edAt (edRows D X) k).1 + 1).toNat (edAt (edRows D X) k).1) ((edAt (edRows D X) k).2 - (upT (edRows D X) A C k (edAt (edRows D X) k).2 ((edAt (edRows D X) k).2 - (edAt (edRows D X) k).1 + 1).toNat (edAt (edRows D X) k).1) + 1).toNat (edAt (edRows D X) k).2) := rfl
  generalize edRows D X = E at hb hHi hLo hcl hv ⊢
  generalize (edAt E k).1 = r1 at hb hLo hv ⊢
  generalize (edAt E k).2 = r2 at hb hHi hv ⊢
  obtain ⟨LO, hLO⟩ : ∃ LO, upT E A C k r2 (r2 - r1 + 1).toNat r1 = LO := ⟨_, rfl⟩
  rw [hLO] at hv
  obtain ⟨HI, hHI⟩ : ∃ HI, dnT E A C k LO (r2 - LO + 1).toNat r2 = HI := ⟨_, rfl⟩
  rw [hHI] at hv
  rw [hv]
  simp +contextual -implicitDefEqProofs (maxSteps := 1000000) only [c_ref18_ends, eCon, eIs, eDoms, eRg, sm, sn, sxx, seval, hx, h0, hr, hxn]
  refine callA_rule hLo (by simp +contextual -implicitDefEqProofs (maxSteps := 1000000) only [sm, sn, sxx, seval, eRgs]) rfl ?_
  simp +contextual -implicitDefEqProofs (maxSteps := 1000000) only [sm, sn, sxx, seval]
  refine callA_rule hHi (by simp +contextual -implicitDefEqProofs (maxSteps := 1000000) only [sm, sn, sxx, seval, eRgs]) rfl ?_
  simp +contextual -implicitDefEqProofs (maxSteps := 1000000) only [sm, sn, sxx, seval, eCon, eIs]
  refine loop_rule (fun lo : Int => -1048576 ≤ lo ∧ lo ≤ 1048577 ∧ upT E A C k r2 (r2 - lo + 1).toNat lo = LO) (fun lo => tm 73 [(1, .list 1 (D.map eRgs)), (2, .int .i64 k), (3, .ptr 4 0 0 0), (6, .ptr 2 1 0 0), (9, .ptr 2 2 0 0)]) (fun lo => [some (4, [eCon (19, X, A, C)]), some (2, [.agg [.int .i64 0, .int .i64 0]]), some (2, [.agg [.int .i64 lo, .int .i64 r2]])]) (fun lo => (r2 - lo + 1).toNat) r1 ⟨by omega, by omega, hLO⟩ ⟨[0, 1, 2], by decide, rfl, ?_, ?_⟩ ?_
  · simp +contextual -implicitDefEqProofs (maxSteps := 1000000) only [sm, sn, sxx, seval, eCon, eIs]
  · simp +contextual -implicitDefEqProofs (maxSteps := 1000000) only [sm, sn, sxx, seval]
  · rintro lo ⟨h1, h2, h3⟩
    by_cases hle : lo ≤ r2
    · cases hroom : clashB E A C k lo
      · have hs := upT_stop (E := E) (A := A) (C := C) (i := k) (hi := r2) (lo := lo) (by rw [hroom]; simp) (r2 - lo + 1).toNat
        rw [hs] at h3
        subst h3
        simp +contextual -implicitDefEqProofs (maxSteps := 1000000) only [sm, sn, sxx, seval, hle, eCon, eIs]
        refine callA_rule (hcl lo (by omega)) (by simp +contextual -implicitDefEqProofs (maxSteps := 1000000) only [sm, sn, sxx, seval, eCon, eIs, eDoms]) rfl ?_
        rw [hroom]
        simp +contextual -implicitDefEqProofs (maxSteps := 1000000) only [sm, sn, sxx, seval, eCon, eIs]
        refine loop_rule (fun hi : Int => -1048577 ≤ hi ∧ hi ≤ 1048576 ∧ dnT E A C k lo (hi - lo + 1).toNat hi = HI) (fun hi => tm 73 [(1, .list 1 (D.map eRgs)), (2, .int .i64 k), (3, .ptr 4 0 0 0), (6, .ptr 2 1 0 0), (9, .ptr 2 2 0 0)]) (fun hi => [some (4, [eCon (19, X, A, C)]), some (2, [.agg [.int .i64 0, .int .i64 0]]), some (2, [.agg [.int .i64 lo, .int .i64 hi]])]) (fun hi => (hi - lo + 1).toNat) r2 ⟨by omega, by omega, hHI⟩ ⟨[0, 1, 2], by decide, rfl, ?_, ?_⟩ ?_
        · simp +contextual -implicitDefEqProofs (maxSteps := 1000000) only [sm, sn, sxx, seval, eCon, eIs]
        · simp +contextual -implicitDefEqProofs (maxSteps := 1000000) only [sm, sn, sxx, seval]
        · rintro hi ⟨j1, j2, j3⟩
          by_cases hlh : lo ≤ hi
          · cases hroom2 : clashB E A C k hi
            · have hs2 := dnT_stop (E := E) (A := A) (C := C) (i := k) (hi := hi) (lo := lo) (by rw [hroom2]; simp) (hi - lo + 1).toNat
              rw [hs2] at j3
              subst j3
              simp +contextual -implicitDefEqProofs (maxSteps := 1000000) only [sm, sn, sxx, seval, hlh, eCon, eIs]
              refine callA_rule (hcl hi (by omega)) (by simp +contextual -implicitDefEqProofs (maxSteps := 1000000) only [sm, sn, sxx, seval, eCon, eIs, eDoms]) rfl ?_
              rw [hroom2]
              simp +contextual -implicitDefEqProofs (maxSteps := 1000000) only [sm, sn, sxx, seval, hlh, eCon, eIs]
            · have hs2 := dnT_step hlh hroom2
              have w1 : IntKind.i64.wrap (hi - 1) = hi - 1 := by rw [wrap_i64] <;> omega
              simp +contextual -implicitDefEqProofs (maxSteps := 1000000) only [sm, sn, sxx, seval, hlh, eCon, eIs]
              refine callA_rule (hcl hi (by omega)) (by simp +contextual -implicitDefEqProofs (maxSteps := 1000000) only [sm, sn, sxx, seval, eCon, eIs, eDoms]) rfl ?_
              rw [hroom2]
              simp +contextual -implicitDefEqProofs (maxSteps := 1000000) only [sm, sn, sxx, seval, w1, eCon, eIs]
              refine ⟨hi - 1, ⟨by omega, by omega, by rw [← hs2]; exact j3⟩, by omega, [0, 1, 2], by decide, rfl, ?_, ?_⟩
              · simp +contextual -implicitDefEqProofs (maxSteps := 1000000) only [sm, sn, sxx, seval, eCon, eIs]
              · simp +contextual -implicitDefEqProofs (maxSteps := 1000000) only [sm, sn, sxx, seval]
          · have hs2 := dnT_stop (E := E) (A := A) (C := C) (i := k) (hi := hi) (lo := lo) (by omega) (hi - lo + 1).toNat
            rw [hs2] at j3
            subst j3
            simp +contextual -implicitDefEqProofs (maxSteps := 1000000) only [sm, sn, sxx, seval, hlh, eCon, eIs]
      · have hs := upT_step hle hroom
        have w1 : IntKind.i64.wrap (lo + 1) = lo + 1 := by rw [wrap_i64] <;> omega
        simp +contextual -implicitDefEqProofs (maxSteps := 1000000) only [sm, sn, sxx, seval, hle, eCon, eIs]
        refine callA_rule (hcl lo (by omega)) (by simp +contextual -implicitDefEqProofs (maxSteps := 1000000) only [sm, sn, sxx, seval, eCon, eIs, eDoms]) rfl ?_
        rw [hroom]
        simp +contextual -implicitDefEqProofs (maxSteps := 1000000) only [sm, sn, sxx, seval, w1, eCon, eIs]
        refine ⟨lo + 1, ⟨by omega, by omega, by rw [← hs]; exact h3⟩, by omega, [0, 1, 2], by decide, rfl, ?_, ?_⟩
        · simp +contextual -implicitDefEqProofs (maxSteps := 1000000) only [sm, sn, sxx, seval, eCon, eIs]
        · simp +contextual -implicitDefEqProofs (maxSteps := 1000000) only [sm, sn, sxx, seval]
    · have hs := upT_stop (E := E) (A := A) (C := C) (i := k) (hi := r2) (lo := lo) (by omega) (r2 - lo + 1).toNat
      rw [hs] at h3
      subst h3
      simp +contextual -implicitDefEqProofs (maxSteps := 1000000) only [sm, sn, sxx, seval, hle, eCon, eIs]
      refine loop_rule (fun hi : Int => -1048577 ≤ hi ∧ hi ≤ 1048576 ∧ dnT E A C k lo (hi - lo + 1).toNat hi = HI) (fun hi => tm 73 [(1, .list 1 (D.map eRgs)), (2, .int .i64 k), (3, .ptr 4 0 0 0), (6, .ptr 2 1 0 0), (9, .ptr 2 2 0 0)]) (fun hi => [some (4, [eCon (19, X, A, C)]), some (2, [.agg [.int .i64 0, .int .i64 0]]), some (2, [.agg [.int .i64 lo, .int .i64 hi]])]) (fun hi => (hi - lo + 1).toNat) r2 ⟨by omega, by omega, hHI⟩ ⟨[0, 1, 2], by decide, rfl, ?_, ?_⟩ ?_
      · simp +contextual -implicitDefEqProofs (maxSteps := 1000000) only [sm, sn, sxx, seval, eCon, eIs]
      · simp +contextual -implicitDefEqProofs (maxSteps := 1000000) only [sm, sn, sxx, seval]
      · rintro hi ⟨j1, j2, j3⟩
        by_cases hlh : lo ≤ hi
        · cases hroom2 : clashB E A C k hi
          · have hs2 := dnT_stop (E := E) (A := A) (C := C) (i := k) (hi := hi) (lo := lo) (by rw [hroom2]; simp) (hi - lo + 1).toNat
            rw [hs2] at j3
            subst j3
            simp +contextual -implicitDefEqProofs (maxSteps := 1000000) only [sm, sn, sxx, seval, hlh, eCon, eIs]
            refine callA_rule (hcl hi (by omega)) (by simp +contextual -implicitDefEqProofs (maxSteps := 1000000) only [sm, sn, sxx, seval, eCon, eIs, eDoms]) rfl ?_
            rw [hroom2]
            simp +contextual -implicitDefEqProofs (maxSteps := 1000000) only [sm, sn, sxx, seval, hlh, eCon, eIs]
          · have hs2 := dnT_step hlh hroom2
            have w1 : IntKind.i64.wrap (hi - 1) = hi - 1 := by rw [wrap_i64] <;> omega
            simp +contextual -implicitDefEqProofs (maxSteps := 1000000) only [sm, sn, sxx, seval, hlh, eCon, eIs]
            refine callA_rule (hcl hi (by omega)) (by simp +contextual -implicitDefEqProofs (maxSteps := 1000000) only [sm, sn, sxx, seval, eCon, eIs, eDoms]) rfl ?_
            rw [hroom2]
            simp +contextual -implicitDefEqProofs (maxSteps := 1000000) only [sm, sn, sxx, seval, w1, eCon, eIs]
            refine ⟨hi - 1, ⟨by omega, by omega, by rw [← hs2]; exact j3⟩, by omega, [0, 1, 2], by decide, rfl, ?_, ?_⟩
            · simp +contextual -implicitDefEqProofs (maxSteps := 1000000) only [sm, sn, sxx, seval, eCon, eIs]
            · simp +contextual -implicitDefEqProofs (maxSteps := 1000000) only [sm, sn, sxx, seval]
        · have hs2 := dnT_stop (E := E) (A := A) (C := C) (i := k) (hi := hi) (lo := lo) (by omega) (hi - lo + 1).toNat
          rw [hs2] at j3
          subst j3
          simp +contextual -implicitDefEqProofs (maxSteps := 1000000) only [sm, sn, sxx, seval, hlh, eCon, eIs]
theorem rtasksN_len {E : List Rg} {A : List Int} {C : Int} {D : List (List Rg)} {X : List Int} : ∀ k F, rtasksN E A C D X k = some F → F.length = D.length
  | 0, F, h => by simp only [rtasksN] at h; injection h with h; rw [← h]
  | k + 1, F, h => by
    unfold rtasksN at h
    split at h
    · cases h
    · rename_i G hG
      have ih := rtasksN_len k G hG
      split at h
      · injection h with h; rw [← h]; exact ih
      · split at h
        · injection h with h; rw [← h, List.length_set]; exact ih
        · cases h
theorem rtasksN_rows {E : List Rg} {A : List Int} {C : Int} {D : List (List Rg)} {X : List Int} {n : Nat} (hd : ∀ d ∈ D, d.length ≤ n) : ∀ k F, rtasksN E A C D X k = some F → ∀ d ∈ F, d.length ≤ n
  | 0, F, h => by simp only [rtasksN] at h; injection h with h; rw [← h]; exact hd
  | k + 1, F, h => by
    unfold rtasksN at h
    split at h
    · cases h
    · rename_i G hG
      have ih := rtasksN_rows hd k G hG
      split at h
      · injection h with h; rw [← h]; exact ih
      · split at h
        · injection h with h
          rw [← h]
          intro d hd'
          rcases List.mem_or_eq_of_mem_set hd' with h1 | rfl
          · exact ih d h1
          · refine Nat.le_trans (rcutS_length _ _ _) ?_
            unfold rowOf
            cases hr : G[(xat X k).toNat]? with
            | none => simp
            | some r => exact ih r (List.mem_of_getElem? hr)
        · cases h
theorem rtasksN_no {E : List Rg} {A : List Int} {C : Int} {D : List (List Rg)} {X : List Int} {k m : Nat} (hk : k ≤ m) (h : rtasksN E A C D X k = none) : rtasksN E A C D X m = none := by
  induction m with
  | zero => have : k = 0 := by omega
            subst this; exact h
  | succ m ih =>
    rcases Nat.lt_or_ge k (m + 1) with h1 | h1
    · unfold rtasksN; rw [ih (by omega)]
    · have : k = m + 1 := by omega
      subst this; exact h
theorem ref18_Narrow (c : Con) (D : List (List Rg)) (hD : D.length ≤ 1000000000000) (hd : ∀ d ∈ D, d.length ≤ 1000000000000) (hc : conFits c) :
    Ctr Try.prog 21 [eCon c, eDoms D] [] (.tuple [eDoms (rtasksL c D).1, .int .i64 (rtasksL c D).2]) [] := by
  obtain ⟨K, X, A, C⟩ := c
  refine call_pure Try.func21 Try.call21 e_ref18_Narrow ?_
  simp +contextual -implicitDefEqProofs (maxSteps := 1000000) only [c_ref18_Narrow, eCon, eIs, eDoms, sm, sn, sxx, seval]
  refine callA_rule (ref12_Fit (K, X, A, C) D hD hd hc) (by simp +contextual -implicitDefEqProofs (maxSteps := 1000000) only [sm, sn, sxx, seval, eCon, eIs, eDoms]) rfl ?_
  cases hm : fitB (K, X, A, C) D
  · have hm : modB (D, [(K, X, A, C)], 0, 0) = false := hm
    have hres : rtasksL (K, X, A, C) D = ([], 2) := by
      unfold rtasksL
      rw [if_neg (by simp [hm])]
    rw [hres]
    simp +contextual -implicitDefEqProofs (maxSteps := 1000000) only [sm, sn, sxx, seval, eDoms]
  have hm : modB (D, [(K, X, A, C)], 0, 0) = true := hm
  by_cases hK : K = 19
  rotate_left
  · have hres : rtasksL (K, X, A, C) D = ([], 10) := by
      unfold rtasksL
      rw [if_pos hm, if_neg (by simp only; omega)]
    rw [hres]
    simp +contextual -implicitDefEqProofs (maxSteps := 1000000) only [sm, sn, sxx, seval, eCon, eIs, hK, eDoms]
  subst hK
  have hT := tkc_of hm
  have hov := ref18_over X A C D hT
  have hen := fun k hk => ref18_ends X A C D k hT hk
  have hEl := edRows_len D X
  have hres : rtasksL (19, X, A, C) D = if overT (edRows D X) A C = true then ([], 12) else rtellT (rtasksN (edRows D X) A C D X X.length) := by
    unfold rtasksL
    rw [if_pos hm, if_pos rfl]
  rw [hres]
  generalize edRows D X = E at hov hen hEl ⊢
  simp +contextual -implicitDefEqProofs (maxSteps := 1000000) only [sm, sn, sxx, seval, eCon, eIs]
  refine callA_rule hov (by simp +contextual -implicitDefEqProofs (maxSteps := 1000000) only [sm, sn, sxx, seval, eCon, eIs, eDoms]) rfl ?_
  cases ho : overT E A C
  rotate_left
  · simp +contextual -implicitDefEqProofs (maxSteps := 1000000) only [sm, sn, sxx, seval, eDoms]
  simp +contextual -implicitDefEqProofs (maxSteps := 1000000) only [sm, sn, sxx, seval, eCon, eIs]
  refine loop_rule (fun b : Nat × List (List Rg) => b.1 ≤ X.length ∧ rtasksN E A C D X b.1 = some b.2) (fun b => tm 71 [(1, .list 1 (D.map eRgs)), (2, .ptr 4 0 0 0), (6, .list 1 (b.2.map eRgs)), (7, .int .i64 b.1)]) (fun b => [some (4, [eCon (19, X, A, C)])]) (fun b => X.length - b.1) (0, D) ⟨Nat.zero_le _, rfl⟩ ⟨[0], by decide, rfl, ?_, ?_⟩ ?_
  · simp +contextual -implicitDefEqProofs (maxSteps := 1000000) only [sm, sn, sxx, seval, eCon, eIs]
  · simp +contextual -implicitDefEqProofs (maxSteps := 1000000) only [sm, sn, sxx, seval, Int.natCast_zero]
  · rintro ⟨k, F⟩ ⟨hk, hF⟩
    simp only at hk hF
    have hFl := rtasksN_len k F hF
    have hFd := rtasksN_rows hT.hd k F hF
    have hDl := hT.hD
    have h32 := hT.hX
    by_cases hlt : k < X.length
    · have hlt' : (k : Int) < (X.length : Int) := by omega
      have e2 : IntKind.i64.wrap ((k : Int) + 1) = ((k + 1 : Nat) : Int) := by rw [wrap_i64] <;> omega
      have hx := xat_get hlt
      have hin := hT.hI k hlt
      have hAl := hT.hA
      have h32 := hT.hX
      have hb : A[X.length + k]? = some (xat A (X.length + k)) := xat_get (by omega)
      have hlb : X.length + k < A.length := by omega
      have w2 : IntKind.i64.wrap ((X.length : Int) + (k : Int)) = ((X.length + k : Nat) : Int) := by rw [wrap_i64] <;> omega
      have hnd : needT E A k = xat A (X.length + k) := by unfold needT; rw [hEl]
      have hst : rtasksN E A C D X (k + 1) = if needT E A k = 0 then some F else if (rendsT E A C k).1 ≤ (rendsT E A C k).2 then some (F.set (xat X k).toNat (rcutS (rendsT E A C k).1 (rendsT E A C k).2 (rowOf F (xat X k)))) else none := by
        conv => lhs; unfold rtasksN; rw [hF]
      rw [hnd] at hst
      by_cases hz : xat A (X.length + k) = 0
      · rw [if_pos hz] at hst
        simp +contextual -implicitDefEqProofs (maxSteps := 1000000) only [sm, sn, sxx, seval, eCon, eIs, hlt', w2, hb, hlb, hz, e2]
        refine ⟨(k + 1, F), ⟨by dsimp only; omega, hst⟩, by dsimp only; omega, [0], by decide, rfl, ?_, ?_⟩
        · simp +contextual -implicitDefEqProofs (maxSteps := 1000000) only [sm, sn, sxx, seval, eCon, eIs]
        · simp +contextual -implicitDefEqProofs (maxSteps := 1000000) only [sm, sn, sxx, seval]
      · rw [if_neg hz] at hst
        have he := hen k hlt
        obtain ⟨⟨p, q⟩, hpq⟩ : ∃ y, rendsT E A C k = y := ⟨_, rfl⟩
        rw [hpq] at hst he
        simp only at hst he
        simp +contextual -implicitDefEqProofs (maxSteps := 1000000) only [sm, sn, sxx, seval, eCon, eIs, hlt', w2, hb, hlb, hz]
        refine callA_rule he (by simp +contextual -implicitDefEqProofs (maxSteps := 1000000) only [sm, sn, sxx, seval, eCon, eIs, eDoms]) rfl ?_
        by_cases hle : p ≤ q
        · rw [if_pos hle] at hst
          have hr := row_get (D := F) (x := xat X k) (by omega)
          have hrl : (rowOf F (xat X k)).length ≤ 1000000000000 := hFd _ (List.mem_of_getElem? hr)
          have h0 := hin.1
          have hxn : (xat X k).toNat < F.length := by omega
          have hcast : xat X k = ((xat X k).toNat : Int) := by omega
          simp +contextual -implicitDefEqProofs (maxSteps := 1000000) only [sm, sn, sxx, seval, eRg, eCon, eIs, hle, hx, hr, h0, hxn]
          refine callA_rule (ref09_Cut (rowOf F (xat X k)) p q hrl) (by simp +contextual -implicitDefEqProofs (maxSteps := 1000000) only [sm, sn, sxx, seval, eRgs]) rfl ?_
          simp +contextual -implicitDefEqProofs (maxSteps := 1000000) only [sm, sn, sxx, seval, eRgs]
          refine callA_rule (ref12_With F (xat X k).toNat (rcutS p q (rowOf F (xat X k))) (by omega)) (by rw [← hcast]; simp +contextual -implicitDefEqProofs (maxSteps := 1000000) only [sm, sn, sxx, seval, eRgs, eDoms]) rfl ?_
          simp +contextual -implicitDefEqProofs (maxSteps := 1000000) only [sm, sn, sxx, seval, e2, eDoms]
          refine ⟨(k + 1, F.set (xat X k).toNat (rcutS p q (rowOf F (xat X k)))), ⟨by dsimp only; omega, hst⟩, by dsimp only; omega, [0], by decide, rfl, ?_, ?_⟩
          · simp +contextual -implicitDefEqProofs (maxSteps := 1000000) only [sm, sn, sxx, seval, eCon, eIs]
          · simp +contextual -implicitDefEqProofs (maxSteps := 1000000) only [sm, sn, sxx, seval]
        · rw [if_neg hle] at hst
          have hno := rtasksN_no (m := X.length) (by omega) hst
          rw [hno]
          simp +contextual -implicitDefEqProofs (maxSteps := 1000000) only [sm, sn, sxx, seval, eRg, eCon, eIs, hle, rtellT, eDoms]
    · have hkn : k = X.length := by omega
      subst hkn
      rw [hF]
      simp +contextual -implicitDefEqProofs (maxSteps := 1000000) only [sm, sn, sxx, seval, Int.lt_irrefl, eCon, eIs]
      refine callA_rule (ref12_DoneT F (by omega)) (by simp +contextual -implicitDefEqProofs (maxSteps := 1000000) only [sm, sn, sxx, seval, eDoms]) rfl ?_
      simp +contextual -implicitDefEqProofs (maxSteps := 1000000) only [sm, sn, sxx, seval, rtellT, eDoms]
end Go.Proofs.Ytnhedjpghpdbdaa
