/- What Floor, Ceil of package touchstoneref01 and Keep, KeepIs, KeepNot, Empty of package touchstoneref12 compute. -/
import Derived.Test.YtbhigfllanblpaaGLinLaw
import Derived.Test.YtbhigfllanblpaaCRef01
import Derived.Test.YtbhigfllanblpaaCRef12k
namespace Go.Proofs.Ytbhigfllanblpaa
open Av
attribute [local irreducible] awp awpOpers
set_option linter.unusedSimpArgs false
set_option linter.unusedVariables false
set_option maxRecDepth 100000
set_option maxHeartbeats 4000000
/-- quotients rounded down, and up -/
def flr (a b : Int) : Int := if ¬ a.tmod b = 0 ∧ ¬ decide (a < 0) = decide (b < 0) then a.tdiv b - 1 else a.tdiv b
def cel (a b : Int) : Int := if ¬ a.tmod b = 0 ∧ decide (a < 0) = decide (b < 0) then a.tdiv b + 1 else a.tdiv b
theorem ref01_Floor (a b : Int) (ha : -1000000000000000 ≤ a ∧ a ≤ 1000000000000000) (hb : ¬ b = 0) : Ctr Try.prog 147 [.int .i64 a, .int .i64 b] [] (.tuple [.int .i64 (flr a b), .int .i64 0]) [] := by
  refine call_pure Try.func147 Try.call147 e_ref01_Floor ?_
  have hm : ¬ a = -9223372036854775808 := by omega
  have hq := tdiv_small (a := b) ha
  have w1 : IntKind.i64.wrap (a.tdiv b) = a.tdiv b := by rw [wrap_i64] <;> omega
  have w2 : IntKind.i64.wrap (a.tdiv b - 1) = a.tdiv b - 1 := by rw [wrap_i64] <;> omega
  by_cases h1 : a.tmod b = 0
  · have hv : flr a b = a.tdiv b := by unfold flr; rw [if_neg (by simp [h1])]
    rw [hv]
    simp +contextual -implicitDefEqProofs (maxSteps := 1000000) only [c_ref01_Floor, sm, sn, seval, hb, hm, w1, h1]
  · by_cases h2 : a < 0 <;> by_cases h3 : b < 0
    · have hv : flr a b = a.tdiv b := by unfold flr; simp [h1, h2, h3]
      rw [hv]
      simp +contextual -implicitDefEqProofs (maxSteps := 1000000) only [c_ref01_Floor, sm, sn, seval, hb, hm, w1, w2, h1, h2, h3]
      try simp
    · have hv : flr a b = a.tdiv b - 1 := by unfold flr; simp [h1, h2, h3]
      rw [hv]
      simp +contextual -implicitDefEqProofs (maxSteps := 1000000) only [c_ref01_Floor, sm, sn, seval, hb, hm, w1, w2, h1, h2, h3]
      try simp
    · have hv : flr a b = a.tdiv b - 1 := by unfold flr; simp [h1, h2, h3]
      rw [hv]
      simp +contextual -implicitDefEqProofs (maxSteps := 1000000) only [c_ref01_Floor, sm, sn, seval, hb, hm, w1, w2, h1, h2, h3]
      try simp
    · have hv : flr a b = a.tdiv b := by unfold flr; simp [h1, h2, h3]
      rw [hv]
      simp +contextual -implicitDefEqProofs (maxSteps := 1000000) only [c_ref01_Floor, sm, sn, seval, hb, hm, w1, w2, h1, h2, h3]
      try simp
theorem ref01_Ceil (a b : Int) (ha : -1000000000000000 ≤ a ∧ a ≤ 1000000000000000) (hb : ¬ b = 0) : Ctr Try.prog 157 [.int .i64 a, .int .i64 b] [] (.tuple [.int .i64 (cel a b), .int .i64 0]) [] := by
  refine call_pure Try.func157 Try.call157 e_ref01_Ceil ?_
  have hm : ¬ a = -9223372036854775808 := by omega
  have hq := tdiv_small (a := b) ha
  have w1 : IntKind.i64.wrap (a.tdiv b) = a.tdiv b := by rw [wrap_i64] <;> omega
  have w2 : IntKind.i64.wrap (a.tdiv b + 1) = a.tdiv b + 1 := by rw [wrap_i64] <;> omega
  by_cases h1 : a.tmod b = 0
  · have hv : cel a b = a.tdiv b := by unfold cel; rw [if_neg (by simp [h1])]
    rw [hv]
    simp +contextual -implicitDefEqProofs (maxSteps := 1000000) only [c_ref01_Ceil, sm, sn, seval, hb, hm, w1, h1]
  · by_cases h2 : a < 0 <;> by_cases h3 : b < 0
    · have hv : cel a b = a.tdiv b + 1 := by unfold cel; simp [h1, h2, h3]
      rw [hv]
      simp +contextual -implicitDefEqProofs (maxSteps := 1000000) only [c_ref01_Ceil, sm, sn, seval, hb, hm, w1, w2, h1, h2, h3]
      try simp
    · have hv : cel a b = a.tdiv b := by unfold cel; simp [h1, h2, h3]
      rw [hv]
      simp +contextual -implicitDefEqProofs (maxSteps := 1000000) only [c_ref01_Ceil, sm, sn, seval, hb, hm, w1, w2, h1, h2, h3]
      try simp
    · have hv : cel a b = a.tdiv b := by unfold cel; simp [h1, h2, h3]
      rw [hv]
      simp +contextual -implicitDefEqProofs (maxSteps := 1000000) only [c_ref01_Ceil, sm, sn, seval, hb, hm, w1, w2, h1, h2, h3]
      try simp
    · have hv : cel a b = a.tdiv b + 1 := by unfold cel; simp [h1, h2, h3]
      rw [hv]
      simp +contextual -implicitDefEqProofs (maxSteps := 1000000) only [c_ref01_Ceil, sm, sn, seval, hb, hm, w1, w2, h1, h2, h3]
      try simp
theorem flr_pos {a b : Int} (ha : 0 ≤ a) (hb : 0 < b) : flr a b = a.tdiv b := by
  have h1 : ¬ a < 0 := by omega
  have h2 : ¬ b < 0 := by omega
  unfold flr
  rw [if_neg (by simp [h1, h2])]
theorem ref12_Empty (D : List (List Rg)) (hD : D.length ≤ 1000000000000) : Ctr Try.prog 149 [eDoms D] [] (.bool (!wholeB D)) [] := by
  refine call_pure Try.func149 Try.call149 e_ref12_Empty ?_
  simp +contextual -implicitDefEqProofs (maxSteps := 1000000) only [c_ref12_Empty, eDoms, sm, sn, seval]
  refine loop_rule (fun k : Nat => k ≤ D.length ∧ ∀ (j : Nat) x, j < k → D[j]? = some x → (fun r : List Rg => !decide (r.length = 0)) x = true) (fun k => tm 16 [(0, .list 1 (D.map eRgs)), (3, .int .i64 k)]) (fun _ => []) (fun k => D.length - k) 0 ⟨by omega, by omega⟩ ⟨[], by decide, rfl, ?_, ?_⟩ ?_
  · simp +contextual -implicitDefEqProofs (maxSteps := 1000000) only [sm, sn, seval]
  · simp +contextual -implicitDefEqProofs (maxSteps := 1000000) only [sm, sn, seval, Int.natCast_zero]
  · rintro k ⟨hk, hok⟩
    by_cases hlt : k < D.length
    · obtain ⟨x, hx⟩ : ∃ r, D[k]? = some r := ⟨_, List.getElem?_eq_getElem hlt⟩
      have hlt' : (k : Int) < (D.length : Int) := by omega
      have e2 : IntKind.i64.wrap ((k : Int) + 1) = ((k + 1 : Nat) : Int) := by rw [wrap_i64] <;> omega
      by_cases h0 : x.length = 0
      · have h0' : ((x.length : Int) = 0) = True := by simp only [eq_iff_iff, iff_true]; omega
        have hno : wholeB D = false := by
          unfold wholeB
          rw [List.any_eq_true.2 ⟨x, List.mem_of_getElem? hx, by simp [h0]⟩]; rfl
        rw [hno]
        simp +contextual -implicitDefEqProofs (maxSteps := 1000000) only [sm, sn, seval, hlt', hx, h0', eRgs]
      · have h0' : ((x.length : Int) = 0) = False := by simp only [eq_iff_iff, iff_false]; omega
        simp +contextual -implicitDefEqProofs (maxSteps := 1000000) only [sm, sn, seval, hlt', hx, h0', eRgs, e2]
        refine ⟨k + 1, ⟨by omega, ?_⟩, by omega, [], by decide, rfl, ?_, ?_⟩
        · intro j y hj hy
          rcases Nat.lt_succ_iff_lt_or_eq.1 hj with h | rfl
          · exact hok j y h hy
          · rw [hx] at hy; injection hy with hy; subst hy; simp [h0]
        · simp +contextual -implicitDefEqProofs (maxSteps := 1000000) only [sm, sn, seval]
        · simp +contextual -implicitDefEqProofs (maxSteps := 1000000) only [sm, sn, seval]
    · have : k = D.length := by omega
      subst this
      have hall := listall_yes hok
      have hyes : wholeB D = true := by
        unfold wholeB
        rw [Bool.not_eq_true', List.any_eq_false]
        intro r hr
        have := List.all_eq_true.1 hall r hr
        simpa using this
      rw [hyes]
      simp +contextual -implicitDefEqProofs (maxSteps := 1000000) only [sm, sn, seval, Int.lt_irrefl]
/-- what Keep leaves -/
def keepS (D : List (List Rg)) (T : List Tm) (n : Int) : List (List Rg) × Bool :=
  if n - (spanK D T T.length).1 < 0 then ([], false) else (mostK D T (n - (spanK D T T.length).1) T.length, wholeB (mostK D T (n - (spanK D T T.length).1) T.length))
theorem tell_keep (D : List (List Rg)) (T : List Tm) (n : Int) : tell (keepS D T n) = tell (mostS D T n) := by
  unfold keepS mostS
  split <;> rfl
theorem keep_true {D E : List (List Rg)} {T : List Tm} {n : Int} (h : keepS D T n = (E, true)) : mostS D T n = (E, true) := by
  unfold keepS at h
  unfold mostS
  split at h
  · cases h
  · rename_i hn; rw [if_neg hn]; exact h
def keepIsS (D : List (List Rg)) (T : List Tm) (n : Int) : List (List Rg) × Bool := match keepS D T n with
  | (_, false) => ([], false)
  | (E, true) => keepS E (opp T) (-n)
theorem tell_keepIs (D : List (List Rg)) (T : List Tm) (n : Int) : tell (keepIsS D T n) = tell (isS D T n) := by
  unfold keepIsS isS keepS mostS
  by_cases hn : n - (spanK D T T.length).1 < 0
  · rw [if_pos hn, if_pos hn]; rfl
  · rw [if_neg hn, if_neg hn]
    cases wholeB (mostK D T (n - (spanK D T T.length).1) T.length)
    · rfl
    · simp only
      split <;> rfl
theorem ref12_Keep (A X : List Int) (n : Int) (D : List (List Rg)) (hD : DOk D) (hDl : D.length ≤ 64) (hAX : A.length ≤ X.length) (hT : TOk (zipT A X) D) (hn : -1048577 ≤ n ∧ n ≤ 1048577) :
    Ctr Try.prog 106 [eIs A, eIs X, .int .i64 n, eDoms D] [] (.tuple [eDoms (keepS D (zipT A X) n).1, .bool (keepS D (zipT A X) n).2]) [] := by
  have hTl := zip_len hAX
  have hT32 := hT.1
  have hsb := span_bound hD hT (Nat.le_refl (zipT A X).length)
  refine call_pure Try.func106 Try.call106 e_ref12_Keep ?_
  simp +contextual -implicitDefEqProofs (maxSteps := 1000000) only [c_ref12_Keep, eIs, eDoms, sm, sn, seval]
  refine callA_rule (ref12_Least A X D hD hDl hAX hT) (wkL_refl _) rfl ?_
  have hS : keepS D (zipT A X) n = if n - (spanK D (zipT A X) (zipT A X).length).1 < 0 then ([], false) else (mostK D (zipT A X) (n - (spanK D (zipT A X) (zipT A X).length).1) (zipT A X).length, wholeB (mostK D (zipT A X) (n - (spanK D (zipT A X) (zipT A X).length).1) (zipT A X).length)) := rfl
  rw [hS, ← hTl]
  clear hS
  generalize (spanK D (zipT A X) (zipT A X).length).1 = m at hsb ⊢
  have w0 : IntKind.i64.wrap (n - m) = n - m := by rw [wrap_i64] <;> omega
  by_cases hneg : n - m < 0
  · have hneg' : n < m := by omega
    rw [if_pos hneg]
    simp +contextual -implicitDefEqProofs (maxSteps := 1000000) only [sm, sn, seval, hneg', eDoms]
  · have hneg' : ¬ n < m := by omega
    rw [if_neg hneg]
    have hrm : -100000000000000 ≤ n - m ∧ n - m ≤ 100000000000000 := by omega
    generalize hroom : n - m = room at w0 hneg hrm ⊢
    simp +contextual -implicitDefEqProofs (maxSteps := 1000000) only [sm, sn, seval, hneg']
    rw [hTl]
    refine loop_rule (fun k : Nat => k ≤ A.length) (fun k => tm 105 [(0, .list 1 (A.map eI)), (1, .list 1 (X.map eI)), (2, .int .i64 n), (3, .list 1 (D.map eRgs)), (10, .int .i64 m), (11, .list 1 ((mostK D (zipT A X) room k).map eRgs)), (12, .int .i64 k)]) (fun _ => []) (fun k => A.length - k) 0 (Nat.zero_le _) ⟨[], by decide, rfl, ?_, ?_⟩ ?_
    · simp +contextual -implicitDefEqProofs (maxSteps := 1000000) only [sm, sn, seval]
    · simp +contextual -implicitDefEqProofs (maxSteps := 1000000) only [sm, sn, seval, Int.natCast_zero, mostK]
    · intro k hk
      have hle := most_le (room := room) hD hT (k := k) (by omega)
      have hEl := hle.1
      by_cases hlt : k < A.length
      · have hlt' : (k : Int) < (A.length : Int) := by omega
        have e2 : IntKind.i64.wrap ((k : Int) + 1) = ((k + 1 : Nat) : Int) := by rw [wrap_i64] <;> omega
        obtain ⟨a, ha⟩ : ∃ r, A[k]? = some r := ⟨_, List.getElem?_eq_getElem hlt⟩
        obtain ⟨x, hx⟩ : ∃ r, X[k]? = some r := ⟨_, List.getElem?_eq_getElem (by omega)⟩
        have et := zip_tX ha hx
        obtain ⟨b1, b2⟩ := hT.2 k (by omega)
        have hM : mostK D (zipT A X) room (k + 1) = (mostK D (zipT A X) room k).set (tX (zipT A X) k).2.toNat (cutS (cutOf D room (tX (zipT A X) k)).1 (cutOf D room (tX (zipT A X) k)).2 (rowOf (mostK D (zipT A X) room k) (tX (zipT A X) k).2)) := rfl
        rw [et] at b1 b2 hM
        simp only at b1 b2 hM
        have hr := row_get b2
        have hr0 := row_get (D := mostK D (zipT A X) room k) (x := x) (by omega)
        have hsub := hle.2 _ b2.1 b2.2
        obtain ⟨_, e3, e4, e5⟩ := eAt_facts hD b2
        have hdx := hD _ b2.1 b2.2
        have hdr := dom_right hdx
        have hl1 := right_length hdr.1
        have hl2 := right_length hsub.1
        have h0 := b2.1
        have hxx : ((x.toNat : Nat) : Int) = x := by omega
        have q1 : (endsV (rowOf D x)).1 = (eAt D x).1 := rfl
        have q2 : (endsV (rowOf D x)).2 = (eAt D x).2 := rfl
        have hup := fun u => cut_up hsub hdx u
        have hdn := fun u => cut_down hsub hdx u
        have hwn := cut_within hsub hdx
        unfold cutOf at hM
        rw [q1, q2] at hup hdn hwn
        have hws : ∀ r, Ctr Try.prog 148 [.list 1 ((mostK D (zipT A X) room k).map eRgs), .int .i64 x, .list 2 (r.map eRg)] [] (.list 1 (((mostK D (zipT A X) room k).set x.toNat r).map eRgs)) [] := fun r => by
          have := ref12_With (mostK D (zipT A X) room k) x.toNat r (by omega)
          rw [hxx] at this
          exact this
        simp +contextual -implicitDefEqProofs (maxSteps := 1000000) only [sm, sn, seval, hlt', ha, hx, h0, hr]
        by_cases hpa : 0 < a
        · obtain ⟨d1, d2⟩ := tdiv_bound (r := room) hpa (by omega)
          have ha0 : ¬ a = 0 := by omega
          have w2 : IntKind.i64.wrap ((eAt D x).1 + room.tdiv a) = (eAt D x).1 + room.tdiv a := by rw [wrap_i64] <;> omega
          rw [if_pos hpa] at hM
          simp only at hM
          rw [hup] at hM
          simp +contextual -implicitDefEqProofs (maxSteps := 1000000) only [sm, sn, seval, hpa, ha, hroom, w0]
          refine callA_rule (ref01_Floor room a (by omega) ha0) (wkL_refl _) rfl ?_
          rw [flr_pos (by omega) hpa]
          simp +contextual -implicitDefEqProofs (maxSteps := 1000000) only [sm, sn, seval, hx, h0, hr, hr0]
          refine callA_rule (ref12_Lo _ hdr.1 hdr.2) (by simp +contextual -implicitDefEqProofs (maxSteps := 1000000) only [sm, sn, seval, eRgs]) rfl ?_
          rw [q1]
          simp +contextual -implicitDefEqProofs (maxSteps := 1000000) only [sm, sn, seval, eRgs, w2]
          refine callA_rule (ref09_Cut (rowOf (mostK D (zipT A X) room k) x) (-1099511627776) ((eAt D x).1 + room.tdiv a) (by omega)) (by simp +contextual -implicitDefEqProofs (maxSteps := 1000000) only [sm, sn, seval, eRgs]) rfl ?_
          simp +contextual -implicitDefEqProofs (maxSteps := 1000000) only [sm, sn, seval, eRgs]
          refine callA_rule (hws _) (wkL_refl _) rfl ?_
          rw [← cut_eq, ← hM]
          simp +contextual -implicitDefEqProofs (maxSteps := 1000000) only [sm, sn, seval, e2]
          refine ⟨k + 1, by omega, by omega, [], by decide, rfl, ?_, ?_⟩
          · simp +contextual -implicitDefEqProofs (maxSteps := 1000000) only [sm, sn, seval]
          · simp +contextual -implicitDefEqProofs (maxSteps := 1000000) only [sm, sn, seval]
        · by_cases hb2 : a < 0
          · obtain ⟨d1, d2⟩ := tdiv_bound (r := room) (a := -a) (by omega) (by omega)
            have ha0 : ¬ -a = 0 := by omega
            have w1 : IntKind.i64.wrap (0 - a) = -a := by rw [wrap_i64] <;> omega
            have w2 : IntKind.i64.wrap ((eAt D x).2 - room.tdiv (-a)) = (eAt D x).2 - room.tdiv (-a) := by rw [wrap_i64] <;> omega
            rw [if_neg hpa, if_pos hb2] at hM
            simp only at hM
            rw [hdn] at hM
            simp +contextual -implicitDefEqProofs (maxSteps := 1000000) only [sm, sn, seval, hpa, hb2, ha, hroom, w0, w1]
            refine callA_rule (ref01_Floor room (-a) (by omega) ha0) (wkL_refl _) rfl ?_
            rw [flr_pos (by omega) (by omega)]
            simp +contextual -implicitDefEqProofs (maxSteps := 1000000) only [sm, sn, seval, hx, h0, hr, hr0]
            refine callA_rule (ref12_Hi _ hdr.1 hdr.2 (by omega)) (by simp +contextual -implicitDefEqProofs (maxSteps := 1000000) only [sm, sn, seval, eRgs]) rfl ?_
            rw [q2]
            simp +contextual -implicitDefEqProofs (maxSteps := 1000000) only [sm, sn, seval, eRgs, w2]
            refine callA_rule (ref09_Cut (rowOf (mostK D (zipT A X) room k) x) ((eAt D x).2 - room.tdiv (-a)) 1099511627776 (by omega)) (by simp +contextual -implicitDefEqProofs (maxSteps := 1000000) only [sm, sn, seval, eRgs]) rfl ?_
            simp +contextual -implicitDefEqProofs (maxSteps := 1000000) only [sm, sn, seval, eRgs]
            refine callA_rule (hws _) (wkL_refl _) rfl ?_
            rw [← cut_eq, ← hM]
            simp +contextual -implicitDefEqProofs (maxSteps := 1000000) only [sm, sn, seval, e2]
            refine ⟨k + 1, by omega, by omega, [], by decide, rfl, ?_, ?_⟩
            · simp +contextual -implicitDefEqProofs (maxSteps := 1000000) only [sm, sn, seval]
            · simp +contextual -implicitDefEqProofs (maxSteps := 1000000) only [sm, sn, seval]
          · rw [if_neg hpa, if_neg hb2] at hM
            have hz : ∀ p : Int × Int, p = eAt D x → cutS p.1 p.2 (rowOf (mostK D (zipT A X) room k) x) = rowOf (mostK D (zipT A X) room k) x := fun p hp => by rw [hp]; exact hwn
            rw [hz _ rfl, set_self (by omega)] at hM
            simp +contextual -implicitDefEqProofs (maxSteps := 1000000) only [sm, sn, seval, hpa, hb2, e2]
            refine ⟨k + 1, by omega, by omega, [], by decide, rfl, ?_, ?_⟩
            · simp +contextual -implicitDefEqProofs (maxSteps := 1000000) only [sm, sn, seval]
            · simp +contextual -implicitDefEqProofs (maxSteps := 1000000) only [sm, sn, seval, hM]
      · have hkn : k = A.length := by omega
        subst hkn
        simp +contextual -implicitDefEqProofs (maxSteps := 1000000) only [sm, sn, seval, Int.lt_irrefl]
        refine callA_rule (ref12_Empty _ (by omega)) (wkL_refl _) rfl ?_
        simp +contextual -implicitDefEqProofs (maxSteps := 1000000) only [sm, sn, seval, eDoms, Bool.not_not]
theorem ref12_KeepIs (A X : List Int) (n : Int) (D : List (List Rg)) (hD : DOk D) (hDl : D.length ≤ 64) (hAX : A.length ≤ X.length) (hA : ∀ a ∈ A, -1048576 ≤ a ∧ a ≤ 1048576) (hT : TOk (zipT A X) D) (hn : -1048577 ≤ n ∧ n ≤ 1048577) :
    Ctr Try.prog 105 [eIs A, eIs X, .int .i64 n, eDoms D] [] (.tuple [eDoms (keepIsS D (zipT A X) n).1, .bool (keepIsS D (zipT A X) n).2]) [] := by
  have hTl := zip_len hAX
  have hT32 := hT.1
  refine call_pure Try.func105 Try.call105 e_ref12_KeepIs ?_
  simp +contextual -implicitDefEqProofs (maxSteps := 1000000) only [c_ref12_KeepIs, eIs, eDoms, sm, sn, seval]
  refine callA_rule (ref12_Keep A X n D hD hDl hAX hT hn) (wkL_refl _) rfl ?_
  obtain ⟨E, b, hs⟩ : ∃ E b, keepS D (zipT A X) n = (E, b) := ⟨_, _, rfl⟩
  rw [hs]
  unfold keepIsS
  rw [hs]
  have w1 : IntKind.i64.wrap (0 - n) = -n := by rw [wrap_i64] <;> omega
  cases b
  · simp +contextual -implicitDefEqProofs (maxSteps := 1000000) only [sm, sn, seval, eDoms]
  · have hm := keep_true hs
    have hle := most_len hD hT hm
    have hE := whole_ok hle (most_true hm)
    have hzo := zip_opp A X
    have hTo := opp_ok hT (E := E) hle.1
    rw [← hzo] at hTo
    simp +contextual -implicitDefEqProofs (maxSteps := 1000000) only [sm, sn, seval, eIs, eDoms]
    refine callA_rule (ref12_Opposite A (by omega) hA) (wkL_refl _) rfl ?_
    simp +contextual -implicitDefEqProofs (maxSteps := 1000000) only [sm, sn, seval, eIs, eDoms, w1]
    refine callA_rule (ref12_Keep (A.map fun a => -a) X (-n) E hE (by have := hle.1; omega) (by rw [List.length_map]; exact hAX) hTo (by omega)) (wkL_refl _) rfl ?_
    rw [hzo]
    simp +contextual -implicitDefEqProofs (maxSteps := 1000000) only [sm, sn, seval, eDoms]
theorem ref12_KeepNot (A X : List Int) (n : Int) (D : List (List Rg)) (hD : DOk D) (hDl : D.length ≤ 64) (hAX : A.length ≤ X.length) (hT : TOk (zipT A X) D) (hn : -1048577 ≤ n ∧ n ≤ 1048577) :
    Ctr Try.prog 107 [eIs A, eIs X, .int .i64 n, eDoms D] [] (.tuple [eDoms (notS D (zipT A X) n).1, .bool (notS D (zipT A X) n).2]) [] := by
  have hTl := zip_len hAX
  have hT32 := hT.1
  refine call_pure Try.func107 Try.call107 e_ref12_KeepNot ?_
  simp +contextual -implicitDefEqProofs (maxSteps := 1000000) only [c_ref12_KeepNot, eIs, eDoms, sm, sn, seval]
  refine loop_rule (fun b : Nat × Nat => b.1 ≤ A.length ∧ ((openK D (zipT A X) b.1).1 = [] ∨ (b.2 < b.1 ∧ ∃ l, (openK D (zipT A X) b.1).1 = l ++ [tX (zipT A X) b.2]))) (fun b => tm 101 [(0, .list 1 (A.map eI)), (1, .list 1 (X.map eI)), (2, .int .i64 n), (3, .list 1 (D.map eRgs)), (10, .int .i64 (openK D (zipT A X) b.1).1.length), (11, .int .i64 b.2), (12, .int .i64 (openK D (zipT A X) b.1).2), (13, .int .i64 b.1)]) (fun _ => []) (fun b => A.length - b.1) (0, 0) ⟨by simp, by simp [openK]⟩ ⟨[], by decide, rfl, ?_, ?_⟩ ?_
  · simp +contextual -implicitDefEqProofs (maxSteps := 1000000) only [sm, sn, seval]
  · simp +contextual -implicitDefEqProofs (maxSteps := 1000000) only [sm, sn, seval, Int.natCast_zero, openK]
  · rintro ⟨k, at'⟩ ⟨hk, hat⟩
    simp only at hk hat
    obtain ⟨of1, of2, of3⟩ := open_facts hD hT (k := k) (by omega)
    by_cases hlt : k < A.length
    · have hlt' : (k : Int) < (A.length : Int) := by omega
      have e2 : IntKind.i64.wrap ((k : Int) + 1) = ((k + 1 : Nat) : Int) := by rw [wrap_i64] <;> omega
      obtain ⟨a, ha⟩ : ∃ r, A[k]? = some r := ⟨_, List.getElem?_eq_getElem hlt⟩
      obtain ⟨x, hx⟩ : ∃ r, X[k]? = some r := ⟨_, List.getElem?_eq_getElem (by omega)⟩
      have et := zip_tX ha hx
      obtain ⟨b1, b2⟩ := hT.2 k (by omega)
      have hO : openK D (zipT A X) (k + 1) = if (tX (zipT A X) k).1 = 0 ∨ (eAt D (tX (zipT A X) k).2).1 = (eAt D (tX (zipT A X) k).2).2 then ((openK D (zipT A X) k).1, (openK D (zipT A X) k).2 + (tX (zipT A X) k).1 * (eAt D (tX (zipT A X) k).2).1) else ((openK D (zipT A X) k).1 ++ [tX (zipT A X) k], (openK D (zipT A X) k).2) := rfl
      rw [et] at b1 b2 hO
      simp only at b1 b2 hO
      have hr := row_get b2
      obtain ⟨_, e3, e4, e5⟩ := eAt_facts hD b2
      have hdr := dom_right (hD _ b2.1 b2.2)
      have hl1 := right_length hdr.1
      have h0 := b2.1
      have q1 : (endsV (rowOf D x)).1 = (eAt D x).1 := rfl
      have q2 : (endsV (rowOf D x)).2 = (eAt D x).2 := rfl
      have hm := mul_bound (a := a) (b := (eAt D x).1) b1 (by omega)
      have hFx := ref12_Fixed _ hdr.1 hdr.2 (by omega)
      have hLo := ref12_Lo _ hdr.1 hdr.2
      rw [q1] at hLo hFx
      rw [q2] at hFx
      generalize (eAt D x).1 = lo at e3 e4 hO hLo hFx hm ⊢
      generalize (eAt D x).2 = hi at e4 e5 hO hFx ⊢
      generalize rowOf D x = r at hr hl1 hdr hFx hLo ⊢
      generalize hol : (openK D (zipT A X) k).1 = ol at hO of1 of3 hat ⊢
      generalize hos : (openK D (zipT A X) k).2 = os at hO of2 ⊢
      have w1 : IntKind.i64.wrap (a * lo) = a * lo := by rw [wrap_i64] <;> omega
      have w2 : IntKind.i64.wrap (os + a * lo) = os + a * lo := by rw [wrap_i64] <;> omega
      have w3 : IntKind.i64.wrap ((ol.length : Int) + 1) = ((ol.length + 1 : Nat) : Int) := by rw [wrap_i64] <;> omega
      by_cases ha0 : a = 0
      · rw [if_pos (.inl ha0)] at hO
        have ha' : (a = 0) = True := eq_true ha0
        have w1' : IntKind.i64.wrap (0 * lo) = a * lo := by rw [ha0, Int.zero_mul]; rfl
        simp +contextual -implicitDefEqProofs (maxSteps := 1000000) only [sm, sn, seval, hlt', ha, ha', hx, h0, hr, hol, hos]
        refine callA_rule hLo (by simp +contextual -implicitDefEqProofs (maxSteps := 1000000) only [sm, sn, seval, eRgs]) rfl ?_
        simp +contextual -implicitDefEqProofs (maxSteps := 1000000) only [sm, sn, seval, w1, w1', w2, e2]
        refine ⟨(k + 1, at'), ⟨by (try dsimp only); omega, by simp only [hO]; rcases hat with h | ⟨h1, h2⟩; exact .inl h; exact .inr ⟨by omega, h2⟩⟩, by (try dsimp only); omega, [], by decide, rfl, ?_, ?_⟩
        · simp +contextual -implicitDefEqProofs (maxSteps := 1000000) only [sm, sn, seval, hO]
        · simp +contextual -implicitDefEqProofs (maxSteps := 1000000) only [sm, sn, seval, hO]
      · have ha' : (a = 0) = False := eq_false ha0
        simp +contextual -implicitDefEqProofs (maxSteps := 1000000) only [sm, sn, seval, hlt', ha, ha', hx, h0, hr, hol, hos]
        refine callA_rule hFx (by simp +contextual -implicitDefEqProofs (maxSteps := 1000000) only [sm, sn, seval, eRgs]) rfl ?_
        by_cases hl : lo = hi
        · rw [if_pos (.inr hl)] at hO
          have hl' : (lo = hi) = True := eq_true hl
          simp +contextual -implicitDefEqProofs (maxSteps := 1000000) only [sm, sn, seval, ha, hl', hx, h0, hr]
          refine callA_rule hLo (by simp +contextual -implicitDefEqProofs (maxSteps := 1000000) only [sm, sn, seval, eRgs]) rfl ?_
          simp +contextual -implicitDefEqProofs (maxSteps := 1000000) only [sm, sn, seval, w1, w2, e2]
          refine ⟨(k + 1, at'), ⟨by (try dsimp only); omega, by simp only [hO]; rcases hat with h | ⟨h1, h2⟩; exact .inl h; exact .inr ⟨by omega, h2⟩⟩, by (try dsimp only); omega, [], by decide, rfl, ?_, ?_⟩
          · simp +contextual -implicitDefEqProofs (maxSteps := 1000000) only [sm, sn, seval, hO]
          · simp +contextual -implicitDefEqProofs (maxSteps := 1000000) only [sm, sn, seval, hO]
        · rw [if_neg (by rintro (h | h); exact ha0 h; exact hl h)] at hO
          have hl' : (lo = hi) = False := eq_false hl
          simp +contextual -implicitDefEqProofs (maxSteps := 1000000) only [sm, sn, seval, hl', w3, e2]
          refine ⟨(k + 1, k), ⟨by (try dsimp only); omega, .inr ⟨by (try dsimp only); omega, ol, by simp only [hO, et]⟩⟩, by (try dsimp only); omega, [], by decide, rfl, ?_, ?_⟩
          · simp +contextual -implicitDefEqProofs (maxSteps := 1000000) only [sm, sn, seval, hO]
          · simp +contextual -implicitDefEqProofs (maxSteps := 1000000) only [sm, sn, seval, hO, List.length_append]
    · have hkn : k = A.length := by omega
      subst hkn
      have hN : notS D (zipT A X) n = if 1 < (openK D (zipT A X) (zipT A X).length).1.length then (D, true) else if (openK D (zipT A X) (zipT A X).length).1.length = 0 then (D, decide (¬ n - (openK D (zipT A X) (zipT A X).length).2 = 0)) else
        if ¬ (n - (openK D (zipT A X) (zipT A X).length).2).tmod (tX (openK D (zipT A X) (zipT A X).length).1 0).1 = 0 then (D, true) else
          (D.set (tX (openK D (zipT A X) (zipT A X).length).1 0).2.toNat (withoutS ((n - (openK D (zipT A X) (zipT A X).length).2).tdiv (tX (openK D (zipT A X) (zipT A X).length).1 0).1) (rowOf D (tX (openK D (zipT A X) (zipT A X).length).1 0).2)),
            wholeB (D.set (tX (openK D (zipT A X) (zipT A X).length).1 0).2.toNat (withoutS ((n - (openK D (zipT A X) (zipT A X).length).2).tdiv (tX (openK D (zipT A X) (zipT A X).length).1 0).1) (rowOf D (tX (openK D (zipT A X) (zipT A X).length).1 0).2)))) := rfl
      rw [hTl] at hN
      rw [hN]
      clear hN
      generalize hol : (openK D (zipT A X) A.length).1 = ol at of1 of3 hat ⊢
      generalize hos : (openK D (zipT A X) A.length).2 = os at of2 ⊢
      have w4 : IntKind.i64.wrap (n - os) = n - os := by rw [wrap_i64] <;> omega
      by_cases c0 : ol.length = 0
      · have c0' : ((ol.length : Int) = 0) = True := by simp only [eq_iff_iff, iff_true]; omega
        rw [if_neg (by omega), if_pos c0]
        have hx : (decide (¬ n - os = 0)) = decide (¬ os = n) := by congr 1; simp only [eq_iff_iff]; omega
        rw [hx]
        simp +contextual -implicitDefEqProofs (maxSteps := 1000000) only [sm, sn, seval, Int.lt_irrefl, hol, hos, c0', eDoms]
      · have c0' : ((ol.length : Int) = 0) = False := by simp only [eq_iff_iff, iff_false]; omega
        by_cases c1 : 1 < ol.length
        · have c1' : (1 : Int) < (ol.length : Int) := by omega
          rw [if_pos c1]
          simp +contextual -implicitDefEqProofs (maxSteps := 1000000) only [sm, sn, seval, Int.lt_irrefl, hol, hos, c0', c1', eDoms]
        · have c1' : ¬ (1 : Int) < (ol.length : Int) := by omega
          rw [if_neg c1, if_neg c0]
          rcases hat with h | ⟨h1, l, h2⟩
          · exact absurd (by rw [h]; rfl) c0
          have hl0 : l = [] := by
            rw [h2] at c1
            simp at c1
            cases l with
            | nil => rfl
            | cons _ _ => simp at c1
          subst hl0
          simp only [List.nil_append] at h2
          have ha := xat_get (X := A) (i := at') (by omega)
          have hx := xat_get (X := X) (i := at') (by omega)
          have et := zip_tX ha hx
          rw [et] at h2
          have h3 : tX ol 0 = (xat A at', xat X at') := by rw [h2]; rfl
          obtain ⟨u1, u2, u3⟩ := of3 (xat A at', xat X at') (by rw [h2]; simp)
          rw [h3]
          simp only at u1 u2 u3
          have hr := row_get u3
          have hdr := dom_right (hD _ u3.1 u3.2)
          have hl1 := right_length hdr.1
          have h0 := u3.1
          simp only
          generalize xat A at' = a at ha u1 u2 ⊢
          generalize xat X at' = x at hx u3 hr hdr hl1 h0 ⊢
          have hxx : ((x.toNat : Nat) : Int) = x := by omega
          by_cases cm : (n - os).tmod a = 0
          · rw [if_neg (by simpa using cm)]
            obtain ⟨d1, d2⟩ := tdiv_small (r := n - os) (a := a) (by omega)
            have w5 : IntKind.i64.wrap ((n - os).tdiv a) = (n - os).tdiv a := by rw [wrap_i64] <;> omega
            simp +contextual -implicitDefEqProofs (maxSteps := 1000000) only [sm, sn, seval, Int.lt_irrefl, hol, hos, c0', c1', w4, ha, u1, cm, hx, h0, hr, w5]
            refine callA_rule (ref09_Without (rowOf D x) ((n - os).tdiv a) (by omega)) (by simp +contextual -implicitDefEqProofs (maxSteps := 1000000) only [sm, sn, seval, eRgs]) rfl ?_
            rw [← without_eq]
            have hws := ref12_With D x.toNat (withoutS ((n - os).tdiv a) (rowOf D x)) (by omega)
            rw [hxx] at hws
            simp +contextual -implicitDefEqProofs (maxSteps := 1000000) only [sm, sn, seval, eRgs]
            refine callA_rule hws (by simp +contextual -implicitDefEqProofs (maxSteps := 1000000) only [sm, sn, seval, eDoms, eRgs]) rfl ?_
            simp +contextual -implicitDefEqProofs (maxSteps := 1000000) only [sm, sn, seval, eDoms]
            refine callA_rule (ref12_Empty _ (by rw [List.length_set]; omega)) (wkL_refl _) rfl ?_
            simp +contextual -implicitDefEqProofs (maxSteps := 1000000) only [sm, sn, seval, eDoms, Bool.not_not]
          · rw [if_pos (by simpa using cm)]
            simp +contextual -implicitDefEqProofs (maxSteps := 1000000) only [sm, sn, seval, Int.lt_irrefl, hol, hos, c0', c1', w4, ha, u1, cm, eDoms]
end Go.Proofs.Ytbhigfllanblpaa
