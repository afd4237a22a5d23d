/- Plain laws of constraints on truth values: no program in sight. -/
import Derived.Test.YtonkcemcledhiaaPlS
import Derived.Test.YtonkcemcledhiaaGMod
import Derived.Test.YtonkcemcledhiaaPlMod
namespace Go.Proofs.Ytonkcemcledhiaa
open Av
set_option linter.unusedSimpArgs false
set_option linter.unusedVariables false
/-- what is known of a truth value -/
def lv (r : List Rg) : Int := if (endsV r).1 = (endsV r).2 then (endsV r).1 else 2
def tri (r : List Rg) : Prop := r = [(0, 0)] ∨ r = [(1, 1)] ∨ r = [(0, 1)]
theorem tri_of {r : List Rg} (h : domB r = true) (ht : truthB r = true) : tri r := by
  unfold domB at h
  rw [Bool.and_eq_true, decide_eq_true_eq] at h
  obtain ⟨hr, hl⟩ := h
  cases r with
  | nil => simp at hl
  | cons a l =>
    obtain ⟨x, y⟩ := a
    have h0 : ((x, y) :: l)[0]? = some (x, y) := rfl
    obtain ⟨g1, g2, g3, g4, g5⟩ := right_rg hr h0
    unfold truthB at ht
    rw [h0] at ht
    cases l with
    | nil =>
      simp at ht
      have hx : x = 0 ∨ x = 1 := by omega
      have hy : y = 0 ∨ y = 1 := by omega
      unfold tri
      rcases hx with rfl | rfl <;> rcases hy with rfl | rfl <;> simp at g1 ⊢
    | cons b l =>
      exfalso
      obtain ⟨⟨p, q⟩, hpq⟩ : ∃ r, ((x, y) :: b :: l)[0 + l.length + 1]? = some r := ⟨_, List.getElem?_eq_getElem (by simp)⟩
      have hge := right_apart hr h0 hpq
      obtain ⟨k1, _⟩ := right_rg hr hpq
      have e : ((x, y) :: b :: l).length - 1 = 0 + l.length + 1 := by simp
      rw [e, hpq] at ht
      simp at ht
      omega
theorem lv_0 : lv [(0, 0)] = 0 := by decide
theorem lv_1 : lv [(1, 1)] = 1 := by decide
theorem lv_2 : lv [(0, 1)] = 2 := by decide
theorem tri_lv {r : List Rg} (h : tri r) : lv r = 0 ∨ lv r = 1 ∨ lv r = 2 := by
  rcases h with rfl | rfl | rfl <;> decide
theorem tri_one (v : Int) (h : v = 0 ∨ v = 1) : tri [(v, v)] := by rcases h with rfl | rfl <;> simp [tri]
theorem tri_has {r : List Rg} (h : tri r) {v : Int} (hv : v = 0 ∨ v = 1) : rhasB r v = (decide (lv r = 2) || decide (lv r = v)) := by
  rcases h with rfl | rfl | rfl <;> rcases hv with rfl | rfl <;> decide
theorem tri_ends {r : List Rg} (h : tri r) {v : Int} (hv : v = 0 ∨ v = 1) : (decide ((endsV r).1 = v) && decide ((endsV r).2 = v)) = decide (lv r = v) := by
  rcases h with rfl | rfl | rfl <;> rcases hv with rfl | rfl <;> decide
theorem tri_row {r : List Rg} (h : tri r) {v : Int} (hv : v = 0 ∨ v = 1) (hl : lv r = v) : r = [(v, v)] := by
  rcases h with rfl | rfl | rfl <;> rcases hv with rfl | rfl <;> first | rfl | (exact absurd hl (by decide))

def atV (D : List (List Rg)) (X : List Int) (i : Nat) : Int := lv (rowOf D (xat X i))
/-- a variable is v: what becomes of the domains -/
def setO (D : List (List Rg)) (x v : Int) : Option (List (List Rg)) := if lv (rowOf D x) = 2 then some (D.set x.toNat [(v, v)]) else if lv (rowOf D x) = v then some D else none
def setS (s : List (List Rg) × Bool) (x v : Int) : List (List Rg) × Bool := if lv (rowOf s.1 x) = 2 then (s.1.set x.toNat [(v, v)], s.2) else if lv (rowOf s.1 x) = v then s else (s.1, true)
/-- the two say the same -/
def Link (s : List (List Rg) × Bool) (o : Option (List (List Rg))) : Prop := (∀ E, o = some E → s = (E, false)) ∧ (o = none → s.2 = true)
theorem link_set (D : List (List Rg)) (x v : Int) : Link (setS (D, false) x v) (setO D x v) := by
  unfold setS setO Link
  simp only
  split
  · exact ⟨fun E h => (by injection h with h; rw [h]), fun h => (by cases h)⟩
  · split
    · exact ⟨fun E h => (by injection h with h; rw [h]), fun h => (by cases h)⟩
    · exact ⟨fun E h => (by cases h), fun _ => rfl⟩
theorem link_same (D : List (List Rg)) : Link (D, false) (some D) := ⟨fun E h => (by injection h with h; rw [h]), fun h => (by cases h)⟩
theorem link_fail (D : List (List Rg)) : Link (D, true) none := ⟨fun E h => (by cases h), fun _ => rfl⟩
theorem set_bad (s : List (List Rg) × Bool) (x v : Int) (h : s.2 = true) : (setS s x v).2 = true := by
  unfold setS
  split
  · exact h
  · split
    · exact h
    · rfl

/-! how many places are so, and the last one -/
def cl (p : Nat → Bool) : Nat → Int × Int
  | 0 => (0, 0)
  | n + 1 => if p n = true then ((cl p n).1 + 1, (n : Int)) else cl p n
theorem cl_bounds (p : Nat → Bool) : ∀ n : Nat, 0 ≤ (cl p n).1 ∧ (cl p n).1 ≤ n
  | 0 => by simp [cl]
  | n + 1 => by
    have := cl_bounds p n
    unfold cl
    split <;> (try simp only) <;> omega
theorem cl_compl (p : Nat → Bool) : ∀ n : Nat, (cl p n).1 + (cl (fun i => !p i) n).1 = n
  | 0 => by simp [cl]
  | n + 1 => by
    have := cl_compl p n
    unfold cl
    cases h : p n <;> simp [h] <;> omega
theorem cl_zero (p : Nat → Bool) : ∀ {n : Nat}, (cl p n).1 = 0 → ∀ i, i < n → p i = false
  | 0, _, i, h => by omega
  | n + 1, h, i, hi => by
    have hb := cl_bounds p n
    unfold cl at h
    split at h
    · simp only at h; omega
    · rename_i hn
      rcases Nat.lt_succ_iff_lt_or_eq.1 hi with h' | rfl
      · exact cl_zero p h i h'
      · simpa using hn
theorem cl_none (p : Nat → Bool) : ∀ {n : Nat}, (∀ i, i < n → p i = false) → cl p n = (0, 0)
  | 0, _ => rfl
  | n + 1, h => by
    unfold cl
    rw [if_neg (by simp [h n (by omega)])]
    exact cl_none p fun i hi => h i (by omega)
theorem cl_last (p : Nat → Bool) : ∀ {n : Nat}, 0 < (cl p n).1 → ∃ j, j < n ∧ (cl p n).2 = (j : Int) ∧ p j = true
  | 0, h => by simp [cl] at h
  | n + 1, h => by
    unfold cl at h ⊢
    split at h
    · rename_i hp
      rw [if_pos hp]
      exact ⟨n, by omega, rfl, hp⟩
    · rename_i hp
      rw [if_neg hp]
      obtain ⟨j, h1, h2, h3⟩ := cl_last p h
      exact ⟨j, by omega, h2, h3⟩
theorem cl_one (p : Nat → Bool) : ∀ {n : Nat}, (cl p n).1 = 1 → ∀ i j, i < n → j < n → p i = true → p j = true → i = j
  | 0, h, i, j, hi, _, _, _ => by omega
  | n + 1, h, i, j, hi, hj, h1, h2 => by
    unfold cl at h
    split at h
    · rename_i hp
      have h0 : (cl p n).1 = 0 := by simp only at h; omega
      have hz := cl_zero p h0
      have a : i = n := by
        rcases Nat.lt_succ_iff_lt_or_eq.1 hi with h' | h'
        · rw [hz i h'] at h1; cases h1
        · exact h'
      have b : j = n := by
        rcases Nat.lt_succ_iff_lt_or_eq.1 hj with h' | h'
        · rw [hz j h'] at h2; cases h2
        · exact h'
      omega
    · rename_i hp
      have ni : i ≠ n := fun e => hp (e ▸ h1)
      have nj : j ≠ n := fun e => hp (e ▸ h2)
      exact cl_one p h i j (by omega) (by omega) h1 h2
theorem cl_single (p : Nat → Bool) : ∀ {n j : Nat}, j < n → p j = true → (∀ i, i < n → p i = true → i = j) → cl p n = (1, (j : Int))
  | 0, j, h, _, _ => by omega
  | n + 1, j, h, hj, hu => by
    unfold cl
    split
    · rename_i hp
      have : n = j := hu n (by omega) hp
      subst this
      rw [cl_none p fun i hi => by
        cases hpi : p i with
        | false => rfl
        | true => have := hu i (by omega) hpi; omega]
      rfl
    · rename_i hp
      have : j ≠ n := fun e => hp (e ▸ hj)
      exact cl_single p (by omega) hj fun i hi h' => hu i (by omega) h'
theorem cl_congr {p q : Nat → Bool} : ∀ {n : Nat}, (∀ i, i < n → p i = q i) → cl p n = cl q n
  | 0, _ => rfl
  | n + 1, h => by
    unfold cl
    rw [h n (by omega), cl_congr fun i hi => h i (by omega)]
def so (D : List (List Rg)) (X : List Int) (v : Int) (i : Nat) : Bool := decide (atV D X i = v)

/-! Clause -/
def cg (D : List (List Rg)) (X A : List Int) : Nat → Option (Int × Int)
  | 0 => some (0, 0)
  | n + 1 => match cg D X A n with
    | none => none
    | some s => if atV D X n = (if 0 < xat A n then 1 else 0) then none else if atV D X n = 2 then some (s.1 + 1, (n : Int)) else some s
theorem cg_none {D : List (List Rg)} {X A : List Int} {k : Nat} (h : cg D X A k = none) : ∀ d : Nat, cg D X A (k + d) = none
  | 0 => h
  | d + 1 => by
    have := cg_none h d
    show cg D X A (k + d + 1) = none
    unfold cg
    rw [this]
theorem cg_bounds {D : List (List Rg)} {X A : List Int} : ∀ {k : Nat} {f l : Int}, cg D X A k = some (f, l) → 0 ≤ f ∧ f ≤ k ∧ 0 ≤ l ∧ (0 < f → l < k)
  | 0, f, l, h => by simp [cg] at h; omega
  | k + 1, f, l, h => by
    unfold cg at h
    cases hs : cg D X A k with
    | none => simp [hs] at h
    | some s =>
      obtain ⟨s1, s2⟩ := s
      obtain ⟨b1, b2, b3, b4⟩ := cg_bounds hs
      simp only [hs] at h
      by_cases g1 : atV D X k = (if 0 < xat A k then 1 else 0)
      · rw [if_pos g1] at h; cases h
      rw [if_neg g1] at h
      by_cases g2 : atV D X k = 2
      · rw [if_pos g2] at h
        simp only [Option.some.injEq, Prod.mk.injEq] at h
        omega
      · rw [if_neg g2] at h
        simp only [Option.some.injEq, Prod.mk.injEq] at h
        obtain ⟨rfl, rfl⟩ := h
        refine ⟨b1, by omega, b3, fun hf => ?_⟩
        have := b4 hf
        omega
def clauseO (D : List (List Rg)) (X A : List Int) : Option (List (List Rg)) := match cg D X A A.length with
  | none => some D
  | some s => if s.1 = 0 then none else if s.1 = 1 then setO D (xat X s.2.toNat) (max (xat A s.2.toNat) 0) else some D
def clauseS (D : List (List Rg)) (X A : List Int) : List (List Rg) × Bool := match cg D X A A.length with
  | none => (D, false)
  | some s => if s.1 = 0 then (D, true) else if s.1 = 1 then setS (D, false) (xat X s.2.toNat) (max (xat A s.2.toNat) 0) else (D, false)
theorem link_clause (D : List (List Rg)) (X A : List Int) : Link (clauseS D X A) (clauseO D X A) := by
  unfold clauseS clauseO
  split
  · exact link_same D
  · split
    · exact link_fail D
    · split
      · exact link_set _ _ _
      · exact link_same D

/-! And, Or -/
def firstO (D : List (List Rg)) (X : List Int) (yes : Int) : Option (List (List Rg)) :=
  if 0 < (cl (so D X (1 - yes)) (X.length - 1)).1 then setO D (xat X (X.length - 1)) (1 - yes) else if (cl (so D X yes) (X.length - 1)).1 = ((X.length - 1 : Nat) : Int) then setO D (xat X (X.length - 1)) yes else some D
def firstS (D : List (List Rg)) (X : List Int) (yes : Int) : List (List Rg) × Bool :=
  if 0 < (cl (so D X (1 - yes)) (X.length - 1)).1 then setS (D, false) (xat X (X.length - 1)) (1 - yes) else if (cl (so D X yes) (X.length - 1)).1 = ((X.length - 1 : Nat) : Int) then setS (D, false) (xat X (X.length - 1)) yes else (D, false)
theorem link_first (D : List (List Rg)) (X : List Int) (yes : Int) : Link (firstS D X yes) (firstO D X yes) := by
  unfold firstS firstO
  split
  · exact link_set _ _ _
  · split
    · exact link_set _ _ _
    · exact link_same D
def evO (D : List (List Rg)) (X : List Int) (v : Int) : Nat → Option (List (List Rg))
  | 0 => some D
  | n + 1 => match evO D X v n with
    | none => none
    | some E => setO E (xat X n) v
def evS (D : List (List Rg)) (X : List Int) (v : Int) : Nat → List (List Rg) × Bool
  | 0 => (D, false)
  | n + 1 => setS (evS D X v n) (xat X n) v
theorem link_ev (D : List (List Rg)) (X : List Int) (v : Int) : ∀ n : Nat, Link (evS D X v n) (evO D X v n)
  | 0 => link_same D
  | n + 1 => by
    obtain ⟨h1, h2⟩ := link_ev D X v n
    unfold evS evO
    cases h : evO D X v n with
    | none => exact ⟨fun E h => (by cases h), fun _ => set_bad _ _ _ (h2 h)⟩
    | some E =>
      rw [h1 E h]
      exact link_set E _ _
theorem evO_none {D : List (List Rg)} {X : List Int} {v : Int} {k : Nat} (h : evO D X v k = none) : ∀ d : Nat, evO D X v (k + d) = none
  | 0 => h
  | d + 1 => by
    have := evO_none h d
    show evO D X v (k + d + 1) = none
    unfold evO
    rw [this]
def restO (E : List (List Rg)) (X : List Int) (yes : Int) : Option (List (List Rg)) :=
  if atV E X (X.length - 1) = yes then evO E X yes (X.length - 1) else if atV E X (X.length - 1) = 1 - yes then
    (if (cl (fun i => !so E X yes i) (X.length - 1)).1 = 0 then none else if (cl (fun i => !so E X yes i) (X.length - 1)).1 = 1 ∧ ¬ atV E X (cl (fun i => !so E X yes i) (X.length - 1)).2.toNat = 1 - yes then setO E (xat X (cl (fun i => !so E X yes i) (X.length - 1)).2.toNat) (1 - yes) else some E)
  else some E
def bothO (D : List (List Rg)) (X : List Int) (yes : Int) : Option (List (List Rg)) := match firstO D X yes with
  | none => none
  | some E => restO E X yes
def restS (E : List (List Rg)) (X : List Int) (yes : Int) : List (List Rg) × Bool :=
  if atV E X (X.length - 1) = yes then evS E X yes (X.length - 1) else if atV E X (X.length - 1) = 1 - yes then
    (if (cl (so E X yes) (X.length - 1)).1 = ((X.length - 1 : Nat) : Int) then (E, true) else if (cl (so E X yes) (X.length - 1)).1 = ((X.length - 1 : Nat) : Int) - 1 ∧ (cl (so E X 2) (X.length - 1)).1 = 1 then setS (E, false) (xat X (cl (so E X 2) (X.length - 1)).2.toNat) (1 - yes) else (E, false))
  else (E, false)
def allS (D : List (List Rg)) (X : List Int) (yes : Int) : List (List Rg) × Bool := match firstS D X yes with
  | (E, true) => (E, true)
  | (E, false) => restS E X yes
/-- the domains of some variables are such of truth values -/
def Tri (D : List (List Rg)) (X : List Int) : Prop := ∀ i, i < X.length → tri (rowOf D (xat X i))
theorem link_rest {E : List (List Rg)} {X : List Int} {yes : Int} (hy : yes = 0 ∨ yes = 1) (hT : Tri E X) : Link (restS E X yes) (restO E X yes) := by
  unfold restS restO
  split
  · exact link_ev _ _ _ _
  · split
    · generalize hk : X.length - 1 = k
      have hT' : ∀ i, i < k → atV E X i = 0 ∨ atV E X i = 1 ∨ atV E X i = 2 := fun i hi => tri_lv (hT i (by omega))
      have hc := cl_compl (so E X yes) k
      have hb := cl_bounds (so E X yes) k
      by_cases h0 : (cl (fun i => !so E X yes i) k).1 = 0
      · have q0 : (cl (so E X yes) k).1 = (k : Int) := by omega
        rw [if_pos q0, if_pos h0]
        exact link_fail E
      · have q0 : ¬ (cl (so E X yes) k).1 = (k : Int) := by omega
        rw [if_neg q0, if_neg h0]
        by_cases h1 : (cl (fun i => !so E X yes i) k).1 = 1
        · obtain ⟨j, hj, hl, hp⟩ := cl_last (fun i => !so E X yes i) (n := k) (by omega)
          have hu := cl_one (fun i => !so E X yes i) h1
          rw [hl]
          have hne : ¬ atV E X j = yes := by simpa [so] using hp
          by_cases h2 : atV E X j = 2
          · have hs : cl (so E X 2) k = (1, (j : Int)) := by
              refine cl_single _ hj (by simp [so, h2]) fun i hi h => ?_
              refine hu i j hi hj ?_ hp
              simp only [so, decide_eq_true_eq] at h
              simp only [so, h, Bool.not_eq_true', decide_eq_false_iff_not]
              omega
            have q1 : (cl (so E X yes) k).1 = (k : Int) - 1 ∧ (cl (so E X 2) k).1 = 1 := ⟨by omega, by rw [hs]⟩
            have q2 : (cl (fun i => !so E X yes i) k).1 = 1 ∧ ¬ atV E X ((j : Int)).toNat = 1 - yes := ⟨h1, by rw [Int.toNat_natCast]; omega⟩
            rw [if_pos q1, if_pos q2, hs, Int.toNat_natCast]
            exact link_set _ _ _
          · have hs : cl (so E X 2) k = (0, 0) := by
              refine cl_none _ fun i hi => ?_
              cases hq : so E X 2 i with
              | false => rfl
              | true =>
                exfalso
                simp only [so, decide_eq_true_eq] at hq
                have : i = j := hu i j hi hj (by simp only [so, hq, Bool.not_eq_true', decide_eq_false_iff_not]; omega) hp
                subst this
                exact h2 hq
            have hq : atV E X j = 1 - yes := by
              have := hT' j hj
              omega
            have q1 : ¬ ((cl (so E X yes) k).1 = (k : Int) - 1 ∧ (cl (so E X 2) k).1 = 1) := by rw [hs]; simp
            have q2 : ¬ ((cl (fun i => !so E X yes i) k).1 = 1 ∧ ¬ atV E X ((j : Int)).toNat = 1 - yes) := by
              rintro ⟨_, h⟩
              exact h (by rw [Int.toNat_natCast]; exact hq)
            rw [if_neg q1, if_neg q2]
            exact link_same E
        · have q1 : ¬ ((cl (so E X yes) k).1 = (k : Int) - 1 ∧ (cl (so E X 2) k).1 = 1) := by rintro ⟨h, _⟩; omega
          rw [if_neg q1, if_neg (by rintro ⟨h, _⟩; exact h1 h)]
          exact link_same E
    · exact link_same E
theorem tri_set {D E : List (List Rg)} {X : List Int} {j : Nat} {v : Int} (hv : v = 0 ∨ v = 1) (hj : j < X.length) (hI : InD D X) (hT : Tri D X) (h : setO D (xat X j) v = some E) : Tri E X ∧ InD E X := by
  unfold setO at h
  split at h
  · injection h with h; subst h
    refine ⟨fun i hi => ?_, fun i hi => ?_⟩
    · rw [row_set (hI j hj).1 (hI j hj).2 (hI i hi).1]
      split
      · exact tri_one v hv
      · exact hT i hi
    · rw [List.length_set]; exact hI i hi
  · split at h
    · injection h with h; subst h; exact ⟨hT, hI⟩
    · cases h
theorem tri_first {D E : List (List Rg)} {X : List Int} {yes : Int} (hv : yes = 0 ∨ yes = 1) (hX : 0 < X.length) (hI : InD D X) (hT : Tri D X) (h : firstO D X yes = some E) : Tri E X ∧ InD E X := by
  unfold firstO at h
  split at h
  · exact tri_set (by omega) (by omega) hI hT h
  · split at h
    · exact tri_set hv (by omega) hI hT h
    · injection h with h; subst h; exact ⟨hT, hI⟩
theorem link_all {D : List (List Rg)} {X : List Int} {yes : Int} (hy : yes = 0 ∨ yes = 1) (hX : 0 < X.length) (hI : InD D X) (hT : Tri D X) : Link (allS D X yes) (bothO D X yes) := by
  obtain ⟨h1, h2⟩ := link_first D X yes
  unfold allS bothO
  cases h : firstO D X yes with
  | none =>
    have := h2 h
    split
    · exact link_fail _
    · rename_i E he; rw [he] at this; cases this
  | some E =>
    rw [h1 E h]
    exact link_rest hy (tri_first hy hX hI hT h).1

/-! Xor -/
def xorS (D : List (List Rg)) (X : List Int) : List (List Rg) × Bool :=
  if (cl (so D X 2) 3).1 = 0 then (D, decide (¬ (cl (so D X 1) 3).1.tmod 2 = 0)) else if (cl (so D X 2) 3).1 = 1 then setS (D, false) (xat X (cl (so D X 2) 3).2.toNat) ((cl (so D X 1) 3).1.tmod 2) else (D, false)
def otherV (D : List (List Rg)) (X : List Int) : Int := if 1 < (cl (so D X 2) 3).1 then -1 else if (cl (so D X 2) 3).1 = 0 then 3 else (cl (so D X 2) 3).2
def sumB (D : List (List Rg)) (X : List Int) (a : Int) : Nat → Int
  | 0 => 0
  | n + 1 => if (n : Int) = a then sumB D X a n else sumB D X a n + (endsV (rowOf D (xat X n))).1
def xorO (D : List (List Rg)) (X : List Int) : Option (List (List Rg)) :=
  if otherV D X < 0 then some D else if otherV D X = 3 then (if (sumB D X (otherV D X) 3).tmod 2 = 0 then some D else none) else setO D (xat X (otherV D X).toNat) ((sumB D X (otherV D X) 3).tmod 2)
theorem tri_lo {r : List Rg} (h : tri r) (h2 : ¬ lv r = 2) : (endsV r).1 = lv r := by
  rcases h with rfl | rfl | rfl <;> first | rfl | (exact absurd (by decide) h2)
theorem link_xor {D : List (List Rg)} {X : List Int} (hX : X.length = 3) (hT : Tri D X) : Link (xorS D X) (xorO D X) := by
  have t0 := tri_lv (hT 0 (by omega))
  have t1 := tri_lv (hT 1 (by omega))
  have t2 := tri_lv (hT 2 (by omega))
  have l0 := tri_lo (hT 0 (by omega))
  have l1 := tri_lo (hT 1 (by omega))
  have l2 := tri_lo (hT 2 (by omega))
  unfold xorS xorO otherV
  rcases t0 with a | a | a <;> rcases t1 with b | b | b <;> rcases t2 with c | c | c <;>
    simp only [a, b, c] at l0 l1 l2 <;>
    simp (config := { decide := true }) [cl, so, atV, a, b, c, sumB, l0, l1, l2, link_same, link_fail, link_set]

/-! what is left -/
def fin (s : List (List Rg) × Bool) : List (List Rg) × Int := match s with
  | (_, true) => ([], 12)
  | (E, false) => (E, 0)
def finO (o : Option (List (List Rg))) : List (List Rg) × Int := match o with
  | none => ([], 12)
  | some E => (E, 0)
theorem fin_link {s : List (List Rg) × Bool} {o : Option (List (List Rg))} (h : Link s o) : fin s = finO o := by
  cases o with
  | none =>
    have := h.2 rfl
    obtain ⟨E, b⟩ := s
    simp only at this
    subst this
    rfl
  | some E => rw [h.1 E rfl]; rfl
def logicL (c : Con) (D : List (List Rg)) : List (List Rg) × Int :=
  if modB (D, [c], 0, 0) = true then
    (if c.1 = 11 then fin (clauseS D c.2.1 c.2.2.1) else if c.1 = 12 then fin (allS D c.2.1 1) else if c.1 = 13 then fin (allS D c.2.1 0) else if c.1 = 14 then fin (xorS D c.2.1) else ([], 10))
  else ([], 2)
def logicR (c : Con) (D : List (List Rg)) : List (List Rg) × Int :=
  if modB (D, [c], 0, 0) = true then
    (if c.1 = 11 then finO (clauseO D c.2.1 c.2.2.1) else if c.1 = 12 then finO (bothO D c.2.1 1) else if c.1 = 13 then finO (bothO D c.2.1 0) else if c.1 = 14 then finO (xorO D c.2.1) else ([], 10))
  else ([], 2)

/-! what a model of one constraint says -/
theorem may_tri {c : Con} {D : List (List Rg)} (h : mayB D c = true) (hd : ∀ d ∈ D, domB d = true) (hk : (shp c.1).2.2.2.2 = 2) : Tri D c.2.1 := by
  obtain ⟨h1, h2, h3, h5, h6⟩ := may_facts h
  intro i hi
  have := List.all_eq_true.1 h5 i (by simpa using hi)
  unfold xOk at this
  rw [xat_get hi, hk] at this
  simp only [true_or, if_true, Bool.and_eq_true, decide_eq_true_eq] at this
  exact tri_of (hd _ (row_mem (h3 i hi))) this.2
theorem may_len {c : Con} {D : List (List Rg)} (h : mayB D c = true) : (c.1 = 11 → c.2.1.length = c.2.2.1.length ∧ ∀ a ∈ c.2.2.1, a = 1 ∨ a = -1) ∧ (c.1 = 12 ∨ c.1 = 13 → 0 < c.2.1.length) ∧ (c.1 = 14 → c.2.1.length = 3) := by
  obtain ⟨h1, -⟩ := may_facts h
  simp only [formedB, Bool.and_eq_true] at h1
  obtain ⟨⟨-, h2⟩, h3⟩ := h1
  refine ⟨fun hk => ?_, fun hk => ?_, fun hk => ?_⟩
  · rw [hk] at h2 h3
    refine ⟨?_, fun a ha => ?_⟩
    · simp [countsB, shp] at h2; omega
    · simp only [if_true, Bool.not_eq_true', List.any_eq_false] at h3
      have := h3 a ha
      simp at this
      by_cases h : a = 1
      · exact .inl h
      · exact .inr (this h)
  · rcases hk with hk | hk <;> (rw [hk] at h2; simp [countsB, shp] at h2; omega)
  · rw [hk] at h2; simp [countsB, shp] at h2; omega
theorem logic_same (c : Con) (D : List (List Rg)) : logicL c D = logicR c D := by
  unfold logicL logicR
  split
  · rename_i hm
    obtain ⟨h1, h2, h3⟩ := one_facts hm
    obtain ⟨g1, g2, g3⟩ := may_len h3
    obtain ⟨f1, f2, f3, f4⟩ := may_facts h3
    split
    · exact fin_link (link_clause _ _ _)
    · split
      · rename_i hk
        exact fin_link (link_all (.inr rfl) (g2 (.inl hk)) f3 (may_tri h3 h2 (by rw [hk]; rfl)))
      · split
        · rename_i hk
          exact fin_link (link_all (.inl rfl) (g2 (.inr hk)) f3 (may_tri h3 h2 (by rw [hk]; rfl)))
        · split
          · rename_i hk
            exact fin_link (link_xor (g3 hk) (may_tri h3 h2 (by rw [hk]; rfl)))
          · rfl
  · rfl
end Go.Proofs.Ytonkcemcledhiaa
