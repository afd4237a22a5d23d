/- Plain laws for tasks: what is left of domains, by the program and by the reference. -/
import Derived.Test.YtnhedjpghpdbdaaPlTask
namespace Go.Proofs.Ytnhedjpghpdbdaa
open Av
attribute [local irreducible] awp awpOpers
set_option linter.unusedSimpArgs false
set_option linter.unusedVariables false
def sortT (l : List Int) : List Int := l.mergeSort fun x y => decide (x ≤ y)
def compGo (p : Int) : List Int → List Int
  | [] => []
  | y :: ys => if y = p then compGo p ys else y :: compGo y ys
def compL : List Int → List Int
  | [] => []
  | x :: xs => x :: compGo x xs
theorem compGo_mem : ∀ (l : List Int) (p v : Int), v ∈ p :: compGo p l ↔ v ∈ p :: l
  | [], p, v => by simp [compGo]
  | y :: ys, p, v => by
    unfold compGo
    split
    · rename_i h
      subst h
      rw [compGo_mem ys y v]
      simp
    · have := compGo_mem ys y v
      rw [List.mem_cons, this, List.mem_cons (l := y :: ys)]
theorem compL_mem (l : List Int) (v : Int) : v ∈ compL l ↔ v ∈ l := by
  cases l with
  | nil => simp [compL]
  | cons x xs => exact compGo_mem xs x v
theorem compGo_asc : ∀ (l : List Int) (p : Int), (p :: l).Pairwise (fun x y => x ≤ y) → (p :: compGo p l).Pairwise (fun x y => x < y)
  | [], p, _ => by simp [compGo]
  | y :: ys, p, h => by
    obtain ⟨h1, h2⟩ := List.pairwise_cons.1 h
    obtain ⟨h3, h4⟩ := List.pairwise_cons.1 h2
    unfold compGo
    split
    · rename_i e
      subst e
      exact compGo_asc ys y h2
    · rename_i e
      have ih := compGo_asc ys y h2
      have hpy : p < y := by have := h1 y List.mem_cons_self; omega
      refine List.pairwise_cons.2 ⟨fun z hz => ?_, ih⟩
      rcases List.mem_cons.1 hz with rfl | hz
      · exact hpy
      · have := (List.pairwise_cons.1 ih).1 z hz
        omega
theorem compL_asc {l : List Int} (h : l.Pairwise (fun x y => x ≤ y)) : (compL l).Pairwise (fun x y => x < y) := by
  cases l with
  | nil => simp [compL]
  | cons x xs => exact compGo_asc xs x h
theorem asc1_of {l : List Int} (h : l.Pairwise (fun x y => x < y)) : Asc1 l := by
  intro i j hij hj
  have := (List.pairwise_iff_getElem.1 h) i j (by omega) hj hij
  unfold xat
  rw [List.getElem?_eq_getElem (show i < l.length by omega), List.getElem?_eq_getElem hj]
  exact this
theorem compGo_len (l : List Int) : ∀ p, (compGo p l).length ≤ l.length := by
  induction l with
  | nil => intro p; simp [compGo]
  | cons y ys ih =>
    intro p
    unfold compGo
    split
    · have := ih p; simp; omega
    · have := ih y; simp; omega
theorem compL_len (l : List Int) : (compL l).length ≤ l.length := by
  cases l with
  | nil => simp [compL]
  | cons x xs => have := compGo_len xs x; simp [compL]; omega
def marksV (E : List Rg) (A : List Int) (i : Nat) : List Int := compL (sortT (marksN E A i E.length))
def tightT (E : List Rg) (A : List Int) (C : Int) (i : Nat) : List Rg := strN E A C i (marksV E A i) ((marksV E A i).length - 1)
def placeT (E : List Rg) (A : List Int) (C : Int) (i : Nat) : Rg := placeS E A C i (tightT E A C i)
theorem marksV_mem (E : List Rg) (A : List Int) (i : Nat) (v : Int) : v ∈ marksV E A i ↔ v ∈ marksN E A i E.length := by
  unfold marksV sortT
  rw [compL_mem]
  exact (List.mergeSort_perm _ _).mem_iff
theorem marksV_asc (E : List Rg) (A : List Int) (i : Nat) : Asc1 (marksV E A i) := by
  refine asc1_of (compL_asc ?_)
  have := List.pairwise_mergeSort (le := fun x y : Int => decide (x ≤ y)) (fun a b c h1 h2 => by simp at *; omega) (fun a b => by simp; omega) (marksN E A i E.length)
  exact this.imp fun h => by simpa using h
theorem marksV_len (E : List Rg) (A : List Int) (i : Nat) : (marksV E A i).length ≤ 2 * E.length := by
  unfold marksV sortT
  refine Nat.le_trans (compL_len _) ?_
  rw [List.length_mergeSort]
  exact marksN_len E A i _
theorem placeT_ok {E : List Rg} {A : List Int} {C : Int} (h : TaskOk E A C) (i : Nat) : PlaceOk E A C i (placeT E A C i) :=
  place_ok h fun hn => str_tells h (marksV_asc E A i) (marksV_mem E A i) hn
def tasksN (E : List Rg) (A : List Int) (C : Int) (D : List (List Rg)) (X : List Int) : Nat → List (List Rg)
  | 0 => D
  | k + 1 => if 0 < needT E A k then (tasksN E A C D X k).set (xat X k).toNat (cutS (placeT E A C k).1 (placeT E A C k).2 (rowOf (tasksN E A C D X k) (xat X k))) else tasksN E A C D X k
def tasksL (c : Con) (D : List (List Rg)) : List (List Rg) × Int :=
  if modB (D, [c], 0, 0) = true then
    (if c.1 = 19 then (if overT (edRows D c.2.1) c.2.2.1 c.2.2.2 = true then ([], 12) else tell (tasksN (edRows D c.2.1) c.2.2.1 c.2.2.2 D c.2.1 c.2.1.length, wholeB (tasksN (edRows D c.2.1) c.2.2.1 c.2.2.2 D c.2.1 c.2.1.length))) else ([], 10))
  else ([], 2)
/-! the reference -/
def clashAt (E : List Rg) (A : List Int) (C : Int) (i : Nat) (s t : Int) : Bool := decide (s ≤ t) && decide (t < s + xat A i) && decide (C < ldV E A i t + needT E A i)
def clashN (E : List Rg) (A : List Int) (C : Int) (i : Nat) (s : Int) (k : Nat) : Bool := clashAt E A C i s s || (List.range k).any fun j => clashAt E A C i s (edAt E j).2
def clashB (E : List Rg) (A : List Int) (C : Int) (i : Nat) (s : Int) : Bool := clashN E A C i s E.length
def upT (E : List Rg) (A : List Int) (C : Int) (i : Nat) (hi : Int) : Nat → Int → Int
  | 0, lo => lo
  | n + 1, lo => if lo ≤ hi ∧ clashB E A C i lo = true then upT E A C i hi n (lo + 1) else lo
def dnT (E : List Rg) (A : List Int) (C : Int) (i : Nat) (lo : Int) : Nat → Int → Int
  | 0, hi => hi
  | n + 1, hi => if lo ≤ hi ∧ clashB E A C i hi = true then dnT E A C i lo n (hi - 1) else hi
def rendsT (E : List Rg) (A : List Int) (C : Int) (i : Nat) : Rg :=
  let lo := upT E A C i (edAt E i).2 ((edAt E i).2 - (edAt E i).1 + 1).toNat (edAt E i).1
  (lo, dnT E A C i lo ((edAt E i).2 - lo + 1).toNat (edAt E i).2)
def rtasksN (E : List Rg) (A : List Int) (C : Int) (D : List (List Rg)) (X : List Int) : Nat → Option (List (List Rg))
  | 0 => some D
  | k + 1 => match rtasksN E A C D X k with
    | none => none
    | some F => if needT E A k = 0 then some F else if (rendsT E A C k).1 ≤ (rendsT E A C k).2 then some (F.set (xat X k).toNat (rcutS (rendsT E A C k).1 (rendsT E A C k).2 (rowOf F (xat X k)))) else none
def rtellT : Option (List (List Rg)) → List (List Rg) × Int
  | none => ([], 12)
  | some F => tell (F, wholeB F)
def rtasksL (c : Con) (D : List (List Rg)) : List (List Rg) × Int :=
  if modB (D, [c], 0, 0) = true then
    (if c.1 = 19 then (if overT (edRows D c.2.1) c.2.2.1 c.2.2.2 = true then ([], 12) else rtellT (rtasksN (edRows D c.2.1) c.2.2.1 c.2.2.2 D c.2.1 c.2.1.length)) else ([], 10))
  else ([], 2)
theorem clashAt_iff {E : List Rg} {A : List Int} {C : Int} {i : Nat} {s t : Int} : clashAt E A C i s t = true ↔ s ≤ t ∧ t < s + xat A i ∧ C < ldV E A i t + needT E A i := by
  simp [clashAt, and_assoc]
theorem clash_free {E : List Rg} {A : List Int} {C : Int} (h : TaskOk E A C) {i : Nat} {s : Int} : clashB E A C i s = false ↔ Free E A C i s := by
  have key : clashB E A C i s = true ↔ ∃ t, s ≤ t ∧ t < s + xat A i ∧ C < ldV E A i t + needT E A i := by
    unfold clashB clashN
    rw [Bool.or_eq_true, List.any_eq_true]
    constructor
    · rintro (h1 | ⟨j, -, h1⟩)
      · exact ⟨_, clashAt_iff.1 h1⟩
      · exact ⟨_, clashAt_iff.1 h1⟩
    · rintro ⟨t, h1, h2, h3⟩
      by_cases h0 : 0 < ldV E A i t
      · obtain ⟨j, j1, j2, j3⟩ := rise h h1 h0
        rcases Int.lt_or_le (edAt E j).2 s with h4 | h4
        · left
          rw [clashAt_iff]
          rw [show max s (edAt E j).2 = s by omega] at j3
          omega
        · right
          refine ⟨j, List.mem_range.2 j1, ?_⟩
          rw [clashAt_iff]
          rw [show max s (edAt E j).2 = (edAt E j).2 by omega] at j3
          omega
      · left
        rw [clashAt_iff]
        have := (ldV_bound h i s).1
        omega
  constructor
  · intro hf t h1 h2
    rcases Int.lt_or_le C (ldV E A i t + needT E A i) with h3 | h3
    · rw [key.2 ⟨t, h1, h2, h3⟩] at hf; cases hf
    · exact h3
  · intro hf
    cases hc : clashB E A C i s
    · rfl
    · obtain ⟨t, h1, h2, h3⟩ := key.1 hc
      have := hf t h1 h2; omega
theorem upT_facts {E : List Rg} {A : List Int} {C : Int} (h : TaskOk E A C) {i : Nat} {hi : Int} : ∀ (n : Nat) (lo : Int), hi - lo + 1 ≤ n → lo ≤ upT E A C i hi n lo ∧ (∀ s, lo ≤ s → s < upT E A C i hi n lo → ¬ Free E A C i s) ∧ (upT E A C i hi n lo ≤ hi → Free E A C i (upT E A C i hi n lo))
  | 0, lo, hn => by
    unfold upT
    exact ⟨Int.le_refl _, fun s h1 h2 => by omega, fun h1 => by omega⟩
  | n + 1, lo, hn => by
    unfold upT
    split
    · rename_i hc
      obtain ⟨a1, a2, a3⟩ := upT_facts h (i := i) (hi := hi) n (lo + 1) (by omega)
      refine ⟨by omega, fun s h1 h2 => ?_, a3⟩
      rcases Int.lt_or_le lo s with h3 | h3
      · exact a2 s (by omega) h2
      · have : s = lo := by omega
        subst this
        intro hf
        rw [(clash_free h).2 hf] at hc
        exact absurd hc.2 (by simp)
    · rename_i hc
      refine ⟨Int.le_refl _, fun s h1 h2 => by omega, fun h1 => (clash_free h).1 ?_⟩
      cases hb : clashB E A C i lo
      · rfl
      · exact absurd ⟨h1, hb⟩ hc
theorem dnT_facts {E : List Rg} {A : List Int} {C : Int} (h : TaskOk E A C) {i : Nat} {lo : Int} : ∀ (n : Nat) (hi : Int), hi - lo + 1 ≤ n → dnT E A C i lo n hi ≤ hi ∧ (∀ s, dnT E A C i lo n hi < s → s ≤ hi → ¬ Free E A C i s) ∧ (lo ≤ dnT E A C i lo n hi → Free E A C i (dnT E A C i lo n hi))
  | 0, hi, hn => by
    unfold dnT
    exact ⟨Int.le_refl _, fun s h1 h2 => by omega, fun h1 => by omega⟩
  | n + 1, hi, hn => by
    unfold dnT
    split
    · rename_i hc
      obtain ⟨a1, a2, a3⟩ := dnT_facts h (i := i) (lo := lo) n (hi - 1) (by omega)
      refine ⟨by omega, fun s h1 h2 => ?_, a3⟩
      rcases Int.lt_or_le s hi with h3 | h3
      · exact a2 s h1 (by omega)
      · have : s = hi := by omega
        subst this
        intro hf
        rw [(clash_free h).2 hf] at hc
        exact absurd hc.2 (by simp)
    · rename_i hc
      refine ⟨Int.le_refl _, fun s h1 h2 => by omega, fun h1 => (clash_free h).1 ?_⟩
      cases hb : clashB E A C i hi
      · rfl
      · exact absurd ⟨h1, hb⟩ hc
theorem rends_ok {E : List Rg} {A : List Int} {C : Int} (h : TaskOk E A C) (i : Nat) : PlaceOk E A C i (rendsT E A C i) := by
  unfold rendsT
  obtain ⟨a1, a2, a3⟩ := upT_facts h (i := i) (hi := (edAt E i).2) ((edAt E i).2 - (edAt E i).1 + 1).toNat (edAt E i).1 (by omega)
  generalize upT E A C i (edAt E i).2 ((edAt E i).2 - (edAt E i).1 + 1).toNat (edAt E i).1 = lo at a1 a2 a3
  obtain ⟨b1, b2, b3⟩ := dnT_facts h (i := i) (lo := lo) ((edAt E i).2 - lo + 1).toNat (edAt E i).2 (by omega)
  simp only
  generalize dnT E A C i lo ((edAt E i).2 - lo + 1).toNat (edAt E i).2 = hi at b1 b2 b3
  refine ⟨fun s h1 h2 hf => ⟨?_, ?_⟩, fun hl => ⟨a1, b1, a3 (by omega), b3 hl⟩⟩
  · rcases Int.lt_or_le s lo with h3 | h3
    · exact absurd hf (a2 s h1 h3)
    · exact h3
  · rcases Int.lt_or_le hi s with h3 | h3
    · exact absurd hf (b2 s h3 h2)
    · exact h3
/-! they are one -/
theorem cut_none {r : List Rg} (hr : rightB r = true) {a b : Int} (h : b < a) : cutS a b r = [] := by
  obtain ⟨h1, h2⟩ := cutS_facts a b hr
  refine right_ext h1 (by decide) fun v => ?_
  rw [h2]
  exact ⟨fun hv => by omega, fun hv => absurd hv (mem_nil v)⟩
theorem tasksN_len (E : List Rg) (A : List Int) (C : Int) (D : List (List Rg)) (X : List Int) : ∀ k, (tasksN E A C D X k).length = D.length
  | 0 => rfl
  | k + 1 => by
    unfold tasksN
    split
    · rw [List.length_set]; exact tasksN_len E A C D X k
    · exact tasksN_len E A C D X k
theorem tasksN_sub {E : List Rg} {A : List Int} {C : Int} {D : List (List Rg)} {X : List Int} (hD : DOk D) (hX : InD D X) : ∀ k, k ≤ X.length → LeD (tasksN E A C D X k) D
  | 0, _ => le_refl_of hD
  | k + 1, h => by
    have ih := tasksN_sub (E := E) (A := A) (C := C) hD hX k (by omega)
    have hx := hX k (by omega)
    have hs := ih.2 _ hx.1 hx.2
    unfold tasksN
    split
    · exact le_setrow ih hx ((cut_sub hs.1 _ _).trans hs)
    · exact ih
/-- a row that is empty stays so -/
theorem tasksN_empty {E : List Rg} {A : List Int} {C : Int} {D : List (List Rg)} {X : List Int} (hD : DOk D) (hX : InD D X) {x : Int} (hx : 0 ≤ x ∧ x < D.length) : ∀ {k m : Nat}, k ≤ m → m ≤ X.length → rowOf (tasksN E A C D X k) x = [] → rowOf (tasksN E A C D X m) x = []
  | k, 0, h, _, he => by have : k = 0 := by omega
                         subst this; exact he
  | k, m + 1, h, hm, he => by
    rcases Nat.lt_or_ge k (m + 1) with h1 | h1
    · have ih := tasksN_empty hD hX hx (m := m) (by omega) (by omega) he
      have hxm := hX m (by omega)
      unfold tasksN
      split
      · rw [row_set hxm.1 (by rw [tasksN_len]; exact hxm.2) hx.1]
        split
        · rename_i e
          rw [e, ih]
          unfold cutS
          simp [rightB, cutGo]
        · exact ih
      · exact ih
    · have : k = m + 1 := by omega
      subst this; exact he
theorem whole_empty {F : List (List Rg)} {x : Int} (hx : 0 ≤ x ∧ x < F.length) (h : rowOf F x = []) : wholeB F = false := by
  have := row_get hx
  rw [h] at this
  unfold wholeB
  rw [Bool.not_eq_false', List.any_eq_true]
  exact ⟨[], List.mem_of_getElem? this, by simp⟩
theorem rtasksN_eq {E : List Rg} {A : List Int} {C : Int} (hT : TaskOk E A C) {D : List (List Rg)} {X : List Int} (hD : DOk D) (hX : InD D X) (hl : E.length = X.length) : ∀ k, k ≤ X.length →
    (rtasksN E A C D X k = some (tasksN E A C D X k)) ∨ (rtasksN E A C D X k = none ∧ ∃ x : Int, (0 ≤ x ∧ x < D.length) ∧ rowOf (tasksN E A C D X k) x = [])
  | 0, _ => .inl rfl
  | k + 1, h => by
    have hx := hX k (by omega)
    have hn := task_at hT (E.length + k)
    rcases rtasksN_eq hT hD hX hl k (by omega) with ih | ⟨ih, x, h1, h2⟩
    · unfold rtasksN
      rw [ih]
      simp only
      by_cases h0 : needT E A k = 0
      · left
        rw [if_pos h0]
        conv => rhs; unfold tasksN; rw [if_neg (by omega)]
      · rw [if_neg h0]
        have hpos : 0 < needT E A k := by unfold needT at h0 ⊢; omega
        have hstep : tasksN E A C D X (k + 1) = (tasksN E A C D X k).set (xat X k).toNat (cutS (placeT E A C k).1 (placeT E A C k).2 (rowOf (tasksN E A C D X k) (xat X k))) := by
          conv => lhs; unfold tasksN; rw [if_pos hpos]
        obtain ⟨p1, p2⟩ := place_one (placeT_ok hT k) (rends_ok hT k)
        by_cases hr : (rendsT E A C k).1 ≤ (rendsT E A C k).2
        · left
          rw [if_pos hr, hstep, p2 (p1.2 hr), cut_eq]
        · right
          refine ⟨by rw [if_neg hr], xat X k, hx, ?_⟩
          rw [hstep, row_set hx.1 (by rw [tasksN_len]; exact hx.2) hx.1, if_pos rfl]
          have hs := (tasksN_sub (E := E) (A := A) (C := C) hD hX k (by omega)).2 _ hx.1 hx.2
          exact cut_none hs.1 (by have : ¬ (placeT E A C k).1 ≤ (placeT E A C k).2 := fun h => hr (p1.1 h)
                                  omega)
    · right
      refine ⟨by unfold rtasksN; rw [ih], x, h1, tasksN_empty hD hX h1 (by omega) h h2⟩
theorem ed_ok {D : List (List Rg)} {X : List Int} (hD : DOk D) (hX : InD D X) : ∀ r ∈ edRows D X, (-1048576 ≤ r.1 ∧ r.1 ≤ 1048576) ∧ -1048576 ≤ r.2 ∧ r.2 ≤ 1048576 := by
  intro r hr
  obtain ⟨k, hk, rfl⟩ := List.getElem_of_mem hr
  rw [edRows_len] at hk
  have h := edRows_get (D := D) hk
  rw [List.getElem?_eq_getElem (by rw [edRows_len]; exact hk)] at h
  injection h with h
  rw [h]
  have hx := hX k hk
  obtain ⟨-, -, -, h1, h2, h3⟩ := ends_facts (hD _ hx.1 hx.2)
  omega
theorem task_facts {X A : List Int} {C : Int} {D : List (List Rg)} (hm : modB (D, [(19, X, A, C)], 0, 0) = true) : D.length ≤ 64 ∧ DOk D ∧ X.length ≤ 32 ∧ InD D X ∧ A.length = 2 * X.length ∧ TaskOk (edRows D X) A C := by
  obtain ⟨f1, f2, f3⟩ := one_facts hm
  obtain ⟨g1, g2, g3, g4, g5⟩ := may_facts f3
  have hD : DOk D := fun x h0 h1 => f2 _ (row_mem ⟨h0, h1⟩)
  simp only at g2 g3 g5
  have hC : withinB C = true := by
    simp only [mayB, Bool.and_eq_true] at f3
    exact f3.1.1.1.2
  have hl : A.length = 2 * X.length := by
    unfold formedB at g1
    simp only [Bool.and_eq_true] at g1
    have g := g1.1.2
    have e : shp 19 = (4, 0, 0, true, 0) := by decide
    rw [e] at g
    unfold countsB at g
    simp at g
    omega
  unfold formedB at g1
  simp only [Bool.and_eq_true] at g1
  have h2 := g1.2
  rw [if_neg (by decide), if_pos trivial] at h2
  simp only [Bool.and_eq_true, decide_eq_true_eq, Bool.not_eq_true', List.any_eq_false] at h2
  have hC' := (withinB_iff C).1 hC
  refine ⟨f1, hD, g2, g3, hl, ?_⟩
  refine ⟨by rw [edRows_len]; exact g2, by rw [edRows_len]; exact hl, fun a ha => ?_, ⟨h2.1, hC'.2⟩, ed_ok hD g3⟩
  have := h2.2 a ha
  have := (withinB_iff a).1 (g5 a ha)
  omega
theorem tasks_same_as (c : Con) (D : List (List Rg)) : tasksL c D = rtasksL c D := by
  obtain ⟨K, X, A, C⟩ := c
  unfold tasksL rtasksL
  by_cases hm : modB (D, [(K, X, A, C)], 0, 0) = true
  · rw [if_pos hm, if_pos hm]
    by_cases hK : K = 19
    · rw [if_pos hK, if_pos hK]
      subst hK
      simp only
      obtain ⟨f1, hD, h32, hX, hl, hT⟩ := task_facts hm
      by_cases ho : overT (edRows D X) A C = true
      · rw [if_pos ho, if_pos ho]
      · rw [if_neg ho, if_neg ho]
        rcases rtasksN_eq hT hD hX (edRows_len D X) X.length (Nat.le_refl _) with h | ⟨h, x, hx, he⟩
        · rw [h]; rfl
        · rw [h, whole_empty (F := tasksN (edRows D X) A C D X X.length) (by rw [tasksN_len]; exact hx) he]; rfl
    · rw [if_neg hK, if_neg hK]
  · rw [if_neg hm, if_neg hm]
end Go.Proofs.Ytnhedjpghpdbdaa
