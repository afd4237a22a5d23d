/- Plain laws: domains within domains; sums; a model of one constraint; all values within domains; smaller domains and sums. -/
import Derived.Test.YtnhedjpghpdbdaaPlS
import Derived.Test.YtnhedjpghpdbdaaGMod
namespace Go.Proofs.Ytnhedjpghpdbdaa
open Av
set_option linter.unusedSimpArgs false
set_option linter.unusedVariables false
theorem row_get {D : List (List Rg)} {x : Int} (h : 0 ≤ x ∧ x < D.length) : D[x.toNat]? = some (rowOf D x) := by
  obtain ⟨r, hr⟩ : ∃ r, D[x.toNat]? = some r := ⟨_, List.getElem?_eq_getElem (by omega)⟩
  unfold rowOf
  rw [hr]; rfl
theorem row_mem {D : List (List Rg)} {x : Int} (h : 0 ≤ x ∧ x < D.length) : rowOf D x ∈ D := List.mem_of_getElem? (row_get h)
theorem take_snoc {α : Type} {T : List α} {k : Nat} {r : α} (h : T[k]? = some r) : T.take k ++ [r] = T.take (k + 1) := by
  rw [List.take_add_one, h]; rfl
/-- one set within another one -/
def Sub (r r' : List Rg) : Prop := rightB r = true ∧ rightB r' = true ∧ ∀ v, Mem r v → Mem r' v
def LeD (s d : List (List Rg)) : Prop := s.length = d.length ∧ ∀ x : Int, 0 ≤ x → x < d.length → Sub (rowOf s x) (rowOf d x)
theorem Sub.trans {a b c : List Rg} (h : Sub a b) (k : Sub b c) : Sub a c := ⟨h.1, k.2.1, fun v hv => k.2.2 v (h.2.2 v hv)⟩
theorem LeD.trans {a b c : List (List Rg)} (h : LeD a b) (k : LeD b c) : LeD a c := ⟨h.1.trans k.1, fun x h0 h1 => (h.2 x h0 (by rw [k.1]; exact h1)).trans (k.2 x h0 h1)⟩
theorem LeD.self {a b : List (List Rg)} (h : LeD a b) : LeD a a := ⟨rfl, fun x h0 h1 => ⟨(h.2 x h0 (by rw [← h.1]; exact h1)).1, (h.2 x h0 (by rw [← h.1]; exact h1)).1, fun v hv => hv⟩⟩
theorem meet_sub {r t : List Rg} (h : Sub r t) : rmeetS r t = r := by
  rw [← meet_eq]
  obtain ⟨f1, f2⟩ := meetS_facts h.1 h.2.1
  exact right_ext f1 h.1 fun v => by rw [f2]; exact ⟨fun k => k.1, fun k => ⟨k, h.2.2 v k⟩⟩
/-- no more values, and still some -/
def smallR (r c : List Rg) : List Rg := if rmeetS r c = [] ∨ 100 < c.length then r else rmeetS r c
def smallL (D C : List (List Rg)) : List (List Rg) := List.zipWith smallR D C
theorem small_sub {r c : List Rg} (hr : rightB r = true) : Sub (smallR r c) r := by
  unfold smallR
  split
  · exact ⟨hr, hr, fun v h => h⟩
  · rename_i h
    have hc : rightB c = true := by
      cases hc : rightB c with
      | true => rfl
      | false => exact absurd (.inl (by unfold rmeetS; simp [hc])) h
    rw [← meet_eq]
    obtain ⟨f1, f2⟩ := meetS_facts hr hc
    exact ⟨f1, hr, fun v hv => ((f2 v).1 hv).1⟩
theorem small_some {r c : List Rg} (hr : r ≠ []) : smallR r c ≠ [] := by
  unfold smallR
  split
  · exact hr
  · rename_i h
    exact fun e => h (.inl e)
theorem small_le {D C : List (List Rg)} (hlen : C.length = D.length) (hr : ∀ r ∈ D, rightB r = true) : LeD (smallL D C) D := by
  have hl : (smallL D C).length = D.length := by unfold smallL; rw [List.length_zipWith]; omega
  refine ⟨hl, fun x h0 h1 => ?_⟩
  have hd := row_get (D := D) ⟨h0, h1⟩
  obtain ⟨c, hc⟩ : ∃ c, C[x.toNat]? = some c := ⟨_, List.getElem?_eq_getElem (by omega)⟩
  have hs : (smallL D C)[x.toNat]? = some (smallR (rowOf D x) c) := by unfold smallL; rw [List.getElem?_zipWith, hd, hc]
  have e : rowOf (smallL D C) x = smallR (rowOf D x) c := by
    conv => lhs; unfold rowOf
    rw [hs]; rfl
  rw [e]
  exact small_sub (hr _ (row_mem ⟨h0, h1⟩))
theorem small_dom {D C : List (List Rg)} (hlen : C.length = D.length) (hr : ∀ r ∈ D, domB r = true) : ∀ r ∈ smallL D C, domB r = true := by
  intro r h
  obtain ⟨i, hi, rfl⟩ := List.getElem_of_mem h
  unfold smallL at hi ⊢
  rw [List.getElem_zipWith]
  have hd := hr _ (List.getElem_mem (l := D) (n := i) (by rw [List.length_zipWith] at hi; omega))
  generalize D[i]'_ = a at hd ⊢
  unfold domB at hd ⊢
  rw [Bool.and_eq_true, decide_eq_true_eq] at hd ⊢
  refine ⟨(small_sub hd.1).1, ?_⟩
  have := small_some (r := a) (c := C[i]'(by rw [List.length_zipWith] at hi; omega)) (fun e => by rw [e] at hd; simp at hd)
  cases hq : smallR a (C[i]'(by rw [List.length_zipWith] at hi; omega)) with
  | nil => exact absurd hq this
  | cons b l => simp
theorem ends_at {r : List Rg} (hr : rightB r = true) {x y p q : Int} (h0 : r[0]? = some (x, y)) (h1 : r[r.length - 1]? = some (p, q)) : endsV r = (x, q) := by
  have a1 : r.head? = some (x, y) := by rw [List.head?_eq_getElem?]; exact h0
  have a2 : r.getLast? = some (p, q) := by rw [List.getLast?_eq_getElem?]; exact h1
  simp [endsV, hr, a1, a2]
/-- the ends of a domain that has values -/
theorem ends_facts {r : List Rg} (h : domB r = true) : Mem r (endsV r).1 ∧ Mem r (endsV r).2 ∧ (∀ v, Mem r v → (endsV r).1 ≤ v ∧ v ≤ (endsV r).2) ∧ -1048576 ≤ (endsV r).1 ∧ (endsV r).1 ≤ (endsV r).2 ∧ (endsV r).2 ≤ 1048576 := by
  unfold domB at h
  rw [Bool.and_eq_true, decide_eq_true_eq] at h
  obtain ⟨hr, hl⟩ := h
  obtain ⟨⟨x, y⟩, hx⟩ : ∃ a, r[0]? = some a := ⟨_, List.getElem?_eq_getElem (by omega)⟩
  obtain ⟨⟨p, q⟩, hp⟩ : ∃ a, r[r.length - 1]? = some a := ⟨_, List.getElem?_eq_getElem (by omega)⟩
  obtain ⟨g1, g2, g3, g4, g5⟩ := right_rg hr hx
  obtain ⟨k1, k2, k3, k4, k5⟩ := right_rg hr hp
  rw [ends_at hr hx hp]
  simp only
  have m1 : Mem r x := ⟨(x, y), List.mem_of_getElem? hx, Int.le_refl _, g1⟩
  have m2 : Mem r q := ⟨(p, q), List.mem_of_getElem? hp, k1, Int.le_refl _⟩
  have hall : ∀ v, Mem r v → x ≤ v ∧ v ≤ q := by
    rintro v ⟨⟨s, t⟩, hs, h1, h2⟩
    obtain ⟨j, hj, hjs⟩ := List.getElem_of_mem hs
    have hj' : r[j]? = some (s, t) := by rw [List.getElem?_eq_getElem hj, hjs]
    simp only at h1 h2
    obtain ⟨u1, -⟩ := right_rg hr hj'
    constructor
    · by_cases j0 : j = 0
      · subst j0; rw [hx] at hj'; simp at hj'; omega
      · have := right_apart (d := j - 1) hr hx (by rw [show 0 + (j - 1) + 1 = j by omega]; exact hj')
        omega
    · by_cases jl : j = r.length - 1
      · subst jl; rw [hp] at hj'; simp at hj'; omega
      · have := right_apart (d := r.length - 1 - j - 1) hr hj' (by rw [show j + (r.length - 1 - j - 1) + 1 = r.length - 1 by omega]; exact hp)
        omega
  exact ⟨m1, m2, hall, g2, (hall x m1).2, k5⟩
theorem dom_right {r : List Rg} (h : domB r = true) : rightB r = true ∧ 0 < r.length := by
  unfold domB at h
  rw [Bool.and_eq_true, decide_eq_true_eq] at h
  exact ⟨h.1, by omega⟩
abbrev Tm := Int × Int
def tX (T : List Tm) (k : Nat) : Tm := (T[k]?).getD (0, 0)
theorem tX_get {T : List Tm} {k : Nat} (h : k < T.length) : T[k]? = some (tX T k) := by
  obtain ⟨x, hx⟩ : ∃ x, T[k]? = some x := ⟨_, List.getElem?_eq_getElem h⟩
  unfold tX
  rw [hx]; rfl
def eAt (D : List (List Rg)) (x : Int) : Rg := endsV (rowOf D x)
def termE (D : List (List Rg)) (t : Tm) : Int × Int := if t.1 < 0 then (t.1 * (eAt D t.2).2, t.1 * (eAt D t.2).1) else (t.1 * (eAt D t.2).1, t.1 * (eAt D t.2).2)
def spanK (D : List (List Rg)) (T : List Tm) : Nat → Int × Int
  | 0 => (0, 0)
  | n + 1 => ((spanK D T n).1 + (termE D (tX T n)).1, (spanK D T n).2 + (termE D (tX T n)).2)
def cutOf (D : List (List Rg)) (room : Int) (t : Tm) : Int × Int :=
  if 0 < t.1 then ((eAt D t.2).1, min (eAt D t.2).2 ((eAt D t.2).1 + room.tdiv t.1)) else if t.1 < 0 then (max (eAt D t.2).1 ((eAt D t.2).2 - room.tdiv (-t.1)), (eAt D t.2).2) else eAt D t.2
def mostK (D : List (List Rg)) (T : List Tm) (room : Int) : Nat → List (List Rg)
  | 0 => D
  | n + 1 => (mostK D T room n).set (tX T n).2.toNat (cutS (cutOf D room (tX T n)).1 (cutOf D room (tX T n)).2 (rowOf (mostK D T room n) (tX T n).2))
def wholeB (E : List (List Rg)) : Bool := !E.any fun d => decide (d.length = 0)
def mostS (D : List (List Rg)) (T : List Tm) (n : Int) : List (List Rg) × Bool :=
  if n - (spanK D T T.length).1 < 0 then (D, false) else (mostK D T (n - (spanK D T T.length).1) T.length, wholeB (mostK D T (n - (spanK D T T.length).1) T.length))
def opp (T : List Tm) : List Tm := T.map fun t => (-t.1, t.2)
def isS (D : List (List Rg)) (T : List Tm) (n : Int) : List (List Rg) × Bool := match mostS D T n with
  | (E, false) => (E, false)
  | (E, true) => mostS E (opp T) (-n)
def openK (D : List (List Rg)) (T : List Tm) : Nat → List Tm × Int
  | 0 => ([], 0)
  | n + 1 => if (tX T n).1 = 0 ∨ (eAt D (tX T n).2).1 = (eAt D (tX T n).2).2 then ((openK D T n).1, (openK D T n).2 + (tX T n).1 * (eAt D (tX T n).2).1) else ((openK D T n).1 ++ [tX T n], (openK D T n).2)
def notS (D : List (List Rg)) (T : List Tm) (n : Int) : List (List Rg) × Bool :=
  if 1 < (openK D T T.length).1.length then (D, true) else if (openK D T T.length).1.length = 0 then (D, decide (¬ n - (openK D T T.length).2 = 0)) else
    if ¬ (n - (openK D T T.length).2).tmod (tX (openK D T T.length).1 0).1 = 0 then (D, true) else
      (D.set (tX (openK D T T.length).1 0).2.toNat (withoutS ((n - (openK D T T.length).2).tdiv (tX (openK D T T.length).1 0).1) (rowOf D (tX (openK D T T.length).1 0).2)),
        wholeB (D.set (tX (openK D T T.length).1 0).2.toNat (withoutS ((n - (openK D T T.length).2).tdiv (tX (openK D T T.length).1 0).1) (rowOf D (tX (openK D T T.length).1 0).2))))
def tell (s : List (List Rg) × Bool) : List (List Rg) × Int := match s with
  | (_, false) => ([], 12)
  | (E, true) => (E, 0)
def termsOf (c : Con) : List Tm := List.zip c.2.2.1 c.2.1
def linearL (c : Con) (D : List (List Rg)) : List (List Rg) × Int :=
  if modB (D, [c], 0, 0) = true then
    (if c.1 = 1 then tell (isS D (termsOf c) c.2.2.2) else if c.1 = 2 then tell (mostS D (termsOf c) c.2.2.2) else if c.1 = 3 then tell (notS D (termsOf c) c.2.2.2) else ([], 10))
  else ([], 2)
def lendsL (c : Con) (D : List (List Rg)) : (Int × Int) × Bool :=
  if modB (D, [c], 0, 0) = true ∧ 1 ≤ c.1 ∧ c.1 ≤ 6 then (spanK D (termsOf c) (termsOf c).length, true) else ((0, 0), false)
/-! bounds -/
/-- terms of numbers and variables that are not too large -/
def TOk (T : List Tm) (D : List (List Rg)) : Prop := T.length ≤ 32 ∧ ∀ k, k < T.length → (-1048576 ≤ (tX T k).1 ∧ (tX T k).1 ≤ 1048576) ∧ 0 ≤ (tX T k).2 ∧ (tX T k).2 < D.length
def DOk (D : List (List Rg)) : Prop := ∀ x : Int, 0 ≤ x → x < D.length → domB (rowOf D x) = true
theorem mul_bound {a b : Int} (h1 : -1048576 ≤ a ∧ a ≤ 1048576) (h2 : -1048576 ≤ b ∧ b ≤ 1048576) : -1099511627776 ≤ a * b ∧ a * b ≤ 1099511627776 := by
  have : (a * b).natAbs ≤ 1048576 * 1048576 := by
    rw [Int.natAbs_mul]
    exact Nat.mul_le_mul (by omega) (by omega)
  omega
theorem eAt_facts {D : List (List Rg)} {x : Int} (h : DOk D) (hx : 0 ≤ x ∧ x < D.length) : (∀ v, Mem (rowOf D x) v → (eAt D x).1 ≤ v ∧ v ≤ (eAt D x).2) ∧ -1048576 ≤ (eAt D x).1 ∧ (eAt D x).1 ≤ (eAt D x).2 ∧ (eAt D x).2 ≤ 1048576 := by
  obtain ⟨_, _, h3, h4, h5, h6⟩ := ends_facts (h x hx.1 hx.2)
  exact ⟨h3, h4, h5, h6⟩
theorem term_bound {D : List (List Rg)} {T : List Tm} (hD : DOk D) (hT : TOk T D) {k : Nat} (hk : k < T.length) : (-1099511627776 ≤ (termE D (tX T k)).1 ∧ (termE D (tX T k)).1 ≤ 1099511627776) ∧ (-1099511627776 ≤ (termE D (tX T k)).2 ∧ (termE D (tX T k)).2 ≤ 1099511627776) := by
  obtain ⟨h1, h2⟩ := hT.2 k hk
  obtain ⟨_, h3, h4, h5⟩ := eAt_facts hD h2
  have m1 := mul_bound (a := (tX T k).1) (b := (eAt D (tX T k).2).1) h1 (by omega)
  have m2 := mul_bound (a := (tX T k).1) (b := (eAt D (tX T k).2).2) h1 (by omega)
  unfold termE
  split
  · exact ⟨m2, m1⟩
  · exact ⟨m1, m2⟩
theorem span_bound {D : List (List Rg)} {T : List Tm} (hD : DOk D) (hT : TOk T D) : ∀ {k : Nat}, k ≤ T.length → (-1099511627776 * k ≤ (spanK D T k).1 ∧ (spanK D T k).1 ≤ 1099511627776 * k) ∧ (-1099511627776 * k ≤ (spanK D T k).2 ∧ (spanK D T k).2 ≤ 1099511627776 * k)
  | 0, _ => by simp [spanK]
  | k + 1, h => by
    have h1 := span_bound hD hT (k := k) (by omega)
    have h2 := term_bound hD hT (k := k) (by omega)
    unfold spanK
    simp only
    omega
theorem min_term {a l h : Int} (hl : l ≤ h) : min (a * l) (a * h) = if a < 0 then a * h else a * l := by
  split
  · rename_i ha
    have : a * h ≤ a * l := Int.mul_le_mul_of_nonpos_left (by omega) hl
    omega
  · rename_i ha
    have : a * l ≤ a * h := Int.mul_le_mul_of_nonneg_left hl (by omega)
    omega
theorem row_set {D : List (List Rg)} {x y : Int} {r : List Rg} (hx : 0 ≤ x) (hxl : x < D.length) (hy : 0 ≤ y) : rowOf (D.set x.toNat r) y = if x = y then r else rowOf D y := by
  unfold rowOf
  by_cases h : x = y
  · subst h
    rw [if_pos rfl, List.getElem?_set_self (by omega)]
    rfl
  · rw [if_neg h, List.getElem?_set_ne (by omega)]
theorem set_self {D : List (List Rg)} {x : Int} (h : 0 ≤ x ∧ x < D.length) : D.set x.toNat (rowOf D x) = D := by
  apply List.ext_getElem?
  intro i
  by_cases hi : i = x.toNat
  · subst hi; rw [List.getElem?_set_self (by omega), row_get h]
  · rw [List.getElem?_set_ne (fun e => hi e.symm)]
theorem sub_nil {r : List Rg} (h : rightB r = true) : Sub [] r := ⟨by decide, h, fun v hv => absurd hv (mem_nil v)⟩
theorem cut_sub {r : List Rg} (h : rightB r = true) (lo hi : Int) : Sub (cutS lo hi r) r := ⟨(cutS_facts lo hi h).1, h, fun v hv => (((cutS_facts lo hi h).2 v).1 hv).1⟩
theorem without_sub {r : List Rg} (h : rightB r = true) (v : Int) : Sub (withoutS v r) r := ⟨(withoutS_facts v h).1, h, fun u hu => (((withoutS_facts v h).2 u).1 hu).1⟩
theorem le_refl_of {D : List (List Rg)} (h : DOk D) : LeD D D := ⟨rfl, fun x h0 h1 => ⟨(dom_right (h x h0 h1)).1, (dom_right (h x h0 h1)).1, fun v hv => hv⟩⟩
theorem le_setrow {E D : List (List Rg)} {x : Int} {r : List Rg} (hle : LeD E D) (hx : 0 ≤ x ∧ x < D.length) (hs : Sub r (rowOf D x)) : LeD (E.set x.toNat r) D := by
  refine ⟨by rw [List.length_set]; exact hle.1, fun y h0 h1 => ?_⟩
  rw [row_set hx.1 (by rw [hle.1]; exact hx.2) h0]
  split
  · rename_i h; subst h; exact hs
  · exact hle.2 y h0 h1
theorem most_le {D : List (List Rg)} {T : List Tm} {room : Int} (hD : DOk D) (hT : TOk T D) : ∀ {k : Nat}, k ≤ T.length → LeD (mostK D T room k) D
  | 0, _ => le_refl_of hD
  | k + 1, h => by
    have h1 := most_le (room := room) hD hT (k := k) (by omega)
    obtain ⟨_, h2⟩ := hT.2 k (by omega)
    unfold mostK
    have := h1.2 _ h2.1 h2.2
    exact le_setrow h1 h2 ((cut_sub this.1 _ _).trans this)
/-- cutting at the ends of what a domain is within -/
theorem cut_within {r t : List Rg} (hs : Sub r t) (ht : domB t = true) : cutS (endsV t).1 (endsV t).2 r = r := by
  obtain ⟨f1, f2⟩ := cutS_facts (endsV t).1 (endsV t).2 hs.1
  obtain ⟨_, _, h3, _⟩ := ends_facts ht
  exact right_ext f1 hs.1 fun v => by rw [f2]; exact ⟨fun h => h.1, fun h => ⟨h, h3 v (hs.2.2 v h)⟩⟩
theorem cut_up {r t : List Rg} (hs : Sub r t) (ht : domB t = true) (u : Int) : cutS (endsV t).1 (min (endsV t).2 u) r = cutS (-1099511627776) u r := by
  obtain ⟨f1, f2⟩ := cutS_facts (endsV t).1 (min (endsV t).2 u) hs.1
  obtain ⟨g1, g2⟩ := cutS_facts (-1099511627776) u hs.1
  obtain ⟨_, _, h3, h4, h5, h6⟩ := ends_facts ht
  refine right_ext f1 g1 fun v => ?_
  rw [f2, g2]
  constructor
  · rintro ⟨h, k1, k2⟩; exact ⟨h, by omega, by omega⟩
  · rintro ⟨h, k1, k2⟩; have := h3 v (hs.2.2 v h); exact ⟨h, by omega, by omega⟩
theorem cut_down {r t : List Rg} (hs : Sub r t) (ht : domB t = true) (u : Int) : cutS (max (endsV t).1 u) (endsV t).2 r = cutS u 1099511627776 r := by
  obtain ⟨f1, f2⟩ := cutS_facts (max (endsV t).1 u) (endsV t).2 hs.1
  obtain ⟨g1, g2⟩ := cutS_facts u 1099511627776 hs.1
  obtain ⟨_, _, h3, h4, h5, h6⟩ := ends_facts ht
  refine right_ext f1 g1 fun v => ?_
  rw [f2, g2]
  constructor
  · rintro ⟨h, k1, k2⟩; exact ⟨h, by omega, by omega⟩
  · rintro ⟨h, k1, k2⟩; have := h3 v (hs.2.2 v h); exact ⟨h, by omega, by omega⟩
/-- domains that have values again -/
theorem whole_ok {E D : List (List Rg)} (hle : LeD E D) (hw : wholeB E = true) : DOk E := by
  intro x h0 h1
  have hs := hle.2 x h0 (by rw [← hle.1]; exact h1)
  have hm := row_mem (D := E) ⟨h0, h1⟩
  unfold wholeB at hw
  rw [Bool.not_eq_true', List.any_eq_false] at hw
  have := hw _ hm
  simp only [decide_eq_true_eq] at this
  unfold domB
  rw [hs.1, Bool.true_and, decide_eq_true_eq]
  omega
theorem opp_ok {T : List Tm} {D E : List (List Rg)} (hT : TOk T D) (hl : E.length = D.length) : TOk (opp T) E := by
  have h0 : (opp T).length = T.length := by unfold opp; rw [List.length_map]
  refine ⟨by rw [h0]; exact hT.1, fun k hk => ?_⟩
  rw [h0] at hk
  obtain ⟨h1, h2⟩ := hT.2 k hk
  have e : tX (opp T) k = (-(tX T k).1, (tX T k).2) := by
    have : (opp T)[k]? = some (-(tX T k).1, (tX T k).2) := by unfold opp; rw [List.getElem?_map, tX_get hk]; rfl
    conv => lhs; unfold tX
    rw [this]; rfl
  rw [e]
  simp only
  omega
theorem open_facts {D : List (List Rg)} {T : List Tm} (hD : DOk D) (hT : TOk T D) : ∀ {k : Nat}, k ≤ T.length → (openK D T k).1.length ≤ k ∧ (-1099511627776 * k ≤ (openK D T k).2 ∧ (openK D T k).2 ≤ 1099511627776 * k) ∧ ∀ t ∈ (openK D T k).1, ¬ t.1 = 0 ∧ (-1048576 ≤ t.1 ∧ t.1 ≤ 1048576) ∧ 0 ≤ t.2 ∧ t.2 < D.length
  | 0, _ => by simp [openK]
  | k + 1, h => by
    obtain ⟨h1, h2, h3⟩ := open_facts hD hT (k := k) (by omega)
    obtain ⟨t1, t2⟩ := hT.2 k (by omega)
    obtain ⟨_, e1, e2, e3⟩ := eAt_facts hD t2
    have m1 := mul_bound (a := (tX T k).1) (b := (eAt D (tX T k).2).1) t1 (by omega)
    unfold openK
    split
    · simp only
      exact ⟨by omega, by omega, h3⟩
    · rename_i hn
      simp only
      refine ⟨by simp; omega, by omega, fun t ht => ?_⟩
      rcases List.mem_append.1 ht with h | h
      · exact h3 t h
      · simp at h; subst h
        exact ⟨fun e => hn (.inl e), t1, t2⟩
def xat (X : List Int) (i : Nat) : Int := (X[i]?).getD 0
theorem xat_eq {X : List Int} {i : Nat} {x : Int} (h : X[i]? = some x) : xat X i = x := by unfold xat; rw [h]; rfl
def InD (D : List (List Rg)) (X : List Int) : Prop := ∀ i, i < X.length → 0 ≤ xat X i ∧ xat X i < D.length
theorem one_facts {c : Con} {D : List (List Rg)} (h : modB (D, [c], 0, 0) = true) : D.length ≤ 64 ∧ (∀ d ∈ D, domB d = true) ∧ mayB D c = true := by
  simp only [modB, Bool.and_eq_true, decide_eq_true_eq, List.all_eq_true] at h
  exact ⟨h.1.1.1.1, h.1.1.2, h.1.2 c (by simp)⟩
theorem dom_len {d : List Rg} (h : domB d = true) : d.length ≤ 1048577 := by
  unfold domB at h
  rw [Bool.and_eq_true] at h
  exact right_length h.1
theorem may_facts {c : Con} {D : List (List Rg)} (h : mayB D c = true) : formedB c = true ∧ c.2.1.length ≤ 32 ∧ InD D c.2.1 ∧ xsOk D c.2.1 (shp c.1).2.2.2.2 = true ∧ ∀ a ∈ c.2.2.1, withinB a = true := by
  simp only [mayB, Bool.and_eq_true, decide_eq_true_eq, List.all_eq_true] at h
  obtain ⟨⟨⟨⟨⟨h1, h2⟩, h3⟩, h4⟩, h5⟩, h6⟩ := h
  refine ⟨h1, h2, fun i hi => ?_, h5, h6⟩
  have := List.all_eq_true.1 h5 i (by simpa using hi)
  unfold xOk at this
  obtain ⟨x, hx⟩ : ∃ x, c.2.1[i]? = some x := ⟨_, List.getElem?_eq_getElem hi⟩
  rw [hx] at this
  simp only [Bool.and_eq_true, decide_eq_true_eq] at this
  rw [xat_eq hx]
  exact ⟨this.1.1, this.1.2⟩
theorem xat_get {X : List Int} {i : Nat} (h : i < X.length) : X[i]? = some (xat X i) := by
  obtain ⟨x, hx⟩ : ∃ x, X[i]? = some x := ⟨_, List.getElem?_eq_getElem h⟩
  rw [hx, xat_eq hx]
theorem truth_sub {r t : List Rg} (hs : Sub r t) (hr : domB r = true) (hd : domB t = true) (ht : truthB t = true) : truthB r = true := by
  have h01 : ∀ v, Mem r v → 0 ≤ v ∧ v ≤ 1 := fun v hv => by
    obtain ⟨-, -, h3, -⟩ := ends_facts hd
    have := h3 v (hs.2.2 v hv)
    have hd' := dom_right hd
    obtain ⟨⟨x, y⟩, hx⟩ : ∃ a, t[0]? = some a := ⟨_, List.getElem?_eq_getElem (by omega)⟩
    obtain ⟨⟨p, q⟩, hp⟩ : ∃ a, t[t.length - 1]? = some a := ⟨_, List.getElem?_eq_getElem (by omega)⟩
    rw [ends_at hd'.1 hx hp] at this
    unfold truthB at ht
    rw [hx, hp] at ht
    simp only [Bool.and_eq_true, decide_eq_true_eq] at ht
    simp only at this
    omega
  unfold domB at hr
  rw [Bool.and_eq_true, decide_eq_true_eq] at hr
  obtain ⟨⟨x, y⟩, hx⟩ : ∃ a, r[0]? = some a := ⟨_, List.getElem?_eq_getElem (by omega)⟩
  obtain ⟨⟨p, q⟩, hp⟩ : ∃ a, r[r.length - 1]? = some a := ⟨_, List.getElem?_eq_getElem (by omega)⟩
  obtain ⟨g1, -⟩ := right_rg hr.1 hx
  obtain ⟨g2, -⟩ := right_rg hr.1 hp
  have m1 := h01 x ⟨(x, y), List.mem_of_getElem? hx, Int.le_refl _, g1⟩
  have m2 := h01 q ⟨(p, q), List.mem_of_getElem? hp, g2, Int.le_refl _⟩
  unfold truthB
  rw [hx, hp]
  simp only [Bool.and_eq_true, decide_eq_true_eq]
  omega
theorem may_sub {c : Con} {S D : List (List Rg)} (hle : LeD S D) (hS : ∀ r ∈ S, domB r = true) (hD : ∀ r ∈ D, domB r = true) (h : mayB D c = true) : mayB S c = true := by
  obtain ⟨-, -, hI, -⟩ := may_facts h
  simp only [mayB, Bool.and_eq_true] at h ⊢
  obtain ⟨⟨h1, h2⟩, h3⟩ := h
  refine ⟨⟨h1, ?_⟩, h3⟩
  unfold xsOk at h2 ⊢
  rw [List.all_eq_true] at h2 ⊢
  intro i hi
  have h4 := h2 i hi
  have hi' : i < c.2.1.length := by simpa using hi
  unfold xOk at h4 ⊢
  rw [xat_get hi'] at h4 ⊢
  simp only [Bool.and_eq_true, decide_eq_true_eq] at h4 ⊢
  obtain ⟨⟨a1, a2⟩, a3⟩ := h4
  refine ⟨⟨a1, by have := hle.1; omega⟩, ?_⟩
  split
  · rename_i hc
    rw [if_pos hc] at a3
    exact truth_sub (hle.2 _ a1 a2) (hS _ (row_mem ⟨a1, by have := hle.1; omega⟩)) (hD _ (row_mem ⟨a1, a2⟩)) a3
  · rfl
theorem mod_sub {c : Con} {S D : List (List Rg)} (hle : LeD S D) (hS : ∀ r ∈ S, domB r = true) (hm : modB (D, [c], 0, 0) = true) : modB (S, [c], 0, 0) = true := by
  obtain ⟨f1, f2, f3⟩ := one_facts hm
  have := may_sub hle hS f2 f3
  simp only [modB, Bool.and_eq_true, decide_eq_true_eq, List.all_eq_true]
  refine ⟨⟨⟨⟨by have := hle.1; omega, by simp⟩, hS⟩, fun x hx => ?_⟩, by simp [askB]⟩
  simp at hx; subst hx; exact this
/-! the next value of a set -/
theorem nx_some {l : List Rg} {v : Int} (h : nextB l v = true) : Mem l (nextV l v) ∧ v ≤ nextV l v ∧ ∀ u, Mem l u → v ≤ u → nextV l v ≤ u := by
  have hr := next_right h
  have hw := (right_wf hr).1
  unfold nextB at h
  rw [hr] at h
  simp at h
  obtain ⟨x, y, hxy⟩ := at_rg h
  have hm := mem_at hxy
  have hle := wf_le hw _ hm
  simp only at hle
  have e : nextV l v = max v x := by unfold nextV; rw [if_pos hr, hxy]
  rw [e]
  have hy := fromN_at hxy
  refine ⟨⟨(x, y), hm, by simp only; omega, by simp only; omega⟩, by omega, fun u h4 h2 => ?_⟩
  have h5 := (mem_from v (l := l) h2).2 h4
  rw [drop_at hxy, mem_cons] at h5
  have hw2 := wf_drop (fromN v l) hw
  rw [drop_at hxy] at hw2
  rcases h5 with h5 | ⟨s, hs, h6, h7⟩
  · simp only at h5; omega
  · have := hw2.2.1 s hs
    simp only at this
    omega
theorem nx_none {l : List Rg} {v : Int} (hr : rightB l = true) (h : nextB l v = false) : ∀ u, Mem l u → u < v := by
  intro u hu
  unfold nextB at h
  rw [hr] at h
  simp at h
  rcases Int.lt_or_le u v with h1 | h1
  · exact h1
  · have h2 := (mem_from v (l := l) h1).2 hu
    rw [List.drop_eq_nil_of_le h] at h2
    exact absurd h2 (mem_nil _)
def nx (r : List Rg) (v : Int) : Option Int := if nextB r (v + 1) = true then some (nextV r (v + 1)) else none
/-! the values of a set -/
def valsGo : List Rg → List Int
  | [] => []
  | r :: l => (List.range (r.2 - r.1 + 1).toNat).map (fun i : Nat => r.1 + (i : Int)) ++ valsGo l
theorem mem_vals : ∀ {l : List Rg} {v : Int}, v ∈ valsGo l ↔ Mem l v
  | [], v => by simp [valsGo, mem_nil]
  | r :: l, v => by
    unfold valsGo
    rw [List.mem_append, mem_cons, mem_vals (l := l), List.mem_map]
    constructor
    · rintro (⟨i, hi, rfl⟩ | h)
      · rw [List.mem_range] at hi; left; omega
      · exact .inr h
    · rintro (h | h)
      · exact .inl ⟨(v - r.1).toNat, List.mem_range.2 (by omega), by omega⟩
      · exact .inr h
theorem sizeGo_add : ∀ (l : List Rg) (n : Int), sizeGo n l = n + sizeGo 0 l
  | [], n => by simp [sizeGo]
  | r :: l, n => by
    unfold sizeGo
    rw [sizeGo_add l (n + (r.2 - r.1 + 1)), sizeGo_add l (0 + (r.2 - r.1 + 1))]
    omega
theorem len_vals : ∀ {l : List Rg}, Wf l → ((valsGo l).length : Int) = sizeGo 0 l
  | [], _ => rfl
  | r :: l, h => by
    have h1 := h.1
    have h2 := len_vals h.2.2
    unfold valsGo sizeGo
    rw [sizeGo_add, List.length_append, List.length_map, List.length_range]
    omega
theorem vals_sorted : ∀ {l : List Rg}, Wf l → (valsGo l).Pairwise (· < ·)
  | [], _ => List.Pairwise.nil
  | r :: l, h => by
    unfold valsGo
    rw [List.pairwise_append]
    refine ⟨?_, vals_sorted h.2.2, ?_⟩
    · rw [List.pairwise_map]
      exact List.pairwise_lt_range.imp (fun hab => by omega)
    · intro a ha b hb
      obtain ⟨i, hi, rfl⟩ := List.mem_map.1 ha
      rw [List.mem_range] at hi
      obtain ⟨s, hs, h1, h2⟩ := mem_vals.1 hb
      have := h.2.1 s hs
      omega
/-! a list whose elements follow each other -/
def Walk {α : Type} (f : α → Option α) : Option α → List α → Prop
  | none, [] => True
  | some a, b :: l => a = b ∧ Walk f (f a) l
  | none, _ :: _ => False
  | some _, [] => False
theorem walk_at {α : Type} {f : α → Option α} : ∀ {l : List α} {o : Option α}, Walk f o l → o = l[0]? ∧ ∀ (i : Nat) a, l[i]? = some a → f a = l[i + 1]?
  | [], none, _ => ⟨rfl, fun i a h => by simp at h⟩
  | [], some _, h => h.elim
  | b :: l, none, h => h.elim
  | b :: l, some a, h => by
    obtain ⟨rfl, h2⟩ := h
    obtain ⟨h3, h4⟩ := walk_at h2
    refine ⟨rfl, fun i c hi => ?_⟩
    cases i with
    | zero => simp at hi; subst hi; rw [h3]; rfl
    | succ i => simp at hi; rw [h4 i c hi]; rfl
theorem walk_vals {r : List Rg} (hr : rightB r = true) : ∀ (suf pre : List Int), valsGo r = pre ++ suf → Walk (nx r) suf.head? suf
  | [], _, _ => trivial
  | v :: t, pre, h => by
    refine ⟨rfl, ?_⟩
    have hs := vals_sorted (right_wf hr).1
    rw [h, List.pairwise_append] at hs
    obtain ⟨-, hs2, hs3⟩ := hs
    rw [List.pairwise_cons] at hs2
    have e : nx r v = t.head? := by
      have hall : ∀ u, Mem r u → v < u → u ∈ t := by
        intro u hu hlt
        have := mem_vals.2 hu
        rw [h] at this
        rcases List.mem_append.1 this with h1 | h1
        · have := hs3 u h1 v (by simp); omega
        · rcases List.mem_cons.1 h1 with rfl | h1
          · omega
          · exact h1
      have hin : ∀ u, u ∈ t → Mem r u := fun u hu => mem_vals.1 (by rw [h]; simp [hu])
      unfold nx
      cases hn : nextB r (v + 1) with
      | false =>
        rw [if_neg (by simp)]
        cases t with
        | nil => rfl
        | cons w t =>
          have := nx_none hr hn w (hin w (by simp))
          have := hs2.1 w (by simp)
          omega
      | true =>
        rw [if_pos rfl]
        obtain ⟨n1, n2, n3⟩ := nx_some hn
        have hmem := hall _ n1 (by omega)
        cases t with
        | nil => simp at hmem
        | cons w t =>
          have h4 := n3 w (hin w (by simp)) (by have := hs2.1 w (by simp); omega)
          rcases List.mem_cons.1 hmem with h5 | h5
          · rw [h5]; rfl
          · have h6 := (List.pairwise_cons.1 hs2.2).1 _ h5
            omega
    rw [e]
    exact walk_vals hr t (pre ++ [v]) (by rw [h]; simp)
/-! all values within domains -/
def lo0 (r : List Rg) : Int := match r with
  | [] => 0
  | a :: _ => a.1
def firstA (D : List (List Rg)) : List Int := D.map lo0
def aft : List (List Rg) → List Int → Option (List Int)
  | r :: D, v :: a => match aft D a with
    | some a' => some (v :: a')
    | none => (nx r v).map fun n => n :: firstA D
  | _, _ => none
def allA : List (List Rg) → List (List Int)
  | [] => [[]]
  | r :: D => (valsGo r).flatMap fun v => (allA D).map fun a => v :: a
def Full (D : List (List Rg)) : Prop := ∀ r ∈ D, rightB r = true ∧ 0 < r.length
theorem vals_head {r : List Rg} (hr : rightB r = true) (h0 : 0 < r.length) : (valsGo r).head? = some (lo0 r) := by
  cases r with
  | nil => simp at h0
  | cons a l =>
    have h1 := ((right_wf hr).1).1
    unfold valsGo lo0
    obtain ⟨n, hn⟩ : ∃ n, (a.2 - a.1 + 1).toNat = n + 1 := ⟨(a.2 - a.1 + 1).toNat - 1, by omega⟩
    rw [hn, List.range_succ_eq_map]
    simp
theorem walk_prod {r : List Rg} {D : List (List Rg)} {M : List (List Int)} (hM : Walk (aft D) (some (firstA D)) M) : ∀ (L : List Int) (o : Option Int), Walk (nx r) o L →
    Walk (aft (r :: D)) (o.map fun n => n :: firstA D) (L.flatMap fun v => M.map fun a => v :: a)
  | [], none, _ => trivial
  | [], some _, h => h.elim
  | b :: l, none, h => h.elim
  | v :: L, some v', h => by
    obtain ⟨rfl, h2⟩ := h
    have ih := walk_prod hM L _ h2
    have inner : ∀ (M' : List (List Int)) (om : Option (List Int)), Walk (aft D) om M' →
        Walk (aft (r :: D)) (match om with | some m => some (v' :: m) | none => (nx r v').map fun n => n :: firstA D) (M'.map (fun a => v' :: a) ++ L.flatMap fun v => M.map fun a => v :: a) := by
      intro M'
      induction M' with
      | nil =>
        intro om hw
        cases om with
        | none => exact ih
        | some _ => exact hw.elim
      | cons m M' ihM =>
        intro om hw
        cases om with
        | none => exact hw.elim
        | some m' =>
          obtain ⟨rfl, hw2⟩ := hw
          exact ⟨rfl, ihM _ hw2⟩
    exact inner M (some (firstA D)) hM
theorem walk_all : ∀ {D : List (List Rg)}, Full D → Walk (aft D) (some (firstA D)) (allA D)
  | [], _ => ⟨rfl, trivial⟩
  | r :: D, h => by
    obtain ⟨h1, h2⟩ := h r (by simp)
    have ih := walk_all (D := D) fun s hs => h s (by simp [hs])
    have := walk_prod (r := r) ih (valsGo r) (valsGo r).head? (walk_vals h1 _ [] rfl)
    rw [vals_head h1 h2] at this
    exact this
def InBox (D : List (List Rg)) (a : List Int) : Prop := a.length = D.length ∧ ∀ (i : Nat) r v, D[i]? = some r → a[i]? = some v → Mem r v
theorem mem_all : ∀ {D : List (List Rg)} {a : List Int}, a ∈ allA D ↔ InBox D a
  | [], a => by
    unfold allA InBox
    constructor
    · intro h; simp at h; subst h; exact ⟨rfl, fun i r v h => by simp at h⟩
    · rintro ⟨h, -⟩; simp at h ⊢; exact h
  | r :: D, a => by
    unfold allA
    rw [List.mem_flatMap]
    constructor
    · rintro ⟨v, hv, ha⟩
      obtain ⟨b, hb, rfl⟩ := List.mem_map.1 ha
      obtain ⟨h1, h2⟩ := mem_all.1 hb
      refine ⟨by simp [h1], fun i s u hs hu => ?_⟩
      cases i with
      | zero => simp at hs hu; subst hs; subst hu; exact mem_vals.1 hv
      | succ i => simp at hs hu; exact h2 i s u hs hu
    · rintro ⟨h1, h2⟩
      cases a with
      | nil => simp at h1
      | cons v a =>
        refine ⟨v, mem_vals.2 (h2 0 r v rfl rfl), List.mem_map.2 ⟨a, mem_all.2 ⟨by simpa using h1, fun i s u hs hu => h2 (i + 1) s u (by simpa using hs) (by simpa using hu)⟩, rfl⟩⟩
def boxesGo (most : Int) (n : Int) : List (List Rg) → Int
  | [] => n
  | r :: D => if most < sizeV r ∨ most < n * sizeV r then most + 1 else boxesGo most (n * sizeV r) D
theorem len_all : ∀ {D : List (List Rg)} {most n : Int}, Full D → 0 < n → boxesGo most n D ≤ most → n * ((allA D).length : Int) ≤ most ∧ boxesGo most n D = n * ((allA D).length : Int)
  | [], most, n, _, hn, h => by simp [allA, boxesGo] at h ⊢; exact h
  | r :: D, most, n, hF, hn, h => by
    obtain ⟨h1, h2⟩ := hF r (by simp)
    have hw := (right_wf h1).1
    have hl := len_vals hw
    have hs : sizeV r = ((valsGo r).length : Int) := by unfold sizeV; rw [if_pos h1, hl]
    have hp : 0 < sizeV r := by
      rw [hs]
      have := vals_head h1 h2
      cases hq : valsGo r with
      | nil => rw [hq] at this; simp at this
      | cons a l => simp <;> omega
    unfold boxesGo at h ⊢
    by_cases hc : most < sizeV r ∨ most < n * sizeV r
    · rw [if_pos hc] at h; omega
    · rw [if_neg hc] at h ⊢
      obtain ⟨h3, h4⟩ := len_all (D := D) (fun s hs => hF s (by simp [hs])) (Int.mul_pos hn hp) h
      have e : ((allA (r :: D)).length : Int) = sizeV r * ((allA D).length : Int) := by
        have e0 : allA (r :: D) = (valsGo r).flatMap fun v => (allA D).map fun a => v :: a := rfl
        have e1 : ∀ (L : List Int) (c : Nat), (L.map fun _ => c).sum = L.length * c := by
          intro L c
          induction L with
          | nil => simp
          | cons a l ih => simp [ih, Nat.add_mul]; omega
        rw [e0, List.length_flatMap, hs]
        simp only [List.length_map]
        rw [e1]
        simp
      rw [e, ← Int.mul_assoc]
      exact ⟨h3, h4⟩
theorem aft_pre : ∀ {i : Nat} {D : List (List Rg)} {a s : List Int}, a.length = D.length → i ≤ D.length → aft (D.drop i) (a.drop i) = some s → aft D a = some (a.take i ++ s)
  | 0, D, a, s, _, _, h => by simpa using h
  | i + 1, [], a, s, _, hi, _ => by simp at hi
  | i + 1, r :: D, [], s, hl, _, _ => by simp at hl
  | i + 1, r :: D, v :: a, s, hl, hi, h => by
    simp at h hl hi
    have := aft_pre hl hi h
    unfold aft
    rw [this]
    simp
theorem aft_at {D : List (List Rg)} {a : List Int} {i : Nat} {r : List Rg} {v : Int} (hr : D[i]? = some r) (hv : a[i]? = some v) (h : aft (D.drop (i + 1)) (a.drop (i + 1)) = none) : aft (D.drop i) (a.drop i) = (nx r v).map fun n => n :: firstA (D.drop (i + 1)) := by
  rw [drop_at hr, drop_at hv]
  unfold aft
  rw [h]
def aftV (D : List (List Rg)) (a : List Int) : List Int := (aft D a).getD (firstA D)
theorem le_rowd {E D : List (List Rg)} (hle : LeD E D) {x : Int} (hx : 0 ≤ x ∧ x < D.length) : Sub (rowOf E x) (rowOf D x) := hle.2 x hx.1 hx.2
theorem eAt_le {E D : List (List Rg)} (hle : LeD E D) (hE : DOk E) (hD : DOk D) {x : Int} (hx : 0 ≤ x ∧ x < D.length) : (eAt D x).1 ≤ (eAt E x).1 ∧ (eAt E x).1 ≤ (eAt E x).2 ∧ (eAt E x).2 ≤ (eAt D x).2 := by
  obtain ⟨m1, m2, _, _, h4, _⟩ := ends_facts (hE x hx.1 (by rw [hle.1]; exact hx.2))
  obtain ⟨_, _, h3, _⟩ := ends_facts (hD x hx.1 hx.2)
  have hs := (le_rowd hle hx).2.2
  exact ⟨(h3 _ (hs _ m1)).1, h4, (h3 _ (hs _ m2)).2⟩
theorem term_up {E D : List (List Rg)} (hle : LeD E D) (hE : DOk E) (hD : DOk D) {t : Tm} (hx : 0 ≤ t.2 ∧ t.2 < D.length) : (termE D t).1 ≤ (termE E t).1 := by
  obtain ⟨h1, h2, h3⟩ := eAt_le hle hE hD hx
  unfold termE
  split
  · exact Int.mul_le_mul_of_nonpos_left (by omega) h3
  · exact Int.mul_le_mul_of_nonneg_left h1 (by omega)
theorem span_up {E D : List (List Rg)} {T : List Tm} (hle : LeD E D) (hE : DOk E) (hD : DOk D) (hT : TOk T D) : ∀ {n : Nat}, n ≤ T.length → (spanK D T n).1 ≤ (spanK E T n).1 ∧ ∀ k, k < n → (termE E (tX T k)).1 - (termE D (tX T k)).1 ≤ (spanK E T n).1 - (spanK D T n).1
  | 0, _ => by simp [spanK]
  | n + 1, h => by
    obtain ⟨h1, h2⟩ := span_up hle hE hD hT (n := n) (by omega)
    have h3 := term_up hle hE hD (hT.2 n (by omega)).2
    unfold spanK
    simp only
    refine ⟨by omega, fun k hk => ?_⟩
    by_cases e : k = n
    · subst e; omega
    · have := h2 k (by omega)
      omega
/-- what is cut is no more than what is cut of more values -/
theorem cut_sub2 {r s : List Rg} {a b c d : Int} (h : Sub r s) (h1 : c ≤ a) (h2 : b ≤ d) : Sub (cutS a b r) (cutS c d s) := by
  obtain ⟨f1, f2⟩ := cutS_facts a b h.1
  obtain ⟨g1, g2⟩ := cutS_facts c d h.2.1
  refine ⟨f1, g1, fun v hv => ?_⟩
  rw [f2] at hv
  rw [g2]
  exact ⟨h.2.2 v hv.1, by omega, by omega⟩
theorem div_room {q p a d : Int} (ha : 0 < a) (hq : 0 ≤ q) (hp : 0 ≤ p) (h : q + a * d ≤ p) : d + q.tdiv a ≤ p.tdiv a := by
  rw [Int.tdiv_eq_ediv_of_nonneg hq, Int.tdiv_eq_ediv_of_nonneg hp]
  have e : d + q / a = (q + a * d) / a := by rw [Int.add_mul_ediv_left _ _ (by omega)]; omega
  rw [e]
  exact Int.ediv_le_ediv ha h
theorem cutOf_le {E D : List (List Rg)} (hle : LeD E D) (hE : DOk E) (hD : DOk D) {t : Tm} (hx : 0 ≤ t.2 ∧ t.2 < D.length) {q p : Int} (hq : 0 ≤ q) (h : (termE E t).1 - (termE D t).1 ≤ p - q) :
    (cutOf D p t).1 ≤ (cutOf E q t).1 ∧ (cutOf E q t).2 ≤ (cutOf D p t).2 := by
  obtain ⟨h1, h2, h3⟩ := eAt_le hle hE hD hx
  have htu := term_up hle hE hD hx
  unfold termE at h htu
  unfold cutOf
  by_cases a1 : 0 < t.1
  · rw [if_neg (by omega), if_neg (by omega)] at h
    rw [if_neg (by omega), if_neg (by omega)] at htu
    rw [if_pos a1, if_pos a1]
    simp only at h htu ⊢
    have := div_room (q := q) (p := p) (a := t.1) (d := (eAt E t.2).1 - (eAt D t.2).1) a1 hq (by omega) (by rw [Int.mul_sub]; omega)
    omega
  · by_cases a2 : t.1 < 0
    · rw [if_pos a2, if_pos a2] at h
      rw [if_pos a2, if_pos a2] at htu
      rw [if_neg a1, if_pos a2, if_neg a1, if_pos a2]
      simp only at h htu ⊢
      have := div_room (q := q) (p := p) (a := -t.1) (d := (eAt D t.2).2 - (eAt E t.2).2) (by omega) hq (by omega) (by rw [Int.neg_mul, Int.mul_sub]; omega)
      omega
    · rw [if_neg a1, if_neg a2, if_neg a1, if_neg a2]
      exact ⟨h1, h3⟩
theorem setrow_le {E D : List (List Rg)} {x : Int} {r s : List Rg} (hle : LeD E D) (hx : 0 ≤ x ∧ x < D.length) (hs : Sub r s) : LeD (E.set x.toNat r) (D.set x.toNat s) := by
  refine ⟨by rw [List.length_set, List.length_set]; exact hle.1, fun y h0 h1 => ?_⟩
  rw [List.length_set] at h1
  rw [row_set hx.1 (by rw [hle.1]; exact hx.2) h0, row_set hx.1 hx.2 h0]
  split
  · exact hs
  · exact hle.2 y h0 h1
theorem most_up {E D : List (List Rg)} {T : List Tm} {q p : Int} (hle : LeD E D) (hE : DOk E) (hD : DOk D) (hT : TOk T D) (hq : 0 ≤ q) (hr : ∀ k, k < T.length → (termE E (tX T k)).1 - (termE D (tX T k)).1 ≤ p - q) : ∀ {k : Nat}, k ≤ T.length → LeD (mostK E T q k) (mostK D T p k)
  | 0, _ => hle
  | k + 1, h => by
    have h1 := most_up hle hE hD hT hq hr (k := k) (by omega)
    obtain ⟨_, h2⟩ := hT.2 k (by omega)
    have hl := (most_le (room := p) hD hT (k := k) (by omega)).1
    obtain ⟨c1, c2⟩ := cutOf_le hle hE hD h2 hq (hr k (by omega))
    unfold mostK
    exact setrow_le h1 (by rw [hl]; exact h2) (cut_sub2 (le_rowd h1 (by rw [hl]; exact h2)) c1 c2)
theorem whole_up {E D : List (List Rg)} (hle : LeD E D) (h : wholeB D = false) : wholeB E = false := by
  unfold wholeB at h ⊢
  rw [Bool.not_eq_false', List.any_eq_true] at h ⊢
  obtain ⟨r, hr, h0⟩ := h
  obtain ⟨i, hi, rfl⟩ := List.getElem_of_mem hr
  have hx : 0 ≤ (i : Int) ∧ (i : Int) < D.length := by omega
  have hs := le_rowd hle hx
  have e : rowOf D (i : Int) = D[i] := by
    have := row_get hx
    rw [Int.toNat_natCast, List.getElem?_eq_getElem hi] at this
    injection this with this
    exact this.symm
  rw [e] at hs
  have h0' : D[i] = [] := by
    rw [decide_eq_true_eq] at h0
    exact List.length_eq_zero_iff.1 h0
  refine ⟨rowOf E i, row_mem ⟨hx.1, by rw [hle.1]; exact hx.2⟩, ?_⟩
  rw [decide_eq_true_eq, List.length_eq_zero_iff]
  rw [h0'] at hs
  cases hq : rowOf E i with
  | nil => rfl
  | cons a l =>
    exfalso
    rw [hq] at hs
    have := right_rg hs.1 (k := 0) (x := a.1) (y := a.2) rfl
    exact mem_nil a.1 (hs.2.2 a.1 ⟨a, by simp, Int.le_refl _, this.1⟩)
/-- a narrowing of smaller domains, and one of larger ones -/
def Up (s t : List (List Rg) × Bool) : Prop := (t.2 = false → s.2 = false) ∧ (s.2 = true → LeD s.1 t.1)
theorem mostS_up {E D : List (List Rg)} {T : List Tm} {n : Int} (hle : LeD E D) (hE : DOk E) (hD : DOk D) (hT : TOk T D) : Up (mostS E T n) (mostS D T n) := by
  obtain ⟨h1, h2⟩ := span_up hle hE hD hT (n := T.length) (Nat.le_refl _)
  unfold mostS
  by_cases hq : n - (spanK E T T.length).1 < 0
  · rw [if_pos hq]
    exact ⟨fun _ => rfl, fun h => by cases h⟩
  · rw [if_neg hq, if_neg (by omega)]
    have := most_up (q := n - (spanK E T T.length).1) (p := n - (spanK D T T.length).1) hle hE hD hT (by omega) (fun k hk => by have := h2 k hk; omega) (k := T.length) (Nat.le_refl _)
    exact ⟨fun h => whole_up this h, fun _ => this⟩
theorem most_leD {D E : List (List Rg)} {T : List Tm} {n : Int} {b : Bool} (hD : DOk D) (hT : TOk T D) (hs : mostS D T n = (E, b)) : LeD E D := by
  unfold mostS at hs
  split at hs <;> (injection hs with h1 h2; subst h1)
  · exact le_refl_of hD
  · exact most_le hD hT (Nat.le_refl _)
theorem most_wh {D E : List (List Rg)} {T : List Tm} {n : Int} (hs : mostS D T n = (E, true)) : wholeB E = true := by
  unfold mostS at hs
  split at hs <;> injection hs with h1 h2
  · cases h2
  · subst h1; exact h2
theorem isS_up {E D : List (List Rg)} {T : List Tm} {n : Int} (hle : LeD E D) (hE : DOk E) (hD : DOk D) (hT : TOk T D) : Up (isS E T n) (isS D T n) := by
  have h1 := mostS_up (n := n) hle hE hD hT
  have hTE : TOk T E := ⟨hT.1, fun k hk => by have := hT.2 k hk; rw [hle.1]; exact this⟩
  unfold isS
  cases hsE : mostS E T n with
  | mk E1 b1 =>
    cases hsD : mostS D T n with
    | mk D1 b2 =>
      rw [hsE, hsD] at h1
      cases b1
      · exact ⟨fun _ => rfl, fun h => by cases h⟩
      · cases b2
        · have := h1.1 rfl; cases this
        · have l1 := most_leD hE hTE hsE
          have l2 := most_leD hD hT hsD
          exact mostS_up (h1.2 rfl) (whole_ok l1 (most_wh hsE)) (whole_ok l2 (most_wh hsD)) (opp_ok hT l2.1)
/-- open terms of smaller domains -/
theorem open_up {E D : List (List Rg)} {T : List Tm} (hle : LeD E D) (hE : DOk E) (hD : DOk D) (hT : TOk T D) : ∀ {k : Nat}, k ≤ T.length →
    ((openK D T k).1 = [] → openK E T k = openK D T k) ∧ ∀ t, (openK D T k).1 = [t] → openK E T k = openK D T k ∨ ((openK E T k).1 = [] ∧ (openK E T k).2 = (openK D T k).2 + t.1 * (eAt E t.2).1 ∧ (eAt E t.2).1 = (eAt E t.2).2)
  | 0, _ => by simp [openK]
  | k + 1, h => by
    obtain ⟨h1, h2⟩ := open_up hle hE hD hT (k := k) (by omega)
    obtain ⟨_, hx⟩ := hT.2 k (by omega)
    obtain ⟨e1, e2, e3⟩ := eAt_le hle hE hD hx
    generalize ht : tX T k = t at hx e1 e2 e3
    unfold openK
    rw [ht]
    by_cases hc : t.1 = 0 ∨ (eAt D t.2).1 = (eAt D t.2).2
    · have hc' : t.1 = 0 ∨ (eAt E t.2).1 = (eAt E t.2).2 := by omega
      have he : t.1 * (eAt E t.2).1 = t.1 * (eAt D t.2).1 := by
        rcases hc with h0 | h0
        · rw [h0]; simp
        · rw [show (eAt E t.2).1 = (eAt D t.2).1 by omega]
      rw [if_pos hc, if_pos hc']
      simp only
      refine ⟨fun hn => by rw [h1 hn, he], fun u hu => ?_⟩
      rcases h2 u hu with h3 | ⟨h3, h4, h5⟩
      · left; rw [h3, he]
      · right; exact ⟨h3, by rw [h4, he]; omega, h5⟩
    · rw [if_neg hc]
      simp only
      refine ⟨fun hn => by simp at hn, fun u hu => ?_⟩
      have hn : (openK D T k).1 = [] := by
        cases hq : (openK D T k).1 with
        | nil => rfl
        | cons a l => rw [hq] at hu; simp at hu
      rw [hn] at hu
      simp at hu
      subst hu
      by_cases hc' : t.1 = 0 ∨ (eAt E t.2).1 = (eAt E t.2).2
      · rw [if_pos hc']
        right
        rw [h1 hn]
        exact ⟨hn, rfl, by omega⟩
      · rw [if_neg hc']
        left
        rw [h1 hn]
theorem without_sub2 {r s : List Rg} (h : Sub r s) (v : Int) : Sub (withoutS v r) (withoutS v s) := by
  obtain ⟨f1, f2⟩ := withoutS_facts v h.1
  obtain ⟨g1, g2⟩ := withoutS_facts v h.2.1
  exact ⟨f1, g1, fun u hu => by rw [f2] at hu; rw [g2]; exact ⟨h.2.2 u hu.1, hu.2⟩⟩
theorem notS_up {E D : List (List Rg)} {T : List Tm} {n : Int} (hle : LeD E D) (hE : DOk E) (hD : DOk D) (hT : TOk T D) (hlE : ∀ E' b, notS E T n = (E', b) → LeD E' E) : Up (notS E T n) (notS D T n) := by
  obtain ⟨h1, h2⟩ := open_up hle hE hD hT (k := T.length) (Nat.le_refl _)
  obtain ⟨_, _, h3⟩ := open_facts hD hT (k := T.length) (Nat.le_refl _)
  have any_ok : ∀ D', notS D T n = (D', true) → D' = D → Up (notS E T n) (notS D T n) := by
    intro D' hd e
    subst e
    rw [hd]
    refine ⟨fun h => (by cases h), fun _ => ?_⟩
    exact (hlE _ _ rfl).trans hle
  by_cases c1 : 1 < (openK D T T.length).1.length
  · exact any_ok D (by unfold notS; rw [if_pos c1]) rfl
  by_cases c0 : (openK D T T.length).1 = []
  · have hd : ∀ F : List (List Rg), notS F T n = if 1 < (openK F T T.length).1.length then (F, true) else if (openK F T T.length).1.length = 0 then (F, decide (¬ n - (openK F T T.length).2 = 0)) else
        if ¬ (n - (openK F T T.length).2).tmod (tX (openK F T T.length).1 0).1 = 0 then (F, true) else
      (F.set (tX (openK F T T.length).1 0).2.toNat (withoutS ((n - (openK F T T.length).2).tdiv (tX (openK F T T.length).1 0).1) (rowOf F (tX (openK F T T.length).1 0).2)),
        wholeB (F.set (tX (openK F T T.length).1 0).2.toNat (withoutS ((n - (openK F T T.length).2).tdiv (tX (openK F T T.length).1 0).1) (rowOf F (tX (openK F T T.length).1 0).2)))) := fun F => rfl
    rw [hd E, hd D, h1 c0, c0]
    simp only [List.length_nil, Nat.not_lt_zero, if_false, if_true, show ¬ 1 < 0 by omega]
    exact ⟨fun h => h, fun _ => hle⟩
  · obtain ⟨t, ht⟩ : ∃ t, (openK D T T.length).1 = [t] := by
      cases hq : (openK D T T.length).1 with
      | nil => exact absurd hq c0
      | cons a l =>
        cases l with
        | nil => exact ⟨a, rfl⟩
        | cons b m => rw [hq] at c1; simp at c1
    obtain ⟨t0, tb, tx⟩ := h3 t (by rw [ht]; simp)
    have hd : ∀ F : List (List Rg), (openK F T T.length).1 = [t] → notS F T n = if ¬ (n - (openK F T T.length).2).tmod t.1 = 0 then (F, true) else
      (F.set t.2.toNat (withoutS ((n - (openK F T T.length).2).tdiv t.1) (rowOf F t.2)), wholeB (F.set t.2.toNat (withoutS ((n - (openK F T T.length).2).tdiv t.1) (rowOf F t.2)))) := by
      intro F hF
      unfold notS
      rw [hF]
      have : tX [t] 0 = t := rfl
      simp [this]
    by_cases cm : (n - (openK D T T.length).2).tmod t.1 = 0
    · rcases h2 t ht with he | ⟨e1, e2, e3⟩
      · rw [hd D ht, hd E (by rw [he]; exact ht), he, if_neg (by simpa using cm), if_neg (by simpa using cm)]
        have := setrow_le hle tx (without_sub2 (le_rowd hle tx) ((n - (openK D T T.length).2).tdiv t.1))
        exact ⟨fun h => whole_up this h, fun _ => this⟩
      · have hn : notS E T n = (E, decide (¬ n - (openK E T T.length).2 = 0)) := by
          unfold notS
          rw [e1]
          simp
        have hdv : (n - (openK D T T.length).2).tdiv t.1 * t.1 = n - (openK D T T.length).2 := Int.tdiv_mul_cancel (Int.dvd_of_tmod_eq_zero cm)
        rw [hd D ht, hn, if_neg (by simpa using cm), e2]
        generalize hv : (n - (openK D T T.length).2).tdiv t.1 = v at hdv
        generalize hs : (openK D T T.length).2 = s at hdv
        obtain ⟨m1, m2, m3, _⟩ := ends_facts (hE t.2 tx.1 (by rw [hle.1]; exact tx.2))
        change Mem _ (eAt E t.2).1 at m1
        change ∀ w, _ → (eAt E t.2).1 ≤ w ∧ w ≤ (eAt E t.2).2 at m3
        have hS := le_rowd hle tx
        obtain ⟨f1, f2⟩ := withoutS_facts v hS.2.1
        by_cases hu : (eAt E t.2).1 = v
        · have hz : n - (s + t.1 * (eAt E t.2).1) = 0 := by rw [hu, Int.mul_comm]; omega
          refine ⟨fun _ => by simp [hz], fun h => ?_⟩
          simp [hz] at h
        · have hsub : Sub (rowOf E t.2) (withoutS v (rowOf D t.2)) := ⟨hS.1, f1, fun w hw => by
            rw [f2]
            refine ⟨hS.2.2 w hw, fun e => ?_⟩
            have := m3 w hw
            omega⟩
          have hz : ¬ n - (s + t.1 * (eAt E t.2).1) = 0 := by
            intro hz
            apply hu
            have : t.1 * (eAt E t.2).1 = t.1 * v := by rw [Int.mul_comm t.1 v]; omega
            exact Int.eq_of_mul_eq_mul_left t0 this
          have hset := setrow_le (x := t.2) (r := rowOf E t.2) hle tx hsub
          rw [set_self ⟨tx.1, by rw [hle.1]; exact tx.2⟩] at hset
          refine ⟨fun h => ?_, fun _ => hset⟩
          have := whole_up hset h
          exfalso
          unfold wholeB at this
          rw [Bool.not_eq_false', List.any_eq_true] at this
          obtain ⟨r, hr, h0⟩ := this
          obtain ⟨i, hi, rfl⟩ := List.getElem_of_mem hr
          have hx : 0 ≤ (i : Int) ∧ (i : Int) < E.length := by omega
          have := dom_right (hE i hx.1 hx.2)
          have e : rowOf E (i : Int) = E[i] := by
            have := row_get hx
            rw [Int.toNat_natCast, List.getElem?_eq_getElem hi] at this
            injection this with this
            exact this.symm
          rw [e] at this
          rw [decide_eq_true_eq] at h0
          omega
    · exact any_ok D (by rw [hd D ht, if_pos (by simpa using cm)]) rfl
theorem tell_up {s t : List (List Rg) × Bool} (h : Up s t) : (∃ E, tell t = (E, 0) ∧ (tell s = ([], 12) ∨ ∃ E', tell s = (E', 0) ∧ LeD E' E)) ∨ (tell t = ([], 12) ∧ tell s = ([], 12)) := by
  obtain ⟨E, b⟩ := s
  obtain ⟨D, c⟩ := t
  cases c
  · have := h.1 rfl
    simp only at this
    subst this
    exact .inr ⟨rfl, rfl⟩
  · refine .inl ⟨D, rfl, ?_⟩
    cases b
    · exact .inl rfl
    · exact .inr ⟨E, rfl, h.2 rfl⟩
end Go.Proofs.Ytnhedjpghpdbdaa
