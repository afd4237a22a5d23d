/- Plain laws of sets of ranges: no program in sight. -/
import Derived.Test.YtbmcjhjbifojnaaAv2
namespace Go.Proofs.Ytbmcjhjbifojnaa
open Av
set_option linter.unusedSimpArgs false
set_option linter.unusedVariables false
def withinB (n : Int) : Bool := decide (-1048576 ≤ n) && decide (n ≤ 1048576)
theorem withinB_iff (n : Int) : withinB n = true ↔ -1048576 ≤ n ∧ n ≤ 1048576 := by simp [withinB]
def okAt (l : List Rg) (k : Nat) : Bool :=
  match l[k]? with
  | none => true
  | some r => !decide (r.2 < r.1) && withinB r.1 && withinB r.2 && (k == 0 || (match l[k - 1]? with | none => true | some p => !decide (r.1 - p.2 < 2)))
def rightB (l : List Rg) : Bool := (List.range l.length).all (okAt l)
theorem rightB_no {l : List Rg} {k : Nat} (hk : k < l.length) (h : okAt l k = false) : rightB l = false := by
  unfold rightB
  rw [List.all_eq_false]
  exact ⟨k, by simpa using hk, by simp [h]⟩
theorem rightB_yes {l : List Rg} (h : ∀ k, k < l.length → okAt l k = true) : rightB l = true := by
  unfold rightB
  rw [List.all_eq_true]
  intro k hk
  exact h k (by simpa using hk)
theorem at_rg {l : List Rg} {k : Nat} (h : k < l.length) : ∃ x y, l[k]? = some (x, y) := ⟨_, _, List.getElem?_eq_getElem h⟩
theorem mem_at {α : Type} {l : List α} {k : Nat} {x : α} (h : l[k]? = some x) : x ∈ l := List.mem_of_getElem? h


/-! ### lists of ranges -/
theorem drop_at {α : Type} {l : List α} {k : Nat} {x : α} (h : l[k]? = some x) : l.drop k = x :: l.drop (k + 1) := by
  obtain ⟨h1, h2⟩ := List.getElem?_eq_some_iff.1 h
  rw [List.drop_eq_getElem_cons h1, h2]
def fromN (v : Int) : List Rg → Nat
  | [] => 0
  | r :: l => if r.2 < v then fromN v l + 1 else 0
theorem fromN_le (v : Int) : ∀ l : List Rg, fromN v l ≤ l.length
  | [] => Nat.le_refl _
  | r :: l => by
    unfold fromN
    split
    · have := fromN_le v l; simp; omega
    · simp
theorem fromN_eq {v : Int} : ∀ {l : List Rg} {i : Nat}, i ≤ l.length → (∀ j x y, j < i → l[j]? = some (x, y) → y < v) → (∀ x y, l[i]? = some (x, y) → v ≤ y) → fromN v l = i
  | [], i, h, _, _ => by simp at h; simp [fromN, h]
  | r :: l, 0, _, _, h2 => by
    unfold fromN
    have := h2 r.1 r.2 (by simp)
    rw [if_neg (by omega)]
  | r :: l, i + 1, h, h1, h2 => by
    unfold fromN
    have h3 := h1 0 r.1 r.2 (by omega) (by simp)
    rw [if_pos h3, fromN_eq (i := i) (by simpa using h) (fun j x y hj hl => h1 (j + 1) x y (by omega) (by simpa using hl)) (fun x y hl => h2 x y (by simpa using hl))]
theorem fromN_before {v : Int} : ∀ {l : List Rg} {j : Nat} {x y : Int}, j < fromN v l → l[j]? = some (x, y) → y < v
  | [], j, x, y, h, _ => by simp [fromN] at h
  | r :: l, 0, x, y, h, hl => by
    unfold fromN at h
    simp at hl
    subst hl
    split at h
    · assumption
    · omega
  | r :: l, j + 1, x, y, h, hl => by
    unfold fromN at h
    split at h
    · exact fromN_before (l := l) (j := j) (x := x) (by omega) (by simpa using hl)
    · omega
theorem fromN_at {v : Int} : ∀ {l : List Rg} {x y : Int}, l[fromN v l]? = some (x, y) → v ≤ y
  | [], x, y, hl => by simp at hl
  | r :: l, x, y, hl => by
    unfold fromN at hl
    split at hl
    · exact fromN_at (l := l) (x := x) (by simpa using hl)
    · simp at hl; subst hl; simp at *; omega
def Rises (l : List Rg) : Prop := ∀ (i j : Nat) (x y x' y' : Int), i ≤ j → l[i]? = some (x, y) → l[j]? = some (x', y') → y ≤ y'
theorem half_lt (i j : Nat) (h : i < j) : i ≤ (i + j) / 2 ∧ (i + j) / 2 < j := by omega
theorem withinB_no {n : Int} : withinB n = false ↔ n < -1048576 ∨ 1048576 < n := by unfold withinB; simp; omega
theorem rightB_at {l : List Rg} (h : rightB l = true) {k : Nat} (hk : k < l.length) : okAt l k = true := by
  unfold rightB at h
  rw [List.all_eq_true] at h
  exact h k (List.mem_range.2 hk)
theorem ok_1 {l : List Rg} {k : Nat} {x y : Int} (h : l[k]? = some (x, y)) (h1 : decide (y < x) = true) : okAt l k = false := by unfold okAt; rw [h]; simp only [h1]; rfl
theorem ok_2 {l : List Rg} {k : Nat} {x y : Int} (h : l[k]? = some (x, y)) (h1 : decide (y < x) = false) (h2 : withinB x = false) : okAt l k = false := by unfold okAt; rw [h]; simp only [h1, h2]; rfl
theorem ok_3 {l : List Rg} {k : Nat} {x y : Int} (h : l[k]? = some (x, y)) (h1 : decide (y < x) = false) (h2 : withinB x = true) (h3 : withinB y = false) : okAt l k = false := by unfold okAt; rw [h]; simp only [h1, h2, h3]; rfl
theorem ok_4 {l : List Rg} {k : Nat} {x y : Int} (h : l[k]? = some (x, y)) (h1 : decide (y < x) = false) (h2 : withinB x = true) (h3 : withinB y = true) (h0 : k = 0) : okAt l k = true := by
  unfold okAt; rw [h]; simp only [h1, h2, h3, h0]; rfl
theorem ok_5 {l : List Rg} {k : Nat} {x y x' y' : Int} {b : Bool} (h : l[k]? = some (x, y)) (h1 : decide (y < x) = false) (h2 : withinB x = true) (h3 : withinB y = true) (h0 : ¬ k = 0) (hp : l[k - 1]? = some (x', y')) (hb : decide (x - y' < 2) = b) : okAt l k = !b := by
  unfold okAt; rw [h, hp]; simp only [h1, h2, h3, hb]; simp [h0]
theorem ok_within {l : List Rg} {k : Nat} {x y : Int} (h : okAt l k = true) (hk : l[k]? = some (x, y)) : withinB y = true := by
  unfold okAt at h
  rw [hk] at h
  simp at h
  exact h.1.2
theorem right_rg {l : List Rg} (h : rightB l = true) {k : Nat} {x y : Int} (hk : l[k]? = some (x, y)) : x ≤ y ∧ -1048576 ≤ x ∧ x ≤ 1048576 ∧ -1048576 ≤ y ∧ y ≤ 1048576 := by
  have h1 := rightB_at h (List.getElem?_eq_some_iff.1 hk).1
  unfold okAt at h1
  rw [hk] at h1
  simp [withinB] at h1
  omega
theorem right_gap {l : List Rg} (h : rightB l = true) {k : Nat} {x y x' y' : Int} (hk : l[k]? = some (x, y)) (hk' : l[k + 1]? = some (x', y')) : y + 2 ≤ x' := by
  have h1 := rightB_at h (List.getElem?_eq_some_iff.1 hk').1
  unfold okAt at h1
  rw [hk', show k + 1 - 1 = k by omega, hk] at h1
  simp [withinB] at h1
  omega
theorem right_apart {l : List Rg} (h : rightB l = true) : ∀ {d k : Nat} {x y x' y' : Int}, l[k]? = some (x, y) → l[k + d + 1]? = some (x', y') → y + 2 ≤ x'
  | 0, k, x, y, x', y', h1, h2 => right_gap h h1 h2
  | d + 1, k, x, y, x', y', h1, h2 => by
    have hl := (List.getElem?_eq_some_iff.1 h2).1
    obtain ⟨p, q, h3⟩ := at_rg (l := l) (k := k + d + 1) (by omega)
    have h4 := right_apart h h1 h3
    have h5 := right_gap h h3 (by rw [show k + d + 1 + 1 = k + (d + 1) + 1 by omega]; exact h2)
    have h6 := right_rg h h3
    omega
theorem right_rises {l : List Rg} (h : rightB l = true) : Rises l := by
  intro i j x y x' y' hij h1 h2
  rcases Nat.lt_or_ge i j with h3 | h3
  · have h4 := right_apart (d := j - i - 1) h h1 (by rw [show i + (j - i - 1) + 1 = j by omega]; exact h2)
    have := right_rg h h2
    omega
  · have e : i = j := by omega
    subst e
    rw [h1] at h2
    simp at h2
    omega
theorem right_length {l : List Rg} (h : rightB l = true) : l.length ≤ 1048577 := by
  rcases Nat.lt_or_ge l.length 2 with h2 | h2
  · omega
  · have key : ∀ d, d + 1 < l.length → ∀ x y x' y', l[0]? = some (x, y) → l[d + 1]? = some (x', y') → y + 2 * (d + 1 : Nat) ≤ x' := by
      intro d
      induction d with
      | zero => intro _ x y x' y' h3 h4; have := right_gap h h3 h4; omega
      | succ d ih =>
        intro hd x y x' y' h3 h4
        obtain ⟨p, q, h5⟩ := at_rg (l := l) (k := d + 1) (by omega)
        have h6 := ih (by omega) x y p q h3 h5
        have h7 := right_gap h h5 h4
        have h8 := right_rg h h5
        omega
    obtain ⟨x, y, h3⟩ := at_rg (l := l) (k := 0) (by omega)
    obtain ⟨x', y', h4⟩ := at_rg (l := l) (k := l.length - 1) (by omega)
    have h5 := key (l.length - 2) (by omega) x y x' y' h3 (by rw [show l.length - 2 + 1 = l.length - 1 by omega]; exact h4)
    have h6 := right_rg h h3
    have h7 := right_rg h h4
    omega

/-! ### Next, Has -/
def nextV (l : List Rg) (v : Int) : Int := if rightB l = true then (match l[fromN v l]? with | some r => max v r.1 | none => 0) else 0
def nextB (l : List Rg) (v : Int) : Bool := rightB l && decide (fromN v l < l.length)
def hasB (l : List Rg) (v : Int) : Bool := nextB l v && (nextV l v == v)
def sizeGo (n : Int) : List Rg → Int
  | [] => n
  | r :: l => sizeGo (n + (r.2 - r.1 + 1)) l
def sizeV (l : List Rg) : Int := if rightB l = true then sizeGo 0 l else 0
def endsV (l : List Rg) : Rg := if rightB l = true then (match l.head?, l.getLast? with | some a, some b => (a.1, b.2) | _, _ => (0, 0)) else (0, 0)
def endsB (l : List Rg) : Bool := rightB l && !l.isEmpty
theorem last_at {l : List Rg} {n : Nat} (h : l.length = n + 1) : l.getLast? = l[n]? := by
  rw [List.getLast?_eq_getElem?, h]; rfl
def cutGo (lo hi : Int) : List Rg → List Rg
  | [] => []
  | r :: l => if hi < r.1 then [] else if max r.1 lo ≤ min r.2 hi then (max r.1 lo, min r.2 hi) :: cutGo lo hi l else cutGo lo hi l
def cutS (lo hi : Int) (l : List Rg) : List Rg := if rightB l = true then cutGo lo hi (l.drop (fromN lo l)) else []
def withoutS (v : Int) (l : List Rg) : List Rg := if hasB l v = true then cutS (-1048576) (v - 1) l ++ cutS (v + 1) 1048576 l else if rightB l = true then l else []
theorem cutGo_length (lo hi : Int) : ∀ l : List Rg, (cutGo lo hi l).length ≤ l.length
  | [] => by simp [cutGo]
  | r :: l => by
    have := cutGo_length lo hi l
    unfold cutGo
    split
    · simp
    · split <;> simp <;> omega
theorem cutS_length (lo hi : Int) (l : List Rg) : (cutS lo hi l).length ≤ l.length := by
  unfold cutS
  split
  · have := cutGo_length lo hi (l.drop (fromN lo l))
    rw [List.length_drop] at this
    omega
  · simp
theorem next_right {l : List Rg} {v : Int} (h : nextB l v = true) : rightB l = true := by unfold nextB at h; simp at h; exact h.1
theorem has_within {l : List Rg} {v : Int} (h : hasB l v = true) : -1048576 ≤ v ∧ v ≤ 1048576 := by
  unfold hasB at h
  simp at h
  obtain ⟨h1, h2⟩ := h
  have hr := next_right h1
  unfold nextB at h1
  simp [hr] at h1
  obtain ⟨x, y, hxy⟩ := at_rg h1
  have h3 := right_rg hr hxy
  have h4 := fromN_at hxy
  unfold nextV at h2
  rw [if_pos hr, hxy] at h2
  simp at h2
  omega
def meetGo : Nat → List Rg → List Rg → List Rg
  | 0, _, _ => []
  | _ + 1, [], _ => []
  | _ + 1, _ :: _, [] => []
  | f + 1, x :: a', y :: b' =>
      (if max x.1 y.1 ≤ min x.2 y.2 then [(max x.1 y.1, min x.2 y.2)] else []) ++ (if x.2 < y.2 then meetGo f a' (y :: b') else meetGo f (x :: a') b')
def meetS (a b : List Rg) : List Rg := if (rightB a && rightB b) = true then meetGo (a.length + b.length) a b else []
theorem meetGo_nil1 (f : Nat) (b : List Rg) : meetGo f [] b = [] := by cases f <;> rfl
theorem meetGo_nil2 (f : Nat) (a : List Rg) : meetGo f a [] = [] := by cases f <;> cases a <;> rfl
theorem meet_step {x y x' y' p q : Int} {a b : List Rg} (hp : p = max x x') (hq : q = min y y') :
    meetGo (((x, y) :: a).length + ((x', y') :: b).length) ((x, y) :: a) ((x', y') :: b) =
      (if p ≤ q then [(p, q)] else []) ++ (if y < y' then meetGo (a.length + ((x', y') :: b).length) a ((x', y') :: b) else meetGo (((x, y) :: a).length + b.length) ((x, y) :: a) b) := by
  subst hp hq
  rw [show ((x, y) :: a).length + ((x', y') :: b).length = (a.length + b.length + 1) + 1 by simp; omega, meetGo]
  rw [show a.length + ((x', y') :: b).length = a.length + b.length + 1 by simp; omega, show ((x, y) :: a).length + b.length = a.length + b.length + 1 by simp; omega]
theorem meet_a {acc R u v : List Rg} {y y' : Int} (h : acc ++ (if y < y' then u else v) = R) (q : y < y') : acc ++ u = R := by rw [if_pos q] at h; exact h
theorem meet_b {acc R u v : List Rg} {y y' : Int} (h : acc ++ (if y < y' then u else v) = R) (q : ¬ y < y') : acc ++ v = R := by rw [if_neg q] at h; exact h
theorem rg_zero {l : List Rg} (h : ¬ 0 < l.length) : l = [] := List.eq_nil_of_length_eq_zero (by omega)
theorem rg_cons {l : List Rg} (h : 0 < l.length) : ∃ x y l', l = (x, y) :: l' := by cases l with | nil => simp at h | cons r l' => exact ⟨r.1, r.2, l', rfl⟩
theorem gap_eq (x y : Int) : decide (x - y < 2) = decide (x < y + 2) := by
  by_cases h : x - y < 2
  · rw [decide_eq_true h, decide_eq_true (by omega)]
  · rw [decide_eq_false h, decide_eq_false (by omega)]
def rhasB (l : List Rg) (v : Int) : Bool := l.any (fun r => decide (r.1 ≤ v) && decide (v ≤ r.2)) && rightB l
theorem rhas_yes {l : List Rg} {k : Nat} {x y v : Int} (h : l[k]? = some (x, y)) (h1 : x ≤ v) (h2 : v ≤ y) : rhasB l v = rightB l := by
  unfold rhasB
  have : l.any (fun r => decide (r.1 ≤ v) && decide (v ≤ r.2)) = true := List.any_eq_true.2 ⟨(x, y), mem_at h, by simp [h1, h2]⟩
  rw [this, Bool.true_and]
theorem rhas_no {l : List Rg} {v : Int} (h : ∀ (j : Nat) (x y : Int), l[j]? = some (x, y) → ¬ (x ≤ v ∧ v ≤ y)) : rhasB l v = false := by
  unfold rhasB
  have : l.any (fun r => decide (r.1 ≤ v) && decide (v ≤ r.2)) = false := by
    rw [List.any_eq_false]
    intro r hr
    obtain ⟨k, hk, rfl⟩ := List.getElem_of_mem hr
    have := h k _ _ (List.getElem?_eq_getElem hk)
    simpa using this
  rw [this, Bool.false_and]
theorem rhas_more {l : List Rg} {k : Nat} {x y v : Int} (h : ∀ (j : Nat) (x y : Int), j < k → l[j]? = some (x, y) → ¬ (x ≤ v ∧ v ≤ y)) (h1 : l[k]? = some (x, y)) (h2 : ¬ (x ≤ v ∧ v ≤ y)) :
    ∀ (j : Nat) (x y : Int), j < k + 1 → l[j]? = some (x, y) → ¬ (x ≤ v ∧ v ≤ y) := by
  intro j x' y' hj hx'
  rcases Nat.lt_or_ge j k with h' | h'
  · exact h j x' y' h' hx'
  · have e : j = k := by omega
    subst e
    rw [h1] at hx'
    simp at hx'
    obtain ⟨rfl, rfl⟩ := hx'
    exact h2
theorem next_more {l : List Rg} {k : Nat} {x y v : Int} (h : ∀ (j : Nat) (x y : Int), j < k → l[j]? = some (x, y) → y < v) (h1 : l[k]? = some (x, y)) (h2 : y < v) :
    ∀ (j : Nat) (x y : Int), j < k + 1 → l[j]? = some (x, y) → y < v := by
  intro j x' y' hj hx'
  rcases Nat.lt_or_ge j k with h' | h'
  · exact h j x' y' h' hx'
  · have e : j = k := by omega
    subst e
    rw [h1] at hx'
    simp at hx'
    obtain ⟨rfl, rfl⟩ := hx'
    exact h2
theorem next_hit {l : List Rg} {k : Nat} {x y v : Int} (hr : rightB l = true) (hk : k < l.length) (h1 : l[k]? = some (x, y)) (h : ∀ (j : Nat) (x y : Int), j < k → l[j]? = some (x, y) → y < v) (h2 : v ≤ y) : nextV l v = max v x ∧ nextB l v = true := by
  have e : fromN v l = k := fromN_eq (by omega) h (fun x' y' h' => by rw [h1] at h'; simp at h'; omega)
  unfold nextV nextB
  rw [hr, e, h1]
  exact ⟨rfl, by simpa using hk⟩
theorem next_miss {l : List Rg} {v : Int} (hr : rightB l = true) (h : ∀ (j : Nat) (x y : Int), j < l.length → l[j]? = some (x, y) → y < v) : nextV l v = 0 ∧ nextB l v = false := by
  have e : fromN v l = l.length := fromN_eq (Nat.le_refl _) h (fun x' y' h' => by simp at h')
  unfold nextV nextB
  rw [hr, e]
  exact ⟨by simp, by simp⟩
def rcutGo (lo hi : Int) : List Rg → List Rg
  | [] => []
  | r :: l => if max lo r.1 ≤ min hi r.2 then (max lo r.1, min hi r.2) :: rcutGo lo hi l else rcutGo lo hi l
def rcutS (lo hi : Int) (l : List Rg) : List Rg := if rightB l = true then rcutGo lo hi l else []
def rsameB (l m : List Rg) : Bool := rightB l && rightB m && decide (l = m)
def rwithoutGo (v : Int) : List Rg → List Rg
  | [] => []
  | r :: l => (if v < r.1 ∨ r.2 < v then [r] else (if r.1 < v then [(r.1, v - 1)] else []) ++ (if v < r.2 then [(v + 1, r.2)] else [])) ++ rwithoutGo v l
def rwithoutS (v : Int) (l : List Rg) : List Rg := if rightB l = true then rwithoutGo v l else []
def rmeetGo (a : List Rg) : List Rg → List Rg
  | [] => []
  | r :: l => rcutS r.1 r.2 a ++ rmeetGo a l
def rmeetS (a b : List Rg) : List Rg := if (rightB a && rightB b) = true then rmeetGo a b else []
theorem rcutGo_length (lo hi : Int) : ∀ l : List Rg, (rcutGo lo hi l).length ≤ l.length
  | [] => by simp [rcutGo]
  | r :: l => by
    have := rcutGo_length lo hi l
    unfold rcutGo
    split <;> simp <;> omega
theorem rcutS_length (lo hi : Int) (l : List Rg) : (rcutS lo hi l).length ≤ l.length := by
  unfold rcutS
  split
  · exact rcutGo_length lo hi l
  · simp
def Wf : List Rg → Prop
  | [] => True
  | r :: l => r.1 ≤ r.2 ∧ (∀ s ∈ l, r.2 + 2 ≤ s.1) ∧ Wf l
def Mem (l : List Rg) (v : Int) : Prop := ∃ r ∈ l, r.1 ≤ v ∧ v ≤ r.2
def InBs (l : List Rg) : Prop := ∀ r ∈ l, -1048576 ≤ r.1 ∧ r.1 ≤ 1048576 ∧ -1048576 ≤ r.2 ∧ r.2 ≤ 1048576
theorem mem_nil (v : Int) : ¬ Mem [] v := by rintro ⟨r, h, _⟩; simp at h
theorem mem_cons (r : Rg) (l : List Rg) (v : Int) : Mem (r :: l) v ↔ (r.1 ≤ v ∧ v ≤ r.2) ∨ Mem l v := by
  unfold Mem; simp
theorem mem_append (l m : List Rg) (v : Int) : Mem (l ++ m) v ↔ Mem l v ∨ Mem m v := by
  unfold Mem
  simp only [List.mem_append]
  constructor
  · rintro ⟨r, h | h, h2⟩
    · exact .inl ⟨r, h, h2⟩
    · exact .inr ⟨r, h, h2⟩
  · rintro (⟨r, h, h2⟩ | ⟨r, h, h2⟩)
    · exact ⟨r, .inl h, h2⟩
    · exact ⟨r, .inr h, h2⟩
theorem wf_le {l : List Rg} (h : Wf l) : ∀ s ∈ l, s.1 ≤ s.2 := by
  induction l with
  | nil => simp
  | cons r l ih =>
    intro s hs
    simp only [List.mem_cons] at hs
    rcases hs with rfl | hs
    · exact h.1
    · exact ih h.2.2 s hs
theorem wf_append {l m : List Rg} (hl : Wf l) (hm : Wf m) (h : ∀ r ∈ l, ∀ s ∈ m, r.2 + 2 ≤ s.1) : Wf (l ++ m) := by
  induction l with
  | nil => exact hm
  | cons r l ih =>
    refine ⟨hl.1, fun s hs => ?_, ih hl.2.2 (fun r hr => h r (by simp [hr]))⟩
    have hs : s ∈ l ++ m := hs
    rw [List.mem_append] at hs
    rcases hs with hs | hs
    · exact hl.2.1 s hs
    · exact h r (by simp) s hs
theorem wf_ext : ∀ {l m : List Rg}, Wf l → Wf m → (∀ v, Mem l v ↔ Mem m v) → l = m
  | [], [], _, _, _ => rfl
  | [], s :: m, _, hm, h => absurd ((h s.1).2 ⟨s, by simp, by omega, hm.1⟩) (mem_nil _)
  | r :: l, [], hl, _, h => absurd ((h r.1).1 ⟨r, by simp, by omega, hl.1⟩) (mem_nil _)
  | r :: l, s :: m, hl, hm, h => by
    have low : ∀ {t : Rg} {k : List Rg} {v : Int}, Wf (t :: k) → Mem (t :: k) v → t.1 ≤ v := by
      intro t k v ht hv
      rw [mem_cons] at hv
      rcases hv with hv | ⟨u, hu, h1, h2⟩
      · exact hv.1
      · have := ht.2.1 u hu; have := ht.1; omega
    have h1 : r.1 = s.1 := by
      have a := low hm ((h r.1).1 ⟨r, by simp, by omega, hl.1⟩)
      have b := low hl ((h s.1).2 ⟨s, by simp, by omega, hm.1⟩)
      omega
    have top : ∀ {t u : Rg} {k n : List Rg}, Wf (t :: k) → Wf (u :: n) → t.1 = u.1 → (∀ v, Mem (u :: n) v → Mem (t :: k) v) → u.2 ≤ t.2 := by
      intro t u k n ht hu he hv
      refine Decidable.byContradiction fun hlt => ?_
      have := hv (t.2 + 1) ⟨u, by simp, by have := ht.1; omega, by omega⟩
      rw [mem_cons] at this
      rcases this with h2 | ⟨w, hw, h2, h3⟩
      · omega
      · have := ht.2.1 w hw; omega
    have h2 : r.2 = s.2 := by
      have a := top hl hm h1 (fun v hv => (h v).2 hv)
      have b := top hm hl h1.symm (fun v hv => (h v).1 hv)
      omega
    have e : r = s := Prod.ext h1 h2
    subst e
    have tail : ∀ v, Mem l v ↔ Mem m v := by
      intro v
      have key : ∀ {k n : List Rg}, Wf (r :: k) → (∀ v, Mem (r :: k) v → Mem (r :: n) v) → Mem k v → Mem n v := by
        intro k n hk hv hm'
        obtain ⟨u, hu, h3, h4⟩ := hm'
        have h5 := hk.2.1 u hu
        have := hv v (by rw [mem_cons]; exact .inr ⟨u, hu, h3, h4⟩)
        rw [mem_cons] at this
        rcases this with h6 | h6
        · omega
        · exact h6
      exact ⟨key hl (fun v => (h v).1), key hm (fun v => (h v).2)⟩
    rw [wf_ext hl.2.2 hm.2.2 tail]

/-! ### Right -/
theorem wf_of_at : ∀ {l : List Rg}, (∀ (k : Nat) (x y : Int), l[k]? = some (x, y) → x ≤ y) → (∀ (k d : Nat) (x y x' y' : Int), l[k]? = some (x, y) → l[k + d + 1]? = some (x', y') → y + 2 ≤ x') → Wf l
  | [], _, _ => trivial
  | r :: l, h1, h2 => by
    refine ⟨h1 0 r.1 r.2 (by simp), fun s hs => ?_, wf_of_at (fun k x y h => h1 (k + 1) x y (by simpa using h)) (fun k d x y x' y' h h' => h2 (k + 1) d x y x' y' (by simpa using h) (by rw [show k + 1 + d + 1 = (k + d + 1) + 1 by omega]; simpa using h'))⟩
    obtain ⟨d, hd, rfl⟩ := List.getElem_of_mem hs
    exact h2 0 d r.1 r.2 _ _ (by simp) (by rw [show 0 + d + 1 = d + 1 by omega, List.getElem?_cons_succ]; exact List.getElem?_eq_getElem hd)
theorem right_wf {l : List Rg} (h : rightB l = true) : Wf l ∧ InBs l := by
  refine ⟨wf_of_at (fun k x y hk => (right_rg h hk).1) (fun k d x y x' y' h1 h2 => right_apart h h1 h2), fun r hr => ?_⟩
  obtain ⟨k, hk, rfl⟩ := List.getElem_of_mem hr
  have := right_rg h (x := l[k].1) (y := l[k].2) (List.getElem?_eq_getElem hk)
  omega
theorem wf_right {l : List Rg} (h : Wf l) (hb : InBs l) : rightB l = true := by
  have gap : ∀ {l : List Rg} {k : Nat} {r s : Rg}, Wf l → l[k]? = some r → l[k + 1]? = some s → r.2 + 2 ≤ s.1 := by
    intro l
    induction l with
    | nil => intro k r s _ h; simp at h
    | cons t l ih =>
      intro k r s hw h1 h2
      cases k with
      | zero =>
        simp at h1 h2
        subst h1
        cases l with
        | nil => simp at h2
        | cons u l' => simp at h2; exact hw.2.1 s (by simp [h2])
      | succ k => exact ih hw.2.2 (by simpa using h1) (by simpa using h2)
  refine rightB_yes fun k hk => ?_
  obtain ⟨x, y, hxy⟩ := at_rg hk
  have hm := mem_at hxy
  have h1 := wf_le h _ hm
  have h2 := hb _ hm
  simp only at h1 h2
  have g1 : decide (y < x) = false := by simp; omega
  have g2 : withinB x = true := (withinB_iff _).2 (by omega)
  have g3 : withinB y = true := (withinB_iff _).2 (by omega)
  by_cases h0 : k = 0
  · exact ok_4 hxy g1 g2 g3 h0
  · obtain ⟨x', y', hxy'⟩ := at_rg (l := l) (k := k - 1) (by omega)
    have := gap h hxy' (by rw [show k - 1 + 1 = k by omega]; exact hxy)
    simp only at this
    rw [ok_5 (b := false) hxy g1 g2 g3 h0 hxy' (by simp; omega)]
    rfl
theorem right_iff {l : List Rg} : rightB l = true ↔ Wf l ∧ InBs l := ⟨right_wf, fun h => wf_right h.1 h.2⟩
theorem right_ext {l m : List Rg} (hl : rightB l = true) (hm : rightB m = true) (h : ∀ v, Mem l v ↔ Mem m v) : l = m := wf_ext (right_wf hl).1 (right_wf hm).1 h

/-! ### cuts -/
def Within (m l : List Rg) : Prop := ∀ s ∈ m, s.1 ≤ s.2 ∧ ∃ r ∈ l, r.1 ≤ s.1 ∧ s.2 ≤ r.2
theorem Within.nil (l : List Rg) : Within [] l := fun s h => by simp at h
theorem Within.more {m l : List Rg} {r : Rg} (h : Within m l) : Within m (r :: l) := fun s hs => by
  obtain ⟨h1, t, ht, h2⟩ := h s hs
  exact ⟨h1, t, by simp [ht], h2⟩
theorem Within.cons {m l : List Rg} {r s : Rg} (h : Within m l) (h0 : s.1 ≤ s.2) (h1 : r.1 ≤ s.1) (h2 : s.2 ≤ r.2) : Within (s :: m) (r :: l) := fun t ht => by
  simp only [List.mem_cons] at ht
  rcases ht with rfl | ht
  · exact ⟨h0, r, by simp, h1, h2⟩
  · exact h.more t ht
theorem Within.inB {m l : List Rg} (h : Within m l) (hb : InBs l) : InBs m := fun s hs => by
  obtain ⟨h1, r, hr, h2, h3⟩ := h s hs
  have := hb r hr
  omega
theorem wf_ahead {m l : List Rg} {r s : Rg} (hw : Wf (r :: l)) (hm : Wf m) (h : Within m l) (h0 : s.1 ≤ s.2) (h2 : s.2 ≤ r.2) : Wf (s :: m) := by
  refine ⟨h0, fun t ht => ?_, hm⟩
  obtain ⟨_, u, hu, h3, _⟩ := h t ht
  have := hw.2.1 u hu
  omega
theorem cut_facts (lo hi : Int) : ∀ {l : List Rg}, Wf l → Wf (cutGo lo hi l) ∧ Within (cutGo lo hi l) l ∧ ∀ v, Mem (cutGo lo hi l) v ↔ Mem l v ∧ lo ≤ v ∧ v ≤ hi
  | [], _ => ⟨trivial, Within.nil _, fun v => ⟨fun h => absurd h (mem_nil _), fun h => absurd h.1 (mem_nil _)⟩⟩
  | r :: l, hw => by
    obtain ⟨h1, h2, h3⟩ := cut_facts lo hi hw.2.2
    unfold cutGo
    by_cases c1 : hi < r.1
    · rw [if_pos c1]
      refine ⟨trivial, Within.nil _, fun v => ⟨fun h => absurd h (mem_nil _), fun h => ?_⟩⟩
      exfalso
      obtain ⟨hm, _, hv⟩ := h
      rw [mem_cons] at hm
      rcases hm with hm | ⟨u, hu, h4, _⟩
      · omega
      · have := hw.2.1 u hu; have := hw.1; omega
    · rw [if_neg c1]
      by_cases c2 : max r.1 lo ≤ min r.2 hi
      · rw [if_pos c2]
        refine ⟨wf_ahead hw h1 h2 c2 (by simp only; omega), h2.cons c2 (by simp only; omega) (by simp only; omega), fun v => ?_⟩
        rw [mem_cons, mem_cons, h3]
        simp only
        constructor
        · rintro (h | h)
          · exact ⟨.inl (by omega), by omega, by omega⟩
          · exact ⟨.inr h.1, h.2⟩
        · rintro ⟨h | h, h4, h5⟩
          · exact .inl (by omega)
          · exact .inr ⟨h, h4, h5⟩
      · rw [if_neg c2]
        refine ⟨h1, h2.more, fun v => ?_⟩
        rw [mem_cons, h3]
        constructor
        · rintro ⟨h, h4, h5⟩
          exact ⟨.inr h, h4, h5⟩
        · rintro ⟨h | h, h4, h5⟩
          · omega
          · exact ⟨h, h4, h5⟩
theorem rcut_facts (lo hi : Int) : ∀ {l : List Rg}, Wf l → Wf (rcutGo lo hi l) ∧ Within (rcutGo lo hi l) l ∧ ∀ v, Mem (rcutGo lo hi l) v ↔ Mem l v ∧ lo ≤ v ∧ v ≤ hi
  | [], _ => ⟨trivial, Within.nil _, fun v => ⟨fun h => absurd h (mem_nil _), fun h => absurd h.1 (mem_nil _)⟩⟩
  | r :: l, hw => by
    obtain ⟨h1, h2, h3⟩ := rcut_facts lo hi hw.2.2
    unfold rcutGo
    by_cases c2 : max lo r.1 ≤ min hi r.2
    · rw [if_pos c2]
      refine ⟨wf_ahead hw h1 h2 c2 (by simp only; omega), h2.cons c2 (by simp only; omega) (by simp only; omega), fun v => ?_⟩
      rw [mem_cons, mem_cons, h3]
      simp only
      constructor
      · rintro (h | h)
        · exact ⟨.inl (by omega), by omega, by omega⟩
        · exact ⟨.inr h.1, h.2⟩
      · rintro ⟨h | h, h4, h5⟩
        · exact .inl (by omega)
        · exact .inr ⟨h, h4, h5⟩
    · rw [if_neg c2]
      refine ⟨h1, h2.more, fun v => ?_⟩
      rw [mem_cons, h3]
      constructor
      · rintro ⟨h, h4, h5⟩
        exact ⟨.inr h, h4, h5⟩
      · rintro ⟨h | h, h4, h5⟩
        · omega
        · exact ⟨h, h4, h5⟩
theorem Within.drop {m l : List Rg} {n : Nat} (h : Within m (l.drop n)) : Within m l := fun s hs => by
  obtain ⟨h1, r, hr, h2⟩ := h s hs
  exact ⟨h1, r, List.mem_of_mem_drop hr, h2⟩
theorem wf_drop : ∀ {l : List Rg} (n : Nat), Wf l → Wf (l.drop n)
  | l, 0, h => h
  | [], n + 1, h => h
  | r :: l, n + 1, h => wf_drop n h.2.2
theorem mem_from (lo : Int) : ∀ {l : List Rg} {v : Int}, lo ≤ v → (Mem (l.drop (fromN lo l)) v ↔ Mem l v)
  | [], v, _ => Iff.rfl
  | r :: l, v, h => by
    unfold fromN
    split
    · rw [List.drop_succ_cons, mem_from lo h, mem_cons]
      constructor
      · exact .inr
      · rintro (h1 | h1)
        · omega
        · exact h1
    · rfl
theorem cutS_facts (lo hi : Int) {l : List Rg} (h : rightB l = true) : rightB (cutS lo hi l) = true ∧ ∀ v, Mem (cutS lo hi l) v ↔ Mem l v ∧ lo ≤ v ∧ v ≤ hi := by
  obtain ⟨hw, hb⟩ := right_wf h
  unfold cutS
  rw [if_pos h]
  obtain ⟨h1, h2, h3⟩ := cut_facts lo hi (wf_drop (fromN lo l) hw)
  refine ⟨wf_right h1 (h2.drop.inB hb), fun v => ?_⟩
  rw [h3]
  constructor
  · rintro ⟨h4, h5, h6⟩
    exact ⟨(mem_from lo h5).1 h4, h5, h6⟩
  · rintro ⟨h4, h5, h6⟩
    exact ⟨(mem_from lo h5).2 h4, h5, h6⟩
theorem rcutS_facts (lo hi : Int) {l : List Rg} (h : rightB l = true) : rightB (rcutS lo hi l) = true ∧ ∀ v, Mem (rcutS lo hi l) v ↔ Mem l v ∧ lo ≤ v ∧ v ≤ hi := by
  obtain ⟨hw, hb⟩ := right_wf h
  unfold rcutS
  rw [if_pos h]
  obtain ⟨h1, h2, h3⟩ := rcut_facts lo hi hw
  exact ⟨wf_right h1 (h2.inB hb), h3⟩
theorem cut_eq (lo hi : Int) (l : List Rg) : cutS lo hi l = rcutS lo hi l := by
  by_cases h : rightB l = true
  · obtain ⟨h1, h2⟩ := cutS_facts lo hi h
    obtain ⟨h3, h4⟩ := rcutS_facts lo hi h
    exact right_ext h1 h3 (fun v => (h2 v).trans (h4 v).symm)
  · unfold cutS rcutS
    rw [if_neg h, if_neg h]

/-! ### Has, Next -/
theorem mem_at_from {v : Int} : ∀ {l : List Rg}, Wf l → (Mem l v ↔ ∃ x y, l[fromN v l]? = some (x, y) ∧ x ≤ v)
  | [], _ => ⟨fun h => absurd h (mem_nil _), fun ⟨x, y, h, _⟩ => by simp at h⟩
  | r :: l, hw => by
    unfold fromN
    rw [mem_cons]
    by_cases h : r.2 < v
    · rw [if_pos h]
      simp only [List.getElem?_cons_succ]
      rw [← mem_at_from hw.2.2]
      constructor
      · rintro (h1 | h1)
        · omega
        · exact h1
      · exact .inr
    · rw [if_neg h]
      simp only [List.getElem?_cons_zero, Option.some.injEq]
      constructor
      · rintro (h1 | ⟨u, hu, h1, h2⟩)
        · exact ⟨r.1, r.2, rfl, h1.1⟩
        · exact ⟨r.1, r.2, rfl, by have := hw.2.1 u hu; have := hw.1; omega⟩
      · rintro ⟨x, y, rfl, h1⟩
        exact .inl ⟨h1, by simp only at h ⊢; omega⟩
theorem has_iff {l : List Rg} {v : Int} : hasB l v = true ↔ rightB l = true ∧ Mem l v := by
  by_cases hr : rightB l = true
  · unfold hasB nextB nextV
    rw [if_pos hr, hr, mem_at_from (right_wf hr).1]
    cases hg : l[fromN v l]? with
    | none =>
      have : l.length ≤ fromN v l := List.getElem?_eq_none_iff.1 hg
      simp; omega
    | some r =>
      have : fromN v l < l.length := (List.getElem?_eq_some_iff.1 hg).1
      simp only [Bool.true_and, Bool.and_eq_true, decide_eq_true_eq, beq_iff_eq, true_and, Option.some.injEq]
      constructor
      · rintro ⟨_, h⟩
        exact ⟨r.1, r.2, rfl, by omega⟩
      · rintro ⟨x, y, rfl, h⟩
        exact ⟨this, by simp only; omega⟩
  · unfold hasB nextB
    simp [hr]
theorem rhas_iff {l : List Rg} {v : Int} : rhasB l v = true ↔ rightB l = true ∧ Mem l v := by
  unfold rhasB Mem
  simp [and_comm]
theorem has_eq (l : List Rg) (v : Int) : hasB l v = rhasB l v := by
  rw [Bool.eq_iff_iff, has_iff, rhas_iff]

/-! ### Without -/
theorem withoutS_facts (v : Int) {l : List Rg} (h : rightB l = true) : rightB (withoutS v l) = true ∧ ∀ u, Mem (withoutS v l) u ↔ Mem l u ∧ u ≠ v := by
  unfold withoutS
  split
  · rename_i hh
    have hm := (has_iff.1 hh).2
    obtain ⟨hw, hb⟩ := right_wf h
    obtain ⟨h1, h2⟩ := cutS_facts (-1048576) (v - 1) h
    obtain ⟨h3, h4⟩ := cutS_facts (v + 1) 1048576 h
    have bnd : ∀ u, Mem l u → -1048576 ≤ u ∧ u ≤ 1048576 := by
      rintro u ⟨r, hr, h5, h6⟩
      have := hb r hr
      omega
    refine ⟨wf_right (wf_append (right_wf h1).1 (right_wf h3).1 (fun r hr s hs => ?_)) (fun r hr => ?_), fun u => ?_⟩
    · have a := (h2 r.2).1 ⟨r, hr, wf_le (right_wf h1).1 r hr, by omega⟩
      have b := (h4 s.1).1 ⟨s, hs, by omega, wf_le (right_wf h3).1 s hs⟩
      omega
    · rw [List.mem_append] at hr
      rcases hr with hr | hr
      · exact (right_wf h1).2 r hr
      · exact (right_wf h3).2 r hr
    · rw [mem_append, h2, h4]
      constructor
      · rintro (⟨h5, h6⟩ | ⟨h5, h6⟩)
        · exact ⟨h5, by omega⟩
        · exact ⟨h5, by omega⟩
      · rintro ⟨h5, h6⟩
        have := bnd u h5
        rcases Int.lt_or_gt_of_ne h6 with h7 | h7
        · exact .inl ⟨h5, by omega, by omega⟩
        · exact .inr ⟨h5, by omega, by omega⟩
  · rename_i hh
    refine ⟨h, fun u => ⟨fun hu => ⟨hu, ?_⟩, fun hu => hu.1⟩⟩
    rintro rfl
    exact hh (has_iff.2 ⟨h, hu⟩)
theorem Within.append {m n l : List Rg} (h1 : Within m l) (h2 : Within n l) : Within (m ++ n) l := fun s hs => by
  rw [List.mem_append] at hs
  rcases hs with hs | hs
  · exact h1 s hs
  · exact h2 s hs
theorem rwithout_facts (v : Int) : ∀ {l : List Rg}, Wf l → Wf (rwithoutGo v l) ∧ Within (rwithoutGo v l) l ∧ ∀ u, Mem (rwithoutGo v l) u ↔ Mem l u ∧ u ≠ v
  | [], _ => ⟨trivial, Within.nil _, fun u => ⟨fun h => absurd h (mem_nil _), fun h => absurd h.1 (mem_nil _)⟩⟩
  | r :: l, hw => by
    obtain ⟨h1, h2, h3⟩ := rwithout_facts v hw.2.2
    have hle := hw.1
    have one : ∀ (p q : Int), p ≤ q → r.1 ≤ p → q ≤ r.2 → Within [(p, q)] (r :: l) := fun p q h4 h5 h6 s hs => by
      simp at hs
      subst hs
      exact ⟨h4, r, by simp, h5, h6⟩
    have ahead : ∀ s ∈ rwithoutGo v l, r.2 + 2 ≤ s.1 := fun s hs => by
      obtain ⟨_, u, hu, h4, _⟩ := h2 s hs
      have := hw.2.1 u hu
      omega
    obtain ⟨F, hF⟩ : ∃ F, F = (if v < r.1 ∨ r.2 < v then [r] else (if r.1 < v then [(r.1, v - 1)] else []) ++ (if v < r.2 then [(v + 1, r.2)] else [])) := ⟨_, rfl⟩
    have key : Wf F ∧ Within F (r :: l) ∧ (∀ s ∈ F, s.2 ≤ r.2) ∧ ∀ u, Mem F u ↔ (r.1 ≤ u ∧ u ≤ r.2) ∧ u ≠ v := by
      rw [hF]
      by_cases c : v < r.1 ∨ r.2 < v
      · rw [if_pos c]
        refine ⟨⟨hle, by simp, trivial⟩, one r.1 r.2 hle (by omega) (by omega), by simp, fun u => ?_⟩
        rw [mem_cons]
        constructor
        · rintro (h | h)
          · exact ⟨h, by omega⟩
          · exact absurd h (mem_nil _)
        · exact fun h => .inl h.1
      · rw [if_neg c]
        by_cases c1 : r.1 < v <;> by_cases c2 : v < r.2
        · rw [if_pos c1, if_pos c2]
          refine ⟨⟨by simp only; omega, by simp; omega, by simp only; omega, by simp, trivial⟩, (one r.1 (v - 1) (by omega) (by omega) (by omega)).append (one (v + 1) r.2 (by omega) (by omega) (by omega)), by simp; omega, fun u => ?_⟩
          simp only [List.singleton_append, mem_cons]
          constructor
          · rintro (h | h | h)
            · omega
            · omega
            · exact absurd h (mem_nil _)
          · rintro ⟨h, h4⟩
            rcases Int.lt_or_gt_of_ne h4 with h5 | h5
            · exact .inl (by omega)
            · exact .inr (.inl (by omega))
        · rw [if_pos c1, if_neg c2]
          refine ⟨⟨by simp only; omega, by simp, trivial⟩, one r.1 (v - 1) (by omega) (by omega) (by omega), by simp; omega, fun u => ?_⟩
          simp only [List.append_nil, mem_cons]
          constructor
          · rintro (h | h)
            · omega
            · exact absurd h (mem_nil _)
          · exact fun h => .inl (by omega)
        · rw [if_neg c1, if_pos c2]
          refine ⟨⟨by simp only; omega, by simp, trivial⟩, one (v + 1) r.2 (by omega) (by omega) (by omega), by simp, fun u => ?_⟩
          simp only [List.nil_append, mem_cons]
          constructor
          · rintro (h | h)
            · omega
            · exact absurd h (mem_nil _)
          · exact fun h => .inl (by omega)
        · rw [if_neg c1, if_neg c2]
          refine ⟨trivial, Within.nil _, by simp, fun u => ⟨fun h => absurd h (mem_nil _), fun h => by omega⟩⟩
    obtain ⟨k1, k2, k3, k4⟩ := key
    unfold rwithoutGo
    rw [← hF]
    refine ⟨wf_append k1 h1 (fun s hs t ht => by have := k3 s hs; have := ahead t ht; omega), k2.append h2.more, fun u => ?_⟩
    rw [mem_append, k4, h3, mem_cons]
    constructor
    · rintro (⟨h, h4⟩ | ⟨h, h4⟩)
      · exact ⟨.inl h, h4⟩
      · exact ⟨.inr h, h4⟩
    · rintro ⟨h | h, h4⟩
      · exact .inl ⟨h, h4⟩
      · exact .inr ⟨h, h4⟩
theorem without_eq (v : Int) (l : List Rg) : withoutS v l = rwithoutS v l := by
  by_cases h : rightB l = true
  · obtain ⟨h1, h2⟩ := withoutS_facts v h
    obtain ⟨hw, hb⟩ := right_wf h
    obtain ⟨h3, h4, h5⟩ := rwithout_facts v hw
    unfold rwithoutS
    rw [if_pos h]
    exact right_ext h1 (wf_right h3 (h4.inB hb)) (fun u => (h2 u).trans (h5 u).symm)
  · have hn : ¬ hasB l v = true := fun hh => h (has_iff.1 hh).1
    unfold withoutS rwithoutS
    rw [if_neg hn, if_neg h, if_neg h]

/-! ### Meet -/
theorem meet_facts : ∀ (f : Nat) {a b : List Rg}, a.length + b.length ≤ f → Wf a → Wf b → Wf (meetGo f a b) ∧ Within (meetGo f a b) a ∧ Within (meetGo f a b) b ∧ ∀ v, Mem (meetGo f a b) v ↔ Mem a v ∧ Mem b v
  | 0, a, b, hf, _, _ => by
    have ha : a = [] := List.eq_nil_of_length_eq_zero (by omega)
    subst ha
    exact ⟨trivial, Within.nil _, Within.nil _, fun v => ⟨fun h => absurd h (mem_nil _), fun h => absurd h.1 (mem_nil _)⟩⟩
  | f + 1, [], b, _, _, _ => ⟨trivial, Within.nil _, Within.nil _, fun v => ⟨fun h => absurd h (mem_nil _), fun h => absurd h.1 (mem_nil _)⟩⟩
  | f + 1, x :: a, [], _, _, _ => ⟨trivial, Within.nil _, Within.nil _, fun v => ⟨fun h => absurd h (mem_nil _), fun h => absurd h.2 (mem_nil _)⟩⟩
  | f + 1, x :: a, y :: b, hf, ha, hb => by
    unfold meetGo
    simp only [List.length_cons] at hf
    obtain ⟨r, hr⟩ : ∃ r : Rg, r = (max x.1 y.1, min x.2 y.2) := ⟨_, rfl⟩
    rw [← hr]
    have e1 : r.1 = max x.1 y.1 := by rw [hr]
    have e2 : r.2 = min x.2 y.2 := by rw [hr]
    rw [show max x.1 y.1 = r.1 from e1.symm, show min x.2 y.2 = r.2 from e2.symm]
    have hx := ha.1
    have hy := hb.1
    have step : ∀ G : List Rg, Wf G → Within G (x :: a) → Within G (y :: b) → (∀ s ∈ G, min x.2 y.2 + 2 ≤ s.1) → (∀ v, Mem G v ↔ (Mem (x :: a) v ∧ Mem (y :: b) v) ∧ min x.2 y.2 < v) →
        Wf ((if r.1 ≤ r.2 then [r] else []) ++ G) ∧ Within ((if r.1 ≤ r.2 then [r] else []) ++ G) (x :: a) ∧ Within ((if r.1 ≤ r.2 then [r] else []) ++ G) (y :: b) ∧ ∀ v, Mem ((if r.1 ≤ r.2 then [r] else []) ++ G) v ↔ Mem (x :: a) v ∧ Mem (y :: b) v := by
      intro G g1 g2 g3 g4 g5
      have low : ∀ {t : Rg} {k : List Rg} {v : Int}, Wf (t :: k) → Mem (t :: k) v → t.1 ≤ v ∧ (v ≤ t.2 ∨ t.2 + 2 ≤ v) := by
        intro t k v ht hv
        rw [mem_cons] at hv
        rcases hv with hv | ⟨u, hu, h1, h2⟩
        · omega
        · have := ht.2.1 u hu; have := ht.1; omega
      by_cases c : r.1 ≤ r.2
      · rw [if_pos c]
        refine ⟨⟨c, fun s hs => by rw [e2]; exact g4 s hs, g1⟩, fun s hs => ?_, fun s hs => ?_, fun v => ?_⟩
        · simp only [List.singleton_append, List.mem_cons] at hs
          rcases hs with rfl | hs
          · exact ⟨c, x, by simp, by omega, by omega⟩
          · exact g2 s hs
        · simp only [List.singleton_append, List.mem_cons] at hs
          rcases hs with rfl | hs
          · exact ⟨c, y, by simp, by omega, by omega⟩
          · exact g3 s hs
        · simp only [List.singleton_append]
          rw [mem_cons, g5]
          constructor
          · rintro (h | h)
            · exact ⟨(mem_cons _ _ _).2 (.inl (by omega)), (mem_cons _ _ _).2 (.inl (by omega))⟩
            · exact h.1
          · intro h
            by_cases hv : min x.2 y.2 < v
            · exact .inr ⟨h, hv⟩
            · have := low ha h.1
              have := low hb h.2
              exact .inl (by omega)
      · rw [if_neg c]
        refine ⟨g1, g2, g3, fun v => ?_⟩
        simp only [List.nil_append]
        rw [g5]
        constructor
        · exact fun h => h.1
        · intro h
          have := low ha h.1
          have := low hb h.2
          exact ⟨h, by omega⟩
    by_cases c : x.2 < y.2
    · rw [if_pos c]
      obtain ⟨g1, g2, g3, g4⟩ := meet_facts f (a := a) (b := y :: b) (by simp; omega) ha.2.2 hb
      refine step _ g1 g2.more g3 (fun s hs => ?_) (fun v => ?_)
      · obtain ⟨_, u, hu, h1, _⟩ := g2 s hs
        have := ha.2.1 u hu
        omega
      · rw [g4, mem_cons x a v]
        constructor
        · rintro ⟨⟨u, hu, h1, h2⟩, h3⟩
          have := ha.2.1 u hu
          exact ⟨⟨.inr ⟨u, hu, h1, h2⟩, h3⟩, by omega⟩
        · rintro ⟨⟨h1 | h1, h2⟩, h3⟩
          · omega
          · exact ⟨h1, h2⟩
    · rw [if_neg c]
      obtain ⟨g1, g2, g3, g4⟩ := meet_facts f (a := x :: a) (b := b) (by simp; omega) ha hb.2.2
      refine step _ g1 g2 g3.more (fun s hs => ?_) (fun v => ?_)
      · obtain ⟨_, u, hu, h1, _⟩ := g3 s hs
        have := hb.2.1 u hu
        omega
      · rw [g4, mem_cons y b v]
        constructor
        · rintro ⟨h3, ⟨u, hu, h1, h2⟩⟩
          have := hb.2.1 u hu
          exact ⟨⟨h3, .inr ⟨u, hu, h1, h2⟩⟩, by omega⟩
        · rintro ⟨⟨h2, h1 | h1⟩, h3⟩
          · omega
          · exact ⟨h2, h1⟩
theorem meetS_facts {a b : List Rg} (ha : rightB a = true) (hb : rightB b = true) : rightB (meetS a b) = true ∧ ∀ v, Mem (meetS a b) v ↔ Mem a v ∧ Mem b v := by
  obtain ⟨wa, ba⟩ := right_wf ha
  obtain ⟨wb, bb⟩ := right_wf hb
  obtain ⟨h1, h2, _, h3⟩ := meet_facts _ (Nat.le_refl _) wa wb
  unfold meetS
  rw [ha, hb]
  exact ⟨wf_right h1 (h2.inB ba), h3⟩
theorem rmeet_facts {a : List Rg} (ha : rightB a = true) : ∀ {b : List Rg}, Wf b → Wf (rmeetGo a b) ∧ Within (rmeetGo a b) b ∧ InBs (rmeetGo a b) ∧ ∀ v, Mem (rmeetGo a b) v ↔ Mem a v ∧ Mem b v
  | [], _ => ⟨trivial, Within.nil _, fun r h => by simp [rmeetGo] at h, fun v => ⟨fun h => absurd h (mem_nil _), fun h => absurd h.2 (mem_nil _)⟩⟩
  | r :: b, hb => by
    obtain ⟨h1, h2, h3, h4⟩ := rmeet_facts ha hb.2.2
    obtain ⟨k1, k2⟩ := rcutS_facts r.1 r.2 ha
    obtain ⟨kw, kb⟩ := right_wf k1
    unfold rmeetGo
    have inr : ∀ s ∈ rcutS r.1 r.2 a, s.1 ≤ s.2 ∧ r.1 ≤ s.1 ∧ s.2 ≤ r.2 := fun s hs => by
      have hle := wf_le kw s hs
      have a1 := (k2 s.1).1 ⟨s, hs, by omega, hle⟩
      have a2 := (k2 s.2).1 ⟨s, hs, hle, by omega⟩
      omega
    refine ⟨wf_append kw h1 (fun s hs t ht => ?_), fun s hs => ?_, fun s hs => ?_, fun v => ?_⟩
    · have := inr s hs
      obtain ⟨_, u, hu, h5, _⟩ := h2 t ht
      have := hb.2.1 u hu
      omega
    · rw [List.mem_append] at hs
      rcases hs with hs | hs
      · have := inr s hs
        exact ⟨this.1, r, by simp, this.2⟩
      · exact h2.more s hs
    · rw [List.mem_append] at hs
      rcases hs with hs | hs
      · exact kb s hs
      · exact h3 s hs
    · rw [mem_append, k2, h4, mem_cons]
      constructor
      · rintro (⟨h5, h6⟩ | ⟨h5, h6⟩)
        · exact ⟨h5, .inl h6⟩
        · exact ⟨h5, .inr h6⟩
      · rintro ⟨h5, h6 | h6⟩
        · exact .inl ⟨h5, h6⟩
        · exact .inr ⟨h5, h6⟩
theorem meet_eq (a b : List Rg) : meetS a b = rmeetS a b := by
  by_cases ha : rightB a = true
  · by_cases hb : rightB b = true
    · obtain ⟨h1, h2⟩ := meetS_facts ha hb
      obtain ⟨h3, _, h4, h5⟩ := rmeet_facts ha (right_wf hb).1
      unfold rmeetS
      rw [ha, hb]
      exact right_ext h1 (wf_right h3 h4) (fun v => (h2 v).trans (h5 v).symm)
    · unfold meetS rmeetS; simp [hb]
  · unfold meetS rmeetS; simp [ha]
theorem same_eq (a b : List Rg) : (rightB a && decide (a = b)) = rsameB a b := by
  unfold rsameB
  by_cases h : a = b
  · subst h; simp
  · simp [h]
theorem listall_no {α : Type} {l : List α} {p : α → Bool} {k : Nat} {x : α} (hx : l[k]? = some x) (h : p x = false) : l.all p = false := by
  rw [List.all_eq_false]
  exact ⟨x, List.mem_of_getElem? hx, by simp [h]⟩
theorem listall_yes {α : Type} {l : List α} {p : α → Bool} (h : ∀ (j : Nat) x, j < l.length → l[j]? = some x → p x = true) : l.all p = true := by
  rw [List.all_eq_true]
  intro x hx
  obtain ⟨j, hj, rfl⟩ := List.getElem_of_mem hx
  exact h j _ hj (List.getElem?_eq_getElem hj)
def eqAt {α : Type} [DecidableEq α] (a b : List α) (k : Nat) : Bool := decide (a[k]? = b[k]?)
theorem eq_yes {α : Type} [DecidableEq α] {a b : List α} (hl : a.length = b.length) (h : ∀ j, j < a.length → eqAt a b j = true) : decide (a = b) = true := by
  rw [decide_eq_true_eq]
  apply List.ext_getElem?
  intro i
  by_cases hi : i < a.length
  · have := h i hi
    simpa [eqAt] using this
  · rw [List.getElem?_eq_none (by omega), List.getElem?_eq_none (by omega)]
theorem eq_no {α : Type} [DecidableEq α] {a b : List α} {k : Nat} (h : eqAt a b k = false) : decide (a = b) = false := by
  rw [decide_eq_false_iff_not]
  rintro rfl
  simp [eqAt] at h
end Go.Proofs.Ytbmcjhjbifojnaa
