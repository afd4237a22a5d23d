/- Plain laws of products, lesser and greater ones, sizes, likeness. -/
import Derived.Test.YtfcphijidcfboaaPlMod
namespace Go.Proofs.Ytfcphijidcfboaa
open Av
attribute [local irreducible] awp awpOpers
set_option linter.unusedSimpArgs false
set_option linter.unusedVariables false
set_option linter.unusedSectionVars false
/-- domains, and whether it failed -/
abbrev Sd := List (List Rg) × Bool
/-- quotients rounded down, and up -/
def flr (a b : Int) : Int := if ¬ a.tmod b = 0 ∧ ¬ decide (a < 0) = decide (b < 0) then a.tdiv b - 1 else a.tdiv b
def cel (a b : Int) : Int := if ¬ a.tmod b = 0 ∧ decide (a < 0) = decide (b < 0) then a.tdiv b + 1 else a.tdiv b
def muls (a b : Int) : Int := a * b
def putA (s : Sd) (x : Int) (l : List Rg) : Sd := if l.length = 0 then (s.1, true) else (s.1.set x.toNat l, s.2)
def cutA (s : Sd) (x lo hi : Int) : Sd := if s.2 = true then s else putA s x (cutS lo hi (rowOf s.1 x))
def corn (f : Int → Int → Int) (p q : Rg) : Rg :=
  (min (min (min (f p.1 q.1) (f p.1 q.2)) (f p.2 q.1)) (f p.2 q.2), max (max (max (f p.1 q.1) (f p.1 q.2)) (f p.2 q.1)) (f p.2 q.2))
def divA (s : Sd) (x y z : Int) : Sd :=
  if s.2 = true then s else if (eAt s.1 y).1 ≤ 0 ∧ 0 ≤ (eAt s.1 y).2 then s else cutA s x (corn cel (eAt s.1 z) (eAt s.1 y)).1 (corn flr (eAt s.1 z) (eAt s.1 y)).2
def loseA (s : Sd) (x y z : Int) : Sd :=
  if s.2 = false ∧ hasB (rowOf s.1 z) 0 = false then
    (if (putA s x (withoutS 0 (rowOf s.1 x))).2 = true then putA s x (withoutS 0 (rowOf s.1 x)) else putA (putA s x (withoutS 0 (rowOf s.1 x))) y (withoutS 0 (rowOf (putA s x (withoutS 0 (rowOf s.1 x))).1 y)))
  else s
def timesA (D : List (List Rg)) (x y z : Int) : Sd :=
  divA (divA (loseA (cutA (D, false) z (corn muls (eAt D x) (eAt D y)).1 (corn muls (eAt D x) (eAt D y)).2) x y z) x y z) y x z
def capA (s : Sd) (x y z : Int) : Sd := if (eAt s.1 z).2 < (eAt s.1 x).1 then cutA s y (-1048576) (eAt s.1 z).2 else s
def lesser3 (D : List (List Rg)) (x y z : Int) : Sd :=
  cutA (cutA (cutA (D, false) z (min (eAt D x).1 (eAt D y).1) (min (eAt D x).2 (eAt D y).2)) x (eAt (cutA (D, false) z (min (eAt D x).1 (eAt D y).1) (min (eAt D x).2 (eAt D y).2)).1 z).1 1048576)
    y (eAt (cutA (cutA (D, false) z (min (eAt D x).1 (eAt D y).1) (min (eAt D x).2 (eAt D y).2)) x (eAt (cutA (D, false) z (min (eAt D x).1 (eAt D y).1) (min (eAt D x).2 (eAt D y).2)).1 z).1 1048576).1 z).1 1048576
def lesserA (D : List (List Rg)) (x y z : Int) : Sd := capA (capA (lesser3 D x y z) x y z) y x z
def cupA (s : Sd) (x y z : Int) : Sd := if (eAt s.1 x).2 < (eAt s.1 z).1 then cutA s y (eAt s.1 z).1 1048576 else s
def greater3 (D : List (List Rg)) (x y z : Int) : Sd :=
  cutA (cutA (cutA (D, false) z (max (eAt D x).1 (eAt D y).1) (max (eAt D x).2 (eAt D y).2)) x (-1048576) (eAt (cutA (D, false) z (max (eAt D x).1 (eAt D y).1) (max (eAt D x).2 (eAt D y).2)).1 z).2)
    y (-1048576) (eAt (cutA (cutA (D, false) z (max (eAt D x).1 (eAt D y).1) (max (eAt D x).2 (eAt D y).2)) x (-1048576) (eAt (cutA (D, false) z (max (eAt D x).1 (eAt D y).1) (max (eAt D x).2 (eAt D y).2)).1 z).2).1 z).2
def greaterA (D : List (List Rg)) (x y z : Int) : Sd := cupA (cupA (greater3 D x y z) x y z) y x z
def sizeCut (y : Int) (l : List Rg) : List Rg := cutS (-1048576) (-y) l ++ cutS y 1048576 l
def size1 (D : List (List Rg)) (x y : Int) : Sd := cutA (D, false) y (max (max (eAt D x).1 (-(eAt D x).2)) 0) (max (eAt D x).2 (-(eAt D x).1))
def size2 (s : Sd) (x y : Int) : Sd := cutA s x (-(eAt s.1 y).2) (eAt s.1 y).2
def size3 (s : Sd) (x y : Int) : Sd := if s.2 = true ∨ (eAt s.1 y).1 ≤ 0 then s else putA s x (sizeCut (eAt s.1 y).1 (rowOf s.1 x))
def sizeA (D : List (List Rg)) (x y : Int) : Sd := size3 (size2 (size1 D x y) x y) x y
def sameA (D : List (List Rg)) (x y : Int) : Sd :=
  putA (putA (D, false) x (meetS (rowOf D x) (rowOf D y))) y (rowOf (putA (D, false) x (meetS (rowOf D x) (rowOf D y))).1 x)
def arithS (K : Int) (D : List (List Rg)) (X : List Int) : Sd :=
  if K = 7 then timesA D (xat X 0) (xat X 1) (xat X 2) else if K = 8 then lesserA D (xat X 0) (xat X 1) (xat X 2) else if K = 9 then greaterA D (xat X 0) (xat X 1) (xat X 2)
  else if K = 10 then sizeA D (xat X 0) (xat X 1) else sameA D (xat X 0) (xat X 1)
def aKind (K : Int) : Prop := K = 7 ∨ K = 8 ∨ K = 9 ∨ K = 10 ∨ K = 15
def tellA (s : Sd) : List (List Rg) × Int := tell (s.1, !s.2)
def arithL (c : Con) (D : List (List Rg)) : List (List Rg) × Int :=
  if modB (D, [c], 0, 0) = true then (if c.1 = 7 ∨ c.1 = 8 ∨ c.1 = 9 ∨ c.1 = 10 ∨ c.1 = 15 then tellA (arithS c.1 D c.2.1) else ([], 10)) else ([], 2)
/-! quotients and products between ends -/
theorem mul_mono_l {p q b : Int} (h : p ≤ q) (hb : 0 ≤ b) : p * b ≤ q * b := Int.mul_le_mul_of_nonneg_right h hb
theorem mul_mono_n {p q b : Int} (h : p ≤ q) (hb : b ≤ 0) : q * b ≤ p * b := Int.mul_le_mul_of_nonpos_right h hb
theorem tdm (a b : Int) : a = a.tdiv b * b + a.tmod b := by have := Int.mul_tdiv_add_tmod a b; rw [Int.mul_comm] at this; omega
theorem tm_pos {a b : Int} (hb : 0 < b) : (0 ≤ a → 0 ≤ a.tmod b) ∧ (a ≤ 0 → a.tmod b ≤ 0) ∧ -b < a.tmod b ∧ a.tmod b < b := by
  refine ⟨fun h => Int.tmod_nonneg b h, fun h => ?_, ?_, Int.tmod_lt_of_pos a hb⟩
  · have := Int.tmod_nonneg b (a := -a) (by omega)
    rw [Int.neg_tmod] at this; omega
  · have := Int.tmod_lt_of_pos (-a) hb
    rw [Int.neg_tmod] at this; omega
theorem tm_neg {a b : Int} (hb : b < 0) : (0 ≤ a → 0 ≤ a.tmod b) ∧ (a ≤ 0 → a.tmod b ≤ 0) ∧ b < a.tmod b ∧ a.tmod b < -b := by
  have := tm_pos (a := a) (b := -b) (by omega)
  rw [Int.tmod_neg] at this
  omega
theorem quo_cmp {a b t r q : Int} (e : a = t * b + r) (hb : 0 < b) (h1 : -b < r) (h2 : r < b) : (q < t → q * b + b ≤ t * b) ∧ (t < q → t * b + b ≤ q * b) := by
  constructor
  · intro h
    have := mul_mono_l (p := q + 1) (q := t) (b := b) (by omega) (by omega)
    rw [Int.add_mul] at this; omega
  · intro h
    have := mul_mono_l (p := t + 1) (q := q) (b := b) (by omega) (by omega)
    rw [Int.add_mul] at this; omega
theorem quo_cmpn {a b t r q : Int} (hb : b < 0) : (q < t → t * b ≤ q * b + b) ∧ (t < q → q * b ≤ t * b + b) := by
  constructor
  · intro h
    have := mul_mono_n (p := q + 1) (q := t) (b := b) (by omega) (by omega)
    rw [Int.add_mul] at this; omega
  · intro h
    have := mul_mono_n (p := t + 1) (q := q) (b := b) (by omega) (by omega)
    rw [Int.add_mul] at this; omega
theorem cel_spec {a b q : Int} : (0 < b → (q < cel a b ↔ q * b < a)) ∧ (b < 0 → (q < cel a b ↔ a < q * b)) := by
  have e := tdm a b
  refine ⟨fun hb => ?_, fun hb => ?_⟩
  · obtain ⟨t1, t2, t3, t4⟩ := tm_pos (a := a) hb
    obtain ⟨c1, c2⟩ := quo_cmp (q := q) e hb t3 t4
    have hb' : decide (b < 0) = false := by simp; omega
    unfold cel
    rw [hb']
    generalize a.tdiv b = t at e c1 c2 ⊢
    generalize a.tmod b = r at e t1 t2 t3 t4 ⊢
    by_cases hq : q = t
    · subst hq
      split
      · rename_i h; simp at h; constructor <;> intro <;> omega
      · rename_i h; simp at h; constructor <;> intro <;> omega
    · split
      · rename_i h; simp at h; constructor <;> intro <;> omega
      · rename_i h; simp at h; constructor <;> intro <;> omega
  · obtain ⟨t1, t2, t3, t4⟩ := tm_neg (a := a) hb
    obtain ⟨c1, c2⟩ := quo_cmpn (a := a) (b := b) (t := a.tdiv b) (r := 0) (q := q) hb
    have hb' : decide (b < 0) = true := by simp; omega
    unfold cel
    rw [hb']
    generalize a.tdiv b = t at e c1 c2 ⊢
    generalize a.tmod b = r at e t1 t2 t3 t4 ⊢
    by_cases hq : q = t
    · subst hq
      split
      · rename_i h; simp at h; constructor <;> intro <;> omega
      · rename_i h; simp at h; constructor <;> intro <;> omega
    · split
      · rename_i h; simp at h; constructor <;> intro <;> omega
      · rename_i h; simp at h; constructor <;> intro <;> omega
theorem flr_spec {a b q : Int} : (0 < b → (flr a b < q ↔ a < q * b)) ∧ (b < 0 → (flr a b < q ↔ q * b < a)) := by
  have e := tdm a b
  refine ⟨fun hb => ?_, fun hb => ?_⟩
  · obtain ⟨t1, t2, t3, t4⟩ := tm_pos (a := a) hb
    obtain ⟨c1, c2⟩ := quo_cmp (q := q) e hb t3 t4
    have hb' : decide (b < 0) = false := by simp; omega
    unfold flr
    rw [hb']
    generalize a.tdiv b = t at e c1 c2 ⊢
    generalize a.tmod b = r at e t1 t2 t3 t4 ⊢
    by_cases hq : q = t
    · subst hq
      split
      · rename_i h; simp at h; constructor <;> intro <;> omega
      · rename_i h; simp at h; constructor <;> intro <;> omega
    · split
      · rename_i h; simp at h; constructor <;> intro <;> omega
      · rename_i h; simp at h; constructor <;> intro <;> omega
  · obtain ⟨t1, t2, t3, t4⟩ := tm_neg (a := a) hb
    obtain ⟨c1, c2⟩ := quo_cmpn (a := a) (b := b) (t := a.tdiv b) (r := 0) (q := q) hb
    have hb' : decide (b < 0) = true := by simp; omega
    unfold flr
    rw [hb']
    generalize a.tdiv b = t at e c1 c2 ⊢
    generalize a.tmod b = r at e t1 t2 t3 t4 ⊢
    by_cases hq : q = t
    · subst hq
      split
      · rename_i h; simp at h; constructor <;> intro <;> omega
      · rename_i h; simp at h; constructor <;> intro <;> omega
    · split
      · rename_i h; simp at h; constructor <;> intro <;> omega
      · rename_i h; simp at h; constructor <;> intro <;> omega
theorem mul_between {m b b1 b2 : Int} (h1 : b1 ≤ b) (h2 : b ≤ b2) : min (m * b1) (m * b2) ≤ m * b ∧ m * b ≤ max (m * b1) (m * b2) := by
  rcases Int.le_total 0 m with h | h
  · have e1 := Int.mul_le_mul_of_nonneg_left h1 h
    have e2 := Int.mul_le_mul_of_nonneg_left h2 h
    omega
  · have e1 := Int.mul_le_mul_of_nonpos_left h h1
    have e2 := Int.mul_le_mul_of_nonpos_left h h2
    omega
theorem corn_mul {p q : Rg} {a b : Int} (ha : p.1 ≤ a ∧ a ≤ p.2) (hb : q.1 ≤ b ∧ b ≤ q.2) : (corn muls p q).1 ≤ a * b ∧ a * b ≤ (corn muls p q).2 := by
  have h1 := mul_between (m := a) hb.1 hb.2
  have h2 := mul_between (m := q.1) ha.1 ha.2
  have h3 := mul_between (m := q.2) ha.1 ha.2
  rw [Int.mul_comm q.1 a, Int.mul_comm q.1 p.1, Int.mul_comm q.1 p.2] at h2
  rw [Int.mul_comm q.2 a, Int.mul_comm q.2 p.1, Int.mul_comm q.2 p.2] at h3
  unfold corn muls
  simp only
  omega
theorem corn_cel {p q : Rg} {a b : Int} (h0 : 0 < q.1 ∨ q.2 < 0) (ha : p.1 ≤ a ∧ a ≤ p.2) (hb : q.1 ≤ b ∧ b ≤ q.2) : (corn cel p q).1 ≤ cel a b := by
  suffices h : (corn cel p q).1 - 1 < cel a b by omega
  have k1 : (corn cel p q).1 - 1 < cel p.1 q.1 ∧ (corn cel p q).1 - 1 < cel p.1 q.2 ∧ (corn cel p q).1 - 1 < cel p.2 q.1 ∧ (corn cel p q).1 - 1 < cel p.2 q.2 := by unfold corn; simp only; omega
  obtain ⟨c1, c2, c3, c4⟩ := k1
  generalize (corn cel p q).1 - 1 = m at c1 c2 c3 c4 ⊢
  have hm := mul_between (m := m) hb.1 hb.2
  rcases h0 with h0 | h0
  · rw [cel_spec.1 h0] at c1 c3
    rw [cel_spec.1 (by omega)] at c2 c4
    rw [cel_spec.1 (by omega)]
    omega
  · rw [cel_spec.2 h0] at c2 c4
    rw [cel_spec.2 (by omega)] at c1 c3
    rw [cel_spec.2 (by omega)]
    omega
theorem corn_flr {p q : Rg} {a b : Int} (h0 : 0 < q.1 ∨ q.2 < 0) (ha : p.1 ≤ a ∧ a ≤ p.2) (hb : q.1 ≤ b ∧ b ≤ q.2) : flr a b ≤ (corn flr p q).2 := by
  suffices h : flr a b < (corn flr p q).2 + 1 by omega
  have k1 : flr p.1 q.1 < (corn flr p q).2 + 1 ∧ flr p.1 q.2 < (corn flr p q).2 + 1 ∧ flr p.2 q.1 < (corn flr p q).2 + 1 ∧ flr p.2 q.2 < (corn flr p q).2 + 1 := by unfold corn; simp only; omega
  obtain ⟨c1, c2, c3, c4⟩ := k1
  generalize (corn flr p q).2 + 1 = m at c1 c2 c3 c4 ⊢
  have hm := mul_between (m := m) hb.1 hb.2
  rcases h0 with h0 | h0
  · rw [flr_spec.1 h0] at c1 c3
    rw [flr_spec.1 (by omega)] at c2 c4
    rw [flr_spec.1 (by omega)]
    omega
  · rw [flr_spec.2 h0] at c2 c4
    rw [flr_spec.2 (by omega)] at c1 c3
    rw [flr_spec.2 (by omega)]
    omega
/-! steps leave no more than there was -/
section
variable {D : List (List Rg)} {s : Sd} {x y z : Int}
def OkA (D : List (List Rg)) (s : Sd) : Prop := LeD s.1 D ∧ DOk s.1
theorem set_dok {E : List (List Rg)} {r : List Rg} (hE : DOk E) (hx : 0 ≤ x ∧ x < E.length) (hr : rightB r = true) (h0 : ¬ r.length = 0) : DOk (E.set x.toNat r) := by
  intro y h1 h2
  rw [List.length_set] at h2
  rw [row_set hx.1 hx.2 h1]
  split
  · unfold domB
    rw [hr, Bool.true_and, decide_eq_true_eq]; omega
  · exact hE y h1 h2
theorem put_ok {l : List Rg} (h : OkA D s) (hx : 0 ≤ x ∧ x < D.length) (hl : Sub l (rowOf s.1 x)) : OkA D (putA s x l) ∧ LeD (putA s x l).1 s.1 ∧ (s.2 = true → (putA s x l).2 = true) := by
  have hx' : 0 ≤ x ∧ x < s.1.length := by have := h.1.1; omega
  unfold putA
  split
  · exact ⟨h, le_refl_of h.2, fun _ => rfl⟩
  · rename_i h0
    have h1 := le_setrow (le_refl_of h.2) hx' hl
    exact ⟨⟨h1.trans h.1, set_dok h.2 hx' hl.1 h0⟩, h1, fun h => h⟩
theorem cut_ok (lo hi : Int) (h : OkA D s) (hx : 0 ≤ x ∧ x < D.length) : OkA D (cutA s x lo hi) ∧ LeD (cutA s x lo hi).1 s.1 ∧ (s.2 = true → (cutA s x lo hi).2 = true) := by
  unfold cutA
  split
  · exact ⟨h, le_refl_of h.2, fun h => h⟩
  · have hx' : 0 ≤ x ∧ x < s.1.length := by have := h.1.1; omega
    exact put_ok h hx (cut_sub (dom_right (h.2 x hx'.1 hx'.2)).1 _ _)
theorem div_ok (h : OkA D s) (hx : 0 ≤ x ∧ x < D.length) : OkA D (divA s x y z) ∧ LeD (divA s x y z).1 s.1 ∧ (s.2 = true → (divA s x y z).2 = true) := by
  unfold divA
  split
  · exact ⟨h, le_refl_of h.2, fun h => h⟩
  · split
    · exact ⟨h, le_refl_of h.2, fun h => h⟩
    · exact cut_ok _ _ h hx
theorem lose_ok (h : OkA D s) (hx : 0 ≤ x ∧ x < D.length) (hy : 0 ≤ y ∧ y < D.length) : OkA D (loseA s x y z) ∧ LeD (loseA s x y z).1 s.1 ∧ (s.2 = true → (loseA s x y z).2 = true) := by
  unfold loseA
  split
  · have hx' : 0 ≤ x ∧ x < s.1.length := by have := h.1.1; omega
    obtain ⟨a1, a2, a3⟩ := put_ok (l := withoutS 0 (rowOf s.1 x)) h hx (without_sub (dom_right (h.2 x hx'.1 hx'.2)).1 _)
    split
    · exact ⟨a1, a2, a3⟩
    · have hy' : 0 ≤ y ∧ y < (putA s x (withoutS 0 (rowOf s.1 x))).1.length := by have := a1.1.1; omega
      obtain ⟨b1, b2, b3⟩ := put_ok (l := withoutS 0 (rowOf (putA s x (withoutS 0 (rowOf s.1 x))).1 y)) a1 hy (without_sub (dom_right (a1.2 y hy'.1 hy'.2)).1 _)
      exact ⟨b1, b2.trans a2, fun h => b3 (a3 h)⟩
  · exact ⟨h, le_refl_of h.2, fun h => h⟩
theorem cap_ok (h : OkA D s) (hy : 0 ≤ y ∧ y < D.length) : OkA D (capA s x y z) ∧ LeD (capA s x y z).1 s.1 ∧ (s.2 = true → (capA s x y z).2 = true) := by
  unfold capA
  split
  · exact cut_ok _ _ h hy
  · exact ⟨h, le_refl_of h.2, fun h => h⟩
theorem cup_ok (h : OkA D s) (hy : 0 ≤ y ∧ y < D.length) : OkA D (cupA s x y z) ∧ LeD (cupA s x y z).1 s.1 ∧ (s.2 = true → (cupA s x y z).2 = true) := by
  unfold cupA
  split
  · exact cut_ok _ _ h hy
  · exact ⟨h, le_refl_of h.2, fun h => h⟩
theorem sizeCut_facts {y : Int} {l : List Rg} (hy : 0 < y) (h : rightB l = true) : rightB (sizeCut y l) = true ∧ ∀ u, Mem (sizeCut y l) u ↔ Mem l u ∧ (u ≤ -y ∨ y ≤ u) := by
  obtain ⟨hw, hb⟩ := right_wf h
  obtain ⟨h1, h2⟩ := cutS_facts (-1048576) (-y) h
  obtain ⟨h3, h4⟩ := cutS_facts y 1048576 h
  have bnd : ∀ u, Mem l u → -1048576 ≤ u ∧ u ≤ 1048576 := by
    rintro u ⟨r, hr, h5, h6⟩
    have := hb r hr
    omega
  unfold sizeCut
  refine ⟨wf_right (wf_append (right_wf h1).1 (right_wf h3).1 (fun r hr s hs => ?_)) (fun r hr => ?_), fun u => ?_⟩
  · have a := (h2 r.2).1 ⟨r, hr, wf_le (right_wf h1).1 r hr, by omega⟩
    have b := (h4 s.1).1 ⟨s, hs, by omega, wf_le (right_wf h3).1 s hs⟩
    omega
  · rw [List.mem_append] at hr
    rcases hr with hr | hr
    · exact (right_wf h1).2 r hr
    · exact (right_wf h3).2 r hr
  · rw [mem_append, h2, h4]
    constructor
    · rintro (⟨h5, h6⟩ | ⟨h5, h6⟩)
      · exact ⟨h5, by omega⟩
      · exact ⟨h5, by omega⟩
    · rintro ⟨h5, h6 | h6⟩
      · have := bnd u h5; exact .inl ⟨h5, by omega, by omega⟩
      · have := bnd u h5; exact .inr ⟨h5, by omega, by omega⟩
theorem size3_ok (h : OkA D s) (hx : 0 ≤ x ∧ x < D.length) : OkA D (size3 s x y) ∧ LeD (size3 s x y).1 s.1 ∧ (s.2 = true → (size3 s x y).2 = true) := by
  unfold size3
  split
  · exact ⟨h, le_refl_of h.2, fun h => h⟩
  · rename_i hc
    have hx' : 0 ≤ x ∧ x < s.1.length := by have := h.1.1; omega
    have hr := (dom_right (h.2 x hx'.1 hx'.2)).1
    have hy0 : 0 < (eAt s.1 y).1 := by omega
    obtain ⟨g1, g2⟩ := sizeCut_facts hy0 hr
    exact put_ok h hx ⟨g1, hr, fun v hv => ((g2 v).1 hv).1⟩
theorem ok_start (hD : DOk D) : OkA D (D, false) := ⟨le_refl_of hD, hD⟩
/-- the first step, and that the others leave no more -/
theorem times_ok (hD : DOk D) (hx : 0 ≤ x ∧ x < D.length) (hy : 0 ≤ y ∧ y < D.length) (hz : 0 ≤ z ∧ z < D.length) : OkA D (timesA D x y z) ∧
    LeD (timesA D x y z).1 (cutA (D, false) z (corn muls (eAt D x) (eAt D y)).1 (corn muls (eAt D x) (eAt D y)).2).1 ∧ ((cutA (D, false) z (corn muls (eAt D x) (eAt D y)).1 (corn muls (eAt D x) (eAt D y)).2).2 = true → (timesA D x y z).2 = true) := by
  obtain ⟨a1, -, -⟩ := cut_ok (corn muls (eAt D x) (eAt D y)).1 (corn muls (eAt D x) (eAt D y)).2 (ok_start hD) hz
  unfold timesA
  generalize cutA (D, false) z (corn muls (eAt D x) (eAt D y)).1 (corn muls (eAt D x) (eAt D y)).2 = s1 at a1 ⊢
  obtain ⟨b1, b2, b3⟩ := lose_ok (z := z) a1 hx hy
  obtain ⟨c1, c2, c3⟩ := div_ok (y := y) (z := z) b1 hx
  obtain ⟨d1, d2, d3⟩ := div_ok (y := x) (z := z) c1 hy
  exact ⟨d1, d2.trans (c2.trans b2), fun h => d3 (c3 (b3 h))⟩
theorem lesser_ok (hD : DOk D) (hx : 0 ≤ x ∧ x < D.length) (hy : 0 ≤ y ∧ y < D.length) (hz : 0 ≤ z ∧ z < D.length) : OkA D (lesserA D x y z) ∧
    LeD (lesserA D x y z).1 (cutA (D, false) z (min (eAt D x).1 (eAt D y).1) (min (eAt D x).2 (eAt D y).2)).1 ∧ ((cutA (D, false) z (min (eAt D x).1 (eAt D y).1) (min (eAt D x).2 (eAt D y).2)).2 = true → (lesserA D x y z).2 = true) := by
  obtain ⟨a1, -, -⟩ := cut_ok (min (eAt D x).1 (eAt D y).1) (min (eAt D x).2 (eAt D y).2) (ok_start hD) hz
  unfold lesserA lesser3
  generalize cutA (D, false) z (min (eAt D x).1 (eAt D y).1) (min (eAt D x).2 (eAt D y).2) = s1 at a1 ⊢
  obtain ⟨b1, b2, b3⟩ := cut_ok (eAt s1.1 z).1 1048576 a1 hx
  generalize cutA s1 x (eAt s1.1 z).1 1048576 = s2 at b1 b2 b3 ⊢
  obtain ⟨c1, c2, c3⟩ := cut_ok (eAt s2.1 z).1 1048576 b1 hy
  generalize cutA s2 y (eAt s2.1 z).1 1048576 = s3 at c1 c2 c3 ⊢
  obtain ⟨d1, d2, d3⟩ := cap_ok (x := x) (z := z) c1 hy
  obtain ⟨e1, e2, e3⟩ := cap_ok (x := y) (z := z) d1 hx
  exact ⟨e1, e2.trans (d2.trans (c2.trans b2)), fun h => e3 (d3 (c3 (b3 h)))⟩
theorem greater_ok (hD : DOk D) (hx : 0 ≤ x ∧ x < D.length) (hy : 0 ≤ y ∧ y < D.length) (hz : 0 ≤ z ∧ z < D.length) : OkA D (greaterA D x y z) ∧
    LeD (greaterA D x y z).1 (cutA (D, false) z (max (eAt D x).1 (eAt D y).1) (max (eAt D x).2 (eAt D y).2)).1 ∧ ((cutA (D, false) z (max (eAt D x).1 (eAt D y).1) (max (eAt D x).2 (eAt D y).2)).2 = true → (greaterA D x y z).2 = true) := by
  obtain ⟨a1, -, -⟩ := cut_ok (max (eAt D x).1 (eAt D y).1) (max (eAt D x).2 (eAt D y).2) (ok_start hD) hz
  unfold greaterA greater3
  generalize cutA (D, false) z (max (eAt D x).1 (eAt D y).1) (max (eAt D x).2 (eAt D y).2) = s1 at a1 ⊢
  obtain ⟨b1, b2, b3⟩ := cut_ok (-1048576) (eAt s1.1 z).2 a1 hx
  generalize cutA s1 x (-1048576) (eAt s1.1 z).2 = s2 at b1 b2 b3 ⊢
  obtain ⟨c1, c2, c3⟩ := cut_ok (-1048576) (eAt s2.1 z).2 b1 hy
  generalize cutA s2 y (-1048576) (eAt s2.1 z).2 = s3 at c1 c2 c3 ⊢
  obtain ⟨d1, d2, d3⟩ := cup_ok (x := x) (z := z) c1 hy
  obtain ⟨e1, e2, e3⟩ := cup_ok (x := y) (z := z) d1 hx
  exact ⟨e1, e2.trans (d2.trans (c2.trans b2)), fun h => e3 (d3 (c3 (b3 h)))⟩
theorem size_ok (hD : DOk D) (hx : 0 ≤ x ∧ x < D.length) (hy : 0 ≤ y ∧ y < D.length) : OkA D (sizeA D x y) ∧ LeD (sizeA D x y).1 (size1 D x y).1 ∧ ((size1 D x y).2 = true → (sizeA D x y).2 = true) := by
  obtain ⟨a1, -, -⟩ := cut_ok (max (max (eAt D x).1 (-(eAt D x).2)) 0) (max (eAt D x).2 (-(eAt D x).1)) (ok_start hD) hy
  have a1 : OkA D (size1 D x y) := a1
  unfold sizeA
  generalize size1 D x y = s1 at a1 ⊢
  obtain ⟨b1, b2, b3⟩ := cut_ok (-(eAt s1.1 y).2) (eAt s1.1 y).2 a1 hx
  have b1 : OkA D (size2 s1 x y) := b1
  have b2 : LeD (size2 s1 x y).1 s1.1 := b2
  have b3 : s1.2 = true → (size2 s1 x y).2 = true := b3
  obtain ⟨c1, c2, c3⟩ := size3_ok (y := y) b1 hx
  exact ⟨c1, c2.trans b2, fun h => c3 (b3 h)⟩
theorem same_ok (hD : DOk D) (hx : 0 ≤ x ∧ x < D.length) (hy : 0 ≤ y ∧ y < D.length) : (OkA D (sameA D x y) ∨ (sameA D x y).2 = true) ∧ (sameA D x y).1.length = D.length := by
  have r1 := dom_right (hD x hx.1 hx.2)
  have r2 := dom_right (hD y hy.1 hy.2)
  obtain ⟨m1, m2⟩ := meetS_facts r1.1 r2.1
  obtain ⟨a1, a2, a3⟩ := put_ok (l := meetS (rowOf D x) (rowOf D y)) (ok_start hD) hx ⟨m1, r1.1, fun v hv => ((m2 v).1 hv).1⟩
  unfold sameA
  by_cases h0 : (meetS (rowOf D x) (rowOf D y)).length = 0
  · have hp : putA (D, false) x (meetS (rowOf D x) (rowOf D y)) = (D, true) := by unfold putA; rw [if_pos h0]
    rw [hp]
    unfold putA
    split
    · exact ⟨.inr rfl, rfl⟩
    · exact ⟨.inr rfl, by simp⟩
  · have hp : putA (D, false) x (meetS (rowOf D x) (rowOf D y)) = (D.set x.toNat (meetS (rowOf D x) (rowOf D y)), false) := by unfold putA; rw [if_neg h0]
    rw [hp] at a1 ⊢
    have hrx : rowOf (D.set x.toNat (meetS (rowOf D x) (rowOf D y))) x = meetS (rowOf D x) (rowOf D y) := by rw [row_set hx.1 hx.2 hx.1, if_pos rfl]
    have hsub : Sub (rowOf (D.set x.toNat (meetS (rowOf D x) (rowOf D y))) x) (rowOf (D.set x.toNat (meetS (rowOf D x) (rowOf D y))) y) := by
      rw [hrx, row_set hx.1 hx.2 hy.1]
      split
      · exact ⟨m1, m1, fun v h => h⟩
      · exact ⟨m1, r2.1, fun v hv => ((m2 v).1 hv).2⟩
    obtain ⟨b1, b2, -⟩ := put_ok (s := (D.set x.toNat (meetS (rowOf D x) (rowOf D y)), false)) a1 hy hsub
    exact ⟨.inl b1, by have := b1.1.1; omega⟩
end
/-! smaller domains lead to smaller ones -/
def UpA (s t : Sd) : Prop := (t.2 = true → s.2 = true) ∧ (s.2 = false → LeD s.1 t.1)
section
variable {S D : List (List Rg)} {s t : Sd} {x y z : Int}
theorem sub_empty' {r : List Rg} (h : Sub r []) : r = [] := by
  cases r with
  | nil => rfl
  | cons a l =>
    exfalso
    have := right_rg h.1 (k := 0) (x := a.1) (y := a.2) rfl
    exact mem_nil a.1 (h.2.2 a.1 ⟨a, by simp, Int.le_refl _, this.1⟩)
theorem bool_f {b : Bool} (h : ¬ b = true) : b = false := by cases b <;> simp_all
theorem put_up {l m : List Rg} (h : UpA s t) (hx : 0 ≤ x ∧ x < t.1.length) (hl : s.2 = false → Sub l m) : UpA (putA s x l) (putA t x m) := by
  unfold putA
  by_cases hm : m.length = 0
  · rw [if_pos hm]
    by_cases h0 : l.length = 0
    · rw [if_pos h0]; exact ⟨fun _ => rfl, fun h => by cases h⟩
    · rw [if_neg h0]
      have hs : s.2 = true := by
        cases hb : s.2 with
        | true => rfl
        | false =>
          have := hl hb
          rw [List.eq_nil_of_length_eq_zero hm] at this
          have := sub_empty' this
          rw [this] at h0
          exact absurd rfl h0
      exact ⟨fun _ => hs, fun h => by simp only at h; rw [hs] at h; cases h⟩
  · rw [if_neg hm]
    by_cases h0 : l.length = 0
    · rw [if_pos h0]; exact ⟨fun _ => rfl, fun h => by cases h⟩
    · rw [if_neg h0]
      exact ⟨h.1, fun hb => setrow_le (h.2 hb) hx (hl hb)⟩
theorem up_left {s' : Sd} (h : UpA s t) (h1 : LeD s'.1 s.1) (h2 : s.2 = true → s'.2 = true) : UpA s' t := by
  refine ⟨fun k => h2 (h.1 k), fun k => h1.trans (h.2 ?_)⟩
  cases hb : s.2 with
  | false => rfl
  | true => rw [h2 hb] at k; cases k
theorem cut_up' {a b c d : Int} (h : UpA s t) (hx : 0 ≤ x ∧ x < t.1.length) (hb : s.2 = false → t.2 = false → c ≤ a ∧ b ≤ d) : UpA (cutA s x a b) (cutA t x c d) := by
  unfold cutA
  by_cases ht : t.2 = true
  · rw [if_pos ht, if_pos (h.1 ht)]; exact h
  · rw [if_neg ht]
    by_cases hs : s.2 = true
    · rw [if_pos hs]
      exact ⟨fun _ => hs, fun k => by rw [hs] at k; cases k⟩
    · rw [if_neg hs]
      have hs' := bool_f hs
      obtain ⟨h1, h2⟩ := hb hs' (bool_f ht)
      exact put_up h hx fun _ => cut_sub2 (le_rowd (h.2 hs') hx) h1 h2
/-- ends of both -/
theorem ends_up (h : UpA s t) (hs : s.2 = false) (h1 : DOk s.1) (h2 : DOk t.1) (hx : 0 ≤ x ∧ x < t.1.length) : (eAt t.1 x).1 ≤ (eAt s.1 x).1 ∧ (eAt s.1 x).1 ≤ (eAt s.1 x).2 ∧ (eAt s.1 x).2 ≤ (eAt t.1 x).2 := eAt_le (h.2 hs) h1 h2 hx
theorem div_up (h : UpA s t) (h1 : OkA S s) (h2 : OkA D t) (hx : 0 ≤ x ∧ x < D.length) (hy : 0 ≤ y ∧ y < D.length) (hz : 0 ≤ z ∧ z < D.length) (hl : S.length = D.length) : UpA (divA s x y z) (divA t x y z) := by
  have hlt := h2.1.1
  by_cases ht : t.2 = true
  · have e1 : divA t x y z = t := by unfold divA; rw [if_pos ht]
    have e2 : divA s x y z = s := by unfold divA; rw [if_pos (h.1 ht)]
    rw [e1, e2]; exact h
  by_cases hs : s.2 = true
  · have e2 : divA s x y z = s := by unfold divA; rw [if_pos hs]
    rw [e2]
    exact ⟨fun _ => hs, fun k => by rw [hs] at k; cases k⟩
  have hs' := bool_f hs
  obtain ⟨y1, y2, y3⟩ := ends_up (x := y) h hs' h1.2 h2.2 (by omega)
  obtain ⟨z1, z2, z3⟩ := ends_up (x := z) h hs' h1.2 h2.2 (by omega)
  by_cases hc : (eAt t.1 y).1 ≤ 0 ∧ 0 ≤ (eAt t.1 y).2
  · have e1 : divA t x y z = t := by unfold divA; rw [if_neg ht, if_pos hc]
    rw [e1]
    obtain ⟨-, b2, b3⟩ := div_ok (x := x) (y := y) (z := z) h1 (by omega)
    exact up_left h b2 b3
  · have e1 : divA t x y z = cutA t x (corn cel (eAt t.1 z) (eAt t.1 y)).1 (corn flr (eAt t.1 z) (eAt t.1 y)).2 := by unfold divA; rw [if_neg ht, if_neg hc]
    have e2 : divA s x y z = cutA s x (corn cel (eAt s.1 z) (eAt s.1 y)).1 (corn flr (eAt s.1 z) (eAt s.1 y)).2 := by unfold divA; rw [if_neg hs, if_neg (by omega)]
    rw [e1, e2]
    refine cut_up' h (by omega) fun _ _ => ?_
    have h0 : 0 < (eAt t.1 y).1 ∨ (eAt t.1 y).2 < 0 := by omega
    have c1 := corn_cel (p := eAt t.1 z) h0 (a := (eAt s.1 z).1) (b := (eAt s.1 y).1) (by omega) (by omega)
    have c2 := corn_cel (p := eAt t.1 z) h0 (a := (eAt s.1 z).1) (b := (eAt s.1 y).2) (by omega) (by omega)
    have c3 := corn_cel (p := eAt t.1 z) h0 (a := (eAt s.1 z).2) (b := (eAt s.1 y).1) (by omega) (by omega)
    have c4 := corn_cel (p := eAt t.1 z) h0 (a := (eAt s.1 z).2) (b := (eAt s.1 y).2) (by omega) (by omega)
    have f1 := corn_flr (p := eAt t.1 z) h0 (a := (eAt s.1 z).1) (b := (eAt s.1 y).1) (by omega) (by omega)
    have f2 := corn_flr (p := eAt t.1 z) h0 (a := (eAt s.1 z).1) (b := (eAt s.1 y).2) (by omega) (by omega)
    have f3 := corn_flr (p := eAt t.1 z) h0 (a := (eAt s.1 z).2) (b := (eAt s.1 y).1) (by omega) (by omega)
    have f4 := corn_flr (p := eAt t.1 z) h0 (a := (eAt s.1 z).2) (b := (eAt s.1 y).2) (by omega) (by omega)
    generalize (corn cel (eAt t.1 z) (eAt t.1 y)).1 = A at c1 c2 c3 c4 ⊢
    generalize (corn flr (eAt t.1 z) (eAt t.1 y)).2 = B at f1 f2 f3 f4 ⊢
    unfold corn
    simp only
    omega
theorem lose_up (h : UpA s t) (h1 : OkA S s) (h2 : OkA D t) (hx : 0 ≤ x ∧ x < D.length) (hy : 0 ≤ y ∧ y < D.length) (hz : 0 ≤ z ∧ z < D.length) (hl : S.length = D.length) : UpA (loseA s x y z) (loseA t x y z) := by
  have hlt := h2.1.1
  by_cases ht : t.2 = true
  · have e1 : loseA t x y z = t := by unfold loseA; rw [if_neg (by simp [ht])]
    have e2 : loseA s x y z = s := by unfold loseA; rw [if_neg (by simp [h.1 ht])]
    rw [e1, e2]; exact h
  by_cases hs : s.2 = true
  · have e2 : loseA s x y z = s := by unfold loseA; rw [if_neg (by simp [hs])]
    rw [e2]
    exact ⟨fun _ => hs, fun k => by rw [hs] at k; cases k⟩
  have hs' := bool_f hs
  have ht' := bool_f ht
  by_cases hz0 : hasB (rowOf t.1 z) 0 = false
  · have hr := le_rowd (h.2 hs') (x := z) (by omega)
    have hsz : hasB (rowOf s.1 z) 0 = false := by
      cases hb : hasB (rowOf s.1 z) 0 with
      | false => rfl
      | true =>
        have := has_iff.1 hb
        rw [has_iff.2 ⟨hr.2.1, hr.2.2 0 this.2⟩] at hz0
        cases hz0
    have hlx := le_rowd (h.2 hs') (x := x) (by omega)
    have p1 := put_up (x := x) h (by omega) fun _ => without_sub2 hlx 0
    obtain ⟨a1, -, -⟩ := put_ok (x := x) (l := withoutS 0 (rowOf s.1 x)) h1 (by omega) (without_sub hlx.1 _)
    obtain ⟨b1, -, -⟩ := put_ok (x := x) (l := withoutS 0 (rowOf t.1 x)) h2 hx (without_sub hlx.2.1 _)
    unfold loseA
    rw [if_pos (show s.2 = false ∧ hasB (rowOf s.1 z) 0 = false from ⟨hs', hsz⟩), if_pos (show t.2 = false ∧ hasB (rowOf t.1 z) 0 = false from ⟨ht', hz0⟩)]
    generalize putA s x (withoutS 0 (rowOf s.1 x)) = s1 at p1 a1 ⊢
    generalize putA t x (withoutS 0 (rowOf t.1 x)) = t1 at p1 b1 ⊢
    have hl1 := b1.1.1
    by_cases c1 : t1.2 = true
    · rw [if_pos c1, if_pos (p1.1 c1)]; exact p1
    · rw [if_neg c1]
      by_cases c2 : s1.2 = true
      · rw [if_pos c2]
        exact ⟨fun _ => c2, fun k => by rw [c2] at k; cases k⟩
      · rw [if_neg c2]
        exact put_up (x := y) p1 (by omega) fun k => without_sub2 (le_rowd (p1.2 k) (by omega)) 0
  · have e1 : loseA t x y z = t := by unfold loseA; rw [if_neg (by simp [hz0])]
    rw [e1]
    obtain ⟨-, b2, b3⟩ := lose_ok (x := x) (y := y) (z := z) h1 (by omega) (by omega)
    exact up_left h b2 b3
theorem cap_up (h : UpA s t) (h1 : OkA S s) (h2 : OkA D t) (hx : 0 ≤ x ∧ x < D.length) (hy : 0 ≤ y ∧ y < D.length) (hz : 0 ≤ z ∧ z < D.length) (hl : S.length = D.length) : UpA (capA s x y z) (capA t x y z) := by
  have hlt := h2.1.1
  obtain ⟨-, b2, b3⟩ := cap_ok (x := x) (y := y) (z := z) h1 (by omega)
  by_cases hc : (eAt t.1 z).2 < (eAt t.1 x).1
  · by_cases hs : s.2 = true
    · have hb := b3 hs
      exact ⟨fun _ => hb, fun k => by rw [hb] at k; cases k⟩
    · have hs' := bool_f hs
      obtain ⟨x1, x2, x3⟩ := ends_up (x := x) h hs' h1.2 h2.2 (by omega)
      obtain ⟨z1, z2, z3⟩ := ends_up (x := z) h hs' h1.2 h2.2 (by omega)
      unfold capA
      rw [if_pos hc, if_pos (by omega)]
      exact cut_up' h (by omega) fun _ _ => ⟨by omega, by omega⟩
  · have e1 : capA t x y z = t := by unfold capA; rw [if_neg hc]
    rw [e1]
    exact up_left h b2 b3
theorem cup_up (h : UpA s t) (h1 : OkA S s) (h2 : OkA D t) (hx : 0 ≤ x ∧ x < D.length) (hy : 0 ≤ y ∧ y < D.length) (hz : 0 ≤ z ∧ z < D.length) (hl : S.length = D.length) : UpA (cupA s x y z) (cupA t x y z) := by
  have hlt := h2.1.1
  obtain ⟨-, b2, b3⟩ := cup_ok (x := x) (y := y) (z := z) h1 (by omega)
  by_cases hc : (eAt t.1 x).2 < (eAt t.1 z).1
  · by_cases hs : s.2 = true
    · have hb := b3 hs
      exact ⟨fun _ => hb, fun k => by rw [hb] at k; cases k⟩
    · have hs' := bool_f hs
      obtain ⟨x1, x2, x3⟩ := ends_up (x := x) h hs' h1.2 h2.2 (by omega)
      obtain ⟨z1, z2, z3⟩ := ends_up (x := z) h hs' h1.2 h2.2 (by omega)
      unfold cupA
      rw [if_pos hc, if_pos (by omega)]
      exact cut_up' h (by omega) fun _ _ => ⟨by omega, by omega⟩
  · have e1 : cupA t x y z = t := by unfold cupA; rw [if_neg hc]
    rw [e1]
    exact up_left h b2 b3
theorem size3_up (h : UpA s t) (h1 : OkA S s) (h2 : OkA D t) (hx : 0 ≤ x ∧ x < D.length) (hy : 0 ≤ y ∧ y < D.length) (hl : S.length = D.length) : UpA (size3 s x y) (size3 t x y) := by
  have hlt := h2.1.1
  obtain ⟨-, b2, b3⟩ := size3_ok (x := x) (y := y) h1 (by omega)
  by_cases hc : t.2 = true ∨ (eAt t.1 y).1 ≤ 0
  · have e1 : size3 t x y = t := by unfold size3; rw [if_pos hc]
    rw [e1]
    exact up_left h b2 b3
  · by_cases hs : s.2 = true
    · have hb := b3 hs
      exact ⟨fun _ => hb, fun k => by rw [hb] at k; cases k⟩
    · have hs' := bool_f hs
      obtain ⟨y1, y2, y3⟩ := ends_up (x := y) h hs' h1.2 h2.2 (by omega)
      have hlx := le_rowd (h.2 hs') (x := x) (by omega)
      have hc1 : ¬ t.2 = true := fun k => hc (.inl k)
      have hc2 : 0 < (eAt t.1 y).1 := by omega
      unfold size3
      have hcs : ¬ (s.2 = true ∨ (eAt s.1 y).1 ≤ 0) := by
        rintro (k | k)
        · exact hs k
        · omega
      rw [if_neg hc, if_neg hcs]
      refine put_up h (by omega) fun _ => ?_
      obtain ⟨g1, g2⟩ := sizeCut_facts hc2 hlx.2.1
      obtain ⟨k1, k2⟩ := sizeCut_facts (y := (eAt s.1 y).1) (by omega) hlx.1
      exact ⟨k1, g1, fun v hv => (g2 v).2 ⟨hlx.2.2 v ((k2 v).1 hv).1, by have := ((k2 v).1 hv).2; omega⟩⟩
end
theorem up_start {S D : List (List Rg)} (h : LeD S D) : UpA (S, false) (D, false) := ⟨fun h => (by cases h), fun _ => h⟩
section
variable {S D : List (List Rg)} {x y z : Int} (hle : LeD S D) (hS : DOk S) (hD : DOk D) (hx : 0 ≤ x ∧ x < D.length) (hy : 0 ≤ y ∧ y < D.length)
include hle hS hD hx hy
theorem times_up (hz : 0 ≤ z ∧ z < D.length) : UpA (timesA S x y z) (timesA D x y z) := by
  have hl := hle.1
  obtain ⟨x1, x2, x3⟩ := eAt_le hle hS hD hx
  obtain ⟨y1, y2, y3⟩ := eAt_le hle hS hD hy
  have hc := cut_up' (x := z) (a := (corn muls (eAt S x) (eAt S y)).1) (b := (corn muls (eAt S x) (eAt S y)).2) (c := (corn muls (eAt D x) (eAt D y)).1) (d := (corn muls (eAt D x) (eAt D y)).2) (up_start hle) hz fun _ _ => by
    have c1 := corn_mul (p := eAt D x) (q := eAt D y) (a := (eAt S x).1) (b := (eAt S y).1) (by omega) (by omega)
    have c2 := corn_mul (p := eAt D x) (q := eAt D y) (a := (eAt S x).1) (b := (eAt S y).2) (by omega) (by omega)
    have c3 := corn_mul (p := eAt D x) (q := eAt D y) (a := (eAt S x).2) (b := (eAt S y).1) (by omega) (by omega)
    have c4 := corn_mul (p := eAt D x) (q := eAt D y) (a := (eAt S x).2) (b := (eAt S y).2) (by omega) (by omega)
    generalize (corn muls (eAt D x) (eAt D y)).1 = A at c1 c2 c3 c4 ⊢
    generalize (corn muls (eAt D x) (eAt D y)).2 = B at c1 c2 c3 c4 ⊢
    unfold corn muls
    simp only
    omega
  obtain ⟨a1, -, -⟩ := cut_ok (x := z) (corn muls (eAt S x) (eAt S y)).1 (corn muls (eAt S x) (eAt S y)).2 (ok_start hS) (by omega)
  obtain ⟨b1, -, -⟩ := cut_ok (x := z) (corn muls (eAt D x) (eAt D y)).1 (corn muls (eAt D x) (eAt D y)).2 (ok_start hD) hz
  unfold timesA
  generalize cutA (S, false) z (corn muls (eAt S x) (eAt S y)).1 (corn muls (eAt S x) (eAt S y)).2 = s1 at hc a1 ⊢
  generalize cutA (D, false) z (corn muls (eAt D x) (eAt D y)).1 (corn muls (eAt D x) (eAt D y)).2 = t1 at hc b1 ⊢
  have h2 := lose_up hc a1 b1 hx hy hz hl
  obtain ⟨a2, -, -⟩ := lose_ok (x := x) (y := y) (z := z) a1 (by omega) (by omega)
  obtain ⟨b2, -, -⟩ := lose_ok (x := x) (y := y) (z := z) b1 hx hy
  have h3 := div_up h2 a2 b2 hx hy hz hl
  obtain ⟨a3, -, -⟩ := div_ok (x := x) (y := y) (z := z) a2 (by omega)
  obtain ⟨b3, -, -⟩ := div_ok (x := x) (y := y) (z := z) b2 hx
  exact div_up h3 a3 b3 hy hx hz hl
theorem lesser_up (hz : 0 ≤ z ∧ z < D.length) : UpA (lesserA S x y z) (lesserA D x y z) := by
  have hl := hle.1
  obtain ⟨x1, x2, x3⟩ := eAt_le hle hS hD hx
  obtain ⟨y1, y2, y3⟩ := eAt_le hle hS hD hy
  have hc := cut_up' (x := z) (a := min (eAt S x).1 (eAt S y).1) (b := min (eAt S x).2 (eAt S y).2) (c := min (eAt D x).1 (eAt D y).1) (d := min (eAt D x).2 (eAt D y).2) (up_start hle) hz fun _ _ => by omega
  obtain ⟨a1, -, -⟩ := cut_ok (x := z) (min (eAt S x).1 (eAt S y).1) (min (eAt S x).2 (eAt S y).2) (ok_start hS) (by omega)
  obtain ⟨b1, -, -⟩ := cut_ok (x := z) (min (eAt D x).1 (eAt D y).1) (min (eAt D x).2 (eAt D y).2) (ok_start hD) hz
  unfold lesserA lesser3
  generalize cutA (S, false) z (min (eAt S x).1 (eAt S y).1) (min (eAt S x).2 (eAt S y).2) = s1 at hc a1 ⊢
  generalize cutA (D, false) z (min (eAt D x).1 (eAt D y).1) (min (eAt D x).2 (eAt D y).2) = t1 at hc b1 ⊢
  have l1 := b1.1.1
  have h2 := cut_up' (x := x) (a := (eAt s1.1 z).1) (b := 1048576) (c := (eAt t1.1 z).1) (d := 1048576) hc (by omega) fun k _ => by
    have := ends_up (x := z) hc k a1.2 b1.2 (by omega); omega
  obtain ⟨a2, -, -⟩ := cut_ok (x := x) (eAt s1.1 z).1 1048576 a1 (by omega)
  obtain ⟨b2, -, -⟩ := cut_ok (x := x) (eAt t1.1 z).1 1048576 b1 hx
  generalize cutA s1 x (eAt s1.1 z).1 1048576 = s2 at h2 a2 ⊢
  generalize cutA t1 x (eAt t1.1 z).1 1048576 = t2 at h2 b2 ⊢
  have l2 := b2.1.1
  have h3 := cut_up' (x := y) (a := (eAt s2.1 z).1) (b := 1048576) (c := (eAt t2.1 z).1) (d := 1048576) h2 (by omega) fun k _ => by
    have := ends_up (x := z) h2 k a2.2 b2.2 (by omega); omega
  obtain ⟨a3, -, -⟩ := cut_ok (x := y) (eAt s2.1 z).1 1048576 a2 (by omega)
  obtain ⟨b3, -, -⟩ := cut_ok (x := y) (eAt t2.1 z).1 1048576 b2 hy
  generalize cutA s2 y (eAt s2.1 z).1 1048576 = s3 at h3 a3 ⊢
  generalize cutA t2 y (eAt t2.1 z).1 1048576 = t3 at h3 b3 ⊢
  have h4 := cap_up h3 a3 b3 hx hy hz hl
  obtain ⟨a4, -, -⟩ := cap_ok (x := x) (y := y) (z := z) a3 (by omega)
  obtain ⟨b4, -, -⟩ := cap_ok (x := x) (y := y) (z := z) b3 hy
  exact cap_up h4 a4 b4 hy hx hz hl
theorem greater_up (hz : 0 ≤ z ∧ z < D.length) : UpA (greaterA S x y z) (greaterA D x y z) := by
  have hl := hle.1
  obtain ⟨x1, x2, x3⟩ := eAt_le hle hS hD hx
  obtain ⟨y1, y2, y3⟩ := eAt_le hle hS hD hy
  have hc := cut_up' (x := z) (a := max (eAt S x).1 (eAt S y).1) (b := max (eAt S x).2 (eAt S y).2) (c := max (eAt D x).1 (eAt D y).1) (d := max (eAt D x).2 (eAt D y).2) (up_start hle) hz fun _ _ => by omega
  obtain ⟨a1, -, -⟩ := cut_ok (x := z) (max (eAt S x).1 (eAt S y).1) (max (eAt S x).2 (eAt S y).2) (ok_start hS) (by omega)
  obtain ⟨b1, -, -⟩ := cut_ok (x := z) (max (eAt D x).1 (eAt D y).1) (max (eAt D x).2 (eAt D y).2) (ok_start hD) hz
  unfold greaterA greater3
  generalize cutA (S, false) z (max (eAt S x).1 (eAt S y).1) (max (eAt S x).2 (eAt S y).2) = s1 at hc a1 ⊢
  generalize cutA (D, false) z (max (eAt D x).1 (eAt D y).1) (max (eAt D x).2 (eAt D y).2) = t1 at hc b1 ⊢
  have l1 := b1.1.1
  have h2 := cut_up' (x := x) (a := -1048576) (b := (eAt s1.1 z).2) (c := -1048576) (d := (eAt t1.1 z).2) hc (by omega) fun k _ => by
    have := ends_up (x := z) hc k a1.2 b1.2 (by omega); omega
  obtain ⟨a2, -, -⟩ := cut_ok (x := x) (-1048576) (eAt s1.1 z).2 a1 (by omega)
  obtain ⟨b2, -, -⟩ := cut_ok (x := x) (-1048576) (eAt t1.1 z).2 b1 hx
  generalize cutA s1 x (-1048576) (eAt s1.1 z).2 = s2 at h2 a2 ⊢
  generalize cutA t1 x (-1048576) (eAt t1.1 z).2 = t2 at h2 b2 ⊢
  have l2 := b2.1.1
  have h3 := cut_up' (x := y) (a := -1048576) (b := (eAt s2.1 z).2) (c := -1048576) (d := (eAt t2.1 z).2) h2 (by omega) fun k _ => by
    have := ends_up (x := z) h2 k a2.2 b2.2 (by omega); omega
  obtain ⟨a3, -, -⟩ := cut_ok (x := y) (-1048576) (eAt s2.1 z).2 a2 (by omega)
  obtain ⟨b3, -, -⟩ := cut_ok (x := y) (-1048576) (eAt t2.1 z).2 b2 hy
  generalize cutA s2 y (-1048576) (eAt s2.1 z).2 = s3 at h3 a3 ⊢
  generalize cutA t2 y (-1048576) (eAt t2.1 z).2 = t3 at h3 b3 ⊢
  have h4 := cup_up h3 a3 b3 hx hy hz hl
  obtain ⟨a4, -, -⟩ := cup_ok (x := x) (y := y) (z := z) a3 (by omega)
  obtain ⟨b4, -, -⟩ := cup_ok (x := x) (y := y) (z := z) b3 hy
  exact cup_up h4 a4 b4 hy hx hz hl
theorem size_up : UpA (sizeA S x y) (sizeA D x y) := by
  have hl := hle.1
  obtain ⟨x1, x2, x3⟩ := eAt_le hle hS hD hx
  have hc : UpA (size1 S x y) (size1 D x y) := cut_up' (x := y) (up_start hle) hy fun _ _ => by omega
  obtain ⟨a1, -, -⟩ := cut_ok (x := y) (max (max (eAt S x).1 (-(eAt S x).2)) 0) (max (eAt S x).2 (-(eAt S x).1)) (ok_start hS) (by omega)
  obtain ⟨b1, -, -⟩ := cut_ok (x := y) (max (max (eAt D x).1 (-(eAt D x).2)) 0) (max (eAt D x).2 (-(eAt D x).1)) (ok_start hD) hy
  have a1 : OkA S (size1 S x y) := a1
  have b1 : OkA D (size1 D x y) := b1
  unfold sizeA
  generalize size1 S x y = s1 at hc a1 ⊢
  generalize size1 D x y = t1 at hc b1 ⊢
  have l1 := b1.1.1
  have h2 : UpA (size2 s1 x y) (size2 t1 x y) := cut_up' (x := x) hc (by omega) fun k _ => by
    have := ends_up (x := y) hc k a1.2 b1.2 (by omega); omega
  obtain ⟨a2, -, -⟩ := cut_ok (x := x) (-(eAt s1.1 y).2) (eAt s1.1 y).2 a1 (by omega)
  obtain ⟨b2, -, -⟩ := cut_ok (x := x) (-(eAt t1.1 y).2) (eAt t1.1 y).2 b1 hx
  exact size3_up h2 a2 b2 hx hy hl
theorem same_up : UpA (sameA S x y) (sameA D x y) := by
  have hl := hle.1
  have hlx := le_rowd hle hx
  have hly := le_rowd hle hy
  obtain ⟨m1, m2⟩ := meetS_facts hlx.1 hly.1
  obtain ⟨n1, n2⟩ := meetS_facts hlx.2.1 hly.2.1
  have h1 := put_up (x := x) (l := meetS (rowOf S x) (rowOf S y)) (m := meetS (rowOf D x) (rowOf D y)) (up_start hle) hx fun _ => ⟨m1, n1, fun v hv => (n2 v).2 ⟨hlx.2.2 v ((m2 v).1 hv).1, hly.2.2 v ((m2 v).1 hv).2⟩⟩
  obtain ⟨b1, -, -⟩ := put_ok (x := x) (l := meetS (rowOf D x) (rowOf D y)) (ok_start hD) hx ⟨n1, hlx.2.1, fun v hv => ((n2 v).1 hv).1⟩
  unfold sameA
  have l1 := b1.1.1
  exact put_up (x := y) h1 (by omega) fun k => le_rowd (h1.2 k) (by omega)
end
/-! what a model of one such constraint says -/
theorem arith_idx {c : Con} {D : List (List Rg)} (hK : aKind c.1) (hm : modB (D, [c], 0, 0) = true) : D.length ≤ 64 ∧ DOk D ∧ (0 ≤ xat c.2.1 0 ∧ xat c.2.1 0 < D.length) ∧ (0 ≤ xat c.2.1 1 ∧ xat c.2.1 1 < D.length) ∧
    (c.1 = 7 ∨ c.1 = 8 ∨ c.1 = 9 → c.2.1.length = 3 ∧ 0 ≤ xat c.2.1 2 ∧ xat c.2.1 2 < D.length) ∧ (c.1 = 10 ∨ c.1 = 15 → c.2.1.length = 2) ∧ c.2.2.1.length = 0 := by
  obtain ⟨f1, f2, f3⟩ := one_facts hm
  obtain ⟨g1, g2, g3, g4, g5⟩ := may_facts f3
  simp only [formedB, Bool.and_eq_true] at g1
  have gc := g1.1.2
  have hD : DOk D := fun x h0 h1 => f2 _ (row_mem ⟨h0, h1⟩)
  have hlen : (c.1 = 7 ∨ c.1 = 8 ∨ c.1 = 9 → c.2.1.length = 3) ∧ (c.1 = 10 ∨ c.1 = 15 → c.2.1.length = 2) ∧ c.2.2.1.length = 0 := by
    unfold aKind at hK
    have gs : (shp c.1).1 = 0 ∧ (shp c.1).2.1 = (if c.1 = 10 ∨ c.1 = 15 then 2 else 3) ∧ (shp c.1).2.2.1 = 0 := by
      rcases hK with h | h | h | h | h <;> rw [h] <;> decide
    unfold countsB at gc
    rw [if_pos gs.1, gs.2.1, gs.2.2] at gc
    simp only [Bool.and_eq_true, decide_eq_true_eq] at gc
    split at gc <;> omega
  have h2 : 2 ≤ c.2.1.length := by unfold aKind at hK; omega
  exact ⟨f1, hD, g3 0 (by omega), g3 1 (by omega), fun h => ⟨hlen.1 h, g3 2 (by have := hlen.1 h; omega)⟩, hlen.2.1, hlen.2.2⟩
theorem arith_up {c : Con} {S D : List (List Rg)} (hK : aKind c.1) (hm : modB (D, [c], 0, 0) = true) (hS : DOk S) (hle : LeD S D) : UpA (arithS c.1 S c.2.1) (arithS c.1 D c.2.1) := by
  obtain ⟨f1, hD, h0, h1, h2, -, -⟩ := arith_idx hK hm
  unfold arithS
  unfold aKind at hK
  rcases hK with h | h | h | h | h <;> rw [h] at h2 ⊢ <;> simp only [show ¬ (8 : Int) = 7 by decide, show ¬ (9 : Int) = 7 by decide, show ¬ (9 : Int) = 8 by decide, show ¬ (10 : Int) = 7 by decide, show ¬ (10 : Int) = 8 by decide, show ¬ (10 : Int) = 9 by decide, show ¬ (15 : Int) = 7 by decide, show ¬ (15 : Int) = 8 by decide, show ¬ (15 : Int) = 9 by decide, show ¬ (15 : Int) = 10 by decide, if_true, if_false]
  · exact times_up hle hS hD h0 h1 (h2 (by simp)).2
  · exact lesser_up hle hS hD h0 h1 (h2 (by simp)).2
  · exact greater_up hle hS hD h0 h1 (h2 (by simp)).2
  · exact size_up hle hS hD h0 h1
  · exact same_up hle hS hD h0 h1
/-- which step cuts the last variable first -/
theorem arith_ok {c : Con} {D : List (List Rg)} (hK : aKind c.1) (hm : modB (D, [c], 0, 0) = true) : (OkA D (arithS c.1 D c.2.1) ∨ (arithS c.1 D c.2.1).2 = true) ∧ (arithS c.1 D c.2.1).1.length = D.length := by
  obtain ⟨f1, hD, h0, h1, h2, -, -⟩ := arith_idx hK hm
  have key : ∀ s : Sd, OkA D s → (OkA D s ∨ s.2 = true) ∧ s.1.length = D.length := fun s h => ⟨.inl h, h.1.1⟩
  unfold arithS
  unfold aKind at hK
  rcases hK with h | h | h | h | h <;> rw [h] at h2 ⊢ <;> simp only [show ¬ (8 : Int) = 7 by decide, show ¬ (9 : Int) = 7 by decide, show ¬ (9 : Int) = 8 by decide, show ¬ (10 : Int) = 7 by decide, show ¬ (10 : Int) = 8 by decide, show ¬ (10 : Int) = 9 by decide, show ¬ (15 : Int) = 7 by decide, show ¬ (15 : Int) = 8 by decide, show ¬ (15 : Int) = 9 by decide, show ¬ (15 : Int) = 10 by decide, if_true, if_false]
  · exact key _ (times_ok hD h0 h1 (h2 (by simp)).2).1
  · exact key _ (lesser_ok hD h0 h1 (h2 (by simp)).2).1
  · exact key _ (greater_ok hD h0 h1 (h2 (by simp)).2).1
  · exact key _ (size_ok hD h0 h1).1
  · exact same_ok hD h0 h1
theorem arith_l {c : Con} {D : List (List Rg)} (hK : aKind c.1) (hm : modB (D, [c], 0, 0) = true) : arithL c D = tellA (arithS c.1 D c.2.1) := by
  unfold arithL
  rw [if_pos hm, if_pos (show c.1 = 7 ∨ c.1 = 8 ∨ c.1 = 9 ∨ c.1 = 10 ∨ c.1 = 15 from hK)]
theorem order_arith {c : Con} {S D : List (List Rg)} (hK : aKind c.1) (hm : modB (D, [c], 0, 0) = true) (hS : modB (S, [c], 0, 0) = true) (hle : LeD S D) :
    (∃ E, arithL c D = (E, 0) ∧ (arithL c S = ([], 12) ∨ ∃ E', arithL c S = (E', 0) ∧ LeD E' E)) ∨ (arithL c D = ([], 12) ∧ arithL c S = ([], 12)) := by
  rw [arith_l hK hm, arith_l hK hS]
  have hSd : DOk S := fun x h0 h1 => (one_facts hS).2.1 _ (row_mem ⟨h0, h1⟩)
  have h := arith_up hK hm hSd hle
  refine tell_up ⟨fun k => ?_, fun k => ?_⟩
  · simp only [Bool.not_eq_false'] at k ⊢; exact h.1 k
  · simp only [Bool.not_eq_true'] at k; exact h.2 k
theorem arith_res {c : Con} {D : List (List Rg)} (hK : aKind c.1) (hm : modB (D, [c], 0, 0) = true) : arithL c D = ([], 12) ∨ ∃ E, arithL c D = (E, 0) ∧ LeD E D ∧ ∀ r ∈ E, 0 < r.length := by
  rw [arith_l hK hm]
  obtain ⟨h1, h2⟩ := arith_ok hK hm
  generalize arithS c.1 D c.2.1 = s at h1 h2 ⊢
  obtain ⟨E, b⟩ := s
  cases b
  · rcases h1 with h1 | h1
    · refine .inr ⟨E, rfl, h1.1, fun r hr => ?_⟩
      obtain ⟨i, hi, rfl⟩ := List.getElem_of_mem hr
      have hx : 0 ≤ (i : Int) ∧ (i : Int) < E.length := by omega
      have h3 := dom_right (h1.2 i hx.1 hx.2)
      have e : rowOf E (i : Int) = E[i] := by
        have := row_get hx
        rw [Int.toNat_natCast, List.getElem?_eq_getElem hi] at this
        injection this with this
        exact this.symm
      rw [e] at h3
      exact h3.2
    · cases h1
  · exact .inl rfl
theorem size_arith {c : Con} {D : List (List Rg)} (hK : aKind c.1) (hm : modB (D, [c], 0, 0) = true) : (arithL c D).1.length ≤ 1000000000000 := by
  have := (one_facts hm).1
  rcases arith_res hK hm with h | ⟨E, h, hle, -⟩
  · rw [h]; simp
  · rw [h]; have := hle.1; simp only; omega
end Go.Proofs.Ytfcphijidcfboaa
