/- Plain laws of products, lesser and greater ones, sizes, likeness. -/
import Derived.Test.YtbhigfllanblpaaGEvery
namespace Go.Proofs.Ytbhigfllanblpaa
open Av
attribute [local irreducible] awp awpOpers
set_option linter.unusedSimpArgs false
set_option linter.unusedVariables false
set_option linter.unusedSectionVars false
/-- domains, and whether it failed -/
abbrev Sd := List (List Rg) × Bool
/-- quotients rounded down, and up -/
def flr (a b : Int) : Int := if ¬ a.tmod b = 0 ∧ ¬ decide (a < 0) = decide (b < 0) then a.tdiv b - 1 else a.tdiv b
def cel (a b : Int) : Int := if ¬ a.tmod b = 0 ∧ decide (a < 0) = decide (b < 0) then a.tdiv b + 1 else a.tdiv b
def muls (a b : Int) : Int := a * b
def putA (s : Sd) (x : Int) (l : List Rg) : Sd := if l.length = 0 then (s.1, true) else (s.1.set x.toNat l, s.2)
def cutA (s : Sd) (x lo hi : Int) : Sd := if s.2 = true then s else putA s x (cutS lo hi (rowOf s.1 x))
def corn (f : Int → Int → Int) (p q : Rg) : Rg :=
  (min (min (min (f p.1 q.1) (f p.1 q.2)) (f p.2 q.1)) (f p.2 q.2), max (max (max (f p.1 q.1) (f p.1 q.2)) (f p.2 q.1)) (f p.2 q.2))
def divA (s : Sd) (x y z : Int) : Sd :=
  if s.2 = true then s else if (eAt s.1 y).1 ≤ 0 ∧ 0 ≤ (eAt s.1 y).2 then s else cutA s x (corn cel (eAt s.1 z) (eAt s.1 y)).1 (corn flr (eAt s.1 z) (eAt s.1 y)).2
def loseA (s : Sd) (x y z : Int) : Sd :=
  if s.2 = false ∧ hasB (rowOf s.1 z) 0 = false then
    (if (putA s x (withoutS 0 (rowOf s.1 x))).2 = true then putA s x (withoutS 0 (rowOf s.1 x)) else putA (putA s x (withoutS 0 (rowOf s.1 x))) y (withoutS 0 (rowOf (putA s x (withoutS 0 (rowOf s.1 x))).1 y)))
  else s
def timesA (D : List (List Rg)) (x y z : Int) : Sd :=
  divA (divA (loseA (cutA (D, false) z (corn muls (eAt D x) (eAt D y)).1 (corn muls (eAt D x) (eAt D y)).2) x y z) x y z) y x z
def capA (s : Sd) (x y z : Int) : Sd := if (eAt s.1 z).2 < (eAt s.1 x).1 then cutA s y (-1048576) (eAt s.1 z).2 else s
def lesser3 (D : List (List Rg)) (x y z : Int) : Sd :=
  cutA (cutA (cutA (D, false) z (min (eAt D x).1 (eAt D y).1) (min (eAt D x).2 (eAt D y).2)) x (eAt (cutA (D, false) z (min (eAt D x).1 (eAt D y).1) (min (eAt D x).2 (eAt D y).2)).1 z).1 1048576)
    y (eAt (cutA (cutA (D, false) z (min (eAt D x).1 (eAt D y).1) (min (eAt D x).2 (eAt D y).2)) x (eAt (cutA (D, false) z (min (eAt D x).1 (eAt D y).1) (min (eAt D x).2 (eAt D y).2)).1 z).1 1048576).1 z).1 1048576
def lesserA (D : List (List Rg)) (x y z : Int) : Sd := capA (capA (lesser3 D x y z) x y z) y x z
def cupA (s : Sd) (x y z : Int) : Sd := if (eAt s.1 x).2 < (eAt s.1 z).1 then cutA s y (eAt s.1 z).1 1048576 else s
def greater3 (D : List (List Rg)) (x y z : Int) : Sd :=
  cutA (cutA (cutA (D, false) z (max (eAt D x).1 (eAt D y).1) (max (eAt D x).2 (eAt D y).2)) x (-1048576) (eAt (cutA (D, false) z (max (eAt D x).1 (eAt D y).1) (max (eAt D x).2 (eAt D y).2)).1 z).2)
    y (-1048576) (eAt (cutA (cutA (D, false) z (max (eAt D x).1 (eAt D y).1) (max (eAt D x).2 (eAt D y).2)) x (-1048576) (eAt (cutA (D, false) z (max (eAt D x).1 (eAt D y).1) (max (eAt D x).2 (eAt D y).2)).1 z).2).1 z).2
def greaterA (D : List (List Rg)) (x y z : Int) : Sd := cupA (cupA (greater3 D x y z) x y z) y x z
def sizeCut (y : Int) (l : List Rg) : List Rg := cutS (-1048576) (-y) l ++ cutS y 1048576 l
def size1 (D : List (List Rg)) (x y : Int) : Sd := cutA (D, false) y (max (max (eAt D x).1 (-(eAt D x).2)) 0) (max (eAt D x).2 (-(eAt D x).1))
def size2 (s : Sd) (x y : Int) : Sd := cutA s x (-(eAt s.1 y).2) (eAt s.1 y).2
def size3 (s : Sd) (x y : Int) : Sd := if s.2 = true ∨ (eAt s.1 y).1 ≤ 0 then s else putA s x (sizeCut (eAt s.1 y).1 (rowOf s.1 x))
def sizeA (D : List (List Rg)) (x y : Int) : Sd := size3 (size2 (size1 D x y) x y) x y
def sameA (D : List (List Rg)) (x y : Int) : Sd :=
  putA (putA (D, false) x (meetS (rowOf D x) (rowOf D y))) y (rowOf (putA (D, false) x (meetS (rowOf D x) (rowOf D y))).1 x)
def arithS (K : Int) (D : List (List Rg)) (X : List Int) : Sd :=
  if K = 7 then timesA D (xat X 0) (xat X 1) (xat X 2) else if K = 8 then lesserA D (xat X 0) (xat X 1) (xat X 2) else if K = 9 then greaterA D (xat X 0) (xat X 1) (xat X 2)
  else if K = 10 then sizeA D (xat X 0) (xat X 1) else sameA D (xat X 0) (xat X 1)
def aKind (K : Int) : Prop := K = 7 ∨ K = 8 ∨ K = 9 ∨ K = 10 ∨ K = 15
def tellA (s : Sd) : List (List Rg) × Int := tell (s.1, !s.2)
def arithL (c : Con) (D : List (List Rg)) : List (List Rg) × Int :=
  if modB (D, [c], 0, 0) = true then (if c.1 = 7 ∨ c.1 = 8 ∨ c.1 = 9 ∨ c.1 = 10 ∨ c.1 = 15 then tellA (arithS c.1 D c.2.1) else ([], 10)) else ([], 2)
/-! quotients and products between ends -/
theorem tm_pos {a b : Int} (hb : 0 < b) : (0 ≤ a → 0 ≤ a.tmod b) ∧ (a ≤ 0 → a.tmod b ≤ 0) ∧ -b < a.tmod b ∧ a.tmod b < b := by
  refine ⟨fun h => Int.tmod_nonneg b h, fun h => ?_, ?_, Int.tmod_lt_of_pos a hb⟩
  · have := Int.tmod_nonneg b (a := -a) (by omega)
    rw [Int.neg_tmod] at this; omega
  · have := Int.tmod_lt_of_pos (-a) hb
    rw [Int.neg_tmod] at this; omega
theorem tm_neg {a b : Int} (hb : b < 0) : (0 ≤ a → 0 ≤ a.tmod b) ∧ (a ≤ 0 → a.tmod b ≤ 0) ∧ b < a.tmod b ∧ a.tmod b < -b := by
  have := tm_pos (a := a) (b := -b) (by omega)
  rw [Int.tmod_neg] at this
  omega
/-! steps leave no more than there was -/
section
variable {D : List (List Rg)} {s : Sd} {x y z : Int}
def OkA (D : List (List Rg)) (s : Sd) : Prop := LeD s.1 D ∧ DOk s.1
theorem set_dok {E : List (List Rg)} {r : List Rg} (hE : DOk E) (hx : 0 ≤ x ∧ x < E.length) (hr : rightB r = true) (h0 : ¬ r.length = 0) : DOk (E.set x.toNat r) := by
  intro y h1 h2
  rw [List.length_set] at h2
  rw [row_set hx.1 hx.2 h1]
  split
  · unfold domB
    rw [hr, Bool.true_and, decide_eq_true_eq]; omega
  · exact hE y h1 h2
theorem put_ok {l : List Rg} (h : OkA D s) (hx : 0 ≤ x ∧ x < D.length) (hl : Sub l (rowOf s.1 x)) : OkA D (putA s x l) ∧ LeD (putA s x l).1 s.1 ∧ (s.2 = true → (putA s x l).2 = true) := by
  have hx' : 0 ≤ x ∧ x < s.1.length := by have := h.1.1; omega
  unfold putA
  split
  · exact ⟨h, le_refl_of h.2, fun _ => rfl⟩
  · rename_i h0
    have h1 := le_setrow (le_refl_of h.2) hx' hl
    exact ⟨⟨h1.trans h.1, set_dok h.2 hx' hl.1 h0⟩, h1, fun h => h⟩
theorem cut_ok (lo hi : Int) (h : OkA D s) (hx : 0 ≤ x ∧ x < D.length) : OkA D (cutA s x lo hi) ∧ LeD (cutA s x lo hi).1 s.1 ∧ (s.2 = true → (cutA s x lo hi).2 = true) := by
  unfold cutA
  split
  · exact ⟨h, le_refl_of h.2, fun h => h⟩
  · have hx' : 0 ≤ x ∧ x < s.1.length := by have := h.1.1; omega
    exact put_ok h hx (cut_sub (dom_right (h.2 x hx'.1 hx'.2)).1 _ _)
theorem div_ok (h : OkA D s) (hx : 0 ≤ x ∧ x < D.length) : OkA D (divA s x y z) ∧ LeD (divA s x y z).1 s.1 ∧ (s.2 = true → (divA s x y z).2 = true) := by
  unfold divA
  split
  · exact ⟨h, le_refl_of h.2, fun h => h⟩
  · split
    · exact ⟨h, le_refl_of h.2, fun h => h⟩
    · exact cut_ok _ _ h hx
theorem lose_ok (h : OkA D s) (hx : 0 ≤ x ∧ x < D.length) (hy : 0 ≤ y ∧ y < D.length) : OkA D (loseA s x y z) ∧ LeD (loseA s x y z).1 s.1 ∧ (s.2 = true → (loseA s x y z).2 = true) := by
  unfold loseA
  split
  · have hx' : 0 ≤ x ∧ x < s.1.length := by have := h.1.1; omega
    obtain ⟨a1, a2, a3⟩ := put_ok (l := withoutS 0 (rowOf s.1 x)) h hx (without_sub (dom_right (h.2 x hx'.1 hx'.2)).1 _)
    split
    · exact ⟨a1, a2, a3⟩
    · have hy' : 0 ≤ y ∧ y < (putA s x (withoutS 0 (rowOf s.1 x))).1.length := by have := a1.1.1; omega
      obtain ⟨b1, b2, b3⟩ := put_ok (l := withoutS 0 (rowOf (putA s x (withoutS 0 (rowOf s.1 x))).1 y)) a1 hy (without_sub (dom_right (a1.2 y hy'.1 hy'.2)).1 _)
      exact ⟨b1, b2.trans a2, fun h => b3 (a3 h)⟩
  · exact ⟨h, le_refl_of h.2, fun h => h⟩
theorem cap_ok (h : OkA D s) (hy : 0 ≤ y ∧ y < D.length) : OkA D (capA s x y z) ∧ LeD (capA s x y z).1 s.1 ∧ (s.2 = true → (capA s x y z).2 = true) := by
  unfold capA
  split
  · exact cut_ok _ _ h hy
  · exact ⟨h, le_refl_of h.2, fun h => h⟩
theorem cup_ok (h : OkA D s) (hy : 0 ≤ y ∧ y < D.length) : OkA D (cupA s x y z) ∧ LeD (cupA s x y z).1 s.1 ∧ (s.2 = true → (cupA s x y z).2 = true) := by
  unfold cupA
  split
  · exact cut_ok _ _ h hy
  · exact ⟨h, le_refl_of h.2, fun h => h⟩
theorem sizeCut_facts {y : Int} {l : List Rg} (hy : 0 < y) (h : rightB l = true) : rightB (sizeCut y l) = true ∧ ∀ u, Mem (sizeCut y l) u ↔ Mem l u ∧ (u ≤ -y ∨ y ≤ u) := by
  obtain ⟨hw, hb⟩ := right_wf h
  obtain ⟨h1, h2⟩ := cutS_facts (-1048576) (-y) h
  obtain ⟨h3, h4⟩ := cutS_facts y 1048576 h
  have bnd : ∀ u, Mem l u → -1048576 ≤ u ∧ u ≤ 1048576 := by
    rintro u ⟨r, hr, h5, h6⟩
    have := hb r hr
    omega
  unfold sizeCut
  refine ⟨wf_right (wf_append (right_wf h1).1 (right_wf h3).1 (fun r hr s hs => ?_)) (fun r hr => ?_), fun u => ?_⟩
  · have a := (h2 r.2).1 ⟨r, hr, wf_le (right_wf h1).1 r hr, by omega⟩
    have b := (h4 s.1).1 ⟨s, hs, by omega, wf_le (right_wf h3).1 s hs⟩
    omega
  · rw [List.mem_append] at hr
    rcases hr with hr | hr
    · exact (right_wf h1).2 r hr
    · exact (right_wf h3).2 r hr
  · rw [mem_append, h2, h4]
    constructor
    · rintro (⟨h5, h6⟩ | ⟨h5, h6⟩)
      · exact ⟨h5, by omega⟩
      · exact ⟨h5, by omega⟩
    · rintro ⟨h5, h6 | h6⟩
      · have := bnd u h5; exact .inl ⟨h5, by omega, by omega⟩
      · have := bnd u h5; exact .inr ⟨h5, by omega, by omega⟩
theorem size3_ok (h : OkA D s) (hx : 0 ≤ x ∧ x < D.length) : OkA D (size3 s x y) ∧ LeD (size3 s x y).1 s.1 ∧ (s.2 = true → (size3 s x y).2 = true) := by
  unfold size3
  split
  · exact ⟨h, le_refl_of h.2, fun h => h⟩
  · rename_i hc
    have hx' : 0 ≤ x ∧ x < s.1.length := by have := h.1.1; omega
    have hr := (dom_right (h.2 x hx'.1 hx'.2)).1
    have hy0 : 0 < (eAt s.1 y).1 := by omega
    obtain ⟨g1, g2⟩ := sizeCut_facts hy0 hr
    exact put_ok h hx ⟨g1, hr, fun v hv => ((g2 v).1 hv).1⟩
theorem ok_start (hD : DOk D) : OkA D (D, false) := ⟨le_refl_of hD, hD⟩
/-- the first step, and that the others leave no more -/
theorem times_ok (hD : DOk D) (hx : 0 ≤ x ∧ x < D.length) (hy : 0 ≤ y ∧ y < D.length) (hz : 0 ≤ z ∧ z < D.length) : OkA D (timesA D x y z) ∧
    LeD (timesA D x y z).1 (cutA (D, false) z (corn muls (eAt D x) (eAt D y)).1 (corn muls (eAt D x) (eAt D y)).2).1 ∧ ((cutA (D, false) z (corn muls (eAt D x) (eAt D y)).1 (corn muls (eAt D x) (eAt D y)).2).2 = true → (timesA D x y z).2 = true) := by
  obtain ⟨a1, -, -⟩ := cut_ok (corn muls (eAt D x) (eAt D y)).1 (corn muls (eAt D x) (eAt D y)).2 (ok_start hD) hz
  unfold timesA
  generalize cutA (D, false) z (corn muls (eAt D x) (eAt D y)).1 (corn muls (eAt D x) (eAt D y)).2 = s1 at a1 ⊢
  obtain ⟨b1, b2, b3⟩ := lose_ok (z := z) a1 hx hy
  obtain ⟨c1, c2, c3⟩ := div_ok (y := y) (z := z) b1 hx
  obtain ⟨d1, d2, d3⟩ := div_ok (y := x) (z := z) c1 hy
  exact ⟨d1, d2.trans (c2.trans b2), fun h => d3 (c3 (b3 h))⟩
theorem lesser_ok (hD : DOk D) (hx : 0 ≤ x ∧ x < D.length) (hy : 0 ≤ y ∧ y < D.length) (hz : 0 ≤ z ∧ z < D.length) : OkA D (lesserA D x y z) ∧
    LeD (lesserA D x y z).1 (cutA (D, false) z (min (eAt D x).1 (eAt D y).1) (min (eAt D x).2 (eAt D y).2)).1 ∧ ((cutA (D, false) z (min (eAt D x).1 (eAt D y).1) (min (eAt D x).2 (eAt D y).2)).2 = true → (lesserA D x y z).2 = true) := by
  obtain ⟨a1, -, -⟩ := cut_ok (min (eAt D x).1 (eAt D y).1) (min (eAt D x).2 (eAt D y).2) (ok_start hD) hz
  unfold lesserA lesser3
  generalize cutA (D, false) z (min (eAt D x).1 (eAt D y).1) (min (eAt D x).2 (eAt D y).2) = s1 at a1 ⊢
  obtain ⟨b1, b2, b3⟩ := cut_ok (eAt s1.1 z).1 1048576 a1 hx
  generalize cutA s1 x (eAt s1.1 z).1 1048576 = s2 at b1 b2 b3 ⊢
  obtain ⟨c1, c2, c3⟩ := cut_ok (eAt s2.1 z).1 1048576 b1 hy
  generalize cutA s2 y (eAt s2.1 z).1 1048576 = s3 at c1 c2 c3 ⊢
  obtain ⟨d1, d2, d3⟩ := cap_ok (x := x) (z := z) c1 hy
  obtain ⟨e1, e2, e3⟩ := cap_ok (x := y) (z := z) d1 hx
  exact ⟨e1, e2.trans (d2.trans (c2.trans b2)), fun h => e3 (d3 (c3 (b3 h)))⟩
theorem greater_ok (hD : DOk D) (hx : 0 ≤ x ∧ x < D.length) (hy : 0 ≤ y ∧ y < D.length) (hz : 0 ≤ z ∧ z < D.length) : OkA D (greaterA D x y z) ∧
    LeD (greaterA D x y z).1 (cutA (D, false) z (max (eAt D x).1 (eAt D y).1) (max (eAt D x).2 (eAt D y).2)).1 ∧ ((cutA (D, false) z (max (eAt D x).1 (eAt D y).1) (max (eAt D x).2 (eAt D y).2)).2 = true → (greaterA D x y z).2 = true) := by
  obtain ⟨a1, -, -⟩ := cut_ok (max (eAt D x).1 (eAt D y).1) (max (eAt D x).2 (eAt D y).2) (ok_start hD) hz
  unfold greaterA greater3
  generalize cutA (D, false) z (max (eAt D x).1 (eAt D y).1) (max (eAt D x).2 (eAt D y).2) = s1 at a1 ⊢
  obtain ⟨b1, b2, b3⟩ := cut_ok (-1048576) (eAt s1.1 z).2 a1 hx
  generalize cutA s1 x (-1048576) (eAt s1.1 z).2 = s2 at b1 b2 b3 ⊢
  obtain ⟨c1, c2, c3⟩ := cut_ok (-1048576) (eAt s2.1 z).2 b1 hy
  generalize cutA s2 y (-1048576) (eAt s2.1 z).2 = s3 at c1 c2 c3 ⊢
  obtain ⟨d1, d2, d3⟩ := cup_ok (x := x) (z := z) c1 hy
  obtain ⟨e1, e2, e3⟩ := cup_ok (x := y) (z := z) d1 hx
  exact ⟨e1, e2.trans (d2.trans (c2.trans b2)), fun h => e3 (d3 (c3 (b3 h)))⟩
theorem size_ok (hD : DOk D) (hx : 0 ≤ x ∧ x < D.length) (hy : 0 ≤ y ∧ y < D.length) : OkA D (sizeA D x y) ∧ LeD (sizeA D x y).1 (size1 D x y).1 ∧ ((size1 D x y).2 = true → (sizeA D x y).2 = true) := by
  obtain ⟨a1, -, -⟩ := cut_ok (max (max (eAt D x).1 (-(eAt D x).2)) 0) (max (eAt D x).2 (-(eAt D x).1)) (ok_start hD) hy
  have a1 : OkA D (size1 D x y) := a1
  unfold sizeA
  generalize size1 D x y = s1 at a1 ⊢
  obtain ⟨b1, b2, b3⟩ := cut_ok (-(eAt s1.1 y).2) (eAt s1.1 y).2 a1 hx
  have b1 : OkA D (size2 s1 x y) := b1
  have b2 : LeD (size2 s1 x y).1 s1.1 := b2
  have b3 : s1.2 = true → (size2 s1 x y).2 = true := b3
  obtain ⟨c1, c2, c3⟩ := size3_ok (y := y) b1 hx
  exact ⟨c1, c2.trans b2, fun h => c3 (b3 h)⟩
theorem same_ok (hD : DOk D) (hx : 0 ≤ x ∧ x < D.length) (hy : 0 ≤ y ∧ y < D.length) : (OkA D (sameA D x y) ∨ (sameA D x y).2 = true) ∧ (sameA D x y).1.length = D.length := by
  have r1 := dom_right (hD x hx.1 hx.2)
  have r2 := dom_right (hD y hy.1 hy.2)
  obtain ⟨m1, m2⟩ := meetS_facts r1.1 r2.1
  obtain ⟨a1, a2, a3⟩ := put_ok (l := meetS (rowOf D x) (rowOf D y)) (ok_start hD) hx ⟨m1, r1.1, fun v hv => ((m2 v).1 hv).1⟩
  unfold sameA
  by_cases h0 : (meetS (rowOf D x) (rowOf D y)).length = 0
  · have hp : putA (D, false) x (meetS (rowOf D x) (rowOf D y)) = (D, true) := by unfold putA; rw [if_pos h0]
    rw [hp]
    unfold putA
    split
    · exact ⟨.inr rfl, rfl⟩
    · exact ⟨.inr rfl, by simp⟩
  · have hp : putA (D, false) x (meetS (rowOf D x) (rowOf D y)) = (D.set x.toNat (meetS (rowOf D x) (rowOf D y)), false) := by unfold putA; rw [if_neg h0]
    rw [hp] at a1 ⊢
    have hrx : rowOf (D.set x.toNat (meetS (rowOf D x) (rowOf D y))) x = meetS (rowOf D x) (rowOf D y) := by rw [row_set hx.1 hx.2 hx.1, if_pos rfl]
    have hsub : Sub (rowOf (D.set x.toNat (meetS (rowOf D x) (rowOf D y))) x) (rowOf (D.set x.toNat (meetS (rowOf D x) (rowOf D y))) y) := by
      rw [hrx, row_set hx.1 hx.2 hy.1]
      split
      · exact ⟨m1, m1, fun v h => h⟩
      · exact ⟨m1, r2.1, fun v hv => ((m2 v).1 hv).2⟩
    obtain ⟨b1, b2, -⟩ := put_ok (s := (D.set x.toNat (meetS (rowOf D x) (rowOf D y)), false)) a1 hy hsub
    exact ⟨.inl b1, by have := b1.1.1; omega⟩
end
/-! smaller domains lead to smaller ones -/
section
variable {S D : List (List Rg)} {s t : Sd} {x y z : Int}
theorem sub_empty' {r : List Rg} (h : Sub r []) : r = [] := by
  cases r with
  | nil => rfl
  | cons a l =>
    exfalso
    have := right_rg h.1 (k := 0) (x := a.1) (y := a.2) rfl
    exact mem_nil a.1 (h.2.2 a.1 ⟨a, by simp, Int.le_refl _, this.1⟩)
end
section
variable {S D : List (List Rg)} {x y z : Int} (hle : LeD S D) (hS : DOk S) (hD : DOk D) (hx : 0 ≤ x ∧ x < D.length) (hy : 0 ≤ y ∧ y < D.length)
include hle hS hD hx hy
end
/-! what a model of one such constraint says -/
theorem arith_idx {c : Con} {D : List (List Rg)} (hK : aKind c.1) (hm : modB (D, [c], 0, 0) = true) : D.length ≤ 64 ∧ DOk D ∧ (0 ≤ xat c.2.1 0 ∧ xat c.2.1 0 < D.length) ∧ (0 ≤ xat c.2.1 1 ∧ xat c.2.1 1 < D.length) ∧
    (c.1 = 7 ∨ c.1 = 8 ∨ c.1 = 9 → c.2.1.length = 3 ∧ 0 ≤ xat c.2.1 2 ∧ xat c.2.1 2 < D.length) ∧ (c.1 = 10 ∨ c.1 = 15 → c.2.1.length = 2) ∧ c.2.2.1.length = 0 := by
  obtain ⟨f1, f2, f3⟩ := one_facts hm
  obtain ⟨g1, g2, g3, g4, g5⟩ := may_facts f3
  simp only [formedB, Bool.and_eq_true] at g1
  have gc := g1.1.2
  have hD : DOk D := fun x h0 h1 => f2 _ (row_mem ⟨h0, h1⟩)
  have hlen : (c.1 = 7 ∨ c.1 = 8 ∨ c.1 = 9 → c.2.1.length = 3) ∧ (c.1 = 10 ∨ c.1 = 15 → c.2.1.length = 2) ∧ c.2.2.1.length = 0 := by
    unfold aKind at hK
    have gs : (shp c.1).1 = 0 ∧ (shp c.1).2.1 = (if c.1 = 10 ∨ c.1 = 15 then 2 else 3) ∧ (shp c.1).2.2.1 = 0 := by
      rcases hK with h | h | h | h | h <;> rw [h] <;> decide
    unfold countsB at gc
    rw [if_pos gs.1, gs.2.1, gs.2.2] at gc
    simp only [Bool.and_eq_true, decide_eq_true_eq] at gc
    split at gc <;> omega
  have h2 : 2 ≤ c.2.1.length := by unfold aKind at hK; omega
  exact ⟨f1, hD, g3 0 (by omega), g3 1 (by omega), fun h => ⟨hlen.1 h, g3 2 (by have := hlen.1 h; omega)⟩, hlen.2.1, hlen.2.2⟩
/-- which step cuts the last variable first -/
theorem arith_ok {c : Con} {D : List (List Rg)} (hK : aKind c.1) (hm : modB (D, [c], 0, 0) = true) : (OkA D (arithS c.1 D c.2.1) ∨ (arithS c.1 D c.2.1).2 = true) ∧ (arithS c.1 D c.2.1).1.length = D.length := by
  obtain ⟨f1, hD, h0, h1, h2, -, -⟩ := arith_idx hK hm
  have key : ∀ s : Sd, OkA D s → (OkA D s ∨ s.2 = true) ∧ s.1.length = D.length := fun s h => ⟨.inl h, h.1.1⟩
  unfold arithS
  unfold aKind at hK
  rcases hK with h | h | h | h | h <;> rw [h] at h2 ⊢ <;> simp only [show ¬ (8 : Int) = 7 by decide, show ¬ (9 : Int) = 7 by decide, show ¬ (9 : Int) = 8 by decide, show ¬ (10 : Int) = 7 by decide, show ¬ (10 : Int) = 8 by decide, show ¬ (10 : Int) = 9 by decide, show ¬ (15 : Int) = 7 by decide, show ¬ (15 : Int) = 8 by decide, show ¬ (15 : Int) = 9 by decide, show ¬ (15 : Int) = 10 by decide, if_true, if_false]
  · exact key _ (times_ok hD h0 h1 (h2 (by simp)).2).1
  · exact key _ (lesser_ok hD h0 h1 (h2 (by simp)).2).1
  · exact key _ (greater_ok hD h0 h1 (h2 (by simp)).2).1
  · exact key _ (size_ok hD h0 h1).1
  · exact same_ok hD h0 h1
theorem arith_l {c : Con} {D : List (List Rg)} (hK : aKind c.1) (hm : modB (D, [c], 0, 0) = true) : arithL c D = tellA (arithS c.1 D c.2.1) := by
  unfold arithL
  rw [if_pos hm, if_pos (show c.1 = 7 ∨ c.1 = 8 ∨ c.1 = 9 ∨ c.1 = 10 ∨ c.1 = 15 from hK)]
theorem arith_res {c : Con} {D : List (List Rg)} (hK : aKind c.1) (hm : modB (D, [c], 0, 0) = true) : arithL c D = ([], 12) ∨ ∃ E, arithL c D = (E, 0) ∧ LeD E D ∧ ∀ r ∈ E, 0 < r.length := by
  rw [arith_l hK hm]
  obtain ⟨h1, h2⟩ := arith_ok hK hm
  generalize arithS c.1 D c.2.1 = s at h1 h2 ⊢
  obtain ⟨E, b⟩ := s
  cases b
  · rcases h1 with h1 | h1
    · refine .inr ⟨E, rfl, h1.1, fun r hr => ?_⟩
      obtain ⟨i, hi, rfl⟩ := List.getElem_of_mem hr
      have hx : 0 ≤ (i : Int) ∧ (i : Int) < E.length := by omega
      have h3 := dom_right (h1.2 i hx.1 hx.2)
      have e : rowOf E (i : Int) = E[i] := by
        have := row_get hx
        rw [Int.toNat_natCast, List.getElem?_eq_getElem hi] at this
        injection this with this
        exact this.symm
      rw [e] at h3
      exact h3.2
    · cases h1
  · exact .inl rfl
/-! one value each -/
section
variable {a : List Int} (hb : ∀ v ∈ a, -1048576 ≤ v ∧ v ≤ 1048576)
include hb
end
end Go.Proofs.Ytbhigfllanblpaa
