/- Old walks over sets (PlCheck, Base). -/
import Derived.RowKit
import Derived.Laws.Small
import Derived.IntWalk
import Derived.WalkKit
import Derived.WalkSpells
import Derived.WalkLawsBesides
import Derived.Handy
import Derived.ProofKit
import Derived.Carry
import Derived.ChangeOld
import Derived.OpenShut
import Derived.Below
import Derived.Deep.Slices
import Derived.Deep.Fields
import Derived.Lib.SmallJoins
import Derived.Deep.Draws
import Derived.Deep.QuietTactic
import Derived.BigQuiet
/- Plain arithmetic for the package check and its reference: no program in sight. -/
namespace Go.Proofs.Ytbhigfllanblpaa.Old
open Go.RowKit
set_option linter.unusedVariables false

/-- A number of 64 bits. -/
def I64 (a : Int) : Prop := -9223372036854775808 ≤ a ∧ a ≤ 9223372036854775807

theorem I64.lo {a : Int} (h : I64 a) : -9223372036854775808 ≤ a := h.1
theorem I64.hi {a : Int} (h : I64 a) : a ≤ 9223372036854775807 := h.2

def fitB (n : Int) : Bool := decide (-9223372036854775808 ≤ n ∧ n ≤ 9223372036854775807)
theorem fitB_true {n : Int} : fitB n = true ↔ I64 n := by unfold fitB I64; simp
theorem fitB_false {n : Int} : fitB n = false ↔ (n < -9223372036854775808 ∨ 9223372036854775807 < n) := by
  unfold fitB; simp; omega

/-- The number, or nought; the error. -/
def fitV (n : Int) : Int := if fitB n then n else 0
def fitE (n : Int) : Int := if fitB n then 0 else 4

/-! ### products -/
def sizeN (a : Int) : Nat := a.natAbs
theorem sizeN_lt {a : Int} (h : I64 a) : sizeN a < 18446744073709551616 := by unfold sizeN I64 at *; omega
theorem sizeN_neg {a : Int} (h : I64 a) (hn : a < 0) : IntKind.u64.wrap (-IntKind.u64.wrap a) = (sizeN a : Int) := by
  unfold sizeN I64 at *; rw [IntKind.wrap_u64, IntKind.wrap_u64]; omega
theorem sizeN_pos {a : Int} (h : I64 a) (hn : 0 ≤ a) : IntKind.u64.wrap a = (sizeN a : Int) := by
  unfold sizeN I64 at *; rw [IntKind.wrap_u64]; omega

theorem prod_pos {a b : Int} (h : (a < 0 ↔ b < 0)) : a * b = ((sizeN a * sizeN b : Nat) : Int) := by
  unfold sizeN
  rw [Int.natCast_mul]
  by_cases ha : a < 0
  · have hb := h.1 ha
    rw [show ((a.natAbs : Nat) : Int) = -a by omega, show ((b.natAbs : Nat) : Int) = -b by omega, Int.neg_mul_neg]
  · have hb : ¬ b < 0 := fun x => ha (h.2 x)
    rw [show ((a.natAbs : Nat) : Int) = a by omega, show ((b.natAbs : Nat) : Int) = b by omega]
theorem prod_neg {a b : Int} (h : ¬ (a < 0 ↔ b < 0)) : a * b = - ((sizeN a * sizeN b : Nat) : Int) := by
  unfold sizeN
  rw [Int.natCast_mul]
  by_cases ha : a < 0
  · have hb : ¬ b < 0 := fun x => h ⟨fun _ => x, fun _ => ha⟩
    rw [show ((a.natAbs : Nat) : Int) = -a by omega, show ((b.natAbs : Nat) : Int) = b by omega, Int.neg_mul, Int.neg_neg]
  · have hb : b < 0 := Decidable.byContradiction fun x => h ⟨fun y => absurd y ha, fun y => absurd y x⟩
    rw [show ((a.natAbs : Nat) : Int) = a by omega, show ((b.natAbs : Nat) : Int) = -b by omega, Int.mul_neg, Int.neg_neg]

theorem mul_hi {p hi lo : Nat} (h1 : hi = p / 18446744073709551616) (hne : ¬ (hi : Int) = 0) : 18446744073709551616 ≤ p := by
  subst h1; omega
theorem mul_lo {p hi lo : Nat} (h1 : hi = p / 18446744073709551616) (h2 : lo = p % 18446744073709551616) (he : (hi : Int) = 0) : lo = p := by
  subst h1 h2; omega

theorem fit_big {a b : Int} (h : 18446744073709551616 ≤ sizeN a * sizeN b) : fitB (a * b) = false := by
  rw [fitB_false]
  by_cases hs : a < 0 ↔ b < 0
  · rw [prod_pos hs]; omega
  · rw [prod_neg hs]; omega
theorem fit_same {a b : Int} (hs : a < 0 ↔ b < 0) : (9223372036854775807 < ((sizeN a * sizeN b : Nat) : Int) → fitB (a * b) = false) ∧
    (((sizeN a * sizeN b : Nat) : Int) ≤ 9223372036854775807 → I64 (a * b) ∧ wrap64 ((sizeN a * sizeN b : Nat) : Int) = a * b) := by
  rw [prod_pos hs, fitB_false]
  unfold I64 wrap64
  omega
theorem fit_other {a b : Int} (hs : ¬ (a < 0 ↔ b < 0)) : (9223372036854775808 < ((sizeN a * sizeN b : Nat) : Int) → fitB (a * b) = false) ∧
    (((sizeN a * sizeN b : Nat) : Int) ≤ 9223372036854775808 → I64 (a * b) ∧ wrap64 (IntKind.u64.wrap (-((sizeN a * sizeN b : Nat) : Int))) = a * b) := by
  rw [prod_neg hs, fitB_false, IntKind.wrap_u64]
  unfold I64 wrap64
  omega
/-! ### quotients: rounded down, rounded up -/
theorem tdiv_small {a b : Int} (ha : I64 a) (h : 2 ≤ b.natAbs) : -4611686018427387904 ≤ a.tdiv b ∧ a.tdiv b ≤ 4611686018427387904 := by
  have h1 : (a.tdiv b).natAbs = a.natAbs / b.natAbs := Int.natAbs_tdiv a b
  have h2 : a.natAbs / b.natAbs ≤ a.natAbs / 2 := Nat.div_le_div_left h (by omega)
  unfold I64 at ha
  omega
/-! ### the reference's products: by the quotients that there may be -/
end Go.Proofs.Ytbhigfllanblpaa.Old
/- Words of my own for memory: slices that read as lists, what a call leaves, how arguments are opened. No function of the program in sight. -/
namespace Go.Proofs.Ytbhigfllanblpaa.Old
open Go.RowKit
set_option linter.unusedVariables false

theorem hid {p : Prop} (h : p) : Hid p := h

/-- It returns v; of the world only draws have been made. -/
def RetQ (v : Value) (w : World) (e : Ending) (w' : World) : Prop := e = .returned v ∧ ∃ n, w' = w.drewN n
theorem RetQ.same {v : Value} {w : World} : RetQ v w (.returned v) w := ⟨rfl, 0, rfl⟩
theorem ret2_eq {k l : IntKind} {a b c d : Int} (h : a = c) (h' : b = d) : Ending.returned (.tuple #[.int k a, .int l b]) = .returned (.tuple #[.int k c, .int l d]) := by rw [h, h']
theorem ret1_eq {k : IntKind} {a c : Int} (h : a = c) : Ending.returned (.int k a) = .returned (.int k c) := by rw [h]
theorem below_drewN {B : Nat} {a w : World} (h : Below B a w) (n : Nat) : Below B a (w.drewN n) := ⟨h.os, h.tape, h.output, h.size, h.block⟩
theorem block_add (a : Addr) (n : Nat) : (a.add n).block = a.block := by unfold Addr.add; split <;> rfl
theorem add_add (a : Addr) (i j : Nat) : (a.add i).add j = a.add (i + j) := by
  unfold Addr.add
  by_cases hi : i = 0 <;> by_cases hj : j = 0 <;> simp [hi, hj, Nat.add_assoc]

/-- The slice value v has n elements of sz cells each, in blocks from lo on and below hi: the cells xs. -/
def CellsR (w : World) (lo hi : Nat) (v : Value) (n sz : Nat) (xs : List Value) : Prop :=
  ∃ (A : Option Addr) (c : Nat), v = .slice A n c ∧ n ≤ c ∧ c ≤ maxLen ∧ (xs.length = n * sz ∧ (A = none → c = 0)) ∧
    (0 < n → ∃ a, A = some a ∧ lo ≤ a.block ∧ a.block < hi ∧ ∀ j u, xs[j]? = some u → w.cell? (a.add j) = some u)
section
variable {w w' : World} {lo hi lo' hi' n sz : Nat} {v : Value} {xs : List Value}
theorem CellsR.nil (w : World) (lo hi sz : Nat) : CellsR w lo hi (.slice none 0 0) 0 sz [] := ⟨none, 0, rfl, Nat.le_refl _, by decide, ⟨by simp, fun _ => rfl⟩, fun h => absurd h (by omega)⟩
theorem CellsR.mono (h : CellsR w lo hi v n sz xs) (h1 : lo' ≤ lo) (h2 : hi ≤ hi') : CellsR w lo' hi' v n sz xs := by
  obtain ⟨A, c, h3, h4, h5, h6, h7⟩ := h
  refine ⟨A, c, h3, h4, h5, h6, fun hn => ?_⟩
  obtain ⟨a, h8, h9, h10, h11⟩ := h7 hn
  exact ⟨a, h8, by omega, by omega, h11⟩
theorem CellsR.keep (h : CellsR w lo hi v n sz xs) (hk : ∀ p : Addr, lo ≤ p.block → p.block < hi → w'.cell? p = w.cell? p) : CellsR w' lo hi v n sz xs := by
  obtain ⟨A, c, h3, h4, h5, h6, h7⟩ := h
  refine ⟨A, c, h3, h4, h5, h6, fun hn => ?_⟩
  obtain ⟨a, h8, h9, h10, h11⟩ := h7 hn
  exact ⟨a, h8, h9, h10, fun j u hu => (hk _ (by rw [block_add]; exact h9) (by rw [block_add]; exact h10)).trans (h11 j u hu)⟩
theorem CellsR.below (h : CellsR w lo hi v n sz xs) (hb : Below hi w w') : CellsR w' lo hi v n sz xs := h.keep fun _ _ hp => hb.cell hp
end

/-! ### integers -/
def IntsR (w : World) (lo hi : Nat) (v : Value) (l : List Int) : Prop := CellsR w lo hi v l.length 1 (l.map (Value.int .i64))
section
variable {w w' : World} {lo hi lo' hi' : Nat} {v : Value} {l : List Int}
theorem IntsR.nil (w : World) (lo hi : Nat) : IntsR w lo hi (.slice none 0 0) [] := CellsR.nil w lo hi 1
theorem IntsR.mono (h : IntsR w lo hi v l) (h1 : lo' ≤ lo) (h2 : hi ≤ hi') : IntsR w lo' hi' v l := CellsR.mono h h1 h2
theorem IntsR.below (h : IntsR w lo hi v l) (hb : Below hi w w') : IntsR w' lo hi v l := CellsR.below h hb
/-- What a walk wants of it. -/
theorem IntsR.open_ (h : IntsR w lo hi v l) : ∃ (A : Option Addr) (c : Nat), v = .slice A l.length c ∧ l.length ≤ c ∧ c ≤ 9223372036854775807 ∧
    ∀ k, k < l.length → ∃ a, A = some a ∧ a.block < hi ∧ ∀ j, j < l.length → w.cell? (a.add j) = some (.int .i64 (l.getD j 0)) := by
  obtain ⟨A, c, h1, h2, h3, h4, h5⟩ := h
  refine ⟨A, c, h1, h2, by simpa [maxLen] using h3, fun k hk => ?_⟩
  obtain ⟨a, h6, h7, h8, h9⟩ := h5 (by omega)
  refine ⟨a, h6, h8, fun j hj => h9 j _ ?_⟩
  rw [List.getElem?_map, List.getElem?_eq_getElem hj]
  simp [List.getD_eq_getElem?_getD, List.getElem?_eq_getElem hj]
end

theorem IntsR.get {w : World} {lo hi : Nat} {A : Option Addr} {n c : Nat} {l : List Int} (h : IntsR w lo hi (.slice A n c) l) {k : Nat} (hk : k < l.length) :
    ∃ a, A = some a ∧ a.block < hi ∧ ∀ j x, l[j]? = some x → w.cell? (a.add j) = some (.int .i64 x) := by
  obtain ⟨A', c', h1, _, _, h4⟩ := h.open_
  injection h1 with h1 h2 h3
  subst h1
  obtain ⟨a, h5, h6, h7⟩ := h4 k hk
  refine ⟨a, h5, h6, fun j x hj => ?_⟩
  have hjl := (List.getElem?_eq_some_iff.1 hj).1
  have := h7 j hjl
  rwa [List.getD_eq_getElem?_getD, hj] at this

/-! ### ranges -/
abbrev Rg := Int × Int
def rcells : List Rg → List Value
  | [] => []
  | r :: l => .int .i64 r.1 :: .int .i64 r.2 :: rcells l
theorem rcells_length : ∀ l : List Rg, (rcells l).length = l.length * 2
  | [] => rfl
  | _ :: l => by simp [rcells, rcells_length l]; omega
theorem rcells_at : ∀ (l : List Rg) (k : Nat) (x y : Int), l[k]? = some (x, y) → (rcells l)[k * 2]? = some (.int .i64 x) ∧ (rcells l)[k * 2 + 1]? = some (.int .i64 y)
  | [], k, x, y, h => by simp at h
  | r :: l, 0, x, y, h => by simp at h; subst h; exact ⟨rfl, rfl⟩
  | r :: l, k + 1, x, y, h => by
    have ih := rcells_at l k x y (by simpa using h)
    rw [show (k + 1) * 2 = k * 2 + 1 + 1 by omega]
    simpa [rcells] using ih
theorem rcells_get {l : List Rg} {j : Nat} {u : Value} (h : (rcells l)[j]? = some u) : j < l.length * 2 := by
  rcases Nat.lt_or_ge j (l.length * 2) with h' | h'
  · exact h'
  · rw [List.getElem?_eq_none (by rw [rcells_length]; exact h')] at h; cases h
theorem rcells_of {l : List Rg} {f : Nat → Option Value} (h : ∀ k x y, l[k]? = some (x, y) → f (k * 2) = some (.int .i64 x) ∧ f (k * 2 + 1) = some (.int .i64 y)) :
    ∀ j u, (rcells l)[j]? = some u → f j = some u := by
  intro j u hu
  have hj := rcells_get hu
  have hk : j / 2 < l.length := by omega
  obtain ⟨x, y, hl⟩ : ∃ x y, l[j / 2]? = some (x, y) := ⟨_, _, List.getElem?_eq_getElem hk⟩
  have h1 := rcells_at l _ _ _ hl
  have h2 := h _ _ _ hl
  rcases Nat.mod_two_eq_zero_or_one j with hm | hm
  · have e : j / 2 * 2 = j := by omega
    rw [e] at h1 h2
    rw [h1.1] at hu
    rw [h2.1, hu]
  · have e : j / 2 * 2 + 1 = j := by omega
    rw [e] at h1 h2
    rw [h1.2] at hu
    rw [h2.2, hu]

def RngsR (w : World) (lo hi : Nat) (v : Value) (l : List Rg) : Prop := CellsR w lo hi v l.length 2 (rcells l)
section
variable {w w' : World} {lo hi lo' hi' : Nat} {v : Value} {l : List Rg}
theorem RngsR.nil (w : World) (lo hi : Nat) : RngsR w lo hi (.slice none 0 0) [] := CellsR.nil w lo hi 2
theorem RngsR.mono (h : RngsR w lo hi v l) (h1 : lo' ≤ lo) (h2 : hi ≤ hi') : RngsR w lo' hi' v l := CellsR.mono h h1 h2
theorem RngsR.below (h : RngsR w lo hi v l) (hb : Below hi w w') : RngsR w' lo hi v l := CellsR.below h hb
theorem RngsR.keep (h : RngsR w lo hi v l) (hk : ∀ p : Addr, lo ≤ p.block → p.block < hi → w'.cell? p = w.cell? p) : RngsR w' lo hi v l := CellsR.keep h hk
theorem add1 (a : Addr) (n : Nat) : (a.add n).add 1 = { block := (a.add n).block, off := (a.add n).off + 1 } := rfl
/-- What a walk wants of it. -/
theorem RngsR.open_ (h : RngsR w lo hi v l) : ∃ (A : Option Addr) (c : Nat), v = .slice A l.length c ∧ l.length ≤ c ∧ c ≤ 9223372036854775807 ∧
    ∀ k, k < l.length → ∃ a, A = some a ∧ lo ≤ a.block ∧ a.block < hi ∧ ∀ j x y, l[j]? = some (x, y) → w.cell? (a.add (j * 2)) = some (.int .i64 x) ∧ w.cell? { block := (a.add (j * 2)).block, off := (a.add (j * 2)).off + 1 } = some (.int .i64 y) := by
  obtain ⟨A, c, h1, h2, h3, h4, h5⟩ := h
  refine ⟨A, c, h1, h2, by simpa [maxLen] using h3, fun k hk => ?_⟩
  obtain ⟨a, h6, h7, h8, h9⟩ := h5 (by omega)
  refine ⟨a, h6, h7, h8, fun j x y hj => ?_⟩
  obtain ⟨h10, h11⟩ := rcells_at l j x y hj
  refine ⟨h9 _ _ h10, ?_⟩
  rw [← add1, add_add]
  exact h9 _ _ h11
theorem RngsR.get {A : Option Addr} {n c : Nat} (h : RngsR w lo hi (.slice A n c) l) {k : Nat} (hk : k < l.length) :
    ∃ a, A = some a ∧ lo ≤ a.block ∧ a.block < hi ∧ ∀ j x y, l[j]? = some (x, y) → w.cell? (a.add (j * 2)) = some (.int .i64 x) ∧ w.cell? { block := (a.add (j * 2)).block, off := (a.add (j * 2)).off + 1 } = some (.int .i64 y) := by
  obtain ⟨A', c', h1, _, _, h4⟩ := h.open_
  injection h1 with h1 h2 h3
  subst h1
  exact h4 k hk
theorem at_rg {l : List Rg} {k : Nat} (h : k < l.length) : ∃ x y, l[k]? = some (x, y) := ⟨_, _, List.getElem?_eq_getElem h⟩
theorem drop_at {α : Type} {l : List α} {k : Nat} {x : α} (h : l[k]? = some x) : l.drop k = x :: l.drop (k + 1) := by
  obtain ⟨h1, h2⟩ := List.getElem?_eq_some_iff.1 h
  rw [List.drop_eq_getElem_cons h1, h2]
theorem mem_at {α : Type} {l : List α} {k : Nat} {x : α} (h : l[k]? = some x) : x ∈ l := List.mem_of_getElem? h
end

/-! ### lists of ranges -/
/-- A slice of sets: its own cells in blocks from lo on, the sets' cells in blocks from lo' on. -/
def DomsR (w : World) (lo lo' hi : Nat) (v : Value) (L : List (List Rg)) : Prop :=
  ∃ us : List Value, CellsR w lo hi v L.length 1 us ∧ ∀ (k : Nat) (u : Value) (l : List Rg), us[k]? = some u → L[k]? = some l → RngsR w lo' hi u l
section
variable {w w' : World} {lo hi lo' hi' l1 l2 : Nat} {v : Value} {L : List (List Rg)}
theorem DomsR.nil (w : World) (lo lo' hi : Nat) : DomsR w lo lo' hi (.slice none 0 0) [] := ⟨[], CellsR.nil w lo hi 1, fun k u l h => by simp at h⟩
theorem DomsR.mono (h : DomsR w lo lo' hi v L) (h1 : l1 ≤ lo) (h2 : l2 ≤ lo') (h3 : hi ≤ hi') : DomsR w l1 l2 hi' v L := by
  obtain ⟨us, h4, h5⟩ := h
  exact ⟨us, h4.mono h1 h3, fun k u l hu hl => (h5 k u l hu hl).mono h2 h3⟩
theorem DomsR.below (h : DomsR w lo lo' hi v L) (hb : Below hi w w') : DomsR w' lo lo' hi v L := by
  obtain ⟨us, h4, h5⟩ := h
  exact ⟨us, h4.below hb, fun k u l hu hl => (h5 k u l hu hl).below hb⟩
theorem DomsR.open_ (h : DomsR w lo lo' hi v L) : ∃ (A : Option Addr) (c : Nat), v = .slice A L.length c ∧ L.length ≤ c ∧ c ≤ 9223372036854775807 ∧
    ∀ k, k < L.length → ∃ a, A = some a ∧ lo ≤ a.block ∧ a.block < hi ∧ ∀ j l, L[j]? = some l → ∃ u, w.cell? (a.add j) = some u ∧ RngsR w lo' hi u l := by
  obtain ⟨us, ⟨A, c, h1, h2, h3, h4, h5⟩, h6⟩ := h
  refine ⟨A, c, h1, h2, by simpa [maxLen] using h3, fun k hk => ?_⟩
  obtain ⟨a, h7, h8, h9, h10⟩ := h5 (by omega)
  refine ⟨a, h7, h8, h9, fun j l hj => ?_⟩
  have hjl : j < us.length := by rw [h4.1, Nat.mul_one]; exact (List.getElem?_eq_some_iff.1 hj).1
  have hu := List.getElem?_eq_getElem hjl
  exact ⟨_, h10 _ _ hu, h6 _ _ _ hu hj⟩
theorem DomsR.get {A : Option Addr} {n c : Nat} (h : DomsR w lo lo' hi (.slice A n c) L) {k : Nat} (hk : k < L.length) :
    ∃ a, A = some a ∧ lo ≤ a.block ∧ a.block < hi ∧ ∀ j l, L[j]? = some l → ∃ u, w.cell? (a.add j) = some u ∧ RngsR w lo' hi u l := by
  obtain ⟨A', c', h1, _, _, h4⟩ := h.open_
  injection h1 with h1 h2 h3
  subst h1
  exact h4 k hk
end

/-! ### a block that is known whole -/
def Blk (w : World) (g : Nat) (t : TypeId) (cs : Array Value) : Prop := w.heap[g]? = some (.cells cs t (0, 0))
section
variable {w w' : World} {g : Nat} {t : TypeId} {cs : Array Value}
theorem Blk.lt (h : Blk w g t cs) : g < w.heap.size := (Array.getElem?_eq_some_iff.1 h).1
theorem Blk.cell (h : Blk w g t cs) (i : Nat) : w.cell? ⟨g, i, none⟩ = cs[i]? := cell_of_row w g i cs t (0, 0) h
theorem Blk.frozen (h : Blk w g t cs) (i : Nat) : w.frozen? ⟨g, i, none⟩ = false := by
  unfold Blk at h
  simp [World.frozen?, h]
theorem Blk.drewN (h : Blk w g t cs) (n : Nat) : Blk (w.drewN n) g t cs := h
theorem Blk.alloc (h : Blk w g t cs) (o : Obj) : Blk (w.alloc o) g t cs := (Below.heap_alloc w o g h.lt).trans h
theorem Blk.below {B : Nat} (h : Blk w g t cs) (hb : Below B w w') (hg : g < B) : Blk w' g t cs := (hb.block g hg).trans h
theorem Blk.two {p q : Value} (h : Blk w g t #[p, q]) : w.cell? ⟨g, 0, none⟩ = some p ∧ w.cell? ⟨g, 1, none⟩ = some q ∧ w.frozen? ⟨g, 0, none⟩ = false ∧ w.frozen? ⟨g, 1, none⟩ = false :=
  ⟨h.cell 0, h.cell 1, h.frozen 0, h.frozen 1⟩
theorem Blk.cells {lo n sz : Nat} {xs : List Value} (h : Blk w g t cs) (hx : cs.toList = xs) (hl : xs.length = n * sz) (hlo : lo ≤ g) (hm : n ≤ maxLen) :
    CellsR w lo w.heap.size (.slice (some ⟨g, 0, none⟩) n n) n sz xs := by
  refine ⟨_, _, rfl, Nat.le_refl _, hm, ⟨hl, fun h => by cases h⟩, fun _ => ⟨_, rfl, hlo, h.lt, fun j u hu => ?_⟩⟩
  have e : (⟨g, 0, none⟩ : Addr).add j = ⟨g, j, none⟩ := by unfold Addr.add; split <;> simp_all
  rw [e, h.cell, ← hu, ← hx]
  simp
end

/-! ### the tail of a slice -/
theorem RngsR.tail {w : World} {lo hi : Nat} {A : Option Addr} {n c : Nat} {l : List Rg} (h : RngsR w lo hi (.slice A n c) l) (k : Nat) (hk : k ≤ l.length) :
    RngsR w lo hi (.slice (if c = k then A else A.map (·.add (k * 2))) (n - k) (c - k)) (l.drop k) := by
  obtain ⟨A', c', h1, h2, h3, h4, h5⟩ := h
  injection h1 with h1 h6 h7
  subst h1 h6 h7
  rw [rcells_length] at h4
  refine ⟨_, _, by rw [List.length_drop], by rw [List.length_drop]; omega, by omega, ⟨by rw [rcells_length], fun hA => ?_⟩, fun hn => ?_⟩
  · split at hA
    · omega
    · simp at hA; have := h4.2 hA; omega
  · rw [List.length_drop] at hn
    obtain ⟨a, h8, h9, h10, h11⟩ := h5 (by omega)
    subst h8
    rw [if_neg (by omega)]
    refine ⟨_, rfl, by rw [block_add]; exact h9, by rw [block_add]; exact h10, rcells_of (fun j x y hj => ?_)⟩
    rw [List.getElem?_drop] at hj
    obtain ⟨h12, h13⟩ := rcells_at l (k + j) x y hj
    rw [add_add, add_add]
    exact ⟨h11 _ _ (by rw [← h12]; congr 1; omega), h11 _ _ (by rw [← h13]; congr 1; omega)⟩

/-! ### append onto a row of the call's own -/
section
variable {P : Program} (w : World)
end

/-! ### opening what came in -/
section
open Go.ChangeShapes Go.WideShapes Go.Deep
variable {H : Type} {enc : TypeId × Value → H} {P : Program} {w : World} {base : Nat} {held : Bool}
end
end Go.Proofs.Ytbhigfllanblpaa.Old
