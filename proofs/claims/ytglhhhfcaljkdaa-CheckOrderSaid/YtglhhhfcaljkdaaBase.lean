/- Words of my own for memory: slices that read as lists, what a call leaves, how arguments are opened. No function of the program in sight. -/
import Derived.WalkKit
import Derived.WalkSpells
import Derived.WalkLawsBesides
import Derived.Handy
import Derived.ProofKit
import Derived.Carry
import Derived.ChangeOld
import Derived.OpenShut
import Derived.Below
import Derived.Deep.Slices
import Derived.Deep.Fields
import Derived.Lib.SmallJoins
import Derived.Deep.Draws
import Derived.Deep.QuietTactic
import Derived.BigQuiet
import Derived.Test.YtglhhhfcaljkdaaPlCheck
namespace Go.Proofs.Ytglhhhfcaljkdaa
open Go.RowKit
set_option linter.unusedVariables false

theorem hid {p : Prop} (h : p) : Hid p := h

/-- It returns v; of the world only draws have been made. -/
def RetQ (v : Value) (w : World) (e : Ending) (w' : World) : Prop := e = .returned v ∧ ∃ n, w' = w.drewN n
theorem RetQ.same {v : Value} {w : World} : RetQ v w (.returned v) w := ⟨rfl, 0, rfl⟩
/-- It returns v; what there was is as it was. -/
def RetB (v : Value) (w : World) (e : Ending) (w' : World) : Prop := e = .returned v ∧ Below w.heap.size w w'
/-- It returns a value of which P holds in the new world; what there was is as it was. -/
def RetP (P : Value → World → Prop) (w : World) (e : Ending) (w' : World) : Prop := ∃ v, e = .returned v ∧ Below w.heap.size w w' ∧ P v w'
theorem ret3_eq {k l m : IntKind} {a b c d x y : Int} (h : a = c) (h' : b = d) (h'' : x = y) : Ending.returned (.tuple #[.int k a, .int l b, .int m x]) = .returned (.tuple #[.int k c, .int l d, .int m y]) := by rw [h, h', h'']
theorem ret2_eq {k l : IntKind} {a b c d : Int} (h : a = c) (h' : b = d) : Ending.returned (.tuple #[.int k a, .int l b]) = .returned (.tuple #[.int k c, .int l d]) := by rw [h, h']
theorem ret1_eq {k : IntKind} {a c : Int} (h : a = c) : Ending.returned (.int k a) = .returned (.int k c) := by rw [h]
theorem retb_eq {a c : Bool} (h : a = c) : Ending.returned (.bool a) = .returned (.bool c) := by rw [h]
theorem below_drewN {B : Nat} {a w : World} (h : Below B a w) (n : Nat) : Below B a (w.drewN n) := ⟨h.os, h.tape, h.output, h.size, h.block⟩
theorem below_q (w : World) (n : Nat) : Below w.heap.size w (w.drewN n) := below_drewN (Below.refl _ _) n

theorem quiet1 {P : Program} {f : FuncId} {args : Array Value} {w : World} {n : Nat} {v : Value} (h : Calls P f args (w.drewN n) (RetQ v (w.drewN n))) :
    Calls P f args (w.drewN n) fun e w'' => e = .returned v ∧ ∃ m, w'' = w.drewN m :=
  h.mono fun _ _ ⟨he, m, hm⟩ => ⟨he, n + m, by rw [hm, World.drewN_drewN]⟩
theorem quiet2 {P : Program} {f : FuncId} {args : Array Value} {w : World} {a n : Nat} {v : Value} (h : Calls P f args (w.drewN (a + n)) (RetQ v (w.drewN (a + n)))) :
    Calls P f args (w.drewN (a + n)) fun e w'' => e = .returned v ∧ ∃ m, w'' = w.drewN (a + m) :=
  h.mono fun _ _ ⟨he, m, hm⟩ => ⟨he, n + m, by rw [hm, World.drewN_drewN, Nat.add_assoc]⟩
theorem block_add (a : Addr) (n : Nat) : (a.add n).block = a.block := by unfold Addr.add; split <;> rfl
theorem add_add (a : Addr) (i j : Nat) : (a.add i).add j = a.add (i + j) := by
  unfold Addr.add
  by_cases hi : i = 0 <;> by_cases hj : j = 0 <;> simp [hi, hj, Nat.add_assoc]

/-- The slice value v has n elements of sz cells each, in blocks from lo on and below hi: the cells xs. -/
def CellsR (w : World) (lo hi : Nat) (v : Value) (n sz : Nat) (xs : List Value) : Prop :=
  ∃ (A : Option Addr) (c : Nat), v = .slice A n c ∧ n ≤ c ∧ c ≤ maxLen ∧ xs.length = n * sz ∧
    (0 < n → ∃ a, A = some a ∧ lo ≤ a.block ∧ a.block < hi ∧ ∀ j u, xs[j]? = some u → w.cell? (a.add j) = some u)
section
variable {w w' : World} {lo hi lo' hi' n sz : Nat} {v : Value} {xs : List Value}
theorem CellsR.nil (w : World) (lo hi sz : Nat) : CellsR w lo hi (.slice none 0 0) 0 sz [] := ⟨none, 0, rfl, Nat.le_refl _, by decide, by simp, fun h => absurd h (by omega)⟩
theorem CellsR.mono (h : CellsR w lo hi v n sz xs) (h1 : lo' ≤ lo) (h2 : hi ≤ hi') : CellsR w lo' hi' v n sz xs := by
  obtain ⟨A, c, h3, h4, h5, h6, h7⟩ := h
  refine ⟨A, c, h3, h4, h5, h6, fun hn => ?_⟩
  obtain ⟨a, h8, h9, h10, h11⟩ := h7 hn
  exact ⟨a, h8, by omega, by omega, h11⟩
theorem CellsR.keep (h : CellsR w lo hi v n sz xs) (hk : ∀ p : Addr, lo ≤ p.block → p.block < hi → w'.cell? p = w.cell? p) : CellsR w' lo hi v n sz xs := by
  obtain ⟨A, c, h3, h4, h5, h6, h7⟩ := h
  refine ⟨A, c, h3, h4, h5, h6, fun hn => ?_⟩
  obtain ⟨a, h8, h9, h10, h11⟩ := h7 hn
  exact ⟨a, h8, h9, h10, fun j u hu => (hk _ (by rw [block_add]; exact h9) (by rw [block_add]; exact h10)).trans (h11 j u hu)⟩
theorem CellsR.below (h : CellsR w lo hi v n sz xs) (hb : Below hi w w') : CellsR w' lo hi v n sz xs := h.keep fun _ _ hp => hb.cell hp
theorem CellsR.of_own {base : Nat} {e : TypeId} (h : w.ownsRow base e sz v n xs) : CellsR w base w.heap.size v n sz xs := by
  have h' := h
  obtain ⟨h1, h2⟩ := h
  rcases h2 with ⟨rfl, rfl⟩ | ⟨g, cap, cur, rfl, hb, hg, hc, hm, _, _⟩
  · exact ⟨none, 0, rfl, Nat.le_refl _, by decide, by simpa using h1, fun h => absurd h (by omega)⟩
  · exact ⟨_, _, rfl, hc, hm, h1, fun _ => ⟨_, rfl, hb, (Array.getElem?_eq_some_iff.1 hg).1, h'.cells (g := g) rfl⟩⟩
end

/-- A choice for every place, as a list. -/
theorem list_choice {α : Type} {P : Nat → α → Prop} : ∀ n : Nat, (∀ i, i < n → ∃ x, P i x) → ∃ l : List α, l.length = n ∧ ∀ i x, l[i]? = some x → P i x
  | 0, _ => ⟨[], rfl, fun i x h => by simp at h⟩
  | n + 1, h => by
    obtain ⟨l, hl, hp⟩ := list_choice n fun i hi => h i (by omega)
    obtain ⟨x, hx⟩ := h n (by omega)
    refine ⟨l ++ [x], by simp [hl], fun i y hy => ?_⟩
    rw [List.getElem?_append] at hy
    split at hy
    · exact hp i y hy
    · rename_i hi
      have hi' : i - l.length < 1 := by
        rcases Nat.lt_or_ge (i - l.length) 1 with h | h
        · exact h
        · rw [List.getElem?_eq_none (by simpa using h)] at hy; cases hy
      have e : i = n := by omega
      subst e
      rw [show i - l.length = 0 by omega] at hy
      simp at hy
      exact hy ▸ hx

/-! ### integers -/
def IntsR (w : World) (lo hi : Nat) (v : Value) (l : List Int) : Prop := CellsR w lo hi v l.length 1 (l.map (Value.int .i64))
section
variable {w w' : World} {lo hi lo' hi' : Nat} {v : Value} {l : List Int}
theorem IntsR.nil (w : World) (lo hi : Nat) : IntsR w lo hi (.slice none 0 0) [] := CellsR.nil w lo hi 1
theorem IntsR.mono (h : IntsR w lo hi v l) (h1 : lo' ≤ lo) (h2 : hi ≤ hi') : IntsR w lo' hi' v l := CellsR.mono h h1 h2
theorem IntsR.below (h : IntsR w lo hi v l) (hb : Below hi w w') : IntsR w' lo hi v l := CellsR.below h hb
/-- What a walk wants of it. -/
theorem IntsR.open_ (h : IntsR w lo hi v l) : ∃ (A : Option Addr) (c : Nat), v = .slice A l.length c ∧ l.length ≤ c ∧ c ≤ 9223372036854775807 ∧
    ∀ k, k < l.length → ∃ a, A = some a ∧ a.block < hi ∧ ∀ j, j < l.length → w.cell? (a.add j) = some (.int .i64 (l.getD j 0)) := by
  obtain ⟨A, c, h1, h2, h3, h4, h5⟩ := h
  refine ⟨A, c, h1, h2, by simpa [maxLen] using h3, fun k hk => ?_⟩
  obtain ⟨a, h6, h7, h8, h9⟩ := h5 (by omega)
  refine ⟨a, h6, h8, fun j hj => h9 j _ ?_⟩
  rw [List.getElem?_map, List.getElem?_eq_getElem hj]
  simp [List.getD_eq_getElem?_getD, List.getElem?_eq_getElem hj]
end

/-! ### a block that is known whole -/
def Blk (w : World) (g : Nat) (t : TypeId) (cs : Array Value) : Prop := w.heap[g]? = some (.cells cs t (0, 0))
section
variable {w w' : World} {g : Nat} {t : TypeId} {cs : Array Value}
theorem Blk.lt (h : Blk w g t cs) : g < w.heap.size := (Array.getElem?_eq_some_iff.1 h).1
theorem Blk.cell (h : Blk w g t cs) (i : Nat) : w.cell? ⟨g, i, none⟩ = cs[i]? := cell_of_row w g i cs t (0, 0) h
theorem Blk.frozen (h : Blk w g t cs) (i : Nat) : w.frozen? ⟨g, i, none⟩ = false := by
  unfold Blk at h
  simp [World.frozen?, h]
theorem Blk.new (w : World) (t : TypeId) (cs : Array Value) : Blk (w.alloc (.cells cs t)) w.heap.size t cs := heap_alloc_new w _
theorem Blk.at_ (w : World) (t : TypeId) (cs : Array Value) {g : Nat} (hg : g = w.heap.size) : Blk (w.alloc (.cells cs t)) g t cs := by subst hg; exact heap_alloc_new w _
theorem Blk.drewN (h : Blk w g t cs) (n : Nat) : Blk (w.drewN n) g t cs := h
theorem Blk.alloc (h : Blk w g t cs) (o : Obj) : Blk (w.alloc o) g t cs := (Below.heap_alloc w o g h.lt).trans h
theorem Blk.set_ (h : Blk w g t cs) (i : Nat) (u : Value) : Blk (w.setCell ⟨g, i, none⟩ u) g t (cs.setIfInBounds i u) := by
  unfold Blk at h ⊢
  simp [World.setCell, Array.getElem?_modify, h]
theorem Blk.far (h : Blk w g t cs) {p : Addr} (hp : g ≠ p.block) (u : Value) : Blk (w.setCell p u) g t cs := (Below.heap_setCell w p u g hp).trans h
theorem Blk.below {B : Nat} (h : Blk w g t cs) (hb : Below B w w') (hg : g < B) : Blk w' g t cs := (hb.block g hg).trans h
theorem Blk.cells {lo n sz : Nat} {xs : List Value} (h : Blk w g t cs) (hx : cs.toList = xs) (hl : xs.length = n * sz) (hlo : lo ≤ g) (hm : n ≤ maxLen) :
    CellsR w lo w.heap.size (.slice (some ⟨g, 0, none⟩) n n) n sz xs := by
  refine ⟨_, _, rfl, Nat.le_refl _, hm, hl, fun _ => ⟨_, rfl, hlo, h.lt, fun j u hu => ?_⟩⟩
  have e : (⟨g, 0, none⟩ : Addr).add j = ⟨g, j, none⟩ := by unfold Addr.add; split <;> simp_all
  rw [e, h.cell, ← hu, ← hx]
  simp
theorem Blk.ints {lo : Nat} {l : List Int} (h : Blk w g t cs) (hx : cs.toList = l.map (Value.int .i64)) (hlo : lo ≤ g) (hm : l.length ≤ maxLen) :
    IntsR w lo w.heap.size (.slice (some ⟨g, 0, none⟩) l.length l.length) l := h.cells hx (by simp) hlo hm
end

/-! ### opening what came in -/
section
open Go.ChangeShapes Go.WideShapes Go.Deep
variable {H : Type} {enc : TypeId × Value → H} {P : Program} {w : World} {base : Nat} {held : Bool}
theorem wf_I64 {n : Int} (h : (Lit.int .i64 n).wf = true) : I64 n := bounds_i64 h
theorem I64_wf {n : Int} (h : I64 n) : (Lit.int .i64 n).wf = true := WalkArith.wf_i64 h
theorem okWide_slice' {P : Program} {w : World} {r : Reach} {b0 : Nat} {t e : TypeId} {v : Value} (ht : P.underlying t = some (.slice e)) (hv : Value.okWide P w r b0 t v) : ∃ A n c, v = .slice A n c := by
  obtain ⟨a, n, c, h⟩ := okWide_slice ht hv
  exact ⟨a, n, c, h⟩
theorem opens_ints {t e : TypeId} {v : Value} {d : DataW H} {p : List MemPlace} (ht : P.underlying t = some (.slice e)) (he : P.underlying e = some (.int .i64)) (hc : P.cellsOf e = 1)
    (hv : ∃ A n c, v = .slice A n c) (h : DataW.Trod enc P w base (fun _ => true) held t v d p) : ∃ l, IntsR w 0 w.heap.size v l ∧ ∀ x ∈ l, I64 x := by
  obtain ⟨A, n, c, rfl⟩ := hv
  obtain ⟨fuel, hf⟩ := h
  rcases open_ints ht he hc hf with ⟨hcs, _⟩ | ⟨x, l, c', zs, hcs, _, hl, hm, hz, _, hcell, hwz⟩
  · simp [Value.cells] at hcs
    obtain ⟨rfl, rfl, rfl⟩ := hcs
    exact ⟨[], IntsR.nil _ _ _, by simp⟩
  · simp [Value.cells] at hcs
    obtain ⟨rfl, rfl, rfl⟩ := hcs
    simp only [if_true] at hz
    refine ⟨zs.take n, ⟨some x, c, ?_, ?_, hm, by simp, fun hn => ⟨x, rfl, Nat.zero_le _, ?_, fun j u hu => ?_⟩⟩, fun y hy => wf_I64 (hwz y (List.mem_of_mem_take hy))⟩
    · rw [List.length_take, Nat.min_eq_left (by omega)]
    · rw [List.length_take]; omega
    · have := block_lt_of_cell (hcell 0 (by rw [List.length_take] at hn; omega))
      rwa [block_add] at this
    · rw [List.getElem?_map] at hu
      have hj : j < zs.length ∧ (zs.take n)[j]? = some (zs.getD j 0) := by
        rw [List.getElem?_take] at hu ⊢
        split at hu
        · rename_i hjn
          refine ⟨by omega, ?_⟩
          rw [if_pos hjn, List.getElem?_eq_getElem (by omega)]
          simp [List.getD_eq_getElem?_getD, List.getElem?_eq_getElem (show j < zs.length by omega)]
        · cases hu
      rw [hj.2] at hu
      simp at hu
      rw [← hu]
      simpa using hcell j hj.1
end
end Go.Proofs.Ytglhhhfcaljkdaa
