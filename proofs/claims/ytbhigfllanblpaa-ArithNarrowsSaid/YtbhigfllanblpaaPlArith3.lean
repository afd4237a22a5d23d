/- The document's answer for products, lesser and greater ones, sizes, likeness, step by step; that it is the same. -/
import Derived.Test.YtbhigfllanblpaaPlArith
namespace Go.Proofs.Ytbhigfllanblpaa
open Av
attribute [local irreducible] awp awpOpers
set_option linter.unusedSimpArgs false
set_option linter.unusedVariables false
set_option linter.unusedSectionVars false
def rput (s : Sd) (x : Int) (l : List Rg) : Sd := if s.2 = true then s else (s.1.set x.toNat l, decide (l.length = 0))
def rcut (s : Sd) (x lo hi : Int) : Sd := if s.2 = true then s else rput s x (cutS lo hi (rowOf s.1 x))
def rlo (s : Sd) (x : Int) : Int := if s.2 = true then 0 else (eAt s.1 x).1
def rhi (s : Sd) (x : Int) : Int := if s.2 = true then 0 else (eAt s.1 x).2
def rlose (s : Sd) (x : Int) : Sd := if s.2 = true then s else rput s x (withoutS 0 (rowOf s.1 x))
def rquo (s : Sd) (x y z : Int) : Sd :=
  if s.2 = true ∨ (rlo s y ≤ 0 ∧ 0 ≤ rhi s y) then s else rcut s x (corn cel (rlo s z, rhi s z) (rlo s y, rhi s y)).1 (corn flr (rlo s z, rhi s z) (rlo s y, rhi s y)).2
def rt1 (s : Sd) (x y z : Int) : Sd := rcut s z (min (min (rlo s x * rlo s y) (rlo s x * rhi s y)) (min (rhi s x * rlo s y) (rhi s x * rhi s y))) (max (max (rlo s x * rlo s y) (rlo s x * rhi s y)) (max (rhi s x * rlo s y) (rhi s x * rhi s y)))
def rt2 (t : Sd) (x y z : Int) : Sd := if t.2 = false ∧ hasB (rowOf t.1 z) 0 = false then rlose (rlose t x) y else t
def rtimes (s : Sd) (x y z : Int) : Sd := rquo (rquo (rt2 (rt1 s x y z) x y z) x y z) y x z
def rl1 (s : Sd) (x y z : Int) : Sd := rcut s z (min (rlo s x) (rlo s y)) (min (rhi s x) (rhi s y))
def rl2 (t : Sd) (x z : Int) : Sd := rcut t x (rlo t z) 1099511627776
def rcap (t : Sd) (x y z : Int) : Sd := if rhi t z < rlo t x then rcut t y (-1099511627776) (rhi t z) else t
def rlesser (s : Sd) (x y z : Int) : Sd := rcap (rcap (rl2 (rl2 (rl1 s x y z) x z) y z) x y z) y x z
def rg1 (s : Sd) (x y z : Int) : Sd := rcut s z (max (rlo s x) (rlo s y)) (max (rhi s x) (rhi s y))
def rg2 (t : Sd) (x z : Int) : Sd := rcut t x (-1099511627776) (rhi t z)
def rcup (t : Sd) (x y z : Int) : Sd := if rhi t x < rlo t z then rcut t y (rlo t z) 1099511627776 else t
def rgreater (s : Sd) (x y z : Int) : Sd := rcup (rcup (rg2 (rg2 (rg1 s x y z) x z) y z) x y z) y x z
def rs1 (s : Sd) (x y : Int) : Sd := rcut s y 0 (max (rhi s x) (-rlo s x))
def rs2 (t : Sd) (x y : Int) : Sd := if 0 < rlo t x then rcut t y (rlo t x) 1099511627776 else t
def rs3 (t : Sd) (x y : Int) : Sd := if rhi t x < 0 then rcut t y (-rhi t x) 1099511627776 else t
def rs4 (t : Sd) (x y : Int) : Sd := rcut t x (-rhi t y) (rhi t y)
def rs5 (t : Sd) (x y : Int) : Sd := if t.2 = true ∨ rlo t y ≤ 0 then t else rput t x (cutS (-1099511627776) (-rlo t y) (rowOf t.1 x) ++ cutS (rlo t y) 1099511627776 (rowOf t.1 x))
def rsize (s : Sd) (x y : Int) : Sd := rs5 (rs4 (rs3 (rs2 (rs1 s x y) x y) x y) x y) x y
def rsm1 (s : Sd) (x y : Int) : Sd := rput s x (meetS (rowOf s.1 x) (rowOf s.1 y))
def rsame (s : Sd) (x y : Int) : Sd := if (rsm1 s x y).2 = true then rsm1 s x y else rput (rsm1 s x y) y (rowOf (rsm1 s x y).1 x)
/-- so many domains, right and none empty as long as it did not fail -/
def RS (n : Nat) (s : Sd) : Prop := n ≤ 64 ∧ s.1.length = n ∧ (s.2 = false → DOk s.1)
section
variable {n : Nat} {s t : Sd} {x y z : Int}
theorem rs_put {l : List Rg} (h : RS n s) (hx : 0 ≤ x ∧ x < n) (hl : s.2 = false → rightB l = true) : RS n (rput s x l) := by
  unfold rput
  split
  · exact h
  · rename_i hb
    have hb : s.2 = false := by cases h : s.2 <;> simp_all
    refine ⟨h.1, by rw [List.length_set]; exact h.2.1, fun h0 => ?_⟩
    simp only [decide_eq_false_iff_not] at h0
    exact set_dok (h.2.2 hb) (by have := h.2.1; omega) (hl hb) h0
theorem rs_row (h : RS n s) (hx : 0 ≤ x ∧ x < n) (hb : s.2 = false) : domB (rowOf s.1 x) = true := h.2.2 hb x hx.1 (by have := h.2.1; omega)
theorem rs_cut (lo hi : Int) (h : RS n s) (hx : 0 ≤ x ∧ x < n) : RS n (rcut s x lo hi) := by
  unfold rcut
  split
  · exact h
  · exact rs_put h hx fun hb => (cutS_facts lo hi (dom_right (rs_row h hx hb)).1).1
theorem rs_lose (h : RS n s) (hx : 0 ≤ x ∧ x < n) : RS n (rlose s x) := by
  unfold rlose
  split
  · exact h
  · exact rs_put h hx fun hb => (without_sub (dom_right (rs_row h hx hb)).1 _).1
theorem rs_quo (h : RS n s) (hx : 0 ≤ x ∧ x < n) : RS n (rquo s x y z) := by
  unfold rquo
  split
  · exact h
  · exact rs_cut _ _ h hx
theorem rl_facts (h : RS n s) (hx : 0 ≤ x ∧ x < n) : -1048576 ≤ rlo s x ∧ rlo s x ≤ rhi s x ∧ rhi s x ≤ 1048576 := by
  unfold rlo rhi
  cases hb : s.2
  · obtain ⟨-, -, -, h1, h2, h3⟩ := ends_facts (rs_row h hx hb)
    simp only [Bool.false_eq_true, if_false]
    exact ⟨h1, h2, h3⟩
  · simp
end
end Go.Proofs.Ytbhigfllanblpaa
