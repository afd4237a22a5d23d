/- The code of functions, as abstract code. Printed by program. What the functions of package model compute. What the functions of package model compute: whole models. What the functions of package model compute: may, Right. What the functions of package model compute: Right. -/
import Derived.Test.YtbmcjhjbifojnaaAv2
import Derived.Test.YtbmcjhjbifojnaaProg
import Derived.Test.YtbmcjhjbifojnaaPlS
namespace Go.Proofs.Ytbmcjhjbifojnaa
open Av
set_option linter.unusedVariables false
set_option maxRecDepth 100000
def kd_CModel (f : Nat) : Nat := 0
/- touchstone/model.within: slots n, 0, n, 1 -/
/- touchstone/model.truth: slots l, 0, l, 1 -/
/- touchstone/model.shapes: slots kind, 0, kind, 1 -/
/- touchstone/model.may$1: slots a, 0, a, 1 -/
/- touchstone/model.may: slots m, 0, c, 1, m, 2, c, 3, s, 5, _, 6, i, 7, x, 8 -/
/- touchstone/model.formed$2: slots a, 0, a, 1 -/
/- touchstone/model.formed$1: slots a, 0, a, 1 -/
/- touchstone/model.formed: slots c, 0, c, 1, s, 3, ok, 4 -/
/- touchstone/model.domain: slots l, 0, l, 1, i, 3, r, 4 -/
/- touchstone/model.Right: slots m, 0, m, 1, _, 3, d, 4, _, 5, c, 6 -/
/- (touchstone/model.shape).counts: slots s, 0, x, 1, a, 2, s, 3, x, 4, a, 5 -/
/- slices.IndexFunc[[]int64,int64]: slots s, 0, f, 1, s, 2, f, 3, i, 5 -/
/- slices.ContainsFunc[[]int64,int64]: slots s, 0, f, 1, s, 2, f, 3 -/
end Go.Proofs.Ytbmcjhjbifojnaa
namespace Go.Proofs.Ytbmcjhjbifojnaa
open Av
attribute [local irreducible] awp awpOpers
set_option linter.unusedSimpArgs false
set_option linter.unusedVariables false
set_option maxRecDepth 100000
def domB (l : List Rg) : Bool := rightB l && decide (1 ≤ l.length)
def truthB (l : List Rg) : Bool :=
  match l[0]?, l[l.length - 1]? with
  | some a, some b => decide (0 ≤ a.1) && decide (b.2 ≤ 1)
  | _, _ => false
abbrev Shp := Int × Int × Int × Bool × Int
def eShp (s : Shp) : AV := .agg [.int .i64 s.1, .int .i64 s.2.1, .int .i64 s.2.2.1, .bool s.2.2.2.1, .int .i64 s.2.2.2.2]
def shp (K : Int) : Shp :=
  if K = 1 ∨ K = 2 ∨ K = 3 then (1, 0, 0, true, 0) else if K = 4 ∨ K = 5 ∨ K = 6 then (1, 1, 0, true, 1) else if K = 7 ∨ K = 8 ∨ K = 9 then (0, 3, 0, false, 0)
  else if K = 10 ∨ K = 15 then (0, 2, 0, false, 0) else if K = 11 then (1, 0, 0, false, 2) else if K = 12 ∨ K = 13 then (2, 1, 0, false, 2) else if K = 14 then (0, 3, 0, false, 2)
  else if K = 16 then (3, 2, 0, false, 0) else if K = 17 then (2, 3, 0, false, 0) else if K = 18 then (2, 0, 0, false, 0) else if K = 19 then (4, 0, 0, true, 0) else (0, 0, 0, false, 0)
def kindB (K : Int) : Bool := decide (1 ≤ K) && decide (K ≤ 19)
def countsB (s : Shp) (x a : Int) : Bool :=
  if s.1 = 0 then decide (x = s.2.1) && decide (a = s.2.2.1) else if s.1 = 1 then decide (x = a + s.2.1) else if s.1 = 2 then decide (s.2.1 ≤ x) && decide (a = s.2.2.1)
  else if s.1 = 3 then decide (x = s.2.1) && decide (1 ≤ a) && decide (a ≤ 64) else decide (a = 2 * x)
end Go.Proofs.Ytbmcjhjbifojnaa
namespace Go.Proofs.Ytbmcjhjbifojnaa
open Av
attribute [local irreducible] awp awpOpers
set_option linter.unusedSimpArgs false
set_option linter.unusedVariables false
set_option maxRecDepth 100000
def idxV {α : Type} (p : α → Bool) (l : List α) : Int := match l.findIdx? p with
  | some k => k
  | none => -1
theorem idxV_none {α : Type} {p : α → Bool} {l : List α} (h : ∀ (j : Nat) x, l[j]? = some x → p x = false) : idxV p l = -1 := by
  unfold idxV
  have : l.findIdx? p = none := by
    rw [List.findIdx?_eq_none_iff]
    intro x hx
    obtain ⟨j, hj, rfl⟩ := List.getElem_of_mem hx
    exact h j _ (List.getElem?_eq_getElem hj)
  rw [this]
theorem idxV_some {α : Type} {p : α → Bool} {l : List α} {k : Nat} {y : α} (hy : l[k]? = some y) (hp : p y = true) (h : ∀ (j : Nat) x, j < k → l[j]? = some x → p x = false) : idxV p l = k := by
  unfold idxV
  have : l.findIdx? p = some k := by
    rw [List.findIdx?_eq_some_iff_getElem]
    have hk := (List.getElem?_eq_some_iff.1 hy)
    refine ⟨hk.1, by rw [hk.2]; exact hp, fun j hj => ?_⟩
    rw [h j _ hj (List.getElem?_eq_getElem (Nat.lt_trans hj hk.1))]
    simp
  rw [this]
theorem idxV_any {α : Type} (p : α → Bool) (l : List α) : decide (0 ≤ idxV p l) = l.any p := by
  unfold idxV
  cases h : l.findIdx? p with
  | none =>
    rw [List.findIdx?_eq_none_iff] at h
    have : l.any p = false := by rw [List.any_eq_false]; intro x hx; rw [h x hx]; simp
    rw [this]; rfl
  | some k =>
    rw [List.findIdx?_eq_some_iff_getElem] at h
    obtain ⟨hk, hp, _⟩ := h
    have : l.any p = true := by rw [List.any_eq_true]; exact ⟨_, List.getElem_mem hk, hp⟩
    rw [this]; simp
def formedB (c : Con) : Bool :=
  kindB c.1 && countsB (shp c.1) c.2.1.length c.2.2.1.length && (if c.1 = 11 then !(c.2.2.1.any fun a => decide (a ≠ 1) && decide (a ≠ -1)) else if c.1 = 19 then decide (0 ≤ c.2.2.2) && !(c.2.2.1.any fun a => decide (a < 0)) else true)
theorem shp_x (K : Int) : 0 ≤ (shp K).2.1 ∧ (shp K).2.1 ≤ 10 := by
  unfold shp
  repeat' split
  all_goals simp
end Go.Proofs.Ytbmcjhjbifojnaa
namespace Go.Proofs.Ytbmcjhjbifojnaa
open Av
attribute [local irreducible] awp awpOpers
set_option linter.unusedSimpArgs false
set_option linter.unusedVariables false
set_option maxRecDepth 100000
set_option maxHeartbeats 4000000
abbrev Mod := List (List Rg) × List Con × Int × Int
def eMod (m : Mod) : AV := .agg [eDoms m.1, eCons m.2.1, .int .i64 m.2.2.1, .int .i64 m.2.2.2]
def rowOf (D : List (List Rg)) (x : Int) : List Rg := (D[x.toNat]?).getD []
def xOk (D : List (List Rg)) (X : List Int) (bt : Int) (i : Nat) : Bool :=
  match X[i]? with
  | none => true
  | some x => decide (0 ≤ x) && decide (x < D.length) && (if bt = 2 ∨ bt = 1 ∧ i + 1 = X.length then truthB (rowOf D x) else true)
def xsOk (D : List (List Rg)) (X : List Int) (bt : Int) : Bool := (List.range X.length).all (xOk D X bt)
theorem all_no {n : Nat} {p : Nat → Bool} {k : Nat} (hk : k < n) (h : p k = false) : (List.range n).all p = false := by
  rw [List.all_eq_false]
  exact ⟨k, by simpa using hk, by simp [h]⟩
theorem all_yes {n : Nat} {p : Nat → Bool} (h : ∀ k, k < n → p k = true) : (List.range n).all p = true := by
  rw [List.all_eq_true]
  intro k hk
  exact h k (by simpa using hk)
def mayB (D : List (List Rg)) (c : Con) : Bool :=
  formedB c && decide (c.2.1.length ≤ 32) && withinB c.2.2.2 && (decide (c.2.2.2 = 0) || (shp c.1).2.2.2.1) && xsOk D c.2.1 (shp c.1).2.2.2.2 && c.2.2.1.all withinB
theorem any_not {l : List Int} {p : Int → Bool} : (l.any fun a => !p a) = !l.all p := by
  induction l with
  | nil => rfl
  | cons x l ih => simp only [List.any_cons, List.all_cons, ih, Bool.not_and]
end Go.Proofs.Ytbmcjhjbifojnaa
namespace Go.Proofs.Ytbmcjhjbifojnaa
open Av
attribute [local irreducible] awp awpOpers
set_option linter.unusedSimpArgs false
set_option linter.unusedVariables false
set_option maxRecDepth 100000
set_option maxHeartbeats 4000000
def askB (n : Nat) (ask goal : Int) : Bool := if ask = 0 then decide (goal = 0) else if ask = 1 ∨ ask = 2 then decide (0 ≤ goal) && decide (goal < n) else false
def modB (m : Mod) : Bool := decide (m.1.length ≤ 64) && decide (m.2.1.length ≤ 64) && m.1.all domB && m.2.1.all (mayB m.1) && askB m.1.length m.2.2.1 m.2.2.2
def conFits (c : Con) : Prop := c.2.1.length ≤ 1000000000000 ∧ c.2.2.1.length ≤ 1000000000000
end Go.Proofs.Ytbmcjhjbifojnaa
