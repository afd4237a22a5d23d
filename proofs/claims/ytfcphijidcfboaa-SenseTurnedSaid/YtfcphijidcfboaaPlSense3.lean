/- Plain laws of layer 11: lists that begin at another place. -/
import Derived.Test.YtfcphijidcfboaaPlSense2
namespace Go.Proofs.Ytfcphijidcfboaa
open Av
attribute [local irreducible] awp awpOpers
set_option linter.unusedSimpArgs false
set_option linter.unusedVariables false
def rotG {α : Type} (f : Nat → α) (n s : Nat) : List α := (List.range n).map fun i => f ((i + s) % n)
theorem rotG_eq {α : Type} (f : Nat → α) (n s : Nat) : rotG f n s = ((List.range n).map f).drop (s % n) ++ ((List.range n).map f).take (s % n) := by
  by_cases h0 : n = 0
  · subst h0; simp [rotG]
  have hm : s % n < n := Nat.mod_lt _ (by omega)
  apply List.ext_getElem?
  intro i
  unfold rotG
  rw [List.getElem?_map]
  by_cases hi : i < n
  · rw [List.getElem?_range hi, Option.map_some]
    have e : (i + s) % n = (i + s % n) % n := by rw [Nat.add_mod, Nat.add_mod i (s % n), Nat.mod_mod]
    rw [e]
    generalize s % n = m at hm ⊢
    by_cases h1 : i + m < n
    · rw [List.getElem?_append_left (by rw [List.length_drop, List.length_map, List.length_range]; omega), List.getElem?_drop, List.getElem?_map, List.getElem?_range (by omega), Nat.mod_eq_of_lt h1, Nat.add_comm m i]
      rfl
    · rw [List.getElem?_append_right (by rw [List.length_drop, List.length_map, List.length_range]; omega), List.length_drop, List.length_map, List.length_range, List.getElem?_take, if_pos (by omega), List.getElem?_map, List.getElem?_range (by omega)]
      have : (i + m) % n = i - (n - m) := by
        rw [Nat.mod_eq_sub_mod (by omega), Nat.mod_eq_of_lt (by omega)]; omega
      rw [this]
      rfl
  · have h1 : (List.range n)[i]? = none := List.getElem?_eq_none (by rw [List.length_range]; omega)
    rw [h1, List.getElem?_eq_none (by rw [List.length_append, List.length_drop, List.length_take, List.length_map, List.length_range]; omega)]
    rfl
def rotL (l : List Int) (s : Nat) : List Int := rotG (xat l) l.length s
theorem map_xat (l : List Int) : (List.range l.length).map (xat l) = l := by
  apply List.ext_getElem?
  intro i
  rw [List.getElem?_map]
  by_cases hi : i < l.length
  · rw [List.getElem?_range hi, xat_get hi]; rfl
  · have h1 : (List.range l.length)[i]? = none := List.getElem?_eq_none (by rw [List.length_range]; omega)
    rw [h1, List.getElem?_eq_none (by omega)]
    rfl
theorem rotL_eq (l : List Int) (s : Nat) : rotL l s = l.drop (s % l.length) ++ l.take (s % l.length) := by
  unfold rotL
  rw [rotG_eq, map_xat]
theorem rotL_len (l : List Int) (s : Nat) : (rotL l s).length = l.length := by unfold rotL rotG; rw [List.length_map, List.length_range]
theorem rotL_at {l : List Int} {s k : Nat} (h : k < l.length) : xat (rotL l s) k = xat l ((k + s) % l.length) := by
  unfold rotL rotG
  conv => lhs; unfold xat
  rw [List.getElem?_map, List.getElem?_range h]
  rfl
theorem all_rot (p : Int → Bool) (l : List Int) (s : Nat) : (rotL l s).all p = l.all p := by
  rw [rotL_eq, List.all_append, Bool.and_comm, ← List.all_append, List.take_append_drop]
theorem any_rot (p : Int → Bool) (l : List Int) (s : Nat) : (rotL l s).any p = l.any p := by
  rw [rotL_eq, List.any_append, Bool.or_comm, ← List.any_append, List.take_append_drop]
theorem vals_rot (X a : List Int) (s : Nat) : valsOf (rotL X s) a = rotL (valsOf X a) s := by
  rw [rotL_eq, rotL_eq, vals_len]
  unfold valsOf
  rw [List.map_append, List.map_drop, List.map_take]
theorem cnt_rot (l : List Int) (s : Nat) (v : Int) : cntI (rotL l s) v = cntI l v := by
  unfold cntI
  rw [rotL_eq, List.filter_append, List.length_append, Nat.add_comm, ← List.length_append, ← List.filter_append, List.take_append_drop]
theorem unlike_rot (l : List Int) (s : Nat) : unlikeB (rotL l s) = unlikeB l := by
  unfold unlikeB
  rw [all_rot]
  congr 1
  funext v
  rw [cnt_rot]
theorem may_zero {K C : Int} {A A' : List Int} {V W : List Int} (hb : (shp K).2.2.2.2 = 0) (hV : V.length = W.length) (hA : A'.length = A.length) (h1 : A'.all withinB = A.all withinB) (h2 : (A'.any fun a => decide (a < 0)) = A.any fun a => decide (a < 0)) (h11 : ¬ K = 11) :
    mayB (oneD V) (K, upN V.length, A', C) = mayB (oneD W) (K, upN W.length, A, C) := by
  have hz := xsOk_zero V
  rw [hV] at hz
  have hz2 := xsOk_zero W
  unfold mayB formedB
  simp only [hb, up_len, hV, hA, h1, h2, h11, if_false, hz, hz2]
theorem turn_diff {X A : List Int} {C : Int} {a : List Int} (s : Nat) :
    (askdB (18, rotL X s, A, C) a && holdsB (18, rotL X s, A, C) (valsOf (rotL X s) a)) = (askdB (18, X, A, C) a && holdsB (18, X, A, C) (valsOf X a)) := by
  have hl : (valsOf (rotL X s) a).length = (valsOf X a).length := by rw [vals_len, vals_len, rotL_len]
  have hm := may_zero (K := 18) (C := C) (A := A) (A' := A) (V := valsOf (rotL X s) a) (W := valsOf X a) (by decide) hl rfl rfl rfl (by decide)
  simp only [vals_len, rotL_len] at hm
  unfold askdB
  simp only [hm, rotL_len, all_rot]
  rw [show holdsB (18, rotL X s, A, C) (valsOf (rotL X s) a) = unlikeB (valsOf (rotL X s) a) from rfl, show holdsB (18, X, A, C) (valsOf X a) = unlikeB (valsOf X a) from rfl, vals_rot, unlike_rot]
/-! tasks -/
def sumL : List Int → Int
  | [] => 0
  | x :: l => x + sumL l
theorem sumL_append : ∀ a b : List Int, sumL (a ++ b) = sumL a + sumL b
  | [], b => by simp [sumL]
  | x :: a, b => by
    show x + sumL (a ++ b) = x + sumL a + sumL b
    rw [sumL_append a b]; omega
def zF (A V : List Int) (k : Nat) : Int × Int × Int := (xat V k, xat A k, xat A (V.length + k))
def zG (t : Int) (z : Int × Int × Int) : Int := if z.1 ≤ t ∧ t < z.1 + z.2.1 then z.2.2 else 0
theorem load_sum (A V : List Int) (t : Int) : ∀ n, loadN A V t n = sumL (((List.range n).map (zF A V)).map (zG t))
  | 0 => rfl
  | n + 1 => by
    unfold loadN
    rw [load_sum A V t n, List.range_succ, List.map_append, List.map_append, sumL_append]
    simp [sumL, zF, zG]
def zT (C : Int) (Z : List (Int × Int × Int)) (z : Int × Int × Int) : Bool := !(decide (0 < z.2.1) && decide (C < sumL (Z.map (zG z.1))))
theorem tasks_z (A : List Int) (C : Int) (V : List Int) : tasksB A C V = ((List.range V.length).map (zF A V)).all (zT C ((List.range V.length).map (zF A V))) := by
  unfold tasksB
  rw [List.all_map]
  congr 1
  funext k
  simp only [Function.comp_apply, zT, zF, load_sum]
  try rfl
theorem sum_swap (Z : List (Int × Int × Int)) (m : Nat) (f : Int × Int × Int → Int) : sumL ((Z.drop m ++ Z.take m).map f) = sumL (Z.map f) := by
  rw [List.map_append, sumL_append, Int.add_comm, ← sumL_append, ← List.map_append, List.take_append_drop]
theorem tasks_swap (C : Int) (Z : List (Int × Int × Int)) (m : Nat) : (Z.drop m ++ Z.take m).all (zT C (Z.drop m ++ Z.take m)) = Z.all (zT C Z) := by
  have e : zT C (Z.drop m ++ Z.take m) = zT C Z := by
    funext z
    unfold zT
    rw [sum_swap]
  rw [e, List.all_append, Bool.and_comm, ← List.all_append, List.take_append_drop]
theorem xat_app1 {a b : List Int} {k : Nat} (h : k < a.length) : xat (a ++ b) k = xat a k := by unfold xat; rw [List.getElem?_append_left h]
theorem xat_app2 (a b : List Int) (k : Nat) : xat (a ++ b) (a.length + k) = xat b k := by
  unfold xat
  rw [List.getElem?_append_right (by omega), show a.length + k - a.length = k by omega]
theorem xat_drop (a : List Int) (n k : Nat) : xat (a.drop n) k = xat a (n + k) := by unfold xat; rw [List.getElem?_drop]
def turnA (A : List Int) (n s : Nat) : List Int := rotL (A.take n) s ++ rotL (A.drop n) s
theorem turnA_len {A : List Int} {n s : Nat} (h : A.length = 2 * n) : (turnA A n s).length = A.length := by
  unfold turnA
  rw [List.length_append, rotL_len, rotL_len, List.length_take, List.length_drop]; omega
theorem tasks_rot {A V : List Int} (C : Int) (s : Nat) (h : A.length = 2 * V.length) : tasksB (turnA A V.length s) C (rotL V s) = tasksB A C V := by
  rw [tasks_z, tasks_z, rotL_len]
  have l1 : (A.take V.length).length = V.length := by rw [List.length_take]; omega
  have l2 : (A.drop V.length).length = V.length := by rw [List.length_drop]; omega
  have e : (List.range V.length).map (zF (turnA A V.length s) (rotL V s)) = rotG (zF A V) V.length s := by
    unfold rotG
    refine List.map_congr_left fun k hk => ?_
    have hk : k < V.length := List.mem_range.1 hk
    have hm : (k + s) % V.length < V.length := Nat.mod_lt _ (by omega)
    unfold zF turnA
    have a1 : xat (rotL V s) k = xat V ((k + s) % V.length) := rotL_at hk
    have a2 : xat (rotL (A.take V.length) s ++ rotL (A.drop V.length) s) k = xat A ((k + s) % V.length) := by
      rw [xat_app1 (by rw [rotL_len, l1]; exact hk), rotL_at (by omega), l1, xat_take hm]
    have a3 : xat (rotL (A.take V.length) s ++ rotL (A.drop V.length) s) ((rotL V s).length + k) = xat A (V.length + (k + s) % V.length) := by
      have := xat_app2 (rotL (A.take V.length) s) (rotL (A.drop V.length) s) k
      rw [rotL_len, l1] at this
      rw [rotL_len, this, rotL_at (by omega), l2, xat_drop]
    rw [a1, a2, a3]
  rw [e, rotG_eq, tasks_swap]
theorem turn_tasks {X A : List Int} {C : Int} {a : List Int} (s : Nat) (h : A.length = 2 * X.length) :
    (askdB (19, rotL X s, turnA A X.length s, C) a && holdsB (19, rotL X s, turnA A X.length s, C) (valsOf (rotL X s) a)) = (askdB (19, X, A, C) a && holdsB (19, X, A, C) (valsOf X a)) := by
  have hl : (valsOf (rotL X s) a).length = (valsOf X a).length := by rw [vals_len, vals_len, rotL_len]
  have ha : ∀ p : Int → Bool, (turnA A X.length s).all p = A.all p := by
    intro p
    unfold turnA
    rw [List.all_append, all_rot, all_rot, ← List.all_append, List.take_append_drop]
  have hn : ∀ p : Int → Bool, (turnA A X.length s).any p = A.any p := by
    intro p
    unfold turnA
    rw [List.any_append, any_rot, any_rot, ← List.any_append, List.take_append_drop]
  have hm := may_zero (K := 19) (C := C) (A := A) (A' := turnA A X.length s) (V := valsOf (rotL X s) a) (W := valsOf X a) (by decide) hl (turnA_len h) (ha _) (hn _) (by decide)
  simp only [vals_len, rotL_len] at hm
  have ht : tasksB (turnA A X.length s) C (rotL (valsOf X a) s) = tasksB A C (valsOf X a) := by
    have := tasks_rot (A := A) (V := valsOf X a) C s (by rw [vals_len]; exact h)
    rwa [vals_len] at this
  unfold askdB
  simp only [hm, rotL_len, all_rot, turnA_len h]
  rw [show holdsB (19, rotL X s, turnA A X.length s, C) (valsOf (rotL X s) a) = tasksB (turnA A X.length s) C (valsOf (rotL X s) a) from rfl, show holdsB (19, X, A, C) (valsOf X a) = tasksB A C (valsOf X a) from rfl, vals_rot, ht]
end Go.Proofs.Ytfcphijidcfboaa
