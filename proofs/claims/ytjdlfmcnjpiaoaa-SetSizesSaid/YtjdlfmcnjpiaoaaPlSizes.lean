/- Plain laws: the sizes of the parts of a set. -/
import Derived.Test.YtjdlfmcnjpiaoaaPlCount
namespace Go.Proofs.Ytjdlfmcnjpiaoaa
set_option linter.unusedVariables false

/-- Of the first k places from the least value on, how many have the property. -/
def cntP (f : Int → Bool) : Nat → Int
  | 0 => 0
  | k + 1 => cntP f k + if f ((k : Int) - 1048576) = true then 1 else 0
theorem cntP_below {l : List Rg} (hr : rightB l = true) : ∀ k : Nat, cntP (hasB l) k = belowS l ((k : Int) - 1048576)
  | 0 => by rw [cntP]; exact (below_low hr).symm
  | k + 1 => by
    have hw := (right_wf hr).1
    rw [cntP, cntP_below hr k]
    have e : ((k + 1 : Nat) : Int) - 1048576 = (k : Int) - 1048576 + 1 := by omega
    rw [e]
    cases h : hasB l ((k : Int) - 1048576)
    · rw [if_neg (by simp), below_gap l ((k : Int) - 1048576) ((k : Int) - 1048576 + 1) (by omega) (wf_le hw) (fun u h1 h2 h3 => ?_)]
      · omega
      · have : u = (k : Int) - 1048576 := by omega
        rw [this] at h3
        rw [has_iff.2 ⟨hr, h3⟩] at h
        cases h
    · rw [if_pos rfl, (has_step h).1]
theorem size_cntP {l : List Rg} (hr : rightB l = true) : sizeV l = cntP (hasB l) 2097153 := by
  have hw := right_wf hr
  rw [cntP_below hr, sizeV_right hr, below_all l _ (wf_le hw.1) (fun r h => by have := hw.2 r h; omega)]
theorem cntP_add {f g h : Int → Bool} (hh : ∀ u : Int, (if f u = true then (1 : Int) else 0) + (if g u = true then 1 else 0) = if h u = true then 1 else 0) : ∀ k : Nat, cntP f k + cntP g k = cntP h k
  | 0 => rfl
  | k + 1 => by
    have := cntP_add hh k
    have := hh ((k : Int) - 1048576)
    rw [cntP, cntP, cntP]
    omega
theorem cntP_none {f : Int → Bool} (h : ∀ u, f u = false) : ∀ k : Nat, cntP f k = 0
  | 0 => rfl
  | k + 1 => by rw [cntP, cntP_none h k, h, if_neg (by simp)]; rfl
theorem cntP_point (v : Int) : ∀ k : Nat, cntP (fun u => decide (u = v)) k = if -1048576 ≤ v ∧ v < (k : Int) - 1048576 then 1 else 0
  | 0 => by rw [cntP, if_neg (by omega)]
  | k + 1 => by
    rw [cntP, cntP_point v k]
    simp only [decide_eq_true_eq]
    split <;> split <;> split <;> omega
theorem right_nil : rightB [] = true := by decide
theorem size_cut {a : List Rg} (hr : rightB a = true) (v : Int) : sizeV (cutS (-1048576) v a) + sizeV (if v < 1048576 then cutS (v + 1) 1048576 a else []) = sizeV a := by
  have h1 := cutS_facts (-1048576) v hr
  have h2 : rightB (if v < 1048576 then cutS (v + 1) 1048576 a else []) = true ∧ ∀ u, Mem (if v < 1048576 then cutS (v + 1) 1048576 a else []) u ↔ Mem a u ∧ v + 1 ≤ u ∧ u ≤ 1048576 := by
    split
    · exact cutS_facts (v + 1) 1048576 hr
    · exact ⟨right_nil, fun u => ⟨fun h => absurd h (mem_nil u), fun h => by omega⟩⟩
  generalize (if v < 1048576 then cutS (v + 1) 1048576 a else []) = H at h2
  rw [size_cntP hr, size_cntP h1.1, size_cntP h2.1]
  refine cntP_add (fun u => ?_) _
  have g1 := h1.2 u
  have g2 := h2.2 u
  have e1 : hasB (cutS (-1048576) v a) u = true ↔ Mem a u ∧ -1048576 ≤ u ∧ u ≤ v := has_iff.trans ⟨fun h => g1.1 h.2, fun h => ⟨h1.1, g1.2 h⟩⟩
  have e2 : hasB H u = true ↔ Mem a u ∧ v + 1 ≤ u ∧ u ≤ 1048576 := has_iff.trans ⟨fun h => g2.1 h.2, fun h => ⟨h2.1, g2.2 h⟩⟩
  have e3 : hasB a u = true ↔ Mem a u := has_iff.trans ⟨fun h => h.2, fun h => ⟨hr, h⟩⟩
  have e4 : Mem a u → -1048576 ≤ u ∧ u ≤ 1048576 := fun h => by have := has_within (e3.2 h); exact this
  by_cases hm : Mem a u
  · have := e4 hm
    rw [if_pos (e3.2 hm)]
    by_cases c : u ≤ v
    · rw [if_pos (e1.2 ⟨hm, by omega, c⟩), if_neg (fun h => by have := e2.1 h; omega)]; rfl
    · rw [if_neg (fun h => by have := e1.1 h; omega), if_pos (e2.2 ⟨hm, by omega, by omega⟩)]; rfl
  · rw [if_neg (fun h => hm (e1.1 h).1), if_neg (fun h => hm (e2.1 h).1), if_neg (fun h => hm (e3.1 h))]; rfl
theorem size_without {a : List Rg} (hr : rightB a = true) (v : Int) : sizeV (withoutS v a) = sizeV a - (if hasB a v = true then 1 else 0) := by
  have h1 := withoutS_facts v hr
  have e : cntP (hasB (withoutS v a)) 2097153 + cntP (fun u => decide (u = v) && hasB a v) 2097153 = cntP (hasB a) 2097153 := by
    refine cntP_add (fun u => ?_) _
    have g1 := h1.2 u
    have e1 : hasB (withoutS v a) u = true ↔ Mem a u ∧ u ≠ v := has_iff.trans ⟨fun h => g1.1 h.2, fun h => ⟨h1.1, g1.2 h⟩⟩
    have e3 : hasB a u = true ↔ Mem a u := has_iff.trans ⟨fun h => h.2, fun h => ⟨hr, h⟩⟩
    by_cases hv : u = v
    · subst hv
      rw [if_neg (fun h => (e1.1 h).2 rfl)]
      simp
    · have e5 : (decide (u = v) && hasB a v) = false := by simp [hv]
      rw [e5, if_neg (show ¬ (false = true) by simp)]
      by_cases hm : Mem a u
      · rw [if_pos (e1.2 ⟨hm, hv⟩), if_pos (e3.2 hm)]; rfl
      · rw [if_neg (fun h => hm (e1.1 h).1), if_neg (fun h => hm (e3.1 h))]; rfl
  rw [size_cntP hr, size_cntP h1.1]
  cases h : hasB a v
  · rw [h] at e
    rw [cntP_none (f := fun u => decide (u = v) && false) (by simp)] at e
    rw [if_neg (by simp)]
    omega
  · rw [h] at e
    have hw := has_within h
    have e6 : (fun u => decide (u = v) && true) = (fun u => decide (u = v)) := by funext u; simp
    rw [e6, cntP_point, if_pos (by omega)] at e
    rw [if_pos rfl]
    omega
theorem size_bounds {a : List Rg} (hr : rightB a = true) : 0 ≤ sizeV a ∧ sizeV a ≤ 2097153 := by
  rw [size_cntP hr]
  have : ∀ (f : Int → Bool) (k : Nat), 0 ≤ cntP f k ∧ cntP f k ≤ k := by
    intro f k
    induction k with
    | zero => simp [cntP]
    | succ k ih => rw [cntP]; split <;> omega
  exact this _ _
/-- The least value, and the next one behind all. -/
theorem ends_next {a : List Rg} (hr : rightB a = true) : endsB a = decide (0 < sizeV a) ∧ nextB a (-1048576) = decide (0 < sizeV a) ∧ nextV a (-1048576) = (endsV a).1 := by
  have hw := right_wf hr
  cases a with
  | nil => exact ⟨by decide, by decide, by decide⟩
  | cons r l =>
    have h1 := hw.1.1
    have h2 := hw.2 r (by simp)
    have hs := below_le l 0 (wf_le hw.1.2.2)
    have e1 : 0 < sizeV (r :: l) := by rw [sizeV_right hr, sizeS]; omega
    have e2 : fromN (-1048576) (r :: l) = 0 := by rw [fromN, if_neg (by omega)]
    refine ⟨?_, ?_, ?_⟩
    · unfold endsB; rw [hr]; simp [e1]
    · unfold nextB; rw [hr, e2]; simp [e1]
    · unfold nextV endsV
      rw [if_pos hr, if_pos hr, e2]
      obtain ⟨q, hq⟩ : ∃ q, (r :: l).getLast? = some q := ⟨_, List.getLast?_eq_some_getLast (by simp)⟩
      rw [hq]
      simp
      omega
end Go.Proofs.Ytjdlfmcnjpiaoaa
