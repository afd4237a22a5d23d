/- Plain laws: how many values of a set stand below one. -/
import Derived.Test.YtjdlfmcnjpiaoaaPlSet
namespace Go.Proofs.Ytjdlfmcnjpiaoaa
set_option linter.unusedVariables false

def termB (r : Rg) (v : Int) : Int := if v ≤ r.1 then 0 else if r.2 < v then r.2 - r.1 + 1 else v - r.1
def belowS : List Rg → Int → Int
  | [], _ => 0
  | r :: l, v => termB r v + belowS l v
def sizeS : List Rg → Int
  | [] => 0
  | r :: l => r.2 - r.1 + 1 + sizeS l
theorem sizeGo_eq : ∀ (l : List Rg) (n : Int), sizeGo n l = n + sizeS l
  | [], n => by simp [sizeGo, sizeS]
  | r :: l, n => by rw [sizeGo, sizeGo_eq l, sizeS]; omega
theorem sizeV_right {l : List Rg} (h : rightB l = true) : sizeV l = sizeS l := by
  unfold sizeV
  rw [if_pos h, sizeGo_eq]
  omega
theorem below_le : ∀ (l : List Rg) (v : Int), (∀ r ∈ l, r.1 ≤ r.2) → 0 ≤ belowS l v ∧ belowS l v ≤ sizeS l
  | [], v, _ => by simp [belowS, sizeS]
  | r :: l, v, h => by
    have := below_le l v fun s hs => h s (by simp [hs])
    have h1 := h r (by simp)
    unfold belowS sizeS termB
    split
    · omega
    · split <;> omega
theorem below_all : ∀ (l : List Rg) (v : Int), (∀ r ∈ l, r.1 ≤ r.2) → (∀ r ∈ l, r.2 < v) → belowS l v = sizeS l
  | [], v, _, _ => rfl
  | r :: l, v, h, g => by
    have h1 := h r (by simp)
    have g1 := g r (by simp)
    rw [belowS, sizeS, below_all l v (fun s hs => h s (by simp [hs])) (fun s hs => g s (by simp [hs])), termB, if_neg (by omega), if_pos g1]
theorem below_none : ∀ (l : List Rg) (v : Int), (∀ r ∈ l, v ≤ r.1) → belowS l v = 0
  | [], v, _ => rfl
  | r :: l, v, g => by
    rw [belowS, below_none l v (fun s hs => g s (by simp [hs])), termB, if_pos (g r (by simp))]
    rfl
theorem below_gap : ∀ (l : List Rg) (v v' : Int), v ≤ v' → (∀ r ∈ l, r.1 ≤ r.2) → (∀ u, v ≤ u → u < v' → ¬ Mem l u) → belowS l v' = belowS l v
  | [], v, v', _, _, _ => rfl
  | r :: l, v, v', hv, h, g => by
    have h1 := h r (by simp)
    rw [belowS, belowS, below_gap l v v' hv (fun s hs => h s (by simp [hs])) (fun u h2 h3 h4 => g u h2 h3 ((mem_cons _ _ _).2 (.inr h4)))]
    have g1 : ∀ u, v ≤ u → u < v' → ¬ (r.1 ≤ u ∧ u ≤ r.2) := fun u h2 h3 h4 => g u h2 h3 ((mem_cons _ _ _).2 (.inl h4))
    have g2 := g1 (max v r.1)
    have : termB r v' = termB r v := by
      unfold termB
      split <;> split <;> (try split) <;> (try split) <;> omega
    rw [this]
theorem below_step : ∀ (l : List Rg) (v : Int), Wf l → Mem l v → belowS l (v + 1) = belowS l v + 1
  | [], v, _, h => absurd h (mem_nil v)
  | r :: l, v, hw, h => by
    obtain ⟨w1, w2, w3⟩ := hw
    rw [mem_cons] at h
    rw [belowS, belowS]
    by_cases h1 : r.1 ≤ v ∧ v ≤ r.2
    · rw [below_none l (v + 1) (fun s hs => by have := w2 s hs; omega), below_none l v (fun s hs => by have := w2 s hs; omega)]
      unfold termB
      split <;> split <;> (try split) <;> (try split) <;> omega
    · rcases h with h | h
      · exact absurd h h1
      · rw [below_step l v w3 h]
        obtain ⟨s, hs, h2, h3⟩ := h
        have := w2 s hs
        have : termB r (v + 1) = termB r v := by
          unfold termB
          split <;> split <;> (try split) <;> (try split) <;> omega
        rw [this]
        omega
theorem drop_from_at {l : List Rg} {v x y : Int} (h : l[fromN v l]? = some (x, y)) : v ≤ y := by
  have := fromN_at h
  omega
theorem next_none {l : List Rg} {v : Int} (hr : rightB l = true) (h : nextB l v = false) : belowS l v = sizeV l := by
  have hw := (right_wf hr).1
  unfold nextB at h
  rw [hr] at h
  simp at h
  rw [sizeV_right hr]
  refine below_all l v (wf_le hw) fun r hrm => ?_
  rcases Int.lt_or_le r.2 v with h1 | h1
  · exact h1
  · have h2 := (mem_from v (l := l) h1).2 ⟨r, hrm, wf_le hw r hrm, by omega⟩
    rw [List.drop_eq_nil_of_le h] at h2
    exact absurd h2 (mem_nil _)
theorem next_some {l : List Rg} {v : Int} (hr : rightB l = true) (h : nextB l v = true) : v ≤ nextV l v ∧ hasB l (nextV l v) = true ∧ belowS l (nextV l v) = belowS l v := by
  have hw := (right_wf hr).1
  unfold nextB at h
  rw [hr] at h
  simp at h
  obtain ⟨x, y, hxy⟩ := at_rg h
  have h1 := drop_from_at hxy
  have hm := mem_at hxy
  have hle := wf_le hw _ hm
  simp only at hle
  have e : nextV l v = max v x := by unfold nextV; rw [if_pos hr, hxy]
  rw [e]
  refine ⟨by omega, has_iff.2 ⟨hr, (x, y), hm, by simp only; omega, by simp only; omega⟩, below_gap l v _ (by omega) (wf_le hw) fun u h2 h3 h4 => ?_⟩
  have h5 := (mem_from v (l := l) h2).2 h4
  rw [drop_at hxy, mem_cons] at h5
  have hw2 := wf_drop (fromN v l) hw
  rw [drop_at hxy] at hw2
  rcases h5 with h5 | ⟨s, hs, h6, h7⟩
  · simp only at h5; omega
  · have := hw2.2.1 s hs
    simp only at this
    omega
theorem has_step {l : List Rg} {v : Int} (h : hasB l v = true) : belowS l (v + 1) = belowS l v + 1 ∧ 0 ≤ belowS l v ∧ belowS l v + 1 ≤ sizeV l ∧ -1048576 ≤ v ∧ v ≤ 1048576 := by
  obtain ⟨hr, hm⟩ := has_iff.1 h
  have hw := (right_wf hr).1
  have h1 := below_step l v hw hm
  have h2 := below_le l (v + 1) (wf_le hw)
  have h3 := below_le l v (wf_le hw)
  have h4 := has_within h
  rw [sizeV_right hr]
  omega
theorem below_low {l : List Rg} (hr : rightB l = true) : belowS l (-1048576) = 0 := below_none l _ fun r h => ((right_wf hr).2 r h).1
end Go.Proofs.Ytjdlfmcnjpiaoaa
