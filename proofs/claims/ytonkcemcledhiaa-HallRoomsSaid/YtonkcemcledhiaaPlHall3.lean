/- Plain laws for unlike values: room, and what is left of ranges, is told alike; smaller ranges leave less. -/
import Derived.Test.YtonkcemcledhiaaPlHall2
namespace Go.Proofs.Ytonkcemcledhiaa
open Av
attribute [local irreducible] awp awpOpers
set_option linter.unusedSimpArgs false
set_option linter.unusedVariables false
def HR (l : List Rg) : Prop := ∀ a b : Int, 0 < cntR l a b → (cntR l a b : Int) ≤ b - a + 1
theorem inS_iff {a b : Int} {r : Rg} : inS a b r = true ↔ a ≤ r.1 ∧ r.2 ≤ b := by simp [inS]
theorem min_lo : ∀ (L : List Rg), L ≠ [] → ∃ p ∈ L, ∀ r ∈ L, p.1 ≤ r.1
  | [r], _ => ⟨r, by simp, by simp⟩
  | r :: s :: L, _ => by
    obtain ⟨p, hp, h⟩ := min_lo (s :: L) (by simp)
    by_cases hr : r.1 ≤ p.1
    · exact ⟨r, by simp, fun q hq => by rcases List.mem_cons.1 hq with rfl | hq; exact Int.le_refl _; have := h q hq; omega⟩
    · exact ⟨p, List.mem_cons_of_mem _ hp, fun q hq => by rcases List.mem_cons.1 hq with rfl | hq; omega; exact h q hq⟩
theorem max_hi : ∀ (L : List Rg), L ≠ [] → ∃ p ∈ L, ∀ r ∈ L, r.2 ≤ p.2
  | [r], _ => ⟨r, by simp, by simp⟩
  | r :: s :: L, _ => by
    obtain ⟨p, hp, h⟩ := max_hi (s :: L) (by simp)
    by_cases hr : p.2 ≤ r.2
    · exact ⟨r, by simp, fun q hq => by rcases List.mem_cons.1 hq with rfl | hq; exact Int.le_refl _; have := h q hq; omega⟩
    · exact ⟨p, List.mem_cons_of_mem _ hp, fun q hq => by rcases List.mem_cons.1 hq with rfl | hq; omega; exact h q hq⟩
/-- a stretch may be made as short as what lies within it -/
theorem shrink {l : List Rg} {a b : Int} (h : 0 < cntR l a b) : ∃ p ∈ l, ∃ q ∈ l, a ≤ p.1 ∧ q.2 ≤ b ∧ cntR l a b ≤ cntR l p.1 q.2 := by
  have hne : l.filter (inS a b) ≠ [] := by
    intro e
    unfold cntR at h
    rw [e] at h; simp at h
  obtain ⟨p, hp, h1⟩ := min_lo _ hne
  obtain ⟨q, hq, h2⟩ := max_hi _ hne
  obtain ⟨p1, p2⟩ := List.mem_filter.1 hp
  obtain ⟨q1, q2⟩ := List.mem_filter.1 hq
  rw [inS_iff] at p2 q2
  refine ⟨p, p1, q, q1, p2.1, q2.2, cnt_mono fun r hr hin => ?_⟩
  have hm := List.mem_filter.2 ⟨hr, hin⟩
  rw [inS_iff]
  exact ⟨h1 r hm, h2 r hm⟩
theorem pairOk_iff {l : List Rg} {p q : Rg} : pairOk l p q = true ↔ (0 < cntR l p.1 q.2 → (cntR l p.1 q.2 : Int) ≤ q.2 - p.1 + 1) := by
  unfold pairOk
  by_cases h : 0 < cntR l p.1 q.2 <;> simp [h]
theorem inW_iff {r : Rg} : inW r = true ↔ (-1048576 ≤ r.1 ∧ r.1 ≤ 1048576) ∧ (-1048576 ≤ r.2 ∧ r.2 ≤ 1048576) := by
  simp only [inW, withinB, Bool.and_eq_true, decide_eq_true_eq]
theorem hr_one {l : List Rg} (h : HR l) {r : Rg} (hr : r ∈ l) : r.1 ≤ r.2 := by
  have h0 : 0 < cntR l r.1 r.2 := by
    unfold cntR
    refine List.length_pos_of_mem (a := r) (List.mem_filter.2 ⟨hr, inS_iff.2 ⟨Int.le_refl _, Int.le_refl _⟩⟩)
  have := h _ _ h0
  omega
theorem room_iff {l : List Rg} : roomB l = true ↔ l.length ≤ 32 ∧ (∀ r ∈ l, inW r = true) ∧ HR l := by
  unfold roomB
  simp only [Bool.and_eq_true, decide_eq_true_eq, List.all_eq_true]
  constructor
  · rintro ⟨⟨h1, h2⟩, h3⟩
    refine ⟨h1, fun r hr => ?_, fun a b h0 => ?_⟩
    · have := okRg_facts (h2 r hr)
      rw [inW_iff]; omega
    · obtain ⟨p, hp, q, hq, s1, s2, s3⟩ := shrink h0
      have := pairOk_iff.1 (h3 p hp q hq) (by omega)
      omega
  · rintro ⟨h1, h2, h3⟩
    refine ⟨⟨h1, fun r hr => ?_⟩, fun p hp q hq => pairOk_iff.2 (h3 _ _)⟩
    have a1 := inW_iff.1 (h2 r hr)
    have a2 := hr_one h3 hr
    simp only [okRg, withinB, Bool.and_eq_true, decide_eq_true_eq]
    omega
theorem hc_hr {l : List Rg} (h : ∀ r ∈ l, inW r = true) : Hc l (-2097152) ↔ HR l := by
  have : ∀ a b, cntC l (-2097152) a b = cntR l a b := fun a b => Nat.le_antisymm
    (cnt_mono fun r hr hc => by have := inW_iff.1 (h r hr); rw [clip_iff] at hc; rw [inS_iff]; omega)
    (cnt_mono fun r hr hc => by have := inW_iff.1 (h r hr); rw [inS_iff] at hc; rw [clip_iff]; omega)
  unfold Hc HR
  simp only [this]
theorem rroom_iff {l : List Rg} : rroomB l = true ↔ l.length ≤ 32 ∧ (∀ r ∈ l, inW r = true) ∧ HR l := by
  unfold rroomB givenB
  simp only [Bool.and_eq_true, decide_eq_true_eq, List.all_eq_true]
  rw [given_iff _ _ _ rfl]
  constructor
  · rintro ⟨⟨h1, h2⟩, h3⟩
    exact ⟨h1, h2, (hc_hr h2).1 h3⟩
  · rintro ⟨h1, h2, h3⟩
    exact ⟨⟨h1, h2⟩, (hc_hr h2).2 h3⟩
theorem rooms_eq (l : List Rg) : roomB l = rroomB l := by rw [Bool.eq_iff_iff, room_iff, rroom_iff]
/-! smaller ranges -/
end Go.Proofs.Ytonkcemcledhiaa
