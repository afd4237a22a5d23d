/- Plain laws: set.Of leaves what the reference's Of leaves. -/
import Derived.Test.YtjdlfmcnjpiaoaaPlOf
namespace Go.Proofs.Ytjdlfmcnjpiaoaa
set_option linter.unusedVariables false

theorem joined_true : ∀ (l : List Rg) (r : Rg), r.1 ≤ r.2 → (∀ d ∈ l, r.2 + 1 < d.1) → (∀ d ∈ l, d.1 ≤ d.2) → joinedGo r true l = l
  | [], r, _, _, _ => by simp [joinedGo]
  | d :: l, r, h0, h1, h2 => by
    have a := h1 d (by simp)
    have b := h2 d (by simp)
    unfold joinedGo
    rw [if_neg (by omega), if_pos a, joined_true l r h0 (fun s hs => h1 s (by simp [hs])) (fun s hs => h2 s (by simp [hs]))]
    simp
theorem joined_facts : ∀ (l : List Rg) (r : Rg), r.1 ≤ r.2 → Wf l →
    Wf (joinedGo r false l) ∧ (∀ v, Mem (joinedGo r false l) v ↔ Mem (r :: l) v) ∧ (∀ x, x ≤ r.1 → (∀ d ∈ l, x ≤ d.1) → ∀ s ∈ joinedGo r false l, x ≤ s.1)
  | [], r, h0, _ => by
    rw [show joinedGo r false [] = [r] from rfl]
    exact ⟨⟨h0, by simp, trivial⟩, fun v => Iff.rfl, fun x hx _ s hs => by rw [List.mem_singleton.1 hs]; exact hx⟩
  | d :: l, r, h0, hw => by
    obtain ⟨w1, w2, w3⟩ := hw
    by_cases c1 : d.2 + 1 < r.1
    · have e : joinedGo r false (d :: l) = d :: joinedGo r false l := by conv => lhs; unfold joinedGo; rw [if_pos c1]
      obtain ⟨g1, g2, g3⟩ := joined_facts l r h0 w3
      rw [e]
      refine ⟨⟨w1, g3 (d.2 + 2) (by omega) w2, g1⟩, fun v => ?_, fun x hx hd s hs => ?_⟩
      · rw [mem_cons, g2, mem_cons, mem_cons, mem_cons]
        constructor
        · rintro (h | h | h) <;> simp [h]
        · rintro (h | h | h) <;> simp [h]
      · simp only [List.mem_cons] at hs
        rcases hs with rfl | hs
        · exact hd _ (by simp)
        · exact g3 x hx (fun d hd' => hd d (by simp [hd'])) s hs
    · by_cases c2 : r.2 + 1 < d.1
      · have e : joinedGo r false (d :: l) = r :: d :: l := by
          conv => lhs; unfold joinedGo; rw [if_neg c1, if_pos c2]
          rw [joined_true l r h0 (fun s hs => by have := w2 s hs; omega) (wf_le w3)]
          simp
        rw [e]
        refine ⟨⟨h0, fun s hs => ?_, w1, w2, w3⟩, fun v => Iff.rfl, fun x hx hd s hs => ?_⟩
        · simp only [List.mem_cons] at hs
          rcases hs with rfl | hs
          · omega
          · have := w2 s hs; omega
        · simp only [List.mem_cons] at hs
          rcases hs with rfl | hs | hs
          · exact hx
          · exact hd s (by simp [hs])
          · exact hd s (by simp [hs])
      · have e : joinedGo r false (d :: l) = joinedGo (min r.1 d.1, max r.2 d.2) false l := by conv => lhs; unfold joinedGo; rw [if_neg c1, if_neg c2]
        obtain ⟨g1, g2, g3⟩ := joined_facts l (min r.1 d.1, max r.2 d.2) (by simp only; omega) w3
        rw [e]
        refine ⟨g1, fun v => ?_, fun x hx hd => g3 x ?_ (fun s hs => hd s (by simp [hs]))⟩
        · rw [g2, mem_cons, mem_cons, mem_cons]
          simp only
          constructor
          · rintro (h | h)
            · by_cases h5 : r.1 ≤ v ∧ v ≤ r.2
              · exact .inl h5
              · exact .inr (.inl (by omega))
            · exact .inr (.inr h)
          · rintro (h | h | h)
            · exact .inl (by omega)
            · exact .inl (by omega)
            · exact .inr h
        · have := hd d (by simp)
          simp only
          omega
def Good (l : List Rg) : Prop := ∀ s ∈ l, s.1 ≤ s.2 ∧ InB s
theorem rof_keep : ∀ (l acc kacc : List Rg), Wf acc → (∀ s ∈ acc, InB s) → Good kacc → (∀ v, Mem acc v ↔ Mem kacc v) →
    (keepGo kacc l = none → rofGo acc l = ([], 2)) ∧ (∀ L, keepGo kacc l = some L → ∃ R, rofGo acc l = (R, 0) ∧ Wf R ∧ (∀ s ∈ R, InB s) ∧ Good L ∧ ∀ v, Mem R v ↔ Mem L v)
  | [], acc, kacc, h1, h2, h3, h4 => by
    refine ⟨fun h => by simp [keepGo] at h, fun L hL => ?_⟩
    simp [keepGo] at hL
    subst hL
    exact ⟨acc, rfl, h1, h2, h3, h4⟩
  | r :: l, acc, kacc, h1, h2, h3, h4 => by
    unfold keepGo rofGo
    by_cases c1 : r.2 < r.1
    · simp only [if_pos c1]
      exact rof_keep l acc kacc h1 h2 h3 h4
    · simp only [if_neg c1]
      by_cases c2 : (withinB r.1 && withinB r.2) = true
      · simp only [if_pos c2]
        have hI : InB r := by
          simp only [Bool.and_eq_true] at c2
          exact InB_of c2.1 c2.2
        obtain ⟨g1, g2, _⟩ := joined_facts acc r (by omega) h1
        refine rof_keep l (joinedGo r false acc) (kacc ++ [r]) g1 (joined_inB acc r false hI h2) (fun s hs => ?_) (fun v => ?_)
        · rcases List.mem_append.1 hs with hs | hs
          · exact h3 s hs
          · rw [List.mem_singleton.1 hs]; exact ⟨by omega, hI⟩
        · rw [g2, mem_cons, mem_append, mem_cons, h4]
          constructor
          · rintro (h | h)
            · exact .inr (.inl h)
            · exact .inl h
          · rintro (h | h | h)
            · exact .inr h
            · exact .inl h
            · exact absurd h (mem_nil v)
      · simp only [if_neg c2]
        exact ⟨fun _ => trivial, fun L hL => by cases hL⟩
theorem of_none {l : List Rg} (h : keepGo [] l = none) : rofS l = ([], 2) := (rof_keep l [] [] trivial (by simp) (fun s hs => by simp at hs) (fun v => Iff.rfl)).1 h
theorem of_some {l L m : List Rg} (h : keepGo [] l = some L) (hp : m.Perm L) (ha : Asc m) : rofS l = (mergeS m, 0) ∧ rightB (mergeS m) = true := by
  obtain ⟨R, h1, h2, h3, h4, h5⟩ := (rof_keep l [] [] trivial (by simp) (fun s hs => by simp at hs) (fun v => Iff.rfl)).2 L h
  have e := merge_eq hp ha (fun s hs => (h4 s hs).1) (fun s hs => (h4 s hs).2) (right_iff.2 ⟨h2, h3⟩) (fun v => (h5 v).symm)
  rw [e]
  exact ⟨h1, right_iff.2 ⟨h2, h3⟩⟩
end Go.Proofs.Ytjdlfmcnjpiaoaa
