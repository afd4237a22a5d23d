/- Plain laws: what running together ascending ranges leaves. -/
import Derived.Test.YtjdlfmcnjpiaoaaPlSet
import Derived.Test.YtjdlfmcnjpiaoaaSetW7
namespace Go.Proofs.Ytjdlfmcnjpiaoaa
set_option linter.unusedVariables false

theorem asc_cons {r : Rg} {l : List Rg} (h : Asc (r :: l)) : (∀ s ∈ l, r.1 ≤ s.1) ∧ Asc l := by
  refine ⟨fun s hs => ?_, fun i j x y hi hj hij => h (i + 1) (j + 1) x y (by simpa using hi) (by simpa using hj) (by omega)⟩
  obtain ⟨j, hj⟩ := List.getElem?_of_mem hs
  exact h 0 (j + 1) r s rfl (by simpa using hj) (by omega)
theorem mrg_facts : ∀ (l : List Rg) (p : Rg), p.1 ≤ p.2 → (∀ s ∈ l, s.1 ≤ s.2) → (∀ s ∈ l, p.1 ≤ s.1) → Asc l →
    Wf (mrg p l) ∧ (∀ v, Mem (mrg p l) v ↔ Mem (p :: l) v) ∧ (∀ s ∈ mrg p l, p.1 ≤ s.1) ∧ (InB p → (∀ s ∈ l, InB s) → ∀ s ∈ mrg p l, InB s)
  | [], p, h1, _, _, _ => ⟨⟨h1, by simp, trivial⟩, fun v => Iff.rfl, fun s hs => by rw [List.mem_singleton.1 hs]; omega, fun hp _ s hs => by rw [List.mem_singleton.1 hs]; exact hp⟩
  | r :: l, p, h1, h2, h3, h4 => by
    obtain ⟨h5, h6⟩ := asc_cons h4
    have h7 := h2 r (by simp)
    have h8 := h3 r (by simp)
    unfold mrg
    split
    · rename_i hc
      obtain ⟨g1, g2, g3, g4⟩ := mrg_facts l (p.1, max p.2 r.2) (by simp only; omega) (fun s hs => h2 s (by simp [hs])) (fun s hs => h3 s (by simp [hs])) h6
      refine ⟨g1, fun v => (g2 v).trans ?_, g3, fun hp hl => g4 ?_ (fun s hs => hl s (by simp [hs]))⟩
      · rw [mem_cons, mem_cons, mem_cons]
        simp only
        constructor
        · rintro (h | h)
          · omega
          · exact .inr (.inr h)
        · rintro (h | h | h)
          · exact .inl (by omega)
          · exact .inl (by omega)
          · exact .inr h
      · have := hl r (by simp)
        unfold InB at *
        simp only
        omega
    · rename_i hc
      obtain ⟨g1, g2, g3, g4⟩ := mrg_facts l r h7 (fun s hs => h2 s (by simp [hs])) h5 h6
      refine ⟨⟨h1, fun s hs => ?_, g1⟩, fun v => ?_, fun s hs => ?_, fun hp hl s hs => ?_⟩
      · have := g3 s hs; omega
      · rw [mem_cons, mem_cons, g2]
      · simp only [List.mem_cons] at hs
        rcases hs with rfl | hs
        · omega
        · have := g3 s hs; omega
      · simp only [List.mem_cons] at hs
        rcases hs with rfl | hs
        · exact hp
        · exact g4 (hl r (by simp)) (fun s hs => hl s (by simp [hs])) s hs
theorem mergeS_facts {L l : List Rg} (hp : l.Perm L) (ha : Asc l) (h1 : ∀ s ∈ L, s.1 ≤ s.2) (h2 : ∀ s ∈ L, InB s) : rightB (mergeS l) = true ∧ ∀ v, Mem (mergeS l) v ↔ Mem L v := by
  have hm : ∀ v, Mem l v ↔ Mem L v := fun v => by
    unfold Mem
    constructor
    · rintro ⟨r, h, h3⟩; exact ⟨r, hp.mem_iff.1 h, h3⟩
    · rintro ⟨r, h, h3⟩; exact ⟨r, hp.mem_iff.2 h, h3⟩
  have h1' : ∀ s ∈ l, s.1 ≤ s.2 := fun s hs => h1 s (hp.mem_iff.1 hs)
  have h2' : ∀ s ∈ l, InB s := fun s hs => h2 s (hp.mem_iff.1 hs)
  cases l with
  | nil => exact ⟨by decide, hm⟩
  | cons r l =>
    obtain ⟨h5, h6⟩ := asc_cons ha
    obtain ⟨g1, g2, g3, g4⟩ := mrg_facts l r (h1' r (by simp)) (fun s hs => h1' s (by simp [hs])) h5 h6
    exact ⟨right_iff.2 ⟨g1, g4 (h2' r (by simp)) (fun s hs => h2' s (by simp [hs]))⟩, fun v => (g2 v).trans (hm v)⟩
theorem merge_eq {L l T : List Rg} (hp : l.Perm L) (ha : Asc l) (h1 : ∀ s ∈ L, s.1 ≤ s.2) (h2 : ∀ s ∈ L, InB s) (hT : rightB T = true) (h : ∀ v, Mem L v ↔ Mem T v) : mergeS l = T :=
  right_ext (mergeS_facts hp ha h1 h2).1 hT fun v => ((mergeS_facts hp ha h1 h2).2 v).trans (h v)
theorem keep_alive : keepGo [] [(5, 7), (1, 3), (4, 4)] = some [(5, 7), (1, 3), (4, 4)] := by decide
theorem merge_alive {l : List Rg} (hp : l.Perm [(5, 7), (1, 3), (4, 4)]) (ha : Asc l) : mergeS l = [(1, 7)] := by
  refine merge_eq hp ha (by simp) (by simp [InB]) (by decide) fun v => ?_
  simp only [mem_cons]
  have : ¬ Mem [] v := mem_nil v
  constructor
  · rintro (h | h | h | h)
    · exact .inl (by omega)
    · exact .inl (by omega)
    · exact .inl (by omega)
    · exact absurd h this
  · rintro (h | h)
    · omega
    · exact absurd h this
end Go.Proofs.Ytjdlfmcnjpiaoaa
