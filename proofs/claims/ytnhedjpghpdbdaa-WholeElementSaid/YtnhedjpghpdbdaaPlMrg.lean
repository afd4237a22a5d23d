/- Plain laws: what running together ascending ranges leaves. -/
import Derived.Test.YtnhedjpghpdbdaaPlS
namespace Go.Proofs.Ytnhedjpghpdbdaa
open Av
attribute [local irreducible] awp awpOpers
set_option linter.unusedSimpArgs false
set_option linter.unusedVariables false
def InR (r : Rg) : Prop := -1048576 ≤ r.1 ∧ r.1 ≤ 1048576 ∧ -1048576 ≤ r.2 ∧ r.2 ≤ 1048576
def AscR (l : List Rg) : Prop := ∀ (i j : Nat) (x y : Rg), l[i]? = some x → l[j]? = some y → i < j → x.1 ≤ y.1
/-- ascending ranges run together -/
def mrg : Rg → List Rg → List Rg
  | p, [] => [p]
  | p, r :: l => if r.1 ≤ p.2 + 1 then mrg (p.1, max p.2 r.2) l else p :: mrg r l
def mergeS : List Rg → List Rg
  | [] => []
  | r :: l => mrg r l
theorem asc_cons {r : Rg} {l : List Rg} (h : AscR (r :: l)) : (∀ s ∈ l, r.1 ≤ s.1) ∧ AscR l := by
  refine ⟨fun s hs => ?_, fun i j x y hi hj hij => h (i + 1) (j + 1) x y (by simpa using hi) (by simpa using hj) (by omega)⟩
  obtain ⟨j, hj⟩ := List.getElem?_of_mem hs
  exact h 0 (j + 1) r s rfl (by simpa using hj) (by omega)
theorem mrg_facts : ∀ (l : List Rg) (p : Rg), p.1 ≤ p.2 → (∀ s ∈ l, s.1 ≤ s.2) → (∀ s ∈ l, p.1 ≤ s.1) → AscR l →
    Wf (mrg p l) ∧ (∀ v, Mem (mrg p l) v ↔ Mem (p :: l) v) ∧ (∀ s ∈ mrg p l, p.1 ≤ s.1) ∧ (InR p → (∀ s ∈ l, InR s) → ∀ s ∈ mrg p l, InR s)
  | [], p, h1, _, _, _ => ⟨⟨h1, by simp, trivial⟩, fun v => Iff.rfl, fun s hs => by rw [List.mem_singleton.1 hs]; omega, fun hp _ s hs => by rw [List.mem_singleton.1 hs]; exact hp⟩
  | r :: l, p, h1, h2, h3, h4 => by
    obtain ⟨h5, h6⟩ := asc_cons h4
    have h7 := h2 r (by simp)
    have h8 := h3 r (by simp)
    unfold mrg
    split
    · rename_i hc
      obtain ⟨g1, g2, g3, g4⟩ := mrg_facts l (p.1, max p.2 r.2) (by simp only; omega) (fun s hs => h2 s (by simp [hs])) (fun s hs => h3 s (by simp [hs])) h6
      refine ⟨g1, fun v => (g2 v).trans ?_, g3, fun hp hl => g4 ?_ (fun s hs => hl s (by simp [hs]))⟩
      · rw [mem_cons, mem_cons, mem_cons]
        simp only
        constructor
        · rintro (h | h)
          · omega
          · exact .inr (.inr h)
        · rintro (h | h | h)
          · exact .inl (by omega)
          · exact .inl (by omega)
          · exact .inr h
      · have := hl r (by simp)
        unfold InR at *
        simp only
        omega
    · rename_i hc
      obtain ⟨g1, g2, g3, g4⟩ := mrg_facts l r h7 (fun s hs => h2 s (by simp [hs])) h5 h6
      refine ⟨⟨h1, fun s hs => ?_, g1⟩, fun v => ?_, fun s hs => ?_, fun hp hl s hs => ?_⟩
      · have := g3 s hs; omega
      · rw [mem_cons, mem_cons, g2]
      · simp only [List.mem_cons] at hs
        rcases hs with rfl | hs
        · omega
        · have := g3 s hs; omega
      · simp only [List.mem_cons] at hs
        rcases hs with rfl | hs
        · exact hp
        · exact g4 (hl r (by simp)) (fun s hs => hl s (by simp [hs])) s hs
theorem mergeS_facts {L l : List Rg} (hp : l.Perm L) (ha : AscR l) (h1 : ∀ s ∈ L, s.1 ≤ s.2) (h2 : ∀ s ∈ L, InR s) : rightB (mergeS l) = true ∧ ∀ v, Mem (mergeS l) v ↔ Mem L v := by
  have hm : ∀ v, Mem l v ↔ Mem L v := fun v => by
    unfold Mem
    constructor
    · rintro ⟨r, h, h3⟩; exact ⟨r, hp.mem_iff.1 h, h3⟩
    · rintro ⟨r, h, h3⟩; exact ⟨r, hp.mem_iff.2 h, h3⟩
  have h1' : ∀ s ∈ l, s.1 ≤ s.2 := fun s hs => h1 s (hp.mem_iff.1 hs)
  have h2' : ∀ s ∈ l, InR s := fun s hs => h2 s (hp.mem_iff.1 hs)
  cases l with
  | nil => exact ⟨by decide, hm⟩
  | cons r l =>
    obtain ⟨h5, h6⟩ := asc_cons ha
    obtain ⟨g1, g2, g3, g4⟩ := mrg_facts l r (h1' r (by simp)) (fun s hs => h1' s (by simp [hs])) h5 h6
    exact ⟨right_iff.2 ⟨g1, g4 (h2' r (by simp)) (fun s hs => h2' s (by simp [hs]))⟩, fun v => (g2 v).trans (hm v)⟩
/-- the same, one range after another -/
def mrgStep (out : List Rg) (r : Rg) : List Rg := match out.getLast? with
  | some p => if r.1 ≤ p.2 + 1 then out.dropLast ++ [(p.1, max p.2 r.2)] else out ++ [r]
  | none => [r]
theorem step_nil (r : Rg) : mrgStep [] r = [r] := rfl
theorem step_snoc (pre : List Rg) (p r : Rg) : mrgStep (pre ++ [p]) r = if r.1 ≤ p.2 + 1 then pre ++ [(p.1, max p.2 r.2)] else (pre ++ [p]) ++ [r] := by
  unfold mrgStep
  rw [List.getLast?_concat, List.dropLast_concat]
theorem fold_mrg : ∀ (l : List Rg) (pre : List Rg) (p : Rg), l.foldl mrgStep (pre ++ [p]) = pre ++ mrg p l
  | [], pre, p => rfl
  | r :: l, pre, p => by
    rw [List.foldl_cons, step_snoc]
    unfold mrg
    split
    · exact fold_mrg l pre _
    · rw [fold_mrg l (pre ++ [p]) r, List.append_assoc]; rfl
theorem fold_merge (l : List Rg) : l.foldl mrgStep [] = mergeS l := by
  cases l with
  | nil => rfl
  | cons r l => exact fold_mrg l [] r
/-- what stands after k of them -/
def mrgK (l : List Rg) (k : Nat) : List Rg := (l.take k).foldl mrgStep []
theorem mrgK_step {l : List Rg} {k : Nat} {r : Rg} (h : l[k]? = some r) : mrgK l (k + 1) = mrgStep (mrgK l k) r := by
  unfold mrgK
  rw [List.take_add_one, h, List.foldl_append]
  rfl
theorem mrgK_full (l : List Rg) : mrgK l l.length = mergeS l := by unfold mrgK; rw [List.take_length, fold_merge]
theorem mrgK_in {l : List Rg} (h : ∀ r ∈ l, InR r) : ∀ k, k ≤ l.length → (mrgK l k).length ≤ k ∧ ∀ r ∈ mrgK l k, InR r
  | 0, _ => ⟨by simp [mrgK], by simp [mrgK]⟩
  | k + 1, hk => by
    obtain ⟨h1, h2⟩ := mrgK_in h k (by omega)
    obtain ⟨r, hr⟩ : ∃ r, l[k]? = some r := ⟨_, List.getElem?_eq_getElem (by omega)⟩
    have hri := h r (List.mem_of_getElem? hr)
    rw [mrgK_step hr]
    rcases List.eq_nil_or_concat (mrgK l k) with e | ⟨pre, p, e⟩
    · rw [e, step_nil]
      refine ⟨by simp, fun q hq => ?_⟩
      rw [List.mem_singleton] at hq; subst hq; exact hri
    · try rw [List.concat_eq_append] at e
      rw [e] at h1 h2
      simp only [List.length_append, List.length_cons, List.length_nil] at h1
      have hp := h2 p (by simp)
      rw [e, step_snoc]
      split
      · refine ⟨by simp; omega, fun q hq => ?_⟩
        simp only [List.mem_append, List.mem_singleton] at hq
        rcases hq with hq | hq
        · exact h2 q (by simp [hq])
        · subst hq
          unfold InR at *
          simp only
          omega
      · refine ⟨by simp; omega, fun q hq => ?_⟩
        simp only [List.mem_append, List.mem_singleton] at hq
        rcases hq with hq | hq
        · exact h2 q (by simpa using hq)
        · subst hq; exact hri
end Go.Proofs.Ytnhedjpghpdbdaa
