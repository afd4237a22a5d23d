/- Plain laws: ranges joined one by one give what sorting and running them together gives. -/
import Derived.Test.YtfcphijidcfboaaPlElem2
namespace Go.Proofs.Ytfcphijidcfboaa
open Av
attribute [local irreducible] awp awpOpers
set_option linter.unusedSimpArgs false
set_option linter.unusedVariables false
def joinedGo : Rg → Bool → List Rg → List Rg
  | r, laid, [] => if laid = true then [] else [r]
  | r, laid, d :: l =>
    if d.2 + 1 < r.1 then d :: joinedGo r laid l
    else if r.2 + 1 < d.1 then (if laid = true then [d] else [r, d]) ++ joinedGo r true l
    else joinedGo (min r.1 d.1, max r.2 d.2) laid l
theorem joined_length : ∀ (l : List Rg) (r : Rg) (b : Bool), (joinedGo r b l).length ≤ l.length + (if b = true then 0 else 1)
  | [], r, b => by unfold joinedGo; cases b <;> simp
  | d :: l, r, b => by
    unfold joinedGo
    split
    · have := joined_length l r b; simp; omega
    · split
      · have := joined_length l r true
        cases b <;> simp at * <;> omega
      · have := joined_length l (min r.1 d.1, max r.2 d.2) b; simp; omega
theorem joined_inR : ∀ (l : List Rg) (r : Rg) (b : Bool), InR r → (∀ d ∈ l, InR d) → ∀ d ∈ joinedGo r b l, InR d
  | [], r, b, hr, hl, d, hd => by
    unfold joinedGo at hd
    cases b
    · simp at hd; exact hd ▸ hr
    · simp at hd
  | e :: l, r, b, hr, hl, d, hd => by
    have he := hl e (by simp)
    have hl' : ∀ d ∈ l, InR d := fun d hd => hl d (by simp [hd])
    unfold joinedGo at hd
    split at hd
    · simp at hd
      rcases hd with rfl | hd
      · exact he
      · exact joined_inR l r b hr hl' d hd
    · split at hd
      · rw [List.mem_append] at hd
        rcases hd with hd | hd
        · cases b
          · simp at hd; rcases hd with rfl | rfl
            · exact hr
            · exact he
          · simp at hd; exact hd ▸ he
        · exact joined_inR l r true hr hl' d hd
      · refine joined_inR l _ b ?_ hl' d hd
        unfold InR at *
        simp
        omega
theorem joined_true : ∀ (l : List Rg) (r : Rg), r.1 ≤ r.2 → (∀ d ∈ l, r.2 + 1 < d.1) → (∀ d ∈ l, d.1 ≤ d.2) → joinedGo r true l = l
  | [], r, _, _, _ => by simp [joinedGo]
  | d :: l, r, h0, h1, h2 => by
    have a := h1 d (by simp)
    have b := h2 d (by simp)
    unfold joinedGo
    rw [if_neg (by omega), if_pos a, joined_true l r h0 (fun s hs => h1 s (by simp [hs])) (fun s hs => h2 s (by simp [hs]))]
    simp
theorem joined_facts : ∀ (l : List Rg) (r : Rg), r.1 ≤ r.2 → Wf l →
    Wf (joinedGo r false l) ∧ (∀ v, Mem (joinedGo r false l) v ↔ Mem (r :: l) v) ∧ (∀ x, x ≤ r.1 → (∀ d ∈ l, x ≤ d.1) → ∀ s ∈ joinedGo r false l, x ≤ s.1)
  | [], r, h0, _ => by
    rw [show joinedGo r false [] = [r] from rfl]
    exact ⟨⟨h0, by simp, trivial⟩, fun v => Iff.rfl, fun x hx _ s hs => by rw [List.mem_singleton.1 hs]; exact hx⟩
  | d :: l, r, h0, hw => by
    obtain ⟨w1, w2, w3⟩ := hw
    by_cases c1 : d.2 + 1 < r.1
    · have e : joinedGo r false (d :: l) = d :: joinedGo r false l := by conv => lhs; unfold joinedGo; rw [if_pos c1]
      obtain ⟨g1, g2, g3⟩ := joined_facts l r h0 w3
      rw [e]
      refine ⟨⟨w1, g3 (d.2 + 2) (by omega) w2, g1⟩, fun v => ?_, fun x hx hd s hs => ?_⟩
      · rw [mem_cons, g2, mem_cons, mem_cons, mem_cons]
        constructor
        · rintro (h | h | h) <;> simp [h]
        · rintro (h | h | h) <;> simp [h]
      · simp only [List.mem_cons] at hs
        rcases hs with rfl | hs
        · exact hd _ (by simp)
        · exact g3 x hx (fun d hd' => hd d (by simp [hd'])) s hs
    · by_cases c2 : r.2 + 1 < d.1
      · have e : joinedGo r false (d :: l) = r :: d :: l := by
          conv => lhs; unfold joinedGo; rw [if_neg c1, if_pos c2]
          rw [joined_true l r h0 (fun s hs => by have := w2 s hs; omega) (wf_le w3)]
          simp
        rw [e]
        refine ⟨⟨h0, fun s hs => ?_, w1, w2, w3⟩, fun v => Iff.rfl, fun x hx hd s hs => ?_⟩
        · simp only [List.mem_cons] at hs
          rcases hs with rfl | hs
          · omega
          · have := w2 s hs; omega
        · simp only [List.mem_cons] at hs
          rcases hs with rfl | rfl | hs
          · exact hx
          · exact hd _ (by simp)
          · exact hd s (by simp [hs])
      · have e : joinedGo r false (d :: l) = joinedGo (min r.1 d.1, max r.2 d.2) false l := by conv => lhs; unfold joinedGo; rw [if_neg c1, if_neg c2]
        obtain ⟨g1, g2, g3⟩ := joined_facts l (min r.1 d.1, max r.2 d.2) (by simp only; omega) w3
        rw [e]
        refine ⟨g1, fun v => ?_, fun x hx hd => g3 x ?_ (fun s hs => hd s (by simp [hs]))⟩
        · rw [g2, mem_cons, mem_cons, mem_cons]
          simp only
          constructor
          · rintro (h | h)
            · by_cases h5 : r.1 ≤ v ∧ v ≤ r.2
              · exact .inl h5
              · exact .inr (.inl (by omega))
            · exact .inr (.inr h)
          · rintro (h | h | h)
            · exact .inl (by omega)
            · exact .inl (by omega)
            · exact .inr h
        · have := hd d (by simp)
          simp only
          omega
/-- what stands after k of them -/
def joinK (l : List Rg) (k : Nat) : List Rg := (l.take k).foldl (fun a r => joinedGo r false a) []
theorem joinK_step {l : List Rg} {k : Nat} {r : Rg} (h : l[k]? = some r) : joinK l (k + 1) = joinedGo r false (joinK l k) := by
  unfold joinK
  rw [List.take_add_one, h, List.foldl_append]
  rfl
theorem joinK_facts {l : List Rg} (h : ∀ r ∈ l, r.1 ≤ r.2 ∧ InR r) : ∀ k, k ≤ l.length → (joinK l k).length ≤ k ∧ Wf (joinK l k) ∧ (∀ r ∈ joinK l k, InR r) ∧ ∀ v, Mem (joinK l k) v ↔ Mem (l.take k) v
  | 0, _ => ⟨by simp [joinK], by simp [joinK, Wf], by simp [joinK], fun v => by simp [joinK]⟩
  | k + 1, hk => by
    obtain ⟨h1, h2, h3, h4⟩ := joinK_facts h k (by omega)
    obtain ⟨r, hr⟩ : ∃ r, l[k]? = some r := ⟨_, List.getElem?_eq_getElem (by omega)⟩
    obtain ⟨hrl, hri⟩ := h r (List.mem_of_getElem? hr)
    obtain ⟨g1, g2, -⟩ := joined_facts (joinK l k) r hrl h2
    have hl := joined_length (joinK l k) r false
    simp only [Bool.false_eq_true, if_false] at hl
    rw [joinK_step hr]
    refine ⟨by omega, g1, joined_inR _ r false hri h3, fun v => ?_⟩
    rw [g2, mem_cons, h4, List.take_add_one, hr]
    unfold Mem
    simp only [Option.toList_some, List.mem_append, List.mem_singleton]
    constructor
    · rintro (h | ⟨q, hq, hv⟩)
      · exact ⟨r, .inr rfl, h⟩
      · exact ⟨q, .inl hq, hv⟩
    · rintro ⟨q, hq | rfl, hv⟩
      · exact .inr ⟨q, hq, hv⟩
      · exact .inl hv
theorem join_eq {l : List Rg} (h : ∀ r ∈ l, r.1 ≤ r.2 ∧ InR r) : joinK l l.length = mergeS (sortV l) := by
  obtain ⟨-, h2, h3, h4⟩ := joinK_facts h l.length (Nat.le_refl _)
  obtain ⟨g1, g2⟩ := of_facts h
  refine right_ext (right_iff.2 ⟨h2, h3⟩) g1 fun v => ?_
  rw [h4, g2, List.take_length]
theorem cho_dead {X : List Int} {i r : Int} {E : List (List Rg)} (hr : 0 ≤ r ∧ r < E.length) (hd : ∀ d ∈ E, rightB d = true) (hx : 0 ≤ i ∧ i < E.length)
    (ho : endsB (rowOf E i) = true → (endsV (rowOf E i)).1 = (endsV (rowOf E i)).2 → 0 ≤ xat X (endsV (rowOf E i)).1.toNat ∧ xat X (endsV (rowOf E i)).1.toNat < E.length)
    (h : wholeB E = false) : wholeB (choE X i r E) = false := by
  unfold choE
  split
  · rename_i hc
    obtain ⟨o1, o2⟩ := ho hc.1 hc.2
    generalize xat X (endsV (rowOf E i)).1.toNat = one at o1 o2 ⊢
    have hm := meetS_facts (right_row hd one) (right_row hd r)
    unfold wholeB at h ⊢
    simp only [Bool.not_eq_false', List.any_eq_true, decide_eq_true_eq] at h ⊢
    obtain ⟨d, hdm, h0⟩ := h
    obtain ⟨k, hk⟩ := List.getElem?_of_mem hdm
    have hkl := (List.getElem?_eq_some_iff.1 hk).1
    have hmt : (rowOf E one = [] ∨ rowOf E r = []) → meetS (rowOf E one) (rowOf E r) = [] := by
      intro hor
      refine right_ext hm.1 (by decide) fun v => (hm.2 v).trans ?_
      rcases hor with e | e
      · rw [e]; exact ⟨fun q => q.1, fun q => absurd q (by simp [Mem])⟩
      · rw [e]; exact ⟨fun q => q.2, fun q => absurd q (by simp [Mem])⟩
    have hd0 : d = [] := List.eq_nil_of_length_eq_zero h0
    subst hd0
    by_cases e1 : r.toNat = k
    · have : rowOf E r = [] := by unfold rowOf; rw [e1, hk]; rfl
      refine ⟨[], ?_, rfl⟩
      rw [hmt (.inr this), e1]
      exact List.mem_of_getElem? (i := k) (List.getElem?_set_self (by rw [List.length_set]; exact hkl))
    · by_cases e2 : one.toNat = k
      · have : rowOf E one = [] := by unfold rowOf; rw [e2, hk]; rfl
        refine ⟨[], ?_, rfl⟩
        rw [hmt (.inl this), e2]
        refine List.mem_of_getElem? (i := k) ?_
        rw [List.getElem?_set_ne e1, List.getElem?_set_self hkl]
      · refine ⟨[], ?_, rfl⟩
        refine List.mem_of_getElem? (i := k) ?_
        rw [List.getElem?_set_ne e1, List.getElem?_set_ne e2]
        exact hk
  · exact h
end Go.Proofs.Ytfcphijidcfboaa
