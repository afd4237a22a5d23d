/- Plain laws for unlike values: the reference gives values out one by one just if no stretch holds more ranges than values. -/
import Derived.Test.YtonkcemcledhiaaPlRef17
namespace Go.Proofs.Ytonkcemcledhiaa
open Av
attribute [local irreducible] awp awpOpers
set_option linter.unusedSimpArgs false
set_option linter.unusedVariables false
theorem cnt_erase {l : List Rg} {k : Nat} {r : Rg} (P : Rg → Bool) (h : l[k]? = some r) : (l.filter P).length = ((l.eraseIdx k).filter P).length + if P r = true then 1 else 0 := by
  have e1 : l = l.take k ++ r :: l.drop (k + 1) := by
    have := drop_at h
    rw [← this, List.take_append_drop]
  have e2 : l.eraseIdx k = l.take k ++ l.drop (k + 1) := List.eraseIdx_eq_take_drop_succ ..
  rw [e2]
  conv => lhs; rw [e1]
  rw [List.filter_append, List.filter_append, List.filter_cons]
  split
  · simp only [List.length_append, List.length_cons]; omega
  · simp only [List.length_append]; omega
theorem cnt_set {l : List Rg} {k : Nat} {r q : Rg} (P : Rg → Bool) (h : l[k]? = some r) : ((l.set k q).filter P).length = ((l.eraseIdx k).filter P).length + if P q = true then 1 else 0 := by
  have hk := (List.getElem?_eq_some_iff.1 h).1
  have h2 : (l.set k q)[k]? = some q := List.getElem?_set_self hk
  rw [cnt_erase P h2, List.eraseIdx_set_eq]
theorem cnt_mono {P Q : Rg → Bool} : ∀ {l : List Rg}, (∀ r ∈ l, P r = true → Q r = true) → (l.filter P).length ≤ (l.filter Q).length
  | [], _ => by simp
  | r :: l, h => by
    have ih := cnt_mono (l := l) (fun r hr => h r (List.mem_cons_of_mem _ hr))
    have h0 := h r (List.mem_cons_self ..)
    rw [List.filter_cons, List.filter_cons]
    cases hp : P r
    · cases hq : Q r
      · rw [if_neg (by simp), if_neg (by simp)]; exact ih
      · rw [if_neg (by simp), if_pos rfl, List.length_cons]; omega
    · rw [if_pos rfl, if_pos (h0 hp), List.length_cons, List.length_cons]; omega
def clipP (v a b : Int) (r : Rg) : Bool := decide (a ≤ max r.1 v) && decide (r.2 ≤ b)
def cntC (l : List Rg) (v a b : Int) : Nat := (l.filter (clipP v a b)).length
def Hc (l : List Rg) (v : Int) : Prop := ∀ a b : Int, 0 < cntC l v a b → (cntC l v a b : Int) ≤ b - a + 1
theorem clip_iff {v a b : Int} {r : Rg} : clipP v a b r = true ↔ a ≤ max r.1 v ∧ r.2 ≤ b := by simp [clipP]
theorem hc_mono {l : List Rg} {v w : Int} (h : v ≤ w) (hw : Hc l w) : Hc l v := by
  intro a b h0
  have : cntC l v a b ≤ cntC l w a b := cnt_mono fun r _ hr => by rw [clip_iff] at hr ⊢; omega
  have := hw a b (by omega)
  omega
theorem hc_insert {l : List Rg} {k : Nat} {r : Rg} {w : Int} (hk : l[k]? = some r) (h1 : r.1 ≤ w) (h2 : w ≤ r.2) (h : Hc (l.eraseIdx k) (w + 1)) : Hc l w := by
  intro a b h0
  have e := cnt_erase (clipP w a b) hk
  change cntC l w a b = cntC (l.eraseIdx k) w a b + _ at e
  by_cases ha : a ≤ w
  · have hle : cntC (l.eraseIdx k) w a b ≤ cntC (l.eraseIdx k) (w + 1) (w + 1) b := cnt_mono fun r _ hr => by rw [clip_iff] at hr ⊢; omega
    by_cases hz : 0 < cntC (l.eraseIdx k) (w + 1) (w + 1) b
    · have := h _ _ hz
      split at e <;> omega
    · split at e
      · rename_i hc
        rw [clip_iff] at hc
        omega
      · omega
  · have hno : ¬ clipP w a b r = true := by rw [clip_iff]; omega
    rw [if_neg hno] at e
    have hle : cntC (l.eraseIdx k) w a b ≤ cntC (l.eraseIdx k) (w + 1) a b := cnt_mono fun r _ hr => by rw [clip_iff] at hr ⊢; omega
    have := h a b (by omega)
    omega
theorem hc_remove {l : List Rg} {k : Nat} {r : Rg} {w : Int} (hk : l[k]? = some r) (h1 : r.1 ≤ w) (hb : ∀ q ∈ l, q.1 ≤ w → r.2 ≤ q.2) (h : Hc l w) : w ≤ r.2 ∧ Hc (l.eraseIdx k) (w + 1) := by
  have e := fun a b => cnt_erase (clipP w a b) hk
  change ∀ a b, cntC l w a b = cntC (l.eraseIdx k) w a b + _ at e
  constructor
  · have e1 := e w r.2
    rw [if_pos (clip_iff.2 (by omega))] at e1
    have := h w r.2 (by omega)
    omega
  · intro a b h0
    by_cases ha : w + 1 < a
    · have hle : cntC (l.eraseIdx k) (w + 1) a b ≤ cntC (l.eraseIdx k) w a b := cnt_mono fun r _ hr => by rw [clip_iff] at hr ⊢; omega
      have e1 := e a b
      have := h a b (by omega)
      omega
    · by_cases hrb : r.2 ≤ b
      · have hle : cntC (l.eraseIdx k) (w + 1) a b ≤ cntC (l.eraseIdx k) w w b := cnt_mono fun r _ hr => by rw [clip_iff] at hr ⊢; omega
        have e1 := e w b
        rw [if_pos (clip_iff.2 (by omega))] at e1
        have := h w b (by omega)
        omega
      · have hle : cntC (l.eraseIdx k) (w + 1) a b ≤ cntC (l.eraseIdx k) w (w + 1) b := cnt_mono fun q hq hr => by
          have := hb q (List.mem_of_mem_eraseIdx hq)
          rw [clip_iff] at hr ⊢
          omega
        have e1 := e (w + 1) b
        have := h (w + 1) b (by omega)
        omega
theorem bestGo_best (l : List Rg) (v : Int) : ∀ k, 0 ≤ bestGo l v k → (rgAt l (bestGo l v k).toNat).1 ≤ v ∧ ∀ j, j < k → (rgAt l j).1 ≤ v → (rgAt l (bestGo l v k).toNat).2 ≤ (rgAt l j).2
  | 0, h => by unfold bestGo at h; omega
  | k + 1, h => by
    have ih := bestGo_best l v k
    unfold bestGo at h ⊢
    split
    · rename_i hc
      rw [Int.toNat_natCast]
      refine ⟨hc.1, fun j hj hv => ?_⟩
      by_cases hjk : j = k
      · subst hjk; omega
      · rcases hc.2 with h0 | h0
        · have := bestGo_some l v k ⟨j, by omega, hv⟩
          omega
        · by_cases hb : 0 ≤ bestGo l v k
          · have := (ih hb).2 j (by omega) hv; omega
          · have := bestGo_some l v k ⟨j, by omega, hv⟩
            omega
    · rename_i hc
      rw [if_neg hc] at h
      refine ⟨(ih h).1, fun j hj hv => ?_⟩
      by_cases hjk : j = k
      · subst hjk; omega
      · exact (ih h).2 j (by omega) hv
theorem best_facts {l : List Rg} (v : Int) (h0 : 0 < l.length) : bestV l v < l.length ∧ l[bestV l v]? = some (rgAt l (bestV l v)) ∧ (rgAt l (bestV l v)).1 ≤ fromV l v ∧ (∀ q ∈ l, q.1 ≤ fromV l v → (rgAt l (bestV l v)).2 ≤ q.2) ∧ v ≤ fromV l v ∧ ∀ q ∈ l, max q.1 (fromV l v) = max q.1 v := by
  have hb0 : 0 ≤ bestGo l (fromV l v) l.length := by
    obtain ⟨j, j1, j2⟩ := minGo_at l l.length
    exact bestGo_some l _ _ ⟨j, by omega, by rw [j2]; unfold fromV; omega⟩
  have hlt := bestGo_lt l (fromV l v) l.length
  have hbn : bestV l v < l.length := by unfold bestV; omega
  obtain ⟨b1, b2⟩ := bestGo_best l (fromV l v) l.length hb0
  have at_ : ∀ q ∈ l, ∃ j, j < l.length ∧ rgAt l j = q := by
    intro q hq
    obtain ⟨j, hj⟩ := List.getElem?_of_mem hq
    exact ⟨j, (List.getElem?_eq_some_iff.1 hj).1, by unfold rgAt; rw [hj]; rfl⟩
  refine ⟨hbn, rgAt_get hbn, b1, fun q hq hv => ?_, by unfold fromV; omega, fun q hq => ?_⟩
  · obtain ⟨j, hj, rfl⟩ := at_ q hq
    exact b2 j hj hv
  · obtain ⟨j, hj, rfl⟩ := at_ q hq
    have := minGo_le l l.length j hj
    unfold fromV
    omega
theorem hc_from {l : List Rg} {v : Int} (h0 : 0 < l.length) : Hc l (fromV l v) ↔ Hc l v := by
  have hf := (best_facts (l := l) v h0).2.2.2.2.2
  have : ∀ a b, cntC l (fromV l v) a b = cntC l v a b := fun a b => Nat.le_antisymm (cnt_mono fun r hr h => by rw [clip_iff] at h ⊢; rw [hf r hr] at h; exact h) (cnt_mono fun r hr h => by rw [clip_iff] at h ⊢; rw [hf r hr]; exact h)
  unfold Hc
  simp only [this]
theorem given_iff : ∀ (n : Nat) (l : List Rg) (v : Int), l.length = n → (givenGo n l v = true ↔ Hc l v)
  | 0, l, v, hn => by
    have : l = [] := List.eq_nil_of_length_eq_zero hn
    subst this
    refine ⟨fun _ a b h => by simp [cntC] at h, fun _ => rfl⟩
  | n + 1, l, v, hn => by
    obtain ⟨f1, f2, f3, f4, f5, f6⟩ := best_facts (l := l) v (by omega)
    have hel : (l.eraseIdx (bestV l v)).length = n := by rw [List.length_eraseIdx, if_pos f1]; omega
    have ih := given_iff n (l.eraseIdx (bestV l v)) (fromV l v + 1) hel
    unfold givenGo
    rw [if_neg (by omega), ← hc_from (by omega)]
    by_cases hlt : (rgAt l (bestV l v)).2 < fromV l v
    · rw [if_pos hlt]
      refine ⟨fun h => (by cases h), fun h => ?_⟩
      have := (hc_remove f2 f3 f4 h).1
      omega
    · rw [if_neg hlt, ih]
      exact ⟨fun h => hc_insert f2 f3 (by omega) h, fun h => (hc_remove f2 f3 f4 h).2⟩
/-- there is a value of a place with which there is room -/
theorem hc_choose : ∀ (n : Nat) (l : List Rg) (v : Int) (k : Nat) (r : Rg), l.length = n → l[k]? = some r → Hc l v → ∃ u, r.1 ≤ u ∧ u ≤ r.2 ∧ Hc (l.set k (u, u)) v
  | 0, l, v, k, r, hn, hk, _ => by have := (List.getElem?_eq_some_iff.1 hk).1; omega
  | n + 1, l, v, k, r, hn, hk, h => by
    obtain ⟨f1, f2, f3, f4, f5, f6⟩ := best_facts (l := l) v (by omega)
    have hel : (l.eraseIdx (bestV l v)).length = n := by rw [List.length_eraseIdx, if_pos f1]; omega
    have hw := (hc_from (by omega)).2 h
    obtain ⟨g1, g2⟩ := hc_remove f2 f3 f4 hw
    generalize fromV l v = w at *
    generalize hb : bestV l v = b at *
    have hkl := (List.getElem?_eq_some_iff.1 hk).1
    by_cases hkb : k = b
    · subst hkb
      rw [hk] at f2
      injection f2 with f2
      rw [← f2] at f3 g1
      refine ⟨w, f3, g1, hc_mono f5 ?_⟩
      refine hc_insert (k := k) (r := (w, w)) (List.getElem?_set_self hkl) (Int.le_refl _) (Int.le_refl _) ?_
      rw [List.eraseIdx_set_eq]; exact g2
    · by_cases hlt : k < b
      · have hk' : (l.eraseIdx b)[k]? = some r := by rw [List.getElem?_eraseIdx, if_pos hlt]; exact hk
        obtain ⟨u, u1, u2, u3⟩ := hc_choose n _ (w + 1) k r hel hk' g2
        refine ⟨u, u1, u2, hc_mono f5 ?_⟩
        refine hc_insert (k := b) (r := rgAt l b) (by rw [List.getElem?_set_ne hkb]; exact f2) f3 g1 ?_
        have e : (l.set k (u, u)).eraseIdx b = (l.eraseIdx b).set k (u, u) := by rw [List.eraseIdx_set_gt hlt]
        rw [e]; exact u3
      · have hgt : b < k := by omega
        have hk' : (l.eraseIdx b)[k - 1]? = some r := by rw [List.getElem?_eraseIdx, if_neg (by omega), show k - 1 + 1 = k by omega]; exact hk
        obtain ⟨u, u1, u2, u3⟩ := hc_choose n _ (w + 1) (k - 1) r hel hk' g2
        refine ⟨u, u1, u2, hc_mono f5 ?_⟩
        refine hc_insert (k := b) (r := rgAt l b) (by rw [List.getElem?_set_ne hkb]; exact f2) f3 g1 ?_
        have e : (l.set k (u, u)).eraseIdx b = (l.eraseIdx b).set (k - 1) (u, u) := by rw [List.eraseIdx_set_lt hgt]
        rw [e]; exact u3
end Go.Proofs.Ytonkcemcledhiaa
