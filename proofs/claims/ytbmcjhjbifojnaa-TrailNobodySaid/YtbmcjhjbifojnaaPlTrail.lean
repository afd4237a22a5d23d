/- A store with a trail against one that keeps every level, plain. -/
import Derived.Test.YtbmcjhjbifojnaaWTrail4
import Derived.Test.YtbmcjhjbifojnaaAv4
import Derived.Test.YtbmcjhjbifojnaaWRef10b
namespace Go.Proofs.Ytbmcjhjbifojnaa
open Av
attribute [local irreducible] awp awpOpers
set_option linter.unusedVariables false
theorem undoS_app (d : List (List Rg)) : ∀ l l' : List (Int × List Rg), undoS d (l ++ l') = undoS (undoS d l') l
  | [], l' => rfl
  | e :: l, l' => by simp only [List.cons_append, undoS]; rw [undoS_app d l l']
theorem undoS_new {d : List (List Rg)} {tr : List (Int × List Rg)} {n t : Nat} {r m : List Rg} (hr : d[n]? = some r) (ht : t ≤ tr.length) : undoS (d.set n m) ((tr ++ [((n : Int), r)]).drop t) = undoS d (tr.drop t) := by
  rw [List.drop_append_of_le_length ht, undoS_app]
  have e : undoS (d.set n m) [((n : Int), r)] = d := by
    simp only [undoS, Int.toNat_natCast, List.set_set]
    apply List.ext_getElem?
    intro j
    rw [List.getElem?_set]
    split
    · rename_i h; subst h
      rw [hr]
      have := (List.getElem?_eq_some_iff.1 hr).1
      simp [this]
    · rfl
  rw [e]
theorem undoS_pop {d : List (List Rg)} {tr : List (Int × List Rg)} {s t : Nat} (h : s ≤ t) (ht : t ≤ tr.length) : undoS (undoS d (tr.drop t)) ((tr.take t).drop s) = undoS d (tr.drop s) := by
  rw [← undoS_app]
  congr 1
  have : tr.drop s = (tr.take t ++ tr.drop t).drop s := by rw [List.take_append_drop]
  rw [this, List.drop_append_of_le_length (by rw [List.length_take]; omega)]
/-- the keys that a row of flags shows -/
theorem chgI_gen : ∀ (F : List Bool) (k : Nat) (ks : List Nat), ks.Pairwise (· < ·) → (∀ x, x ∈ ks ↔ ∃ i, x = k + i ∧ F[i]? = some true) → chgI k F = ks.map Int.ofNat
  | [], k, ks, hs, h => by
    have : ks = [] := by
      cases ks with
      | nil => rfl
      | cons x l => obtain ⟨i, _, hi⟩ := (h x).1 (by simp); simp at hi
    subst this; rfl
  | b :: F, k, ks, hs, h => by
    cases b with
    | false =>
      simp only [chgI]
      refine chgI_gen F (k + 1) ks hs fun x => ⟨fun hx => ?_, ?_⟩
      · obtain ⟨i, rfl, hi⟩ := (h x).1 hx
        cases i with
        | zero => simp at hi
        | succ i => exact ⟨i, by omega, by simpa using hi⟩
      · rintro ⟨i, rfl, hi⟩
        exact (h _).2 ⟨i + 1, by omega, by simpa using hi⟩
    | true =>
      have hk : k ∈ ks := (h k).2 ⟨0, rfl, rfl⟩
      cases ks with
      | nil => cases hk
      | cons y l =>
        obtain ⟨h1, h2⟩ := List.pairwise_cons.1 hs
        have hy : y = k := by
          obtain ⟨i, hi, _⟩ := (h y).1 (by simp)
          rcases List.mem_cons.1 hk with e | e
          · exact e.symm
          · have := h1 k e; omega
        subst hy
        simp only [chgI, List.map_cons]
        rw [chgI_gen F (y + 1) l h2]
        · rfl
        · intro x
          constructor
          · intro hx
            obtain ⟨i, rfl, hi⟩ := (h x).1 (List.mem_cons_of_mem _ hx)
            have := h1 _ hx
            cases i with
            | zero => omega
            | succ i => exact ⟨i, by omega, by simpa using hi⟩
          · rintro ⟨i, rfl, hi⟩
            have := (h (y + 1 + i)).2 ⟨i + 1, by omega, by simpa using hi⟩
            rcases List.mem_cons.1 this with e | e
            · omega
            · exact e
/-- the two stores are one -/
structure Same (d : List (List Rg)) (tr : List (Int × List Rg)) (lv : List Int) (ks : List Nat) (W : List (List (List Rg))) (F : List Bool) : Prop where
  wlen : W.length = lv.length
  flen : F.length = d.length
  lev : ∀ (i : Nat) t E, lv[i]? = some t → W[i]? = some E → ∃ n : Nat, t = (n : Int) ∧ n ≤ tr.length ∧ undoS d (tr.drop n) = E
  asc : lv.Pairwise (· ≤ ·)
  top : ∀ (j : Nat) x r, tr[j]? = some (x, r) → 0 ≤ x ∧ x < (d.length : Int)
  srt : ks.Pairwise (· < ·)
  key : ∀ x, x ∈ ks ↔ F[x]? = some true
theorem Same.told {d : List (List Rg)} {tr : List (Int × List Rg)} {lv : List Int} {ks : List Nat} {W : List (List (List Rg))} {F : List Bool} (h : Same d tr lv ks W F) : chgI 0 F = ks.map Int.ofNat :=
  chgI_gen F 0 ks h.srt fun x => ⟨fun hx => ⟨x, by omega, (h.key x).1 hx⟩, fun ⟨i, hi, hf⟩ => by rw [show x = i by omega]; exact (h.key i).2 hf⟩
theorem Same.few {d : List (List Rg)} {tr : List (Int × List Rg)} {lv : List Int} {ks : List Nat} {W : List (List (List Rg))} {F : List Bool} (h : Same d tr lv ks W F) : ks.length ≤ d.length := by
  have := nodup_sub_len (l := ks) (m := List.range d.length) (nodup_of_asc h.srt) (fun x hx => by
    have := (List.getElem?_eq_some_iff.1 ((h.key x).1 hx)).1
    rw [h.flen] at this
    exact List.mem_range.2 this)
  simpa using this
theorem Same.push {d : List (List Rg)} {tr : List (Int × List Rg)} {lv : List Int} {ks : List Nat} {W : List (List (List Rg))} {F : List Bool} (h : Same d tr lv ks W F) : Same d tr (lv ++ [(tr.length : Int)]) ks (W ++ [d]) F := by
  refine ⟨by simp [h.wlen], h.flen, ?_, ?_, h.top, h.srt, h.key⟩
  · intro i t E ht hE
    by_cases hi : i < lv.length
    · rw [List.getElem?_append_left hi] at ht
      rw [List.getElem?_append_left (by rw [h.wlen]; exact hi)] at hE
      exact h.lev i t E ht hE
    · rw [List.getElem?_append_right (by omega)] at ht
      rw [List.getElem?_append_right (by rw [h.wlen]; omega), h.wlen] at hE
      cases hj : i - lv.length with
      | zero =>
        rw [hj] at ht hE; simp at ht hE; subst ht; subst hE
        exact ⟨tr.length, rfl, Nat.le_refl _, by rw [List.drop_length]; rfl⟩
      | succ j => rw [hj] at ht; simp at ht
  · refine List.pairwise_append.2 ⟨h.asc, by simp, ?_⟩
    intro a ha b hb
    simp at hb; subst hb
    obtain ⟨i, hi⟩ := List.getElem?_of_mem ha
    have hil := (List.getElem?_eq_some_iff.1 hi).1
    obtain ⟨E, hE⟩ : ∃ E, W[i]? = some E := ⟨_, List.getElem?_eq_getElem (by rw [h.wlen]; exact hil)⟩
    obtain ⟨n, rfl, hn, _⟩ := h.lev i a E hi hE
    omega
theorem Same.told0 {d : List (List Rg)} {tr : List (Int × List Rg)} {lv : List Int} {ks : List Nat} {W : List (List (List Rg))} {F : List Bool} (h : Same d tr lv ks W F) : Same d tr lv [] W (List.replicate d.length false) := by
  refine ⟨h.wlen, by simp, h.lev, h.asc, h.top, List.Pairwise.nil, ?_⟩
  intro x
  simp [List.getElem?_replicate]
theorem mem_insS {x n : Nat} : ∀ {l : List Nat}, x ∈ insS n l ↔ x = n ∨ x ∈ l
  | [] => by simp [insS]
  | y :: l => by
    unfold insS
    split
    · simp
    · split
      · rename_i h; subst h; simp
      · simp only [List.mem_cons, mem_insS (l := l)]
        constructor
        · rintro (h | h | h) <;> simp [h]
        · rintro (h | h | h) <;> simp [h]
theorem key_set {F : List Bool} {ks : List Nat} {n : Nat} (hn : n < F.length) (h : ∀ x, x ∈ ks ↔ F[x]? = some true) : ∀ x, x ∈ insS n ks ↔ (F.set n true)[x]? = some true := by
  intro x
  rw [mem_insS, h x, List.getElem?_set]
  by_cases hx : n = x
  · subst hx; simp [hn]
  · rw [if_neg hx]
    constructor
    · rintro (e | e)
      · exact absurd e.symm hx
      · exact e
    · exact .inr
theorem Same.new {d : List (List Rg)} {tr : List (Int × List Rg)} {lv : List Int} {ks : List Nat} {W : List (List (List Rg))} {F : List Bool} (h : Same d tr lv ks W F) {n : Nat} {r m : List Rg} (hr : d[n]? = some r) :
    Same (d.set n m) (tr ++ [((n : Int), r)]) lv (insS n ks) W (F.set n true) := by
  have hn := (List.getElem?_eq_some_iff.1 hr).1
  refine ⟨h.wlen, by simp [h.flen], ?_, h.asc, ?_, insS_sorted h.srt, key_set (by rw [h.flen]; exact hn) h.key⟩
  · intro i t E ht hE
    obtain ⟨k, rfl, hk, hu⟩ := h.lev i t E ht hE
    exact ⟨k, rfl, by simp; omega, by rw [undoS_new hr hk, hu]⟩
  · intro j x q hj
    rw [List.length_set]
    by_cases hjl : j < tr.length
    · rw [List.getElem?_append_left hjl] at hj; exact h.top j x q hj
    · rw [List.getElem?_append_right (by omega)] at hj
      cases hjj : j - tr.length with
      | zero => rw [hjj] at hj; simp at hj; obtain ⟨rfl, _⟩ := hj; omega
      | succ i => rw [hjj] at hj; simp at hj
theorem Same.new0 {d : List (List Rg)} {tr : List (Int × List Rg)} {ks : List Nat} {W : List (List (List Rg))} {F : List Bool} (h : Same d tr [] ks W F) {n : Nat} {r m : List Rg} (hr : d[n]? = some r) :
    Same (d.set n m) tr [] (insS n ks) W (F.set n true) := by
  have hn := (List.getElem?_eq_some_iff.1 hr).1
  exact ⟨h.wlen, by simp [h.flen], by intro i t E ht; simp at ht, h.asc, fun j x q hj => by rw [List.length_set]; exact h.top j x q hj, insS_sorted h.srt, key_set (by rw [h.flen]; exact hn) h.key⟩
theorem Same.pop {d : List (List Rg)} {tr : List (Int × List Rg)} {lv : List Int} {ks : List Nat} {W : List (List (List Rg))} {F : List Bool} (h : Same d tr lv ks W F) {q m : Nat} {E : List (List Rg)} (hq : lv.length = q + 1) (hm : lv[q]? = some (m : Int)) (hE : W[q]? = some E) :
    m ≤ tr.length ∧ E = undoS d (tr.drop m) ∧ Same E (tr.take m) (lv.take q) [] (W.take q) (List.replicate E.length false) := by
  obtain ⟨n, hn, hnl, hu⟩ := h.lev q _ E hm hE
  have : n = m := by omega
  subst this
  have hEl : E.length = d.length := by rw [← hu, undoS_len]
  refine ⟨hnl, hu.symm, by simp [h.wlen], by simp, ?_, h.asc.sublist (List.take_sublist _ _), ?_, List.Pairwise.nil, by intro x; simp [List.getElem?_replicate]⟩
  · intro i t G ht hG
    rw [List.getElem?_take] at ht hG
    split at ht
    · rename_i hi
      rw [if_pos hi] at hG
      obtain ⟨k, rfl, hk, huk⟩ := h.lev i t G ht hG
      have hkn : k ≤ n := by
        have hil : i < lv.length := by omega
        have hql : q < lv.length := by omega
        have := List.pairwise_iff_getElem.1 h.asc i q hil hql hi
        have e1 : lv[i] = (k : Int) := (List.getElem?_eq_some_iff.1 ht).2
        have e2 : lv[q] = (n : Int) := (List.getElem?_eq_some_iff.1 hm).2
        omega
      exact ⟨k, rfl, by rw [List.length_take]; omega, by rw [← hu, undoS_pop hkn hnl, huk]⟩
    · cases ht
  · intro j x r hj
    rw [List.getElem?_take] at hj
    split at hj
    · rw [hEl]; exact h.top j x r hj
    · cases hj
theorem Same.start (d : List (List Rg)) : Same d [] [] [] [] (List.replicate d.length false) :=
  ⟨rfl, by simp, by intro i t E ht; simp at ht, List.Pairwise.nil, by intro j x r hj; simp at hj, List.Pairwise.nil, by intro x; simp [List.getElem?_replicate]⟩
end Go.Proofs.Ytbmcjhjbifojnaa
