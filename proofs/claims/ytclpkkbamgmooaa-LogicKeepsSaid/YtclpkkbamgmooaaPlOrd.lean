/- Plain laws of domains that have no more values than others. -/
import Derived.Test.YtclpkkbamgmooaaPlS
import Derived.Test.YtclpkkbamgmooaaWModel4
namespace Go.Proofs.Ytclpkkbamgmooaa
open Av
set_option linter.unusedSimpArgs false
set_option linter.unusedVariables false
theorem row_get {D : List (List Rg)} {x : Int} (h : 0 ≤ x ∧ x < D.length) : D[x.toNat]? = some (rowOf D x) := by
  obtain ⟨r, hr⟩ : ∃ r, D[x.toNat]? = some r := ⟨_, List.getElem?_eq_getElem (by omega)⟩
  unfold rowOf
  rw [hr]; rfl
theorem row_mem {D : List (List Rg)} {x : Int} (h : 0 ≤ x ∧ x < D.length) : rowOf D x ∈ D := List.mem_of_getElem? (row_get h)
theorem take_snoc {α : Type} {T : List α} {k : Nat} {r : α} (h : T[k]? = some r) : T.take k ++ [r] = T.take (k + 1) := by
  rw [List.take_add_one, h]; rfl
/-- one set within another one -/
def Sub (r r' : List Rg) : Prop := rightB r = true ∧ rightB r' = true ∧ ∀ v, Mem r v → Mem r' v
def LeD (s d : List (List Rg)) : Prop := s.length = d.length ∧ ∀ x : Int, 0 ≤ x → x < d.length → Sub (rowOf s x) (rowOf d x)
theorem Sub.trans {a b c : List Rg} (h : Sub a b) (k : Sub b c) : Sub a c := ⟨h.1, k.2.1, fun v hv => k.2.2 v (h.2.2 v hv)⟩
theorem LeD.trans {a b c : List (List Rg)} (h : LeD a b) (k : LeD b c) : LeD a c := ⟨h.1.trans k.1, fun x h0 h1 => (h.2 x h0 (by rw [k.1]; exact h1)).trans (k.2 x h0 h1)⟩
theorem LeD.self {a b : List (List Rg)} (h : LeD a b) : LeD a a := ⟨rfl, fun x h0 h1 => ⟨(h.2 x h0 (by rw [← h.1]; exact h1)).1, (h.2 x h0 (by rw [← h.1]; exact h1)).1, fun v hv => hv⟩⟩
theorem meet_sub {r t : List Rg} (h : Sub r t) : rmeetS r t = r := by
  rw [← meet_eq]
  obtain ⟨f1, f2⟩ := meetS_facts h.1 h.2.1
  exact right_ext f1 h.1 fun v => by rw [f2]; exact ⟨fun k => k.1, fun k => ⟨k, h.2.2 v k⟩⟩
/-- no more values, and still some -/
def smallR (r c : List Rg) : List Rg := if rmeetS r c = [] ∨ 100 < c.length then r else rmeetS r c
def smallL (D C : List (List Rg)) : List (List Rg) := List.zipWith smallR D C
theorem small_sub {r c : List Rg} (hr : rightB r = true) : Sub (smallR r c) r := by
  unfold smallR
  split
  · exact ⟨hr, hr, fun v h => h⟩
  · rename_i h
    have hc : rightB c = true := by
      cases hc : rightB c with
      | true => rfl
      | false => exact absurd (.inl (by unfold rmeetS; simp [hc])) h
    rw [← meet_eq]
    obtain ⟨f1, f2⟩ := meetS_facts hr hc
    exact ⟨f1, hr, fun v hv => ((f2 v).1 hv).1⟩
theorem small_some {r c : List Rg} (hr : r ≠ []) : smallR r c ≠ [] := by
  unfold smallR
  split
  · exact hr
  · rename_i h
    exact fun e => h (.inl e)
theorem small_le {D C : List (List Rg)} (hlen : C.length = D.length) (hr : ∀ r ∈ D, rightB r = true) : LeD (smallL D C) D := by
  have hl : (smallL D C).length = D.length := by unfold smallL; rw [List.length_zipWith]; omega
  refine ⟨hl, fun x h0 h1 => ?_⟩
  have hd := row_get (D := D) ⟨h0, h1⟩
  obtain ⟨c, hc⟩ : ∃ c, C[x.toNat]? = some c := ⟨_, List.getElem?_eq_getElem (by omega)⟩
  have hs : (smallL D C)[x.toNat]? = some (smallR (rowOf D x) c) := by unfold smallL; rw [List.getElem?_zipWith, hd, hc]
  have e : rowOf (smallL D C) x = smallR (rowOf D x) c := by
    conv => lhs; unfold rowOf
    rw [hs]; rfl
  rw [e]
  exact small_sub (hr _ (row_mem ⟨h0, h1⟩))
theorem small_dom {D C : List (List Rg)} (hlen : C.length = D.length) (hr : ∀ r ∈ D, domB r = true) : ∀ r ∈ smallL D C, domB r = true := by
  intro r h
  obtain ⟨i, hi, rfl⟩ := List.getElem_of_mem h
  unfold smallL at hi ⊢
  rw [List.getElem_zipWith]
  have hd := hr _ (List.getElem_mem (l := D) (n := i) (by rw [List.length_zipWith] at hi; omega))
  generalize D[i]'_ = a at hd ⊢
  unfold domB at hd ⊢
  rw [Bool.and_eq_true, decide_eq_true_eq] at hd ⊢
  refine ⟨(small_sub hd.1).1, ?_⟩
  have := small_some (r := a) (c := C[i]'(by rw [List.length_zipWith] at hi; omega)) (fun e => by rw [e] at hd; simp at hd)
  cases hq : smallR a (C[i]'(by rw [List.length_zipWith] at hi; omega)) with
  | nil => exact absurd hq this
  | cons b l => simp
end Go.Proofs.Ytclpkkbamgmooaa
