/- A store's state in the laws, and its bounds. -/
import Derived.Test.YtbmcjhjbifojnaaPlTrail
namespace Go.Proofs.Ytbmcjhjbifojnaa
open Av
attribute [local irreducible] awp awpOpers
set_option linter.unusedVariables false
structure S10 where
  d : List (List Rg)
  tr : List (Int × List Rg)
  lv : List Int
  ks : List Nat
  W : List (List (List Rg))
  F : List Bool
structure OK10 (n : Nat) (s : S10) : Prop where
  same : Same s.d s.tr s.lv s.ks s.W s.F
  dl : s.d.length ≤ 64
  row : ∀ r ∈ s.d, r.length ≤ 1048577
  trow : ∀ e ∈ s.tr, e.2.length ≤ 1048577
  tl : s.tr.length ≤ n
  ll : s.lv.length ≤ 512
theorem undoS_rows {p : List Rg → Prop} {d : List (List Rg)} (hd : ∀ r ∈ d, p r) : ∀ {l : List (Int × List Rg)}, (∀ e ∈ l, p e.2) → ∀ r ∈ undoS d l, p r
  | [], _, r, hr => hd r hr
  | e :: l, h, r, hr => by
    simp only [undoS] at hr
    rcases List.mem_or_eq_of_mem_set hr with hr | rfl
    · exact undoS_rows hd (fun e he => h e (List.mem_cons_of_mem _ he)) r hr
    · exact h e (by simp)
theorem OK10.mono {n m : Nat} {s : S10} (h : OK10 n s) (hm : n ≤ m) : OK10 m s := { h with tl := Nat.le_trans h.tl hm }
theorem OK10.start {d : List (List Rg)} (h1 : d.length ≤ 64) (h2 : ∀ r ∈ d, r.length ≤ 1048577) : OK10 0 ⟨d, [], [], [], [], List.replicate d.length false⟩ :=
  ⟨Same.start d, h1, h2, by simp, by simp, by simp⟩
theorem OK10.push {n : Nat} {s : S10} (h : OK10 n s) (hl : s.lv.length < 512) : OK10 n { s with lv := s.lv ++ [(s.tr.length : Int)], W := s.W ++ [s.d] } :=
  ⟨h.same.push, h.dl, h.row, h.trow, h.tl, by simp; omega⟩
theorem OK10.told {n : Nat} {s : S10} (h : OK10 n s) : OK10 n { s with ks := [], F := List.replicate s.d.length false } :=
  ⟨h.same.told0, h.dl, h.row, h.trow, h.tl, h.ll⟩
theorem OK10.pop {n : Nat} {s : S10} (h : OK10 n s) {q m : Nat} {E : List (List Rg)} (hq : s.lv.length = q + 1) (hm : s.lv[q]? = some (m : Int)) (hE : s.W[q]? = some E) :
    m ≤ s.tr.length ∧ E = undoS s.d (s.tr.drop m) ∧ OK10 n ⟨E, s.tr.take m, s.lv.take q, [], s.W.take q, List.replicate E.length false⟩ := by
  obtain ⟨h1, h2, h3⟩ := h.same.pop hq hm hE
  refine ⟨h1, h2, h3, ?_, ?_, fun e he => h.trow e (List.mem_of_mem_take he), ?_, ?_⟩
  · show E.length ≤ 64
    rw [h2, undoS_len]; exact h.dl
  · show ∀ r ∈ E, r.length ≤ 1048577
    rw [h2]; exact undoS_rows h.row (fun e he => h.trow e (List.mem_of_mem_drop he))
  · show (s.tr.take m).length ≤ n
    rw [List.length_take]; have := h.tl; omega
  · show (s.lv.take q).length ≤ 512
    rw [List.length_take]; have := h.ll; omega
theorem set_rows {d : List (List Rg)} {n : Nat} {m : List Rg} (h : ∀ r ∈ d, r.length ≤ 1048577) (hm : m.length ≤ 1048577) : ∀ r ∈ d.set n m, r.length ≤ 1048577 := by
  intro r hr
  rcases List.mem_or_eq_of_mem_set hr with hr | rfl
  · exact h r hr
  · exact hm
theorem OK10.new0 {k : Nat} {s : S10} (h : OK10 k s) (hl : s.lv = []) {n : Nat} {r m : List Rg} (hr : s.d[n]? = some r) (hm : m.length ≤ 1048577) : OK10 (k + 1) ⟨s.d.set n m, s.tr, [], insS n s.ks, s.W, s.F.set n true⟩ := by
  have hs := h.same
  rw [hl] at hs
  exact ⟨hs.new0 hr, by simp; exact h.dl, set_rows h.row hm, h.trow, by have := h.tl; simp only; omega, by simp⟩
theorem OK10.new {k : Nat} {s : S10} (h : OK10 k s) {n : Nat} {r m : List Rg} (hr : s.d[n]? = some r) (hm : m.length ≤ 1048577) : OK10 (k + 1) ⟨s.d.set n m, s.tr ++ [((n : Int), r)], s.lv, insS n s.ks, s.W, s.F.set n true⟩ := by
  refine ⟨h.same.new hr, by simp; exact h.dl, set_rows h.row hm, ?_, by have := h.tl; simp; omega, h.ll⟩
  intro e he
  rcases List.mem_append.1 he with he | he
  · exact h.trow e he
  · simp at he; subst he; exact h.row r (List.mem_of_getElem? hr)
end Go.Proofs.Ytbmcjhjbifojnaa
