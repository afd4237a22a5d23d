/- A box's row, laid anew by a function of the library. -/
import Derived.Test.YtbmcjhjbifojnaaAv3
namespace Go.Proofs.Ytbmcjhjbifojnaa
open Av
attribute [local irreducible] awp awpOpers
set_option linter.unusedSimpArgs false
set_option linter.unusedVariables false
theorem Sim_cells {w0 w w' : World} {pr fz : Fz} {pl : Pl} {bx : Bx} {k sz b n : Nat} {es es' : List AV} {arr arr' : Array Value} {e e' : TypeId} (hS : Sim w0 pr fz pl bx w) (hk : bxGet bx k = some (sz, es)) (B : BoxAt pr fz pl w k sz es b n arr e)
    (h1 : w'.os = w.os) (h2 : w'.tape = w.tape) (h3 : w'.output = w.output) (h4 : w.heap.size ≤ w'.heap.size) (h5 : ∀ c, c < w.heap.size → c ≠ b → w'.heap[c]? = w.heap[c]?) (h6 : w'.heap[b]? = some (.cells arr' e' (0, 0))) (h7 : arr'.size = n)
    (he : ∀ x ∈ es', x.cells.length = sz) (hf : es'.length * sz ≤ n)
    (hr : ∀ (i : Nat) v c, (es'.flatMap AV.cells)[i]? = some v → arr'[i]? = some c → c.oneCell' = true ∧ Rep fz pl v c) :
    Sim w0 pr fz pl (bxSet bx k (some (sz, es'))) w' := by
  have lt : ∀ c x, w.heap[c]? = some x → c < w.heap.size := fun c x e => (Array.getElem?_eq_some_iff.1 e).1
  have oth : ∀ {c : Nat} {o}, c ≠ b → w.heap[c]? = some o → w'.heap[c]? = some o := fun hne ho => by rw [h5 _ (lt _ _ ho) hne]; exact ho
  have nb : ∀ {g : Fz} {c o}, g b = none → g c = some o → c ≠ b := fun hn hg e => by rw [e, hn] at hg; cases hg
  refine ⟨h1.trans hS.os, h2.trans hS.tape, h3.trans hS.output, Nat.le_trans hS.size h4, fun c o a => oth (nb B.nfz a) (hS.frz _ _ a), fun c o a => oth (nb B.npr a) (hS.prt _ _ a), hS.dis, by rw [bxSet_length]; exact hS.len, ?_, ?_⟩
  · intro j s xs hj
    by_cases hkj : k = j
    · subst hkj
      rw [bxGet_set_self (bxGet_lt hk)] at hj
      injection hj with hj; injection hj with e1 e2; subst e1; subst e2
      exact .inr ⟨b, n, arr', e', ⟨B.plc, B.nfz, B.npr, h6, h7, he, by rw [flat_len he]; exact hf, fun i v c a d => (hr i v c a d).1, fun i v c a d => (hr i v c a d).2⟩⟩
    · rw [bxGet_set_ne hkj] at hj
      rcases hS.box j s xs hj with (h2 | ⟨b', o', M'⟩) | ⟨b', n', ar, e', B'⟩
      · exact .inl (.inl h2)
      · refine .inl (.inr ⟨b', o', { M' with heap := oth ?_ M'.heap }⟩)
        intro hbb; subst hbb
        exact hkj (hS.inj k j _ _ b' n 0 hk hj B.plc M'.plc)
      · refine .inr ⟨b', n', ar, e', { B' with heap := oth ?_ B'.heap }⟩
        intro hbb; subst hbb
        exact hkj (hS.inj k j _ _ b' n n' hk hj B.plc B'.plc)
  · intro j j' x y b1 n1 n2 hj hj' p1 p2
    have key : ∀ {i z}, bxGet (bxSet bx k (some (sz, es'))) i = some z → ∃ z', bxGet bx i = some z' := by
      intro i z hi
      by_cases hki : k = i
      · subst hki; exact ⟨_, hk⟩
      · rw [bxGet_set_ne hki] at hi; exact ⟨_, hi⟩
    obtain ⟨_, k1⟩ := key hj
    obtain ⟨_, k2⟩ := key hj'
    exact hS.inj j j' _ _ b1 n1 n2 k1 k2 p1 p2
theorem len_I (l : List Int) : ∀ x ∈ l.map eI, x.cells.length = 1 := by
  intro x hx
  obtain ⟨r, _, rfl⟩ := List.mem_map.1 hx
  rfl
theorem flat_I (l : List Int) : (l.map eI).flatMap AV.cells = l.map eI := by
  induction l with
  | nil => rfl
  | cons x l ih => rw [List.map_cons, List.flatMap_cons, ih]; rfl
/-- a box of numbers, in memory -/
theorem box_I {w : World} {pr fz : Fz} {pl : Pl} {k b n : Nat} {l : List Int} {arr : Array Value} {e : TypeId} (B : BoxAt pr fz pl w k 1 (l.map eI) b n arr e) {j : Nat} {x : Int} (h : l[j]? = some x) : arr[j]? = some (.int .i64 x) := by
  have hl := (List.getElem?_eq_some_iff.1 h).1
  have hf := B.fits
  rw [flat_len B.elem, List.length_map] at hf
  have hs := B.size
  have c1 : ((l.map eI).flatMap AV.cells)[j]? = some (.int .i64 x) := by rw [flat_I, List.getElem?_map, h]; rfl
  have a1 : arr[j]? = some arr[j] := Array.getElem?_eq_getElem (by omega)
  have r1 := (B.rep _ _ _ c1 a1).inv_int
  rw [a1, r1]
theorem rep_I {fz : Fz} {pl : Pl} {l : List Int} {arr : Array Value} (h : ∀ (j : Nat) x, l[j]? = some x → arr[j]? = some (.int .i64 x)) :
    ∀ (i : Nat) v c, ((l.map eI).flatMap AV.cells)[i]? = some v → arr[i]? = some c → c.oneCell' = true ∧ Rep fz pl v c := by
  intro i v c hv hc
  rw [flat_I, List.getElem?_map] at hv
  cases hl : l[i]? with
  | none => rw [hl] at hv; cases hv
  | some x =>
    rw [hl] at hv
    injection hv with hv; subst hv
    have := h _ _ hl
    rw [hc] at this
    injection this with this; subst this
    exact ⟨rfl, .frz (.int _ _)⟩
end Go.Proofs.Ytbmcjhjbifojnaa
