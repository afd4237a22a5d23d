/- Contracts made weaker: a box's row cut, a nil cell seen as an empty row. -/
import Derived.Test.YtbmcjhjbifojnaaAv3
namespace Go.Proofs.Ytbmcjhjbifojnaa.Av
set_option linter.unusedVariables false
section
variable {w0 : World} {pr fz : Fz} {pl : Pl} {bx bs bs' : Bx} {w : World} {P : Program}
theorem Sim.trunc (hS : Sim w0 pr fz pl bx w) {k n : Nat} {es : List AV} (hk : bxGet bx k = some (n, es)) (off : Nat) : Sim w0 pr fz pl (bxSet bx k (some (n, es.take off))) w := by
  have tk : ∀ (j : Nat) v, ((es.take off).flatMap AV.cells)[j]? = some v → (es.flatMap AV.cells)[j]? = some v := by
    intro j v hv
    have e1 : es.flatMap AV.cells = (es.take off).flatMap AV.cells ++ (es.drop off).flatMap AV.cells := by rw [← List.flatMap_append, List.take_append_drop]
    rw [e1, List.getElem?_append_left (List.getElem?_eq_some_iff.1 hv).1]
    exact hv
  refine ⟨hS.os, hS.tape, hS.output, hS.size, hS.frz, hS.prt, hS.dis, by rw [bxSet_length]; exact hS.len, ?_, ?_⟩
  · intro j q xs hj
    by_cases hkj : k = j
    · subst hkj
      rw [bxGet_set_self (bxGet_lt hk)] at hj
      injection hj with hj; injection hj with e1 e2; subst e1; subst e2
      rcases hS.box k n es hk with (⟨a1, a2⟩ | ⟨b, o, M⟩) | ⟨b, n', arr, e', B⟩
      · exact .inl (.inl ⟨a1, by rw [a2]; simp⟩)
      · exact .inl (.inr ⟨b, o, { M with nil := by rcases M.nil with q | q <;> rw [q] <;> cases off <;> simp }⟩)
      · have hel : ∀ x ∈ es.take off, x.cells.length = n := fun x hx => B.elem x (List.mem_of_mem_take hx)
        refine .inr ⟨b, n', arr, e', { B with elem := hel, fits := ?_, one := fun j v c a d => B.one j v c (tk j v a) d, rep := fun j v c a d => B.rep j v c (tk j v a) d }⟩
        have h1 := B.fits
        rw [flat_len B.elem] at h1
        rw [flat_len hel, List.length_take]
        exact Nat.le_trans (Nat.mul_le_mul_right _ (Nat.min_le_right _ _)) h1
    · rw [bxGet_set_ne hkj] at hj
      exact hS.box j q xs hj
  · have key : ∀ {i z}, bxGet (bxSet bx k (some (n, es.take off))) i = some z → ∃ z', bxGet bx i = some z' := by
      intro i z hi
      by_cases hki : k = i
      · subst hki; exact ⟨_, hk⟩
      · rw [bxGet_set_ne hki] at hi; exact ⟨_, hi⟩
    intro j j' x y b1 n1 n2 hj hj' p1 p2
    obtain ⟨_, k1⟩ := key hj
    obtain ⟨_, k2⟩ := key hj'
    exact hS.inj j j' _ _ b1 n1 n2 k1 k2 p1 p2
/-- a box's row, cut -/
theorem Ctr.trunc {f : FuncId} {args : List AV} {r : AV} (h : Ctr P f args bs r bs') {k n : Nat} {es : List AV} (hk : bxGet bs' k = some (n, es)) (off : Nat) : Ctr P f args bs r (bxSet bs' k (some (n, es.take off))) := by
  refine ⟨h.1, fun w0 pr fz pl w cs hS hl hA => (h.2 w0 pr fz pl w cs hS hl hA).mono ?_⟩
  rintro e w' ⟨cv, fz', pl', rfl, h1, h2, h3, h4⟩
  exact ⟨cv, fz', pl', rfl, h1, h2, h3, h4.trunc hk off⟩
/-- nil cells of boxes, seen as rows without elements -/
theorem Ctr.virt {f : FuncId} {args : List AV} {r : AV} (h : Ctr P f args bs r bs') (fs : List (Nat × Nat × Nat)) (hv : virtFok fs bs' = true) : Ctr P f args bs r (virtF fs bs') := by
  refine ⟨h.1, fun w0 pr fz pl w cs hS hl hA => (h.2 w0 pr fz pl w cs hS hl hA).mono ?_⟩
  rintro e w' ⟨cv, fz', pl', rfl, h1, h2, h3, h4⟩
  obtain ⟨pl'', S, hp⟩ := virtF_sound fs hv h4
  exact ⟨cv, fz', pl'', rfl, h1, h2.trans hp, h3.mono (.refl _) hp, S⟩
end
end Go.Proofs.Ytbmcjhjbifojnaa.Av
