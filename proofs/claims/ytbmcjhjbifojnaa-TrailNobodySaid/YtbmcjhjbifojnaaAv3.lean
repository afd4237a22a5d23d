/- Abstract code: a way to show what functions compute (AvFin). -/
import Derived.Test.YtbmcjhjbifojnaaAv2
/- The end of a function that was handed boxes: what else it made is frozen, and its result names no box. -/
namespace Go.Proofs.Ytbmcjhjbifojnaa.Av
set_option linter.unusedVariables false
open Classical

section
variable (P : Program) (m : Nat) (Q : APost) (x : AV) (l : List AV) (bx : Bx)
theorem w_frz (t : Nat) : awp P m (.frz t) Q (x :: l) bx = frzK t (Q .normal) (x :: l) bx := rfl
end
def killL : List Nat → Bx → Bx
  | [], bx => bx
  | k :: r, bx => killL r (bxSet bx k none)
theorem killL_get : ∀ {ks : List Nat} {bx : Bx} {j : Nat} {x}, bxGet (killL ks bx) j = some x → bxGet bx j = some x ∧ ¬ j ∈ ks
  | [], bx, j, x, h => ⟨h, by simp⟩
  | k :: r, bx, j, x, h => by
    obtain ⟨h1, h2⟩ := killL_get (ks := r) h
    by_cases hk : k = j
    · subst hk
      have := bxGet_lt h1
      rw [bxSet_length] at this
      rw [bxGet_set_self this] at h1; cases h1
    · rw [bxGet_set_ne hk] at h1
      exact ⟨h1, by simp [h2]; omega⟩
def finF (res : List ARes) (m : Nat) (r : AV) (bs' : Bx) : APost
  | .exit _, _, _ => False
  | _, l, bx => match resV l bx res with
    | some vs => ∃ ix : List Nat, ix.Nodup ∧ ix.take m = List.range m ∧ embB bs'.length ix bx ix bs' ∧ wk r (view 8 (killL ix bx) (tupV vs))
    | none => False
section
variable (Q : APost) (x : AV) (l : List AV) (bx : Bx) (m : Nat)
theorem h_normal (res : List ARes) (r : AV) (bs' : Bx) : finF res m r bs' .normal (x :: l) bx = match resV (x :: l) bx res with
    | some vs => ∃ ix : List Nat, ix.Nodup ∧ ix.take m = List.range m ∧ embB bs'.length ix bx ix bs' ∧ wk r (view 8 (killL ix bx) (tupV vs))
    | none => False := rfl
theorem h_ret (res : List ARes) (r : AV) (bs' : Bx) : finF res m r bs' .ret (x :: l) bx = match resV (x :: l) bx res with
    | some vs => ∃ ix : List Nat, ix.Nodup ∧ ix.take m = List.range m ∧ embB bs'.length ix bx ix bs' ∧ wk r (view 8 (killL ix bx) (tupV vs))
    | none => False := rfl
end
section
variable {w0 : World} {pr fz : Fz} {pl pls : Pl} {bx bs : Bx} {w : World} {P : Program} {m : Nat}
theorem Sim.kills : ∀ (ks : List Nat) {bx : Bx}, Sim w0 pr fz pl bx w → Sim w0 pr fz pl (killL ks bx) w
  | [], bx, h => h
  | k :: r, bx, h => Sim.kills r (h.kill k)
/-- all but the boxes, frozen -/
noncomputable def frzAll (pr : Fz) (pl : Pl) (bx : Bx) (w : World) : Fz := fun b =>
  if ∃ k x n, bxGet bx k = some x ∧ pl[k]? = some (some (b, n)) then none else match pr b with
    | none => w.heap[b]?
    | some _ => none
theorem Sim.frzAll (h : Sim w0 pr fz pl bx w) : Sim w0 pr (frzAll pr pl bx w) pl bx w ∧ FzLe fz (frzAll pr pl bx w) := by
  have le : FzLe fz (Av.frzAll pr pl bx w) := by
    intro b o hb
    unfold Av.frzAll
    rw [if_neg]
    · simp only [h.dis b o hb]
      exact h.frz b o hb
    · rintro ⟨k, x, n, hk, hp⟩
      have := (boxBlock h hk hp).1
      rw [hb] at this; cases this
  refine ⟨⟨h.os, h.tape, h.output, h.size, ?_, h.prt, ?_, h.len, ?_, h.inj⟩, le⟩
  · intro b o hb
    unfold Av.frzAll at hb
    split at hb
    · cases hb
    · split at hb
      · exact hb
      · cases hb
  · intro b o hb
    unfold Av.frzAll at hb
    split at hb
    · cases hb
    · split at hb
      · assumption
      · cases hb
  · intro k sz es hk
    rcases h.box k sz es hk with (h1 | ⟨b, o, M⟩) | ⟨b, n, arr, e, B⟩
    · exact .inl (.inl h1)
    · refine .inl (.inr ⟨b, o, { M with nfz := ?_ }⟩)
      unfold Av.frzAll
      rw [if_pos ⟨k, _, 0, hk, M.plc⟩]
    · refine .inr ⟨b, n, arr, e, { B with nfz := ?_, rep := fun i v c x y => (B.rep i v c x y).mono le (List.prefix_refl _) }⟩
      unfold Av.frzAll
      rw [if_pos ⟨k, _, n, hk, B.plc⟩]
theorem call_boxF {mt : FuncId → Nat} {f : FuncId} {fn : Func} {af : AFunc} (hf : P.funcs[f]? = some fn) (hcf : ∀ (xs : Array Value) (w : World), (callFunc f xs).run P w = .ok (.enter f xs) w) (hc : cFunc P mt fn = some af)
    {args : List AV} {bs : Bx} {r : AV} {bs' : Bx} (h : awp P bs.length af.body (finF af.res bs.length r bs') (args ++ List.replicate (af.ntmps - args.length) .any) bs) : Ctr P f args bs r bs' := by
  refine ⟨hcf, ?_⟩
  intro w0 pr fz pl w cs hS hl hA
  unfold cFunc at hc
  split at hc
  · rename_i ac rz hb hres
    injection hc with hc; subst hc
    rw [Option.bind_eq_some_iff] at hb
    obtain ⟨c, hbody, hcc⟩ := hb
    refine calls_of_wp hf hbody (awp_sound c ac hcc _ _ _ fz pl _ w h (start_rep hl hA fn.ntmps) hS (by rw [hS.len]; exact Nat.le_refl _) _ ?_)
    intro e l' bx' a' w' fz' pl' hq h1 ht hm hT hS' hdf
    have key : (match resV l' bx' rz with
      | some vs => ∃ ix : List Nat, ix.Nodup ∧ ix.take bs.length = List.range bs.length ∧ embB bs'.length ix bx' ix bs' ∧ wk r (view 8 (killL ix bx') (tupV vs))
      | none => False) → a'.defers = [] ∧ ∃ v, (results fn a'.tmps).run P w' = .ok v w' ∧ ∃ cv fz'' pl'', Ending.returned v = .returned cv ∧ FzLe fz fz'' ∧ pl <+: pl'' ∧ Rep fz'' pl'' r cv ∧ Sim w0 pr fz'' pl'' bs' w' := by
      intro hq
      split at hq
      · rename_i vs hvs
        obtain ⟨c, r1, r2⟩ := results_sound (P := P) hT hS' hres hvs
        obtain ⟨ix, i1, i2, i3, i5⟩ := hq
        obtain ⟨S1, hp⟩ := hS'.embed rfl i3 i1 hS'.prt hS'.dis (fun k x b m' _ hk hpl => (boxBlock hS' hk hpl).2.1)
        have htk : (plOf pl' ix).take bs.length = pl := by
          have e1 : (plOf pl' ix).take bs.length = pl'.take bs.length := by
            apply List.ext_getElem?
            intro j
            rw [List.getElem?_take, List.getElem?_take]
            by_cases hj : j < bs.length
            · rw [if_pos hj, if_pos hj]
              have hix : ix[j]? = some j := by
                have : (ix.take bs.length)[j]? = (List.range bs.length)[j]? := by rw [i2]
                rw [List.getElem?_take, if_pos hj] at this
                rw [this]; simp [hj]
              exact plOf_get hix (by omega)
            · rw [if_neg hj, if_neg hj]
          rw [e1, ht, ← hS.len, List.take_length]
        obtain ⟨S2, le⟩ := S1.frzAll
        have hv := view_sound (hS'.kills ix) le (fun k x b n hk hpl => by
          obtain ⟨hk1, hk2⟩ := killL_get hk
          unfold frzAll
          rw [if_neg]
          · simp only [(boxBlock hS' hk1 hpl).2.1]
          · rintro ⟨j, y, n', hj, hpj⟩
            obtain ⟨e1, e2, e3⟩ := embB_get i3
            obtain ⟨k', xs, a1, a2, a3, a4⟩ := e3 j y.1 y.2 hj
            have hq := plOf_get (pl := pl') a1 (by rw [hS'.len]; exact e2 j k' a1)
            rw [hq] at hpj
            have := hS'.inj k k' x _ b n n' hk1 a2 hpl hpj
            subst this
            exact hk2 (List.mem_of_getElem? a1)) 8 (tupV vs) c r2
        refine ⟨hdf, c, r1, c, _, plOf pl' ix, rfl, h1.trans le, ?_, Rep.wk _ _ _ (.frz hv) i5, S2⟩
        rw [← htk]; exact List.take_prefix _ _
      · exact hq.elim
    cases e with
    | normal => exact key hq
    | ret => exact key hq
    | exit i => exact hq.elim
  · cases hc
end
end Go.Proofs.Ytbmcjhjbifojnaa.Av
