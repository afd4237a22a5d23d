/- slices.Sort over a row of ints. -/
import Derived.Test.YtbmcjhjbifojnaaWBridge
import Derived.Test.YtbmcjhjbifojnaaProg
import Derived.Test.YtbmcjhjbifojnaaSortIL
import Derived.WalkKit
import Derived.Handy
import Derived.ProofKit
namespace Go.Proofs.Ytbmcjhjbifojnaa
open Av Go.RowKit Go.Shelf Go.Lib Go.Sort
set_option linter.unusedSimpArgs false
set_option linter.unusedVariables false
def sortI (l : List Int) : List Int := l.mergeSort fun x y => decide (x ≤ y)
theorem sortI_perm (l : List Int) : (sortI l).Perm l := List.mergeSort_perm l _
theorem sortI_asc (l : List Int) : (sortI l).Pairwise fun x y => x ≤ y := by
  have h := List.pairwise_mergeSort (le := fun x y : Int => decide (x ≤ y)) (fun a b c h1 h2 => by simp at h1 h2 ⊢; omega) (fun a b => by simp; omega) l
  unfold sortI
  exact h.imp fun h => by simpa using h
theorem cs_one {v0 : AV} {fz : Fz} {pl : Pl} {cs : Array Value} (hl : 1 = cs.size) (hA : ∀ (i : Nat) v c, [v0][i]? = some v → cs[i]? = some c → Rep fz pl v c) : ∃ c0, cs = #[c0] ∧ Rep fz pl v0 c0 := by
  have g0 : cs[0]? = some cs[0] := Array.getElem?_eq_getElem (by omega)
  refine ⟨cs[0], ?_, hA 0 _ _ rfl g0⟩
  apply Array.ext
  · simpa using hl.symm
  · intro i h1 h2
    have h3 : i = 0 := by omega
    subst h3
    rfl
set_option maxHeartbeats 1000000 in
theorem sorti_ctr (l : List Int) (hl : l.length < 4611686018427387904) :
    Ctr Try.prog 37 [.sl 1 0 0 l.length] [some (1, l.map eI)] (.tuple []) [some (1, (sortI l).map eI)] := by
  refine ⟨Try.call37, ?_⟩
  intro w0 pr fz pl w cs hS hcl hA
  obtain ⟨c0, rfl, r0⟩ := cs_one hcl hA
  rcases r0.inv_sl with ⟨b, n', cap, rfl, hp, hcap, hfit⟩ | ⟨ao, rfl, h0⟩
  · rcases hS.box 0 1 (l.map eI) rfl with (⟨a1, _⟩ | ⟨b', o', M⟩) | ⟨b', n'', arr, e, B⟩
    · rw [a1] at hp; cases hp
    · have hc0 := M.cap0 hp hfit
      subst hc0
      have e0 : l = [] := List.eq_nil_of_length_eq_zero (by omega)
      subst e0
      have hcon := AnyM.slices_Sort_int_none Try.sortI (some ⟨b, 0 * 1, none⟩) 0 w
      refine hcon.mono ?_
      rintro e' w' ⟨rfl, rfl⟩
      have : sortI [] = [] := List.Perm.eq_nil (sortI_perm [])
      rw [this]
      exact ⟨_, fz, pl, rfl, .refl _, List.prefix_refl _, .frz (.tuple [] #[] rfl (by simp)), hS⟩
    obtain ⟨rfl, rfl⟩ := B.unique hp
    have hsz := B.size
    have hfits := B.fits
    rw [flat_len B.elem, List.length_map] at hfits
    have hb : w.heap[b]? = some (.cells arr e (0, 0)) := B.heap
    have hlt : b < w.heap.size := (Array.getElem?_eq_some_iff.1 hb).1
    have hH : Holds (Value.int .i64) w b 0 l.toArray := by
      intro j hj
      rw [List.size_toArray] at hj
      have hr : l[j]? = some l[j] := List.getElem?_eq_getElem hj
      have a1 := box_I B hr
      refine ⟨?_, by simp [World.frozen?, hb]⟩
      unfold World.cell?
      simp only [hb, Nat.zero_add]
      rw [if_neg (by simp), a1]
      rw [getElem!_pos l.toArray j (by simpa using hj)]
      rfl
    have hcon := AnyM.slices_Sort_int Try.sortI b 0 cap l w hH hlt hl
    simp only [Nat.zero_mul]
    refine hcon.mono ?_
    rintro e' w' ⟨rfl, m, os, rfl⟩
    have hsv : (l.mergeSort fun x y => decide (x ≤ y)) = sortI l := rfl
    rw [hsv]
    have hlen : (sortI l).length = l.length := (sortI_perm l).length_eq
    have hbw : (grow (putRow (Value.int .i64) (Sort.ahead w m) b 0 (sortI l).toArray) os).heap[b]? = some (.cells (putCells (Value.int .i64) 0 (sortI l).toArray arr) e (0, 0)) := by
      show ((w.heap.modify b _) ++ os)[b]? = _
      rw [Array.getElem?_append, if_pos (by simpa using hlt), Array.getElem?_modify, if_pos rfl, hb]
      rfl
    have hgs : w.heap.size ≤ (grow (putRow (Value.int .i64) (Sort.ahead w m) b 0 (sortI l).toArray) os).heap.size := by
      rw [size_grow, size_putRow]
      show w.heap.size ≤ w.heap.size + os.size
      omega
    refine ⟨_, fz, pl, rfl, .refl _, List.prefix_refl _, .frz (.tuple [] #[] rfl (by simp)), Sim_cells (w := w) hS (k := 0) rfl B rfl rfl rfl hgs (fun c hc hne => ?_) hbw ?_ (len_I _) (by rw [List.length_map, hlen]; exact hfits) (rep_I ?_)⟩
    · show ((w.heap.modify b _) ++ os)[c]? = w.heap[c]?
      rw [Array.getElem?_append, if_pos (by simpa using hc), Array.getElem?_modify, if_neg (Ne.symm hne)]
    · unfold putCells; rw [Array.size_mapIdx]; exact hsz
    · intro j x hj
      have hjl := (List.getElem?_eq_some_iff.1 hj).1
      unfold putCells
      rw [Array.getElem?_mapIdx, Array.getElem?_eq_getElem (by omega)]
      simp only [Option.map_some, Nat.zero_le, true_and, Nat.zero_add, Nat.sub_zero, List.size_toArray]
      rw [if_pos (by omega), getElem!_pos (sortI l).toArray j (by simpa using hjl)]
      have : (sortI l)[j] = x := by have h := (List.getElem?_eq_some_iff.1 hj).2; exact h
      simp [this]
  · have e0 : l = [] := List.eq_nil_of_length_eq_zero h0
    subst e0
    have hcon := AnyM.slices_Sort_int_none Try.sortI ao 0 w
    refine hcon.mono ?_
    rintro e' w' ⟨rfl, rfl⟩
    have : sortI [] = [] := List.Perm.eq_nil (sortI_perm [])
    rw [this]
    exact ⟨_, fz, pl, rfl, .refl _, List.prefix_refl _, .frz (.tuple [] #[] rfl (by simp)), hS⟩
end Go.Proofs.Ytbmcjhjbifojnaa
