/- slices.SortFunc over a row of ranges, by their lower ends. -/
import Derived.Test.YtnhedjpghpdbdaaWBridge
import Derived.Test.YtnhedjpghpdbdaaProg
import Derived.Test.YtnhedjpghpdbdaaSortLay
import Derived.Shelf.SlSortCmp.NoneTotal
import Derived.WalkKit
import Derived.Handy
import Derived.ProofKit
import Derived.Deep.Draws
import Derived.Deep.QuietTactic
import Derived.BigQuiet
import Derived.LoopTactic
import Derived.Deep.RegionHeld3
namespace Go.Proofs.Ytnhedjpghpdbdaa
open Av Go.RowKit Go.Shelf Go.Lib Go.Sort
set_option linter.unusedSimpArgs false
set_option linter.unusedVariables false
def cmpL (a b : Int) : Int := if a < b then -1 else if b < a then 1 else 0
set_option maxHeartbeats 400000 in
theorem cmp_old (a b : Int) (w : World) : Calls Try.prog 119 #[.int .i64 a, .int .i64 b] w fun e w' => e = .returned (.int .i64 (cmpL a b)) ∧ ∃ n, w' = w.drewN n := by
  go_enter Try.func119, Try.ntmps119
  go_wp2
  all_goals go_ret
  all_goals exact ⟨by unfold cmpL; congr 2; simp_all; try omega, 0, rfl⟩
def encRg (x : Rg) : List Value := [.int .i64 x.1, .int .i64 x.2]
def cmpF (x y : Rg) : Int := cmpL x.1 y.1
def SortCmp (g : FuncId) : Prop := ∀ (x y : Rg) (W : World), Calls Try.prog g #[.agg #[.int .i64 x.1, .int .i64 x.2], .agg #[.int .i64 y.1, .int .i64 y.2]] W fun e w' => e = .returned (.int .i64 (cmpF x y)) ∧ ∃ q os', w' = grow (W.drewN q) os'
theorem sortf_lt (x y : Rg) : ltOf cmpF x y = decide (x.1 < y.1) := by
  unfold ltOf cmpF cmpL
  by_cases h1 : x.1 < y.1
  · simp [h1]
  · by_cases h2 : y.1 < x.1 <;> simp [h1, h2]
theorem sortf_swo : SWO (ltOf cmpF) where
  irrefl x := by rw [sortf_lt]; simp
  trans x y z h1 h2 := by rw [sortf_lt] at *; simp at *; omega
  ntrans x y z h1 h2 := by rw [sortf_lt] at *; simp at *; omega
def sortV (l : List Rg) : List Rg := (pdq (ltOf cmpF) l.toArray 0 l.toArray.size (Lib.bitLen l.toArray.size) true true).toList
theorem sortV_perm (l : List Rg) : (sortV l).Perm l := by
  have h := pdq_sorts (ltOf cmpF) sortf_swo l.toArray 0 l.toArray.size (Lib.bitLen l.toArray.size) true true (Nat.zero_le _) (Nat.le_refl _) (Or.inl rfl)
  obtain ⟨hp1, _, hp2⟩ := h.1
  unfold sortV
  generalize pdq (ltOf cmpF) l.toArray 0 l.toArray.size (Lib.bitLen l.toArray.size) true true = d' at *
  have hsz : d'.size = l.length := by simpa using hp1
  have e1 : d'.extract 0 l.toArray.size = d' := by rw [List.size_toArray, ← hsz]; simp
  have e2 : l.toArray.extract 0 l.toArray.size = l.toArray := by simp
  rw [e1, e2] at hp2
  simpa using hp2
theorem sortV_asc (l : List Rg) : ∀ (i j : Nat) (x y : Rg), (sortV l)[i]? = some x → (sortV l)[j]? = some y → i < j → x.1 ≤ y.1 := by
  have h := pdq_sorts (ltOf cmpF) sortf_swo l.toArray 0 l.toArray.size (Lib.bitLen l.toArray.size) true true (Nat.zero_le _) (Nat.le_refl _) (Or.inl rfl)
  obtain ⟨⟨hp1, _, hp2⟩, hs⟩ := h
  unfold sortV
  generalize pdq (ltOf cmpF) l.toArray 0 l.toArray.size (Lib.bitLen l.toArray.size) true true = d' at *
  have hsz : d'.size = l.length := by simpa using hp1
  intro i j x y hi hj hij
  rw [Array.getElem?_toList] at hi hj
  have hbi := (Array.getElem?_eq_some_iff.1 hi).1
  have hbj := (Array.getElem?_eq_some_iff.1 hj).1
  have := hs i j (by omega) hij (by simp; omega)
  rw [sortf_lt] at this
  have ei : d'[i]! = x := by rw [getElem!_pos d' i hbi]; rw [Array.getElem?_eq_getElem hbi] at hi; exact Option.some.inj hi
  have ej : d'[j]! = y := by rw [getElem!_pos d' j hbj]; rw [Array.getElem?_eq_getElem hbj] at hj; exact Option.some.inj hj
  rw [ei, ej] at this
  simp at this
  omega
theorem flatK_at (d : Array Rg) (j : Nat) (r : Rg) (h : d.toList[j]? = some r) : (flatK encRg 2 d)[2 * j]! = .int .i64 r.1 ∧ (flatK encRg 2 d)[2 * j + 1]! = .int .i64 r.2 := by
  rw [Array.getElem?_toList] at h
  have hj := (Array.getElem?_eq_some_iff.1 h).1
  have hg : d[j]! = r := by rw [getElem!_pos d j hj]; rw [Array.getElem?_eq_getElem hj] at h; exact Option.some.inj h
  rw [get_flatK _ _ _ _ (by omega), get_flatK _ _ _ _ (by omega)]
  rw [show 2 * j / 2 = j by omega, show (2 * j + 1) / 2 = j by omega, show 2 * j % 2 = 0 by omega, show (2 * j + 1) % 2 = 1 by omega, hg]
  exact ⟨rfl, rfl⟩
theorem cs_pair {v0 v1 : AV} {fz : Fz} {pl : Pl} {cs : Array Value} (hl : 2 = cs.size) (hA : ∀ (i : Nat) v c, [v0, v1][i]? = some v → cs[i]? = some c → Rep fz pl v c) : ∃ c0 c1, cs = #[c0, c1] ∧ Rep fz pl v0 c0 ∧ Rep fz pl v1 c1 := by
  have g0 : cs[0]? = some cs[0] := Array.getElem?_eq_getElem (by omega)
  have g1 : cs[1]? = some cs[1] := Array.getElem?_eq_getElem (by omega)
  refine ⟨cs[0], cs[1], ?_, hA 0 _ _ rfl g0, hA 1 _ _ rfl g1⟩
  apply Array.ext
  · simpa using hl.symm
  · intro i h1 h2
    have h3 : i = 0 ∨ i = 1 := by omega
    rcases h3 with rfl | rfl <;> rfl
set_option maxHeartbeats 1000000 in
theorem sortf_ctr (g : FuncId) (eg : ∀ (args : Array Value) (w : World), (callFunc g args).run Try.prog w = .ok (.enter g args) w) (hg : SortCmp g) (l : List Rg) (hl : l.length < 4611686018427387904) :
    Ctr Try.prog 117 [.sl 2 0 0 l.length, .fn (.func g) []] [some (2, l.map eRg)] (.tuple []) [some (2, (sortV l).map eRg)] := by
  refine ⟨Try.call117, ?_⟩
  intro w0 pr fz pl w cs hS hcl hA
  obtain ⟨c0, c1, rfl, r0, r1⟩ := cs_pair hcl hA
  obtain ⟨caps, rfl, hcaps, _⟩ := r1.inv_fn
  have hc0 : caps = #[] := Array.eq_empty_of_size_eq_zero (by simpa using hcaps.symm)
  subst hc0
  rcases r0.inv_sl with ⟨b, n', cap, rfl, hp, hcap, hfit⟩ | ⟨ao, rfl, h0⟩
  · rcases hS.box 0 2 (l.map eRg) rfl with ⟨a1, _⟩ | ⟨b', n'', arr, e, B⟩
    · rw [a1] at hp; cases hp
    obtain ⟨rfl, rfl⟩ := B.unique hp
    have hsz := B.size
    have hfits := B.fits
    rw [flat_len B.elem, List.length_map] at hfits
    have hb : w.heap[b]? = some (.cells arr e (0, 0)) := B.heap
    have hlt : b < w.heap.size := (Array.getElem?_eq_some_iff.1 hb).1
    have hH : HoldsK encRg 2 w b 0 l.toArray := by
      intro j hj
      rw [size_flatK, List.size_toArray] at hj
      have hget : ∃ r, l[j / 2]? = some r := ⟨_, List.getElem?_eq_getElem (by omega)⟩
      obtain ⟨r, hr⟩ := hget
      obtain ⟨f1, f2⟩ := flatK_at l.toArray (j / 2) r (by simpa using hr)
      obtain ⟨a1, a2⟩ := box_rg B hr
      refine ⟨?_, by simp [World.frozen?, hb]⟩
      unfold World.cell?
      simp only [hb, Nat.zero_add, id]
      rw [if_neg (by simp)]
      rcases Nat.mod_two_eq_zero_or_one j with h2 | h2
      · rw [show 2 * (j / 2) = j by omega] at f1 a1
        rw [a1, f1]
      · rw [show 2 * (j / 2) + 1 = j by omega] at f2 a2
        rw [a2, f2]
    have hcon := AnyQ.slices_SortFunc_eq Try.sortIv 2 Try.isAgg30 Try.sizeOf30 encRg (fun _ => rfl) (fun x v hv => by simp [encRg] at hv; rcases hv with rfl | rfl <;> rfl) cmpF sortf_swo g #[] b 0 cap l.toArray w eg (fun _ _ _ _ x y => hg x y _) hH hlt (by simpa using hl)
    simp only [List.size_toArray] at hcon
    simp only [Nat.zero_mul]
    refine hcon.mono ?_
    rintro e' w' ⟨rfl, m, os, rfl⟩
    have hsv : (pdq (ltOf cmpF) l.toArray 0 l.length (Lib.bitLen l.length) true true) = (sortV l).toArray := by unfold sortV; simp
    rw [hsv]
    have hlen : (sortV l).length = l.length := (sortV_perm l).length_eq
    have hbw : (sortWorldK encRg 2 w b 0 m (sortV l).toArray os).heap[b]? = some (.cells (putCells id 0 (flatK encRg 2 (sortV l).toArray) arr) e (0, 0)) := by
      show ((w.heap.modify b _) ++ os)[b]? = _
      rw [Array.getElem?_append, if_pos (by simpa using hlt), Array.getElem?_modify, if_pos rfl, hb]
      rfl
    refine ⟨_, fz, pl, rfl, .refl _, List.prefix_refl _, .frz (.tuple [] #[] rfl (by simp)), Sim_cells (w := w) hS (k := 0) rfl B rfl rfl rfl (size_sortWorldK_c _ _ _ _ _ _ _ _) (fun c hc hne => ?_) hbw ?_ (len_rg _) (by rw [List.length_map, hlen]; exact hfits) (rep_rg ?_)⟩
    · show ((w.heap.modify b _) ++ os)[c]? = w.heap[c]?
      rw [Array.getElem?_append, if_pos (by simpa using hc), Array.getElem?_modify, if_neg (Ne.symm hne)]
    · unfold putCells; rw [Array.size_mapIdx]; exact hsz
    · intro j r hj
      have hjl := (List.getElem?_eq_some_iff.1 hj).1
      obtain ⟨f1, f2⟩ := flatK_at (sortV l).toArray j r (by simpa using hj)
      have hp : ∀ p, p < 2 * l.length → (putCells id 0 (flatK encRg 2 (sortV l).toArray) arr)[p]? = some ((flatK encRg 2 (sortV l).toArray)[p]!) := by
        intro p hp
        unfold putCells
        rw [Array.getElem?_mapIdx, Array.getElem?_eq_getElem (by omega)]
        simp only [Option.map_some, Nat.zero_le, true_and, Nat.zero_add, Nat.sub_zero, id, size_flatK, List.size_toArray]
        rw [if_pos (by omega)]
      rw [hp _ (by omega), hp _ (by omega), f1, f2]
      exact ⟨rfl, rfl⟩
  · have e0 : l = [] := List.eq_nil_of_length_eq_zero h0
    subst e0
    have hcon := AnyF.slices_SortFunc_none Try.sortIv ao 0 (.func (.func g) #[] #[]) w
    refine hcon.mono ?_
    rintro e' w' ⟨rfl, rfl⟩
    have : sortV [] = [] := List.Perm.eq_nil (sortV_perm [])
    rw [this]
    exact ⟨_, fz, pl, rfl, .refl _, List.prefix_refl _, .frz (.tuple [] #[] rfl (by simp)), hS⟩
end Go.Proofs.Ytnhedjpghpdbdaa
