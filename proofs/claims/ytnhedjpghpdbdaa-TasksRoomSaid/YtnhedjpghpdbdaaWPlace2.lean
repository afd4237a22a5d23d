/- What tasks.place computes. -/
import Derived.RangeFuncNested
import Derived.RangeFuncBound
import Derived.RangeFuncCalls
import Derived.RangeFuncLeaves
import Derived.Shelf.Abstract
import Derived.Shelf.RegionOpen
import Derived.WalkKit
import Derived.OwnWalkIn
import Derived.TacticsInMore
import Derived.LoopNIn
import Derived.LoopIn
import Derived.Test.YtnhedjpghpdbdaaWPlace
namespace Go.Proofs.Ytnhedjpghpdbdaa
open Av
attribute [local irreducible] awp awpOpers
open Go.RowKit Go.Shelf
set_option linter.unusedSimpArgs false
set_option linter.unusedVariables false
set_option maxRecDepth 100000
attribute [local go_sem] Oper.semAt_some
/-- a block whose first two cells are these -/
def BoxedS (W : World) (b : Nat) (v0 v1 : Value) : Prop := ∃ arr e, W.heap[b]? = some (.cells arr e (0, 0)) ∧ arr[0]? = some v0 ∧ arr[1]? = some v1
theorem BoxedS.lt {W : World} {b : Nat} {v0 v1 : Value} (h : BoxedS W b v0 v1) : b < W.heap.size := by
  obtain ⟨arr, e, h1, -⟩ := h
  exact (Array.getElem?_eq_some_iff.1 h1).1
theorem BoxedS.cell {W : World} {b : Nat} {v0 v1 : Value} (h : BoxedS W b v0 v1) : W.cell? ⟨b, 0, none⟩ = some v0 ∧ W.cell? ⟨b, 1, none⟩ = some v1 ∧ W.frozen? ⟨b, 0, none⟩ = false ∧ W.frozen? ⟨b, 1, none⟩ = false := by
  obtain ⟨arr, e, h1, h2, h3⟩ := h
  simp [World.cell?, World.frozen?, h1, h2, h3]
theorem BoxedS.kept {W W' : World} {row : Option Nat} {b : Nat} {v0 v1 : Value} (h : BoxedS W b v0 v1) (hg : W.grownBy W' row) (hne : some b ≠ row) : BoxedS W' b v0 v1 := by
  have hl := h.lt
  obtain ⟨arr, e, h1, h2⟩ := h
  exact ⟨arr, e, (hg.block b hl hne).trans h1, h2⟩
theorem BoxedS.alloc {W : World} {b : Nat} {v0 v1 : Value} (h : BoxedS W b v0 v1) (o : Obj) : BoxedS (W.alloc o) b v0 v1 := h.kept (World.grownBy_alloc W o none) (by simp)
theorem grown_cell (W : World) (a : Addr) (v : Value) : W.grownBy (W.setCell a v) (some a.block) :=
  ⟨rfl, rfl, rfl, (KeepsWalks.setCell W _ v).size, fun k _ hk => Below.heap_setCell _ _ _ k (fun e => hk (by rw [e]))⟩
theorem BoxedS.other {W : World} {b : Nat} {v0 v1 : Value} (h : BoxedS W b v0 v1) {a : Addr} (hne : b ≠ a.block) (u : Value) : BoxedS (W.setCell a u) b v0 v1 := h.kept (grown_cell W a u) (fun e => hne (by injection e))
theorem BoxedS.own {W W' : World} {row : Option Nat} {b : Nat} {v0 v1 : Value} (h : BoxedS W b v0 v1) (hg : W.grownBy W' row) (hr : ∀ r, row = some r → ∃ o : Obj, W.heap[r]? = some o ∧ o.isCells = false) : BoxedS W' b v0 v1 := by
  refine h.kept hg fun e => ?_
  obtain ⟨o, ho, hc⟩ := hr b e.symm
  obtain ⟨arr, t, h1, -⟩ := h
  rw [h1] at ho
  cases ho
  cases hc
theorem BoxedS.set1 {W : World} {b : Nat} {v0 v1 : Value} (v : Value) (h : BoxedS W b v0 v1) : BoxedS (W.setCell ⟨b, 1, none⟩ v) b v0 v := by
  obtain ⟨arr, e, h1, h2, h3⟩ := h
  obtain ⟨hlt, hk⟩ := Array.getElem?_eq_some_iff.1 h1
  have h4 := (Array.getElem?_eq_some_iff.1 h3).1
  refine ⟨arr.setIfInBounds 1 v, e, ?_, ?_, ?_⟩
  · show (W.heap.modify b _)[b]? = _
    rw [Array.getElem?_eq_getElem (by rw [Array.size_modify]; exact hlt), Array.getElem_modify_self, hk]
    rfl
  · rw [Array.getElem?_setIfInBounds_ne (by omega)]; exact h2
  · rw [Array.getElem?_setIfInBounds_self_of_lt h4]
theorem BoxedS.set0 {W : World} {b : Nat} {v0 v1 : Value} (v : Value) (h : BoxedS W b v0 v1) : BoxedS (W.setCell ⟨b, 0, none⟩ v) b v v1 := by
  obtain ⟨arr, e, h1, h2, h3⟩ := h
  obtain ⟨hlt, hk⟩ := Array.getElem?_eq_some_iff.1 h1
  have h4 := (Array.getElem?_eq_some_iff.1 h2).1
  refine ⟨arr.setIfInBounds 0 v, e, ?_, ?_, ?_⟩
  · show (W.heap.modify b _)[b]? = _
    rw [Array.getElem?_eq_getElem (by rw [Array.size_modify]; exact hlt), Array.getElem_modify_self, hk]
    rfl
  · rw [Array.getElem?_setIfInBounds_self_of_lt h4]
  · rw [Array.getElem?_setIfInBounds_ne (by omega)]; exact h3
theorem BoxedS.new (W : World) (t : TypeId) (v0 v1 : Value) : BoxedS (W.alloc (.cells #[v0, v1] t)) W.heap.size v0 v1 := ⟨_, _, World.alloc_heap_new W _, rfl, rfl⟩
def hval (long : Int) (pre : List StrI) (h : Int) : Int := pre.foldl (fun h x => if x.1.2.1 < h + long ∧ h < x.1.2.2 then x.1.2.1 - long else h) h
theorem hval_snoc (long : Int) (pre : List StrI) (x : StrI) (h : Int) : hval long (pre ++ [x]) h = if x.1.2.1 < hval long pre h + long ∧ hval long pre h < x.1.2.2 then x.1.2.1 - long else hval long pre h := by
  unfold hval
  rw [List.foldl_append]
  rfl
theorem hval_in {long : Int} (hl : 0 ≤ long ∧ long ≤ 1048576) : ∀ {pre : List StrI} {h : Int}, -4194304 ≤ h ∧ h ≤ 4194304 → -4194304 ≤ hval long pre h ∧ hval long pre h ≤ 4194304
  | [], h, hb => hb
  | x :: pre, h, hb => by
    have hx := x.2
    unfold inStr at hx
    refine hval_in hl (pre := pre) ?_
    dsimp only
    split <;> omega
theorem hval_all {long : Int} {S : List Rg} {ys : List StrI} (h : ys.map (fun y => y.1.2) = S.reverse) (hi : Int) : hval long ys hi = hiF long S hi := by
  have e : hval long ys hi = (ys.map (fun y => y.1.2)).foldl (fun h x => if x.1 < h + long ∧ h < x.2 then x.1 - long else h) hi := by
    unfold hval
    rw [List.foldl_map]
  rw [e, h, List.foldl_reverse]
  rfl
theorem list_cells {fz : Fz} {W : World} {S : List Rg} {c : Value} (h : RepF fz (.list 2 (S.map eRg)) c) (hf : ∀ b o, fz b = some o → W.heap[b]? = some o) :
    (∃ ao cap, c = .slice ao S.length cap) ∧ (0 < S.length → ∃ b off cap ob, c = .slice (some ⟨b, off, none⟩) S.length cap ∧ fz b = some ob ∧ ∀ j, j < S.length → W.cell? ⟨b, off + j * 2, none⟩ = some (.int .i64 (strAt S j).1) ∧ W.cell? ⟨b, off + j * 2 + 1, none⟩ = some (.int .i64 (strAt S j).2)) := by
  obtain ⟨ao, cap, e⟩ := h.list_len
  rw [List.length_map] at e
  refine ⟨⟨ao, cap, e⟩, fun h0 => ?_⟩
  subst e
  obtain ⟨L, hL⟩ : ∃ L, S.map eRg = L := ⟨_, rfl⟩
  have hLl : L.length = S.length := by rw [← hL, List.length_map]
  rw [hL] at h
  obtain ⟨m, hm0⟩ : ∃ m, S.length = m := ⟨_, rfl⟩
  rw [hm0] at h hLl h0 ⊢
  cases h with
  | list _ _ b off arr ty fr n cp hb hn hc hs hlen h1 h2 =>
    refine ⟨b, off, cap, _, rfl, hb, fun j hj => ?_⟩
    have hw := hf b _ hb
    have hx : S[j]? = some (strAt S j) := by unfold strAt; rw [List.getElem?_eq_getElem (by omega)]; rfl
    have hm : L[j]? = some (eRg (strAt S j)) := by rw [← hL, List.getElem?_map, hx]; rfl
    have hfl := flat_len hs
    have g0 := flat_get hs hm (t := 0) (v := .int .i64 (strAt S j).1) rfl
    have g1 := flat_get hs hm (t := 1) (v := .int .i64 (strAt S j).2) rfl
    have k0 : ∃ u, arr[off + (j * 2 + 0)]? = some u := ⟨_, Array.getElem?_eq_getElem (by omega)⟩
    have k1 : ∃ u, arr[off + (j * 2 + 1)]? = some u := ⟨_, Array.getElem?_eq_getElem (by omega)⟩
    obtain ⟨u0, k0⟩ := k0
    obtain ⟨u1, k1⟩ := k1
    have r0 := h2 _ _ _ g0 k0
    have r1 := h2 _ _ _ g1 k1
    cases r0
    cases r1
    rw [show off + (j * 2 + 0) = off + j * 2 by omega] at k0
    rw [show off + (j * 2 + 1) = off + j * 2 + 1 by omega] at k1
    simp [World.cell?, hw, k0, k1]
  | list0 _ ao cap => simp at hLl; omega
set_option maxHeartbeats 2000000 in
theorem back_none_in (F : Fence) (n : Nat) (h7 : F.fn 121) (hro : F.round = none) (l Bs os : Nat) (ao : Option Addr) (cap : Nat) (J : List StrI → World → Prop) (W : World) (hcB : W.cell? ⟨Bs, os, none⟩ = some (.slice ao 0 cap)) (h0 : J [] W) :
    CallsIn F n Try.prog 121 #[.func (.yield l) #[] #[], .pointer (some ⟨Bs, os, none⟩)] W fun e W' => (∃ v, e = .returned v) ∧ J [] W' := by
  refine callsIn_of_wp Try.func121 rfl h7 ?_ hro
  simp only [Try.ntmps121, List.size_toArray, List.length_cons, List.length_nil, Nat.reduceAdd, Nat.reduceSub, Array.replicate_succ, Array.replicate_zero, List.push_toArray, List.append_toArray, List.nil_append, List.cons_append]
  gi_wp2
  gi_loopw [3] (fun i wr => i = .int .i64 (-1) ∧ J [] wr) (fun _ _ => 0)
  case atStart => exact ⟨rfl, h0⟩
  case round =>
    obtain ⟨rfl, hJs⟩ := hrel
    gi_wp2
    go_end0
    exact ⟨⟨_, rfl⟩, hJs⟩
theorem off_block {b N : Nat} {A W : World} (h : Off b N A W) {k : Nat} (hk : k < N) (hb : k ≠ b) {o : Obj} (hA : A.heap[k]? = some o) : W.heap[k]? = some o := (h.block k hk hb).trans hA
/-- the closure, as a row of calls of the loop's body -/
theorem back_stops (w2 : World) (Bs os bR : Nat) (S : List Rg) (hS : ∀ x ∈ S, inStr x) (hl : S.length ≤ 64) (c : Value) (hBs : Bs < w2.heap.size ∧ Bs ≠ bR) (hcB : w2.cell? ⟨Bs, os, none⟩ = some c)
    (h1 : ∃ ao cap, c = .slice ao S.length cap)
    (h2 : 0 < S.length → ∃ b off cap, c = .slice (some ⟨b, off, none⟩) S.length cap ∧ (b < w2.heap.size ∧ b ≠ bR) ∧ ∀ j, j < S.length → w2.cell? ⟨b, off + j * 2, none⟩ = some (.int .i64 (strAt S j).1) ∧ w2.cell? ⟨b, off + j * 2 + 1, none⟩ = some (.int .i64 (strAt S j).2)) (n : Nat) (hn : 1 ≤ n) :
    SeqStopsK Fence.wide n Try.prog 121 #[.pointer (some ⟨Bs, os, none⟩)] encSt (Off bR w2.heap.size) (fun ys => ys.map (fun y => y.1.2) = S.reverse) (fun _ => True) S.length w2 := by
  intro l J Jx W hW hJ hJx hY h0
  have hcB' : W.cell? ⟨Bs, os, none⟩ = some c := (hW.cell (p := ⟨Bs, os, none⟩) hBs.1).trans hcB
  rcases Nat.eq_zero_or_pos S.length with hz | hp
  · obtain ⟨ao, cap, rfl⟩ := h1
    rw [hz] at hcB'
    refine (back_none_in Fence.wide n trivial rfl l Bs os ao cap J W hcB' h0).mono ?_
    rintro e W' ⟨he, hj⟩
    refine ⟨he, .inl ⟨[], ?_, hj⟩⟩
    rw [List.eq_nil_of_length_eq_zero hz]; rfl
  · obtain ⟨b, off, cap, rfl, hb, hc⟩ := h2 hp
    refine (back_in Fence.wide n trivial rfl hn l Bs os b off cap w2.heap.size bR S hS (by omega) hBs hb J Jx hY W hcB' (fun j hj => ?_) h0).mono ?_
    · obtain ⟨c0, c1⟩ := hc j hj
      exact ⟨(hW.cell (p := ⟨b, off + j * 2, none⟩) hb.1).trans c0, (hW.cell (p := ⟨b, off + j * 2 + 1, none⟩) hb.1).trans c1⟩
    · rintro e W' ⟨he, ⟨ys, rfl, hj⟩ | ⟨pre, -, hj⟩⟩
      · exact ⟨he, .inl ⟨_, backL_all S hS, hj⟩⟩
      · exact ⟨he, .inr ⟨_, trivial, hj⟩⟩
end Go.Proofs.Ytnhedjpghpdbdaa
