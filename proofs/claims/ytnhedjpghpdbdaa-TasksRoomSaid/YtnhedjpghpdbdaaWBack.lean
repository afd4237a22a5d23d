/- slices.Backward over stretches: its closure calls the loop's body with each element, the last one first. -/
import Derived.RangeFuncNested
import Derived.RangeFuncBound
import Derived.RangeFuncCalls
import Derived.RangeFuncLeaves
import Derived.Shelf.Abstract
import Derived.Shelf.RegionOpen
import Derived.WalkKit
import Derived.OwnWalkIn
import Derived.TacticsInMore
import Derived.LoopNIn
import Derived.LoopIn
import Derived.Test.YtnhedjpghpdbdaaProg
namespace Go.Proofs.Ytnhedjpghpdbdaa
open Go.RowKit Go.Shelf
set_option linter.unusedVariables false
attribute [local go_sem] Oper.semAt_some
/-- worlds that are one below N, but for block b -/
structure Off (b N : Nat) (A B : World) : Prop where
  os : B.os = A.os
  tape : B.tape = A.tape
  output : B.output = A.output
  size : A.heap.size ≤ B.heap.size
  block : ∀ k, k < N → k ≠ b → B.heap[k]? = A.heap[k]?
theorem Off.refl (b N : Nat) (A : World) : Off b N A A := ⟨rfl, rfl, rfl, Nat.le_refl _, fun _ _ _ => rfl⟩
theorem Off.trans {b N : Nat} {A B C : World} (h : Off b N A B) (k : Off b N B C) : Off b N A C :=
  ⟨k.os.trans h.os, k.tape.trans h.tape, k.output.trans h.output, Nat.le_trans h.size k.size, fun i hi hb => (k.block i hi hb).trans (h.block i hi hb)⟩
theorem Off.grown {b N : Nat} {A W W' : World} {row : Option Nat} (h : Off b N A W) (hg : W.grownBy W' row) (hN : N ≤ W.heap.size) (hr : ∀ k, row = some k → N ≤ k ∨ k = b) : Off b N A W' :=
  ⟨hg.os.trans h.os, hg.tape.trans h.tape, hg.output.trans h.output, Nat.le_trans h.size hg.size, fun i hi hb => (hg.block i (by omega) (fun e => by rcases hr i e.symm with h1 | h1 <;> omega)).trans (h.block i hi hb)⟩
theorem Off.cell {b N : Nat} {A B : World} (h : Off b N A B) {p : Addr} (hp : p.block < N) (hb : p.block ≠ b) : B.cell? p = A.cell? p := World.cell?_of_block (h.block p.block hp hb)
abbrev Str := Int × Int
def inStr (r : Str) : Prop := (-2097152 ≤ r.1 ∧ r.1 ≤ 2097152) ∧ -2097152 ≤ r.2 ∧ r.2 ≤ 2097152
abbrev StrI := { x : Int × Str // inStr x.2 }
def encSt (x : StrI) : Array Value := #[.int .i64 x.1.1, .agg #[.int .i64 x.1.2.1, .int .i64 x.1.2.2]]
def strAt (S : List Str) (k : Nat) : Str := (S[k]?).getD (0, 0)
theorem strAt_in {S : List Str} (h : ∀ x ∈ S, inStr x) (k : Nat) : inStr (strAt S k) := by
  unfold strAt
  cases hg : S[k]? with
  | none => simp [inStr]
  | some x => exact h x (List.mem_of_getElem? hg)
/-- what has come when k rounds are over -/
def backL (S : List Str) (h : ∀ x ∈ S, inStr x) (k : Nat) : List StrI := (List.range k).map fun j => ⟨((S.length - 1 - j : Nat), strAt S (S.length - 1 - j)), strAt_in h _⟩
theorem backL_succ (S : List Str) (h : ∀ x ∈ S, inStr x) (k : Nat) : backL S h (k + 1) = backL S h k ++ [⟨((S.length - 1 - k : Nat), strAt S (S.length - 1 - k)), strAt_in h _⟩] := by
  simp [backL, List.range_succ]
theorem backL_len (S : List Str) (h : ∀ x ∈ S, inStr x) (k : Nat) : (backL S h k).length = k := by simp [backL]
theorem backL_all (S : List Str) (h : ∀ x ∈ S, inStr x) : (backL S h S.length).map (fun y => y.1.2) = S.reverse := by
  unfold backL
  rw [List.map_map]
  apply List.ext_getElem
  · simp
  · intro i h1 h2
    simp at h1
    simp [strAt, List.getElem_reverse, List.getElem?_eq_getElem (show S.length - 1 - i < S.length by omega)]
set_option maxRecDepth 100000 in
set_option maxHeartbeats 4000000 in
theorem back_in (F : Fence) (n : Nat) (h7 : F.fn 121) (hro : F.round = none) (hn : 1 ≤ n) (l Bs os b off cap N bR : Nat) (S : List Str) (hS : ∀ x ∈ S, inStr x) (hreach : S.length ≤ 1000000) (hBs : Bs < N ∧ Bs ≠ bR) (hb : b < N ∧ b ≠ bR)
    (J Jx : List StrI → World → Prop)
    (hY : ∀ pre x W, J pre W → pre.length < S.length → YieldAt F (n - 1) Try.prog l (encSt x) W fun e W' =>
      (e = .returned (.bool true) ∧ J (pre ++ [x]) W' ∧ Off bR N W W') ∨ (e = .returned (.bool false) ∧ Jx (pre ++ [x]) W'))
    (W : World) (hcB : W.cell? ⟨Bs, os, none⟩ = some (.slice (some ⟨b, off, none⟩) S.length cap))
    (hc : ∀ j, j < S.length → W.cell? ⟨b, off + j * 2, none⟩ = some (.int .i64 (strAt S j).1) ∧ W.cell? ⟨b, off + j * 2 + 1, none⟩ = some (.int .i64 (strAt S j).2)) (h0 : J [] W) :
    CallsIn F n Try.prog 121 #[.func (.yield l) #[] #[], .pointer (some ⟨Bs, os, none⟩)] W fun e W' => (∃ v, e = .returned v) ∧
      ((∃ ys, ys = backL S hS S.length ∧ J ys W') ∨ (∃ pre, True ∧ Jx pre W')) := by
  refine callsIn_of_wp Try.func121 rfl h7 ?_ hro
  simp only [Try.ntmps121, List.size_toArray, List.length_cons, List.length_nil, Nat.reduceAdd, Nat.reduceSub, Array.replicate_succ, Array.replicate_zero, List.push_toArray, List.append_toArray, List.nil_append, List.cons_append]
  gi_wp2
  gi_loopw [3] (fun i wr => ∃ k : Nat, k ≤ S.length ∧ i = .int .i64 ((S.length : Int) - 1 - k) ∧ J (backL S hS k) wr ∧ Off bR N W wr)
    (fun i _ => (intOf i + 1).toNat)
  case atStart => exact ⟨0, Nat.zero_le _, by first | rfl | simp, h0, Off.refl _ _ _⟩
  case round =>
    obtain ⟨k, hk, rfl, hJs, hnx⟩ := hrel
    have hcB' : wr.cell? ⟨Bs, os, none⟩ = some (.slice (some ⟨b, off, none⟩) S.length cap) := (hnx.cell hBs.1 hBs.2).trans hcB
    by_cases hlt : k < S.length
    · obtain ⟨c0, c1⟩ := hc (S.length - 1 - k) (by omega)
      have c0' := (hnx.cell (p := ⟨b, off + (S.length - 1 - k) * 2, none⟩) hb.1 hb.2).trans c0
      have c1' := (hnx.cell (p := ⟨b, off + (S.length - 1 - k) * 2 + 1, none⟩) hb.1 hb.2).trans c1
      obtain ⟨fn, tmps, assign, body, hy, hR⟩ := hY _ ⟨((S.length - 1 - k : Nat), strAt S (S.length - 1 - k)), strAt_in hS _⟩ wr hJs (by rw [backL_len]; exact hlt)
      dsimp only [encSt] at hy
      have hidx : (S.length : Int) - 1 - (k : Int) = ((S.length - 1 - k : Nat) : Int) := by omega
      rw [hidx]
      generalize hm : S.length - 1 - k = m at *
      gi_wp2
      refine hR.mono ?_
      rintro e W3 (⟨rfl, hJ3, hk3⟩ | ⟨rfl, hJx3⟩)
      · gi_wp2
        go_roundw
        case rel => exact ⟨k + 1, by omega, by first | (congr 1; omega) | simp; omega, by rw [backL_succ]; simp only [hm]; exact hJ3, hnx.trans hk3⟩
        case measure => first | (simp [intOf]; done) | (simp [intOf]; omega)
      · gi_wp2
        refine bodyPost_ret (results_none rfl _ _ _) rfl ?_
        exact ⟨⟨_, rfl⟩, .inr ⟨_, trivial, hJx3⟩⟩
    · obtain rfl : k = S.length := by omega
      gi_wp2
      go_end0
      exact ⟨⟨_, rfl⟩, .inl ⟨_, rfl, hJs⟩⟩
end Go.Proofs.Ytnhedjpghpdbdaa
