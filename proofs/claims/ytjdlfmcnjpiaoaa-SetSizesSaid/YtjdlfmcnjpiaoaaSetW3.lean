/- The walks of the package set, continued: Ends, Cut. -/
import Derived.Test.YtjdlfmcnjpiaoaaSetW2
namespace Go.Proofs.Ytjdlfmcnjpiaoaa
open Go.RowKit
set_option linter.unusedVariables false

/-- The least and the greatest value; whether there are some. -/
def endsV (l : List Rg) : Rg := if rightB l = true then (match l.head?, l.getLast? with | some a, some b => (a.1, b.2) | _, _ => (0, 0)) else (0, 0)
def endsB (l : List Rg) : Bool := rightB l && !l.isEmpty
theorem last_at {l : List Rg} {n : Nat} (h : l.length = n + 1) : l.getLast? = l[n]? := by
  rw [List.getLast?_eq_getElem?, h]; rfl

set_option maxHeartbeats 1000000 in
theorem set_ends (u : Value) (l : List Rg) (w : World) (hx : RngsR w 0 w.heap.size u l) :
    Calls Try.prog 23 #[u] w (RetB (.tuple #[.agg #[.int .i64 (endsV l).1, .int .i64 (endsV l).2], .bool (endsB l)]) w) := by
  obtain ⟨A, c, rfl, h1, h2, _⟩ := hx.open_
  have HX := hid hx; clear hx
  have hB0 := (Below.refl w.heap.size w).alloc (Nat.le_refl _) (.cells #[.int .i64 0, .int .i64 0] 36)
  have HX1 := hid ((HX.out.below hB0).mono (Nat.le_refl _) hB0.size)
  have HB0 := hid hB0; clear hB0
  cases hr : rightB l
  · have e1 : endsV l = (0, 0) := by unfold endsV; rw [hr]; rfl
    have e2 : endsB l = false := by unfold endsB; rw [hr]; rfl
    rw [e1, e2]
    clear e1 e2
    go_enter Try.func23, Try.ntmps23
    go_wp2_with fail
    refine (set_right _ l _ HX1.out).mono ?_
    rintro e w1 ⟨rfl, b1⟩
    obtain ⟨c0, c1, f0, f1⟩ := ((Blk.new w _ _).below b1 (by simp)).two
    have hz := b1.size
    have B1 := hid b1; clear b1
    go_wp2_with fail
    refine bodyPost_ret (v := .tuple #[.agg #[.int .i64 0, .int .i64 0], .bool false]) (by simp [results, Try.results23, go_sem, c0, c1]) rfl ?_
    exact ⟨rfl, (HB0.out.trans (B1.out.mono (by simp))).setCell (Nat.le_refl _) _ |>.setCell (Nat.le_refl _) _⟩
  · by_cases hn : l.length = 0
    · have e0 : l = [] := List.eq_nil_of_length_eq_zero hn
      have e1 : endsV l = (0, 0) := by unfold endsV; rw [hr, e0]; rfl
      have e2 : endsB l = false := by unfold endsB; rw [hr, e0]; rfl
      rw [e1, e2]
      clear e1 e2
      have hz0 : ((l.length : Int) == 0) = true := by simp; omega
      clear e0 hn
      go_enter Try.func23, Try.ntmps23
      go_wp2_with fail
      refine (set_right _ l _ HX1.out).mono ?_
      rintro e w1 ⟨rfl, b1⟩
      obtain ⟨c0, c1, f0, f1⟩ := ((Blk.new w _ _).below b1 (by simp)).two
      have hz := b1.size
      have B1 := hid b1; clear b1
      go_wp2_with fail
      refine bodyPost_ret (v := .tuple #[.agg #[.int .i64 0, .int .i64 0], .bool false]) (by simp [results, Try.results23, go_sem, c0, c1]) rfl ?_
      exact ⟨rfl, (HB0.out.trans (B1.out.mono (by simp))).setCell (Nat.le_refl _) _ |>.setCell (Nat.le_refl _) _⟩
    · obtain ⟨x, y, hxy⟩ := at_rg (l := l) (k := 0) (by omega)
      obtain ⟨x', y', hxy'⟩ := at_rg (l := l) (k := l.length - 1) (by omega)
      have hll : l.length ≤ 9223372036854775807 := by omega
      have e1 : endsV l = (x, y') := by
        unfold endsV; rw [hr, List.head?_eq_getElem?, List.getLast?_eq_getElem?, hxy, hxy']; rfl
      have e2 : endsB l = true := by unfold endsB; rw [hr]; cases l with | nil => simp at hn | cons a b => rfl
      rw [e1, e2]
      clear e1 e2
      have hz0 : ((l.length : Int) == 0) = false := eqf (by omega)
      go_enter Try.func23, Try.ntmps23
      go_wp2_with fail
      refine (set_right _ l _ HX1.out).mono ?_
      rintro e w1 ⟨rfl, b1⟩
      obtain ⟨c0, c1, f0, f1⟩ := ((Blk.new w _ _).below b1 (by simp)).two
      have hz := b1.size
      obtain ⟨a, rfl, _, hab, hc⟩ := (HX.out.below (HB0.out.trans (b1.mono (by simp)))).get (k := 0) (by omega)
      obtain ⟨g1, _⟩ := hc _ _ _ hxy
      have g1 : w1.cell? a = some (.int .i64 x) := g1
      obtain ⟨_, g2⟩ := hc _ _ _ hxy'
      have B1 := hid b1; clear b1 hc hxy hxy'
      have e3 : 0 < l.length := by omega
      have e5 : (1 : Int) ≤ (l.length : Int) := by omega
      have e6 : (l.length : Int) - 1 < (l.length : Int) := by omega
      have e7 : ((l.length : Int) - 1).toNat = l.length - 1 := by omega
      have e8 : IntKind.i64.wrap ((l.length : Int) - 1) = (l.length : Int) - 1 := IntWalk.i64_in _ (by omega)
      have n0 : ∀ (W : World) (u : Value) (j : Nat), (W.setCell ⟨w.heap.size, j, none⟩ u).cell? a = W.cell? a := fun W u j => cell_far u (by simp; omega)
      have n1 : ∀ (W : World) (u : Value) (j : Nat), (W.setCell ⟨w.heap.size, j, none⟩ u).cell? { block := (a.add ((l.length - 1) * 2)).block, off := (a.add ((l.length - 1) * 2)).off + 1 } = W.cell? { block := (a.add ((l.length - 1) * 2)).block, off := (a.add ((l.length - 1) * 2)).off + 1 } := fun W u j => cell_far u (by simp [block_add]; omega)
      clear hn
      go_wp2_with fail
      go_region_held3 (fun w' => w'.cell? a = some (.int .i64 x) ∧ w'.cell? { block := (a.add ((l.length - 1) * 2)).block, off := (a.add ((l.length - 1) * 2)).off + 1 } = some (.int .i64 y')) (go_keep) (fail)
      go_wp2_with fail
      refine bodyPost_ret (v := .tuple #[.agg #[.int .i64 x, .int .i64 y'], .bool true]) (by simp [results, Try.results23, go_sem, c0, c1]) rfl ?_
      exact ⟨rfl, ((HB0.out.trans (B1.out.mono (by simp))).setCell (Nat.le_refl _) _ |>.setCell (Nat.le_refl _) _).drew⟩

/-! ### Cut -/
def cutGo (lo hi : Int) : List Rg → List Rg
  | [] => []
  | r :: l => if hi < r.1 then [] else if max r.1 lo ≤ min r.2 hi then (max r.1 lo, min r.2 hi) :: cutGo lo hi l else cutGo lo hi l
def cutS (lo hi : Int) (l : List Rg) : List Rg := if rightB l = true then cutGo lo hi (l.drop (fromN lo l)) else []

set_option maxRecDepth 100000 in
set_option maxHeartbeats 1000000 in
theorem set_cut (u : Value) (l : List Rg) (lo hi : Int) (w : World) (hx : RngsR w 0 w.heap.size u l) :
    Calls Try.prog 30 #[u, .int .i64 lo, .int .i64 hi] w (RetP (fun v w' => w'.ownsRow w.heap.size 36 2 v (cutS lo hi l).length (rcells (cutS lo hi l))) w) := by
  obtain ⟨A, c, rfl, h1, h2, _⟩ := hx.open_
  have HX := hid hx; clear hx
  cases hr : rightB l
  · have e1 : cutS lo hi l = [] := by unfold cutS; rw [hr]; rfl
    rw [e1]
    clear e1
    go_enter Try.func30, Try.ntmps30
    go_wp2_with fail
    refine (set_right _ l _ HX.out).mono ?_
    rintro e w1 ⟨rfl, b1⟩
    go_wp2_with fail
    go_ret
    exact ⟨_, rfl, b1, World.ownsRow_nil _ _ _ _⟩
  · have hl := right_length hr
    have hf := fromN_le lo l
    obtain ⟨R, hR⟩ : ∃ R, R = cutS lo hi l := ⟨_, rfl⟩
    rw [← hR]
    obtain ⟨i, hi'⟩ : ∃ i, fromN lo l = i := ⟨_, rfl⟩
    have C := fun w1 (b1 : Below w.heap.size w w1) => set_from (.slice A l.length c) l lo w1 (by omega) (right_rises hr) ((HX.out.below b1).mono (Nat.le_refl _) b1.size)
    have e0 : cutGo lo hi ((l.drop i).drop 0) = R := by rw [hR]; unfold cutS; rw [hr, hi']; rfl
    rw [hi'] at C hf
    have C := hid C
    have E0 := hid e0; clear e0 hR
    have Hr := hid hr
    obtain ⟨m, hm⟩ : ∃ m, m = l.drop i := ⟨_, rfl⟩
    have hml : m.length = l.length - i := by rw [hm, List.length_drop]
    have ht := HX.out.tail i hf
    rw [← hm] at ht E0
    obtain ⟨A2, hA2⟩ : ∃ A2, A2 = (if c = i then A else A.map (·.add (i * 2))) := ⟨_, rfl⟩
    rw [← hA2, ← hml] at ht
    have HT := hid ht
    go_enter Try.func30, Try.ntmps30
    go_wp2_with fail
    refine (set_right _ l _ HX.out).mono ?_
    rintro e w1 ⟨rfl, b1⟩
    have B1 := hid b1; clear b1
    go_wp2_with fail
    refine (C.out w1 B1.out).mono ?_
    rintro e w2 ⟨rfl, b2⟩
    have B3 := hid (B1.out.trans (b2.mono B1.out.size)); clear b2
    have hmm : m.length ≤ 1048577 := by omega
    clear ht C B1
    have HI := hid hi'; clear hi'
    have HM := hid hm; clear hm
    have HF := hid hf; clear hf
    by_cases hck : c = i
    · have e1 : A2 = A := by rw [hA2, if_pos hck]
      have e2 : c - i = 0 := by omega
      rw [e1, e2] at HT
      clear hA2 e1 e2 HX
      go_wp2_with fail
      rw [← hml]
      clear hml
      go_loopw [7, 19] (fun vo vi wr => ∃ (k : Nat) (acc : List Rg), k ≤ m.length ∧ acc.length ≤ k ∧ vi = .int .i64 k ∧ Hid (wr.ownsRow w.heap.size 36 2 vo acc.length (rcells acc)) ∧ Hid (acc ++ cutGo lo hi (m.drop k) = R) ∧ Hid (Below w.heap.size w wr)) (fun vo vi wr => (m.length - (intOf vi).toNat))
      case atStart => exact ⟨0, [], by omega, by simp, rfl, World.ownsRow_nil _ _ _ _, E0, B3⟩
      case round =>
        obtain ⟨k, acc, hk, hak, rfl, hown, hs, hB⟩ := hrel
        by_cases hlt : k < m.length
        · obtain ⟨x, y, hxy⟩ := at_rg hlt
          obtain ⟨a, rfl, _, hab, hc⟩ := (HT.out.below hB.out).get hlt
          obtain ⟨g1, g2⟩ := hc _ _ _ hxy
          clear hc
          have hs := hs.out
          rw [drop_at hxy] at hs
          have hz := hB.out.size
          by_cases q1 : hi < x
          · have hs := hid (show acc = R by simpa [cutGo, q1] using hs)
            clear hxy
            go_wp2_with fail
            go_ret
            have e := hs.out
            subst e
            exact ⟨_, rfl, hB.out.alloc hz _, hown.out.alloc _⟩
          · obtain ⟨p, hp⟩ : ∃ p, p = max x lo := ⟨_, rfl⟩
            obtain ⟨q, hq⟩ : ∃ q, q = min y hi := ⟨_, rfl⟩
            have hp' : (if x < lo then lo else x) = p := by rw [hp]; split <;> omega
            have hq' : (if hi < y then hi else y) = q := by rw [hq]; split <;> omega
            by_cases q2 : p ≤ q
            · have hs := hid (show acc ++ [(p, q)] ++ cutGo lo hi (m.drop (k + 1)) = R by rw [← hs, cutGo, if_neg q1, ← hp, ← hq, if_pos q2, List.append_assoc]; rfl)
              clear hxy hp hq
              go_wp2_with (at_builtin; go_must (refine wpList_app_rng _ rfl (.tmp 41) (.tmp 43) 22 36 rfl Try.underlying22 rng_info w.heap.size _ acc rfl (by exact (hown.out.alloc _).alloc _) (wr.heap.size + 1) p q rfl (by exact Blk.at_ _ _ _ (by simp)) (by omega) (by simp; omega) ?_); intro v1 w3 own1 bw1)
              go_roundw
              case rel => exact ⟨k + 1, acc ++ [(p, q)], by omega, by simp; omega, by go_num, hid own1, hs, hid (((hB.out.alloc hz _).alloc (by simp; omega) _).trans bw1)⟩
              case measure => simp [intOf]; omega
            · have hs := hid (show acc ++ cutGo lo hi (m.drop (k + 1)) = R by rw [← hs, cutGo, if_neg q1, ← hp, ← hq, if_neg q2])
              clear hxy hp hq
              go_wp2_with fail
              go_roundw
              case rel => exact ⟨k + 1, acc, by omega, by omega, by go_num, hid (hown.out.alloc _), hs, hid (hB.out.alloc hz _)⟩
              case measure => simp [intOf]; omega
        · go_wp2_with fail
          go_ret
          have hs := hs.out
          rw [List.drop_eq_nil_of_le (by omega)] at hs
          simp [cutGo] at hs
          subst hs
          exact ⟨_, rfl, hB.out, hown.out⟩
    · have e1 : Option.map (fun x => x.add (i * 2)) A = A2 := by rw [hA2, if_neg hck]
      clear hA2 HX
      have E1 := hid e1; clear e1
      go_wp2_with fail
      rw [E1.out, ← hml]
      clear hml E1
      go_loopw [7, 19] (fun vo vi wr => ∃ (k : Nat) (acc : List Rg), k ≤ m.length ∧ acc.length ≤ k ∧ vi = .int .i64 k ∧ Hid (wr.ownsRow w.heap.size 36 2 vo acc.length (rcells acc)) ∧ Hid (acc ++ cutGo lo hi (m.drop k) = R) ∧ Hid (Below w.heap.size w wr)) (fun vo vi wr => (m.length - (intOf vi).toNat))
      case atStart => exact ⟨0, [], by omega, by simp, rfl, World.ownsRow_nil _ _ _ _, E0, B3⟩
      case round =>
        obtain ⟨k, acc, hk, hak, rfl, hown, hs, hB⟩ := hrel
        by_cases hlt : k < m.length
        · obtain ⟨x, y, hxy⟩ := at_rg hlt
          obtain ⟨a, rfl, _, hab, hc⟩ := (HT.out.below hB.out).get hlt
          obtain ⟨g1, g2⟩ := hc _ _ _ hxy
          clear hc
          have hs := hs.out
          rw [drop_at hxy] at hs
          have hz := hB.out.size
          by_cases q1 : hi < x
          · have hs := hid (show acc = R by simpa [cutGo, q1] using hs)
            clear hxy
            go_wp2_with fail
            go_ret
            have e := hs.out
            subst e
            exact ⟨_, rfl, hB.out.alloc hz _, hown.out.alloc _⟩
          · obtain ⟨p, hp⟩ : ∃ p, p = max x lo := ⟨_, rfl⟩
            obtain ⟨q, hq⟩ : ∃ q, q = min y hi := ⟨_, rfl⟩
            have hp' : (if x < lo then lo else x) = p := by rw [hp]; split <;> omega
            have hq' : (if hi < y then hi else y) = q := by rw [hq]; split <;> omega
            by_cases q2 : p ≤ q
            · have hs := hid (show acc ++ [(p, q)] ++ cutGo lo hi (m.drop (k + 1)) = R by rw [← hs, cutGo, if_neg q1, ← hp, ← hq, if_pos q2, List.append_assoc]; rfl)
              clear hxy hp hq
              go_wp2_with (at_builtin; go_must (refine wpList_app_rng _ rfl (.tmp 41) (.tmp 43) 22 36 rfl Try.underlying22 rng_info w.heap.size _ acc rfl (by exact (hown.out.alloc _).alloc _) (wr.heap.size + 1) p q rfl (by exact Blk.at_ _ _ _ (by simp)) (by omega) (by simp; omega) ?_); intro v1 w3 own1 bw1)
              go_roundw
              case rel => exact ⟨k + 1, acc ++ [(p, q)], by omega, by simp; omega, by go_num, hid own1, hs, hid (((hB.out.alloc hz _).alloc (by simp; omega) _).trans bw1)⟩
              case measure => simp [intOf]; omega
            · have hs := hid (show acc ++ cutGo lo hi (m.drop (k + 1)) = R by rw [← hs, cutGo, if_neg q1, ← hp, ← hq, if_neg q2])
              clear hxy hp hq
              go_wp2_with fail
              go_roundw
              case rel => exact ⟨k + 1, acc, by omega, by omega, by go_num, hid (hown.out.alloc _), hs, hid (hB.out.alloc hz _)⟩
              case measure => simp [intOf]; omega
        · go_wp2_with fail
          go_ret
          have hs := hs.out
          rw [List.drop_eq_nil_of_le (by omega)] at hs
          simp [cutGo] at hs
          subst hs
          exact ⟨_, rfl, hB.out, hown.out⟩
end Go.Proofs.Ytjdlfmcnjpiaoaa
