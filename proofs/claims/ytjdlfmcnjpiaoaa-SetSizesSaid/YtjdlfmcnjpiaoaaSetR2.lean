/- The walks of the reference of chapter 9: Size, Cut, Same, Ends. -/
import Derived.Test.YtjdlfmcnjpiaoaaSetR1
import Derived.Test.YtjdlfmcnjpiaoaaSetW3
import Derived.Test.YtjdlfmcnjpiaoaaSetW4
namespace Go.Proofs.Ytjdlfmcnjpiaoaa
open Go.RowKit
set_option linter.unusedVariables false


set_option maxRecDepth 100000 in
set_option maxHeartbeats 1000000 in
theorem rset_size (u : Value) (l : List Rg) (w : World) (hx : RngsR w 0 w.heap.size u l) :
    Calls Try.prog 27 #[u] w (RetQ (.int .i64 (sizeV l)) w) := by
  have C := rset_right_q u l w hx
  obtain ⟨A, c, rfl, h1, h2, _⟩ := hx.open_
  have hl : l.length ≤ 9223372036854775807 := by omega
  have HX := hid hx; clear hx h1 h2
  cases hr : rightB l
  · have e1 : sizeV l = 0 := by unfold sizeV; rw [hr]; rfl
    rw [e1]
    clear e1
    rw [hr] at C
    have C := hid C
    go_enter Try.func27, Try.ntmps27
    go_wp2_with fail
    refine C.out.mono ?_
    rintro e w' ⟨rfl, n1, rfl⟩
    go_wp2_with fail
    go_ret
    exact ⟨rfl, _, rfl⟩
  · obtain ⟨T, hT⟩ : ∃ T, T = sizeV l := ⟨_, rfl⟩
    rw [← hT]
    have hl := right_length hr
    have e0 := hid (show sizeGo 0 (l.drop 0) = T by rw [hT]; unfold sizeV; rw [hr]; rfl)
    clear hT
    rw [hr] at C
    have C := hid C
    have Hr := hid hr; clear hr
    go_enter Try.func27, Try.ntmps27
    go_wp2_with fail
    refine C.out.mono ?_
    rintro e w' ⟨rfl, n1, rfl⟩
    go_wp2_with fail
    go_loopw [3, 4] (fun vn vi wr => ∃ (k : Nat) (n : Int), k ≤ l.length ∧ 0 ≤ n ∧ n ≤ 2097153 * (k : Int) ∧ vi = .int .i64 k ∧ vn = .int .i64 n ∧ Hid (sizeGo n (l.drop k) = T) ∧ DQ w wr) (fun vn vi wr => (l.length - (intOf vi).toNat))
    case atStart => exact ⟨0, 0, by omega, by omega, by omega, rfl, rfl, e0, _, rfl⟩
    case round =>
      obtain ⟨k, n, hk, hn0, hn1, rfl, rfl, hs, q, rfl⟩ := hrel
      by_cases hlt : k < l.length
      · obtain ⟨x, y, hxy⟩ := at_rg hlt
        obtain ⟨a, rfl, _, hab, hc⟩ := (HX.out).get hlt
        obtain ⟨g1, g2⟩ := hc _ _ _ hxy
        clear hc
        obtain ⟨r1, r2, r3, r4, r5⟩ := right_rg Hr.out hxy
        have hs := hs.out
        rw [drop_at hxy] at hs
        have Hs := hid hs; clear hs
        clear hxy
        have e1 : IntKind.i64.wrap (n + y) = n + y := IntWalk.i64_in _ (by omega)
        have e2 : IntKind.i64.wrap (n + y - x) = n + y - x := IntWalk.i64_in _ (by omega)
        have e3 : IntKind.i64.wrap (n + y - x + 1) = n + y - x + 1 := IntWalk.i64_in _ (by omega)
        go_wp2_with fail
        go_quiet (fail)
        clear e1 e2 e3
        go_wp2_with fail
        go_roundw
        case rel => exact ⟨k + 1, n + y - x + 1, by omega, by omega, by omega, by go_num, by go_num, hid (by have h := Hs.out; unfold sizeGo at h; rw [← h]; congr 1; omega), by first | exact ⟨_, rfl⟩ | exact ⟨_, World.drewN_drewN _ _ _⟩⟩
        case measure => simp [intOf]; omega
      · go_wp2_with fail
        go_ret
        have hs := hs.out
        rw [List.drop_eq_nil_of_le (by omega)] at hs
        rw [← hs]
        exact ⟨rfl, _, rfl⟩

def rcutGo (lo hi : Int) : List Rg → List Rg
  | [] => []
  | r :: l => if max lo r.1 ≤ min hi r.2 then (max lo r.1, min hi r.2) :: rcutGo lo hi l else rcutGo lo hi l
def rcutS (lo hi : Int) (l : List Rg) : List Rg := if rightB l = true then rcutGo lo hi l else []
set_option maxRecDepth 100000 in
set_option maxHeartbeats 1000000 in
theorem rset_cut (u : Value) (l : List Rg) (lo hi : Int) (w : World) (hx : RngsR w 0 w.heap.size u l) :
    Calls Try.prog 53 #[u, .int .i64 lo, .int .i64 hi] w (RetP (fun ro w' => w'.ownsRow w.heap.size 36 2 ro (rcutS lo hi l).length (rcells (rcutS lo hi l))) w) := by
  have C := rset_right_q u l w hx
  obtain ⟨A, c, rfl, h1, h2, _⟩ := hx.open_
  have hl : l.length ≤ 9223372036854775807 := by omega
  have HX := hid hx; clear hx h1 h2
  cases hr : rightB l
  · have e1 : rcutS lo hi l = [] := by unfold rcutS; rw [hr]; rfl
    rw [e1]
    clear e1
    rw [hr] at C
    have C := hid C
    go_enter Try.func53, Try.ntmps53
    go_wp2_with fail
    refine C.out.mono ?_
    rintro e w' ⟨rfl, n1, rfl⟩
    go_wp2_with fail
    go_ret
    exact ⟨_, rfl, below_q _ _, World.ownsRow_nil _ _ _ _⟩
  · obtain ⟨T, hT⟩ : ∃ T, T = rcutS lo hi l := ⟨_, rfl⟩
    rw [← hT]
    have hl := right_length hr
    have e0 := hid (show [] ++ rcutGo lo hi (l.drop 0) = T by rw [hT]; unfold rcutS; rw [hr]; rfl)
    clear hT
    rw [hr] at C
    have C := hid C
    have Hr := hid hr; clear hr
    go_enter Try.func53, Try.ntmps53
    go_wp2_with fail
    refine C.out.mono ?_
    rintro e w' ⟨rfl, n1, rfl⟩
    go_wp2_with fail
    go_loopw [7, 8] (fun vo vi wr => ∃ (k : Nat) (acc : List Rg), k ≤ l.length ∧ acc.length ≤ k ∧ vi = .int .i64 k ∧ Hid (wr.ownsRow w.heap.size 36 2 vo acc.length (rcells acc)) ∧ Hid (acc ++ rcutGo lo hi (l.drop k) = T) ∧ Hid (Below w.heap.size w wr)) (fun vo vi wr => (l.length - (intOf vi).toNat))
    case atStart => exact ⟨0, [], by omega, by simp, rfl, World.ownsRow_nil _ _ _ _, e0, below_q _ _⟩
    case round =>
      obtain ⟨k, acc, hk, hak, rfl, hown, hs, hB⟩ := hrel
      by_cases hlt : k < l.length
      · obtain ⟨x, y, hxy⟩ := at_rg hlt
        obtain ⟨a, rfl, _, hab, hc⟩ := (HX.out.below hB.out).get hlt
        obtain ⟨g1, g2⟩ := hc _ _ _ hxy
        clear hc
        have hs := hs.out
        rw [drop_at hxy] at hs
        have hz := hB.out.size
        have n1 : (a.add (k * 2)).block < wr.heap.size := by rw [block_add]; omega
        obtain ⟨p, hp⟩ : ∃ p, p = max lo x := ⟨_, rfl⟩
        obtain ⟨q, hq⟩ : ∃ q, q = min hi y := ⟨_, rfl⟩
        have hp' : (if lo < x then x else lo) = p := by rw [hp]; split <;> omega
        have hq' : (if y < hi then y else hi) = q := by rw [hq]; split <;> omega
        unfold rcutGo at hs
        rw [← hp, ← hq] at hs
        clear hp hq hxy
        by_cases q1 : p ≤ q
        · rw [if_pos q1] at hs
          have hs := hid (show acc ++ [(p, q)] ++ rcutGo lo hi (l.drop (k + 1)) = T by rw [← hs, List.append_assoc]; rfl)
          go_wp2_with fail
          go_region
          go_wp2_with (at_builtin; refine wpList_app_rng _ rfl (.tmp 40) (.tmp 42) 22 36 rfl Try.underlying22 rng_info w.heap.size _ acc rfl (by exact ((hown.out.alloc _).alloc _).drew) (wr.heap.size + 1) p q rfl (by exact (Blk.at_ _ _ _ (by simp)).drew) (by omega) (by simp; omega) ?_; intro v1 w3 own1 bw1)
          go_roundw
          case rel => exact ⟨k + 1, acc ++ [(p, q)], by omega, by simp; omega, by go_num, hid own1, hs, hid ((((hB.out.alloc hz _).alloc (by simp; omega) _).drew).trans bw1)⟩
          case measure => simp [intOf]; omega
        · rw [if_neg q1] at hs
          have hs := hid hs
          go_wp2_with fail
          go_region
          go_wp2_with fail
          go_roundw
          case rel => exact ⟨k + 1, acc, by omega, by omega, by go_num, hid (hown.out.alloc _).drew, hs, hid (hB.out.alloc hz _).drew⟩
          case measure => simp [intOf]; omega
      · go_wp2_with fail
        go_ret
        have hs := hs.out
        rw [List.drop_eq_nil_of_le (by omega)] at hs
        simp [rcutGo] at hs
        subst hs
        exact ⟨_, rfl, hB.out, hown.out⟩

theorem len_ne {l m : List Rg} (h : ¬ l.length = m.length) : decide (l = m) = false := by simp; rintro rfl; exact h rfl
def rsameB (l m : List Rg) : Bool := rightB l && rightB m && decide (l = m)
set_option maxRecDepth 100000 in
set_option maxHeartbeats 1000000 in
theorem rset_same (u v : Value) (l m : List Rg) (w : World) (hx : RngsR w 0 w.heap.size u l) (hy : RngsR w 0 w.heap.size v m) :
    Calls Try.prog 52 #[u, v] w (RetQ (.bool (rsameB l m)) w) := by
  have C := rset_right_q u l w hx
  have D := fun q => rset_right_q v m (w.drewN q) (hy.below (below_q w q))
  obtain ⟨A, c, rfl, a1, a2, _⟩ := hx.open_
  obtain ⟨B, d, rfl, b1, b2, _⟩ := hy.open_
  have HX := hid hx; clear hx
  have HY := hid hy; clear hy
  unfold rsameB
  cases hr : rightB l
  · rw [hr] at C
    have C := hid C
    have D := hid D
    go_enter Try.func52, Try.ntmps52
    go_wp2_with fail
    refine C.out.mono ?_
    rintro e w' ⟨rfl, n1, rfl⟩
    go_wp2_with fail
    go_ret
    exact ⟨rfl, _, rfl⟩
  · cases hm : rightB m
    · rw [hr] at C
      rw [hm] at D
      have C := hid C
      have D := hid D
      go_enter Try.func52, Try.ntmps52
      go_wp2_with fail
      refine C.out.mono ?_
      rintro e w' ⟨rfl, n1, rfl⟩
      go_wp2_with fail
      refine (D.out _).mono ?_
      rintro e w' ⟨rfl, n2, rfl⟩
      go_wp2_with fail
      go_ret
      exact ⟨rfl, by first | exact ⟨_, rfl⟩ | exact ⟨_, World.drewN_drewN _ _ _⟩⟩
    · rw [hr] at C
      rw [hm] at D
      have hl := right_length hr
      have hl' := right_length hm
      have C := hid C
      have D := hid D
      by_cases hlen : l.length = m.length
      · have hz := nef_nat hlen
        have HL := hid hlen; clear hlen
        go_enter Try.func52, Try.ntmps52
        go_wp2_with fail
        refine C.out.mono ?_
        rintro e w' ⟨rfl, n1, rfl⟩
        go_wp2_with fail
        refine (D.out _).mono ?_
        rintro e w' ⟨rfl, n2, rfl⟩
        go_wp2_with fail
        go_loopw [5] (fun vi wr => ∃ k : Nat, k ≤ l.length ∧ vi = .int .i64 k ∧ Hid (∀ j, j < k → l[j]? = m[j]?) ∧ DQ w wr) (fun vi wr => (l.length - (intOf vi).toNat))
        case atStart => exact ⟨0, by omega, rfl, hid (fun j hj => by omega), by first | exact ⟨_, rfl⟩ | exact ⟨_, World.drewN_drewN _ _ _⟩⟩
        case round =>
          obtain ⟨k, hk, rfl, hall, q, rfl⟩ := hrel
          by_cases hlt : k < l.length
          · have hlt' : k < m.length := by have := HL.out; omega
            obtain ⟨x, y, hxy⟩ := at_rg hlt
            obtain ⟨x', y', hxy'⟩ := at_rg hlt'
            obtain ⟨a, rfl, _, hab, hc⟩ := HX.out.get hlt
            obtain ⟨b, rfl, _, hbb, hd⟩ := HY.out.get hlt'
            obtain ⟨g1, g2⟩ := hc _ _ _ hxy
            obtain ⟨g3, g4⟩ := hd _ _ _ hxy'
            clear hc hd
            have Hxy := hid hxy; clear hxy
            have Hxy' := hid hxy'; clear hxy'
            by_cases he : x = x' ∧ y = y'
            · obtain ⟨rfl, rfl⟩ := he
              go_wp2_with fail
              go_quiet (fail)
              go_wp2_with fail
              go_roundw
              case rel => exact ⟨k + 1, by omega, by go_num, hid (eq_more hall.out Hxy.out Hxy'.out), by first | exact ⟨_, rfl⟩ | exact ⟨_, World.drewN_drewN _ _ _⟩⟩
              case measure => simp [intOf]; omega
            · have HE := hid he
              rcases (show x ≠ x' ∨ y ≠ y' by omega) with hn | hn
              all_goals
                have hn' := eqf hn
                clear he hn
                go_wp2_with fail
                go_quiet (fail)
                go_wp2_with fail
                go_ret
                exact ⟨retb_eq (by rw [ne_at Hxy.out Hxy'.out (rg_ne HE.out)]; rfl), by first | exact ⟨_, rfl⟩ | exact ⟨_, World.drewN_drewN _ _ _⟩⟩
          · go_wp2_with fail
            go_ret
            exact ⟨retb_eq (by rw [decide_eq_true (eq_all HL.out (fun j hj => hall.out j (by omega)))]; rfl), _, rfl⟩
      · have hz := net_nat hlen
        have e := len_ne hlen
        rw [e]
        clear e hlen
        go_enter Try.func52, Try.ntmps52
        go_wp2_with fail
        refine C.out.mono ?_
        rintro e w' ⟨rfl, n1, rfl⟩
        go_wp2_with fail
        refine (D.out _).mono ?_
        rintro e w' ⟨rfl, n2, rfl⟩
        go_wp2_with fail
        go_ret
        exact ⟨rfl, by first | exact ⟨_, rfl⟩ | exact ⟨_, World.drewN_drewN _ _ _⟩⟩

set_option maxHeartbeats 1000000 in
theorem rset_ends (u : Value) (l : List Rg) (w : World) (hx : RngsR w 0 w.heap.size u l) :
    Calls Try.prog 24 #[u] w (RetB (.tuple #[.agg #[.int .i64 (endsV l).1, .int .i64 (endsV l).2], .bool (endsB l)]) w) := by
  obtain ⟨A, c, rfl, h1, h2, _⟩ := hx.open_
  have HX := hid hx; clear hx
  have hB0 := (Below.refl w.heap.size w).alloc (Nat.le_refl _) (.cells #[.int .i64 0, .int .i64 0] 36)
  have HX1 := hid ((HX.out.below hB0).mono (Nat.le_refl _) hB0.size)
  have HB0 := hid hB0; clear hB0
  cases hr : rightB l
  · have e1 : endsV l = (0, 0) := by unfold endsV; rw [hr]; rfl
    have e2 : endsB l = false := by unfold endsB; rw [hr]; rfl
    rw [e1, e2]
    clear e1 e2
    go_enter Try.func24, Try.ntmps24
    go_wp2_with fail
    refine (rset_right _ l _ HX1.out).mono ?_
    rintro e w1 ⟨rfl, b1⟩
    obtain ⟨c0, c1, f0, f1⟩ := ((Blk.new w _ _).below b1 (by simp)).two
    have hz := b1.size
    have B1 := hid b1; clear b1
    go_wp2_with fail
    refine bodyPost_ret (v := .tuple #[.agg #[.int .i64 0, .int .i64 0], .bool false]) (by simp [results, Try.results24, go_sem, c0, c1]) rfl ?_
    exact ⟨rfl, (HB0.out.trans (B1.out.mono (by simp))).setCell (Nat.le_refl _) _ |>.setCell (Nat.le_refl _) _⟩
  · by_cases hn : l.length = 0
    · have e0 : l = [] := List.eq_nil_of_length_eq_zero hn
      have e1 : endsV l = (0, 0) := by unfold endsV; rw [hr, e0]; rfl
      have e2 : endsB l = false := by unfold endsB; rw [hr, e0]; rfl
      rw [e1, e2]
      clear e1 e2
      have hz0 : ((l.length : Int) == 0) = true := by simp; omega
      clear e0 hn
      go_enter Try.func24, Try.ntmps24
      go_wp2_with fail
      refine (rset_right _ l _ HX1.out).mono ?_
      rintro e w1 ⟨rfl, b1⟩
      obtain ⟨c0, c1, f0, f1⟩ := ((Blk.new w _ _).below b1 (by simp)).two
      have hz := b1.size
      have B1 := hid b1; clear b1
      go_wp2_with fail
      refine bodyPost_ret (v := .tuple #[.agg #[.int .i64 0, .int .i64 0], .bool false]) (by simp [results, Try.results24, go_sem, c0, c1]) rfl ?_
      exact ⟨rfl, (HB0.out.trans (B1.out.mono (by simp))).setCell (Nat.le_refl _) _ |>.setCell (Nat.le_refl _) _⟩
    · obtain ⟨x, y, hxy⟩ := at_rg (l := l) (k := 0) (by omega)
      obtain ⟨x', y', hxy'⟩ := at_rg (l := l) (k := l.length - 1) (by omega)
      have hll : l.length ≤ 9223372036854775807 := by omega
      have e1 : endsV l = (x, y') := by
        unfold endsV; rw [hr, List.head?_eq_getElem?, List.getLast?_eq_getElem?, hxy, hxy']; rfl
      have e2 : endsB l = true := by unfold endsB; rw [hr]; cases l with | nil => simp at hn | cons a b => rfl
      rw [e1, e2]
      clear e1 e2
      have hz0 : ((l.length : Int) == 0) = false := eqf (by omega)
      go_enter Try.func24, Try.ntmps24
      go_wp2_with fail
      refine (rset_right _ l _ HX1.out).mono ?_
      rintro e w1 ⟨rfl, b1⟩
      obtain ⟨c0, c1, f0, f1⟩ := ((Blk.new w _ _).below b1 (by simp)).two
      have hz := b1.size
      obtain ⟨a, rfl, _, hab, hc⟩ := (HX.out.below (HB0.out.trans (b1.mono (by simp)))).get (k := 0) (by omega)
      obtain ⟨g1, _⟩ := hc _ _ _ hxy
      have g1 : w1.cell? a = some (.int .i64 x) := g1
      obtain ⟨_, g2⟩ := hc _ _ _ hxy'
      have B1 := hid b1; clear b1 hc hxy hxy'
      have e3 : 0 < l.length := by omega
      have e5 : (1 : Int) ≤ (l.length : Int) := by omega
      have e6 : (l.length : Int) - 1 < (l.length : Int) := by omega
      have e7 : ((l.length : Int) - 1).toNat = l.length - 1 := by omega
      have e8 : IntKind.i64.wrap ((l.length : Int) - 1) = (l.length : Int) - 1 := IntWalk.i64_in _ (by omega)
      have n0 : ∀ (W : World) (u : Value) (j : Nat), (W.setCell ⟨w.heap.size, j, none⟩ u).cell? a = W.cell? a := fun W u j => cell_far u (by simp; omega)
      have n1 : ∀ (W : World) (u : Value) (j : Nat), (W.setCell ⟨w.heap.size, j, none⟩ u).cell? { block := (a.add ((l.length - 1) * 2)).block, off := (a.add ((l.length - 1) * 2)).off + 1 } = W.cell? { block := (a.add ((l.length - 1) * 2)).block, off := (a.add ((l.length - 1) * 2)).off + 1 } := fun W u j => cell_far u (by simp [block_add]; omega)
      clear hn
      go_wp2_with fail
      go_region_held3 (fun w' => w'.cell? a = some (.int .i64 x) ∧ w'.cell? { block := (a.add ((l.length - 1) * 2)).block, off := (a.add ((l.length - 1) * 2)).off + 1 } = some (.int .i64 y')) (go_keep) (fail)
      go_wp2_with fail
      refine bodyPost_ret (v := .tuple #[.agg #[.int .i64 x, .int .i64 y'], .bool true]) (by simp [results, Try.results24, go_sem, c0, c1]) rfl ?_
      exact ⟨rfl, ((HB0.out.trans (B1.out.mono (by simp))).setCell (Nat.le_refl _) _ |>.setCell (Nat.le_refl _) _).drew⟩
end Go.Proofs.Ytjdlfmcnjpiaoaa
