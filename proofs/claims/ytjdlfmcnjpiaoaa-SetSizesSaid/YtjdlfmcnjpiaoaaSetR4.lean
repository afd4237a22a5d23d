/- The walks of the reference of chapter 9: Meet. -/
import Derived.Test.YtjdlfmcnjpiaoaaSetR2
import Derived.Test.YtjdlfmcnjpiaoaaApp
namespace Go.Proofs.Ytjdlfmcnjpiaoaa
open Go.RowKit
set_option linter.unusedVariables false


def rmeetGo (a : List Rg) : List Rg → List Rg
  | [] => []
  | r :: l => rcutS r.1 r.2 a ++ rmeetGo a l
def rmeetS (a b : List Rg) : List Rg := if (rightB a && rightB b) = true then rmeetGo a b else []
theorem rcutGo_length (lo hi : Int) : ∀ l : List Rg, (rcutGo lo hi l).length ≤ l.length
  | [] => by simp [rcutGo]
  | r :: l => by
    have := rcutGo_length lo hi l
    unfold rcutGo
    split <;> simp <;> omega
theorem rcutS_length (lo hi : Int) (l : List Rg) : (rcutS lo hi l).length ≤ l.length := by
  unfold rcutS
  split
  · exact rcutGo_length lo hi l
  · simp
set_option maxRecDepth 100000 in
set_option maxHeartbeats 1000000 in
theorem rset_meet (u v : Value) (a b : List Rg) (w : World) (hab : a.length * b.length + a.length ≤ 4000000) (hx : RngsR w 0 w.heap.size u a) (hy : RngsR w 0 w.heap.size v b) :
    Calls Try.prog 55 #[u, v] w (RetP (fun ro w' => w'.ownsRow w.heap.size 36 2 ro (rmeetS a b).length (rcells (rmeetS a b))) w) := by
  have C := rset_right_q u a w hx
  have D := fun q => rset_right_q v b (w.drewN q) (hy.below (below_q w q))
  have E := fun wr lo hi (hb : Below w.heap.size w wr) => rset_cut u a lo hi wr ((hx.below hb).mono (Nat.le_refl _) hb.size)
  obtain ⟨A, c, hu, a1, a2, _⟩ := hx.open_
  obtain ⟨B, d, rfl, b1, b2, _⟩ := hy.open_
  have HX := hid hx; clear hx
  have HY := hid hy; clear hy
  clear hu
  cases ha : rightB a
  · rw [ha] at C
    have C := hid C
    have D := hid D
    have E := hid E
    have e1 : rmeetS a b = [] := by unfold rmeetS; rw [ha]; rfl
    rw [e1]
    clear e1
    go_enter Try.func55, Try.ntmps55
    go_wp2_with fail
    refine C.out.mono ?_
    rintro e w' ⟨rfl, n1, rfl⟩
    go_wp2_with fail
    go_ret
    exact ⟨_, rfl, below_q _ _, World.ownsRow_nil _ _ _ _⟩
  · cases hb : rightB b
    · rw [ha] at C
      rw [hb] at D
      have C := hid C
      have D := hid D
      have E := hid E
      have e1 : rmeetS a b = [] := by unfold rmeetS; rw [ha, hb]; rfl
      rw [e1]
      clear e1
      go_enter Try.func55, Try.ntmps55
      go_wp2_with fail
      refine C.out.mono ?_
      rintro e w' ⟨rfl, n1, rfl⟩
      go_wp2_with fail
      refine (D.out _).mono ?_
      rintro e w' ⟨rfl, n2, rfl⟩
      go_wp2_with fail
      go_ret
      exact ⟨_, rfl, by first | exact below_q _ _ | (rw [World.drewN_drewN]; exact below_q _ _), World.ownsRow_nil _ _ _ _⟩
    · rw [ha] at C
      rw [hb] at D
      have C := hid C
      have D := hid D
      have E := hid E
      have hlb := right_length hb
      obtain ⟨T, hT⟩ : ∃ T, T = rmeetS a b := ⟨_, rfl⟩
      rw [← hT]
      have e0 := hid (show [] ++ rmeetGo a (b.drop 0) = T by rw [hT]; unfold rmeetS; rw [ha, hb]; rfl)
      clear hT
      have HAB := hid hab; clear hab
      go_enter Try.func55, Try.ntmps55
      go_wp2_with fail
      refine C.out.mono ?_
      rintro e w' ⟨rfl, n1, rfl⟩
      go_wp2_with fail
      refine (D.out _).mono ?_
      rintro e w' ⟨rfl, n2, rfl⟩
      go_wp2_with fail
      go_loopw [5, 6] (fun vo vi wr => ∃ (k : Nat) (acc : List Rg), k ≤ b.length ∧ Hid (acc.length ≤ a.length * k) ∧ vi = .int .i64 k ∧ Hid (wr.ownsRow w.heap.size 36 2 vo acc.length (rcells acc)) ∧ Hid (acc ++ rmeetGo a (b.drop k) = T) ∧ Hid (Below w.heap.size w wr)) (fun vo vi wr => (b.length - (intOf vi).toNat))
      case atStart => exact ⟨0, [], by omega, hid (by simp), rfl, World.ownsRow_nil _ _ _ _, e0, hid (by first | exact below_q _ _ | (rw [World.drewN_drewN]; exact below_q _ _))⟩
      case round =>
        obtain ⟨k, acc, hk, hak, rfl, hown, hs, hB⟩ := hrel
        by_cases hlt : k < b.length
        · obtain ⟨x, y, hxy⟩ := at_rg hlt
          obtain ⟨ad, rfl, _, hab, hc⟩ := (HY.out.below hB.out).get hlt
          obtain ⟨g1, g2⟩ := hc _ _ _ hxy
          clear hc
          have hs := hs.out
          rw [drop_at hxy] at hs
          unfold rmeetGo at hs
          clear hxy
          rw [← List.append_assoc] at hs
          have hs := hid hs
          have hz := hB.out.size
          have hcl := rcutS_length x y a
          have hmul := hid (show a.length * (k + 1) ≤ a.length * b.length from Nat.mul_le_mul_left _ hlt)
          have n1 : (ad.add (k * 2)).block < wr.heap.size := by rw [block_add]; omega
          have hnn := hid (show acc.length + (rcutS x y a).length ≤ 8000000 by have := hak.out; have := hmul.out; have := HAB.out; rw [Nat.mul_add] at *; omega)
          go_wp2_with fail
          go_region_held3 (fun w' => w'.cell? (ad.add (k * 2)) = some (.int .i64 x) ∧ w'.cell? { block := (ad.add (k * 2)).block, off := (ad.add (k * 2)).off + 1 } = some (.int .i64 y)) (first | go_keep | exact ⟨(bw3.cell (p := ad.add (k * 2)) (by rw [block_add]; exact hab)).trans ((b1.cell (p := ad.add (k * 2)) n1).trans g1), (bw3.cell (p := ⟨(ad.add (k * 2)).block, (ad.add (k * 2)).off + 1, none⟩) (by rw [block_add]; exact hab)).trans ((b1.cell (p := ⟨(ad.add (k * 2)).block, (ad.add (k * 2)).off + 1, none⟩) n1).trans g2)⟩ | exact ⟨(b1.cell (p := ad.add (k * 2)) n1).trans g1, (b1.cell (p := ⟨(ad.add (k * 2)).block, (ad.add (k * 2)).off + 1, none⟩) n1).trans g2⟩) (first | (go_at_call 53; refine (E.out _ _ _ (by first | exact hB.out | exact hB.out.drew)).mono ?_; rintro e w1 ⟨r, rfl, b1, own1⟩) | (refine step_append_cells _ rfl (.tmp 22) (.tmp 34) 22 rfl w.heap.size 36 _ 2 16 Try.underlying22 rng_info rfl (by omega) (by omega) _ acc.length (rcells acc) rfl (by first | exact own_below hown.out b1 | exact own_below hown.out.drew b1) r _ _ (rcutS x y a).length (rcells (rcutS x y a)) rfl (by exact CellsR.of_own own1) (rcells_one _) hnn.out (by exact Nat.le_trans hz b1.size) ?_; intro v3 w3 own3 bw3))
          go_wp2_with fail
          go_roundw
          case rel => exact ⟨k + 1, acc ++ rcutS x y a, by omega, hid (by have := hak.out; rw [List.length_append, Nat.mul_add]; omega), by go_num, hid (by rw [rcells_append, List.length_append]; exact own3), hs, hid (hB.out.drew.trans (b1.mono hz) |>.trans bw3)⟩
          case measure => simp [intOf]; omega
        · go_wp2_with fail
          go_ret
          have hs := hs.out
          rw [List.drop_eq_nil_of_le (by omega)] at hs
          simp [rmeetGo] at hs
          subst hs
          exact ⟨_, rfl, hB.out, hown.out⟩

end Go.Proofs.Ytjdlfmcnjpiaoaa
