/- The walks of the package set, continued: Next, Has, Size, Ends, Cut. -/
import Derived.Test.YtjdlfmcnjpiaoaaSetW
namespace Go.Proofs.Ytjdlfmcnjpiaoaa
open Go.RowKit
set_option linter.unusedVariables false

theorem rng_info : (Try.prog.info? 36).map (fun i => (i.zero, i.size, i.bytes)) = some (some (.agg #[.int .i64 0, .int .i64 0]), 2, 16) := by kernel_rfl

/-! ### what a set's ranges are -/
theorem right_rg {l : List Rg} (h : rightB l = true) {k : Nat} {x y : Int} (hk : l[k]? = some (x, y)) : x ≤ y ∧ -1048576 ≤ x ∧ x ≤ 1048576 ∧ -1048576 ≤ y ∧ y ≤ 1048576 := by
  have h1 := rightB_at h (List.getElem?_eq_some_iff.1 hk).1
  unfold okAt at h1
  rw [hk] at h1
  simp [withinB] at h1
  omega
theorem right_gap {l : List Rg} (h : rightB l = true) {k : Nat} {x y x' y' : Int} (hk : l[k]? = some (x, y)) (hk' : l[k + 1]? = some (x', y')) : y + 2 ≤ x' := by
  have h1 := rightB_at h (List.getElem?_eq_some_iff.1 hk').1
  unfold okAt at h1
  rw [hk', show k + 1 - 1 = k by omega, hk] at h1
  simp [withinB] at h1
  omega
theorem right_apart {l : List Rg} (h : rightB l = true) : ∀ {d k : Nat} {x y x' y' : Int}, l[k]? = some (x, y) → l[k + d + 1]? = some (x', y') → y + 2 ≤ x'
  | 0, k, x, y, x', y', h1, h2 => right_gap h h1 h2
  | d + 1, k, x, y, x', y', h1, h2 => by
    have hl := (List.getElem?_eq_some_iff.1 h2).1
    obtain ⟨p, q, h3⟩ := at_rg (l := l) (k := k + d + 1) (by omega)
    have h4 := right_apart h h1 h3
    have h5 := right_gap h h3 (by rw [show k + d + 1 + 1 = k + (d + 1) + 1 by omega]; exact h2)
    have h6 := right_rg h h3
    omega
theorem right_rises {l : List Rg} (h : rightB l = true) : Rises l := by
  intro i j x y x' y' hij h1 h2
  rcases Nat.lt_or_ge i j with h3 | h3
  · have h4 := right_apart (d := j - i - 1) h h1 (by rw [show i + (j - i - 1) + 1 = j by omega]; exact h2)
    have := right_rg h h2
    omega
  · have e : i = j := by omega
    subst e
    rw [h1] at h2
    simp at h2
    omega
theorem right_length {l : List Rg} (h : rightB l = true) : l.length ≤ 1048577 := by
  rcases Nat.lt_or_ge l.length 2 with h2 | h2
  · omega
  · have key : ∀ d, d + 1 < l.length → ∀ x y x' y', l[0]? = some (x, y) → l[d + 1]? = some (x', y') → y + 2 * (d + 1 : Nat) ≤ x' := by
      intro d
      induction d with
      | zero => intro _ x y x' y' h3 h4; have := right_gap h h3 h4; omega
      | succ d ih =>
        intro hd x y x' y' h3 h4
        obtain ⟨p, q, h5⟩ := at_rg (l := l) (k := d + 1) (by omega)
        have h6 := ih (by omega) x y p q h3 h5
        have h7 := right_gap h h5 h4
        have h8 := right_rg h h5
        omega
    obtain ⟨x, y, h3⟩ := at_rg (l := l) (k := 0) (by omega)
    obtain ⟨x', y', h4⟩ := at_rg (l := l) (k := l.length - 1) (by omega)
    have h5 := key (l.length - 2) (by omega) x y x' y' h3 (by rw [show l.length - 2 + 1 = l.length - 1 by omega]; exact h4)
    have h6 := right_rg h h3
    have h7 := right_rg h h4
    omega

/-! ### Next, Has -/
def nextV (l : List Rg) (v : Int) : Int := if rightB l = true then (match l[fromN v l]? with | some r => max v r.1 | none => 0) else 0
def nextB (l : List Rg) (v : Int) : Bool := rightB l && decide (fromN v l < l.length)

set_option maxHeartbeats 1000000 in
theorem set_next (u : Value) (l : List Rg) (v : Int) (w : World) (hx : RngsR w 0 w.heap.size u l) :
    Calls Try.prog 21 #[u, .int .i64 v] w (RetB (.tuple #[.int .i64 (nextV l v), .bool (nextB l v)]) w) := by
  obtain ⟨A, c, rfl, h1, h2, _⟩ := hx.open_
  have HX := hid hx; clear hx
  cases hr : rightB l
  · have e1 : nextV l v = 0 := by unfold nextV; rw [hr]; rfl
    have e2 : nextB l v = false := by unfold nextB; rw [hr]; rfl
    rw [e1, e2]
    clear e1 e2
    go_enter Try.func21, Try.ntmps21
    go_wp2_with fail
    refine (set_right _ l _ HX.out).mono ?_
    rintro e w1 ⟨rfl, b1⟩
    go_wp2_with fail
    go_ret2
    exact ⟨rfl, b1⟩
  · have hl := right_length hr
    have hf := fromN_le v l
    obtain ⟨i, hi⟩ : ∃ i, fromN v l = i := ⟨_, rfl⟩
    have C := fun w1 (b1 : Below w.heap.size w w1) => set_from (.slice A l.length c) l v w1 (by omega) (right_rises hr) ((HX.out.below b1).mono (Nat.le_refl _) b1.size)
    rw [hi] at C hf
    have C := hid C
    by_cases hn : i < l.length
    · obtain ⟨x, y, hxy⟩ := at_rg hn
      have e1 : nextV l v = max v x := by unfold nextV; rw [hr, hi, hxy]; rfl
      have e2 : nextB l v = true := by unfold nextB; rw [hr, hi]; simpa using hn
      rw [e1, e2]
      clear e1 e2
      have Hi := hid hi; clear hi
      have Hr := hid hr
      have hne : ((i : Int) == (l.length : Int)) = false := by simp; omega
      have Hxy := hid hxy; clear hxy
      go_enter Try.func21, Try.ntmps21
      go_wp2_with fail
      refine (set_right _ l _ HX.out).mono ?_
      rintro e w1 ⟨rfl, b1⟩
      have B1 := hid b1; clear b1
      go_wp2_with fail
      refine (C.out w1 B1.out).mono ?_
      rintro e w2 ⟨rfl, b2⟩
      have b3 := B1.out.trans (b2.mono B1.out.size)
      obtain ⟨a, rfl, _, hab, hc⟩ := (HX.out.below b3).get hn
      obtain ⟨g1, g2⟩ := hc _ _ _ Hxy.out
      clear hc g2
      have B3 := hid b3; clear b3 b2
      go_wp2_with fail
      all_goals
        go_ret2
        exact ⟨retib_eq (by omega), B3.out⟩
    · have e0 : i = l.length := by omega
      have e1 : nextV l v = 0 := by unfold nextV; rw [hr, hi, e0]; simp
      have e2 : nextB l v = false := by unfold nextB; rw [hr, hi]; simp; omega
      rw [e1, e2]
      clear e1 e2
      have Hi := hid hi; clear hi
      have hne : ((i : Int) == (l.length : Int)) = true := by simp; omega
      clear e0
      go_enter Try.func21, Try.ntmps21
      go_wp2_with fail
      refine (set_right _ l _ HX.out).mono ?_
      rintro e w1 ⟨rfl, b1⟩
      have B1 := hid b1; clear b1
      go_wp2_with fail
      refine (C.out w1 B1.out).mono ?_
      rintro e w2 ⟨rfl, b2⟩
      go_wp2_with fail
      go_ret2
      exact ⟨rfl, B1.out.trans (b2.mono B1.out.size)⟩

def hasB (l : List Rg) (v : Int) : Bool := nextB l v && (nextV l v == v)
set_option maxHeartbeats 1000000 in
theorem set_has (u : Value) (l : List Rg) (v : Int) (w : World) (hx : RngsR w 0 w.heap.size u l) :
    Calls Try.prog 22 #[u, .int .i64 v] w (RetB (.bool (hasB l v)) w) := by
  have C := hid (set_next u l v w hx)
  unfold hasB
  cases hb : nextB l v
  all_goals
    rw [hb] at C
    go_enter Try.func22, Try.ntmps22
    go_wp2_with fail
    refine C.out.mono ?_
    rintro e w1 ⟨rfl, b1⟩
    go_wp2_with fail
    go_ret
    exact ⟨by simp, b1⟩

/-! ### Size, Ends -/
def sizeGo (n : Int) : List Rg → Int
  | [] => n
  | r :: l => sizeGo (n + (r.2 - r.1 + 1)) l
def sizeV (l : List Rg) : Int := if rightB l = true then sizeGo 0 l else 0

set_option maxHeartbeats 1000000 in
theorem set_size (u : Value) (l : List Rg) (w : World) (hx : RngsR w 0 w.heap.size u l) :
    Calls Try.prog 20 #[u] w (RetB (.int .i64 (sizeV l)) w) := by
  obtain ⟨A, c, rfl, h1, h2, _⟩ := hx.open_
  have HX := hid hx; clear hx
  cases hr : rightB l
  · have e1 : sizeV l = 0 := by unfold sizeV; rw [hr]; rfl
    rw [e1]
    clear e1
    go_enter Try.func20, Try.ntmps20
    go_wp2_with fail
    refine (set_right _ l _ HX.out).mono ?_
    rintro e w1 ⟨rfl, b1⟩
    go_wp2_with fail
    go_ret
    exact ⟨rfl, b1⟩
  · obtain ⟨R, hR⟩ : ∃ R, R = sizeV l := ⟨_, rfl⟩
    rw [← hR]
    have hl := right_length hr
    have e0 := hid (show sizeGo 0 (l.drop 0) = R by rw [hR]; unfold sizeV; rw [hr]; rfl)
    clear hR
    have Hr := hid hr
    go_enter Try.func20, Try.ntmps20
    go_wp2_with fail
    refine (set_right _ l _ HX.out).mono ?_
    rintro e w1 ⟨rfl, b1⟩
    have B1 := hid b1; clear b1
    go_wp2_with fail
    go_loopw [3, 11] (fun vn vi wr => ∃ (k : Nat) (n : Int), k ≤ l.length ∧ 0 ≤ n ∧ n ≤ 2097153 * (k : Int) ∧ vi = .int .i64 k ∧ vn = .int .i64 n ∧ Hid (sizeGo n (l.drop k) = R) ∧ Hid (Below w.heap.size w wr)) (fun vn vi wr => (l.length - (intOf vi).toNat))
    case atStart => exact ⟨0, 0, by omega, by omega, by omega, rfl, rfl, e0, B1⟩
    case round =>
      obtain ⟨k, n, hk, hn0, hn1, rfl, rfl, hs, hB⟩ := hrel
      by_cases hlt : k < l.length
      · obtain ⟨x, y, hxy⟩ := at_rg hlt
        obtain ⟨a, rfl, _, hab, hc⟩ := (HX.out.below hB.out).get hlt
        obtain ⟨g1, g2⟩ := hc _ _ _ hxy
        clear hc
        obtain ⟨r1, r2, r3, r4, r5⟩ := right_rg Hr.out hxy
        have hs := hs.out
        rw [drop_at hxy] at hs
        have Hs := hid hs; clear hs
        clear hxy
        go_wp2_with fail
        go_roundw
        case rel => exact ⟨k + 1, n + (y - x + 1), by omega, by omega, by omega, by go_num, by go_num, Hs, hid (hB.out.alloc hB.out.size _)⟩
        case measure => simp [intOf]; omega
      · go_wp2_with fail
        go_ret
        have hs := hs.out
        rw [List.drop_eq_nil_of_le (by omega)] at hs
        rw [← hs]
        exact ⟨rfl, hB.out⟩

end Go.Proofs.Ytjdlfmcnjpiaoaa
