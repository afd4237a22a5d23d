/- The walks: the very same ranges, slices.Equal, slices.Clone at ranges. -/
import Derived.Test.YtjdlfmcnjpiaoaaSetW2
import Derived.Lib.BufferMore
import Derived.Lib.SliceRun
namespace Go.Proofs.Ytjdlfmcnjpiaoaa
open Go.RowKit
set_option linter.unusedVariables false


theorem eq_more {l m : List Rg} {k : Nat} {r : Rg} (h : ∀ j, j < k → l[j]? = m[j]?) (h1 : l[k]? = some r) (h2 : m[k]? = some r) : ∀ j, j < k + 1 → l[j]? = m[j]? := by
  intro j hj
  rcases Nat.lt_or_ge j k with h' | h'
  · exact h j h'
  · have e : j = k := by omega
    subst e
    rw [h1, h2]
theorem eq_all {l m : List Rg} (hl : l.length = m.length) (h : ∀ j, j < l.length → l[j]? = m[j]?) : l = m := by
  apply List.ext_getElem?
  intro j
  rcases Nat.lt_or_ge j l.length with h' | h'
  · exact h j h'
  · rw [List.getElem?_eq_none h', List.getElem?_eq_none (by omega)]
theorem ne_at {l m : List Rg} {k : Nat} {r s : Rg} (h1 : l[k]? = some r) (h2 : m[k]? = some s) (hne : r ≠ s) : decide (l = m) = false := by
  simp
  rintro rfl
  rw [h1] at h2
  exact hne (by simpa using h2)
theorem rg_ne {x y x' y' : Int} (h : ¬ (x = x' ∧ y = y')) : ((x, y) : Rg) ≠ (x', y') := by
  intro e
  exact h (by simpa using e)
theorem eqf_nat {a b : Nat} (h : a ≠ b) : ((a : Int) == (b : Int)) = false := by simp; omega
theorem net_nat {a b : Nat} (h : a ≠ b) : ((a : Int) != (b : Int)) = true := by simp; omega
theorem nef_nat {a b : Nat} (h : a = b) : ((a : Int) != (b : Int)) = false := by simp [h]
set_option maxRecDepth 100000 in
set_option maxHeartbeats 1000000 in
theorem law_ranges_run (A B : Option Addr) (l m : List Rg) (c d : Nat) (w : World) (hl : l.length ≤ 9223372036854775807) (hm : m.length ≤ 9223372036854775807) (hx : RngsR w 0 w.heap.size (.slice A l.length c) l) (hy : RngsR w 0 w.heap.size (.slice B m.length d) m) :
    Calls Try.prog 17 #[.slice A l.length c, .slice B m.length d] w (RetQ (.bool (decide (l = m))) w) := by
  have HX := hid hx; clear hx
  have HY := hid hy; clear hy
  by_cases hlen : l.length = m.length
  · have hz := nef_nat hlen
    have HL := hid hlen; clear hlen
    go_enter Try.func17, Try.ntmps17
    go_wp2_with fail
    go_loopw [13] (fun vi wr => ∃ k q : Nat, k ≤ l.length ∧ vi = .int .i64 k ∧ Hid (∀ j, j < k → l[j]? = m[j]?) ∧ wr = w.drewN q) (fun vi wr => (l.length - (intOf vi).toNat))
    case atStart => exact ⟨0, 0, by omega, rfl, hid (fun j hj => by omega), rfl⟩
    case round =>
      obtain ⟨k, q, hk, rfl, hall, rfl⟩ := hrel
      by_cases hlt : k < l.length
      · have hlt' : k < m.length := by have := HL.out; omega
        obtain ⟨x, y, hxy⟩ := at_rg hlt
        obtain ⟨x', y', hxy'⟩ := at_rg hlt'
        obtain ⟨a, rfl, _, hab, hc⟩ := HX.out.get hlt
        obtain ⟨b, rfl, _, hbb, hd⟩ := HY.out.get hlt'
        obtain ⟨g1, g2⟩ := hc _ _ _ hxy
        obtain ⟨g3, g4⟩ := hd _ _ _ hxy'
        clear hc hd
        have Hxy := hid hxy; clear hxy
        have Hxy' := hid hxy'; clear hxy'
        by_cases he : x = x' ∧ y = y'
        · obtain ⟨rfl, rfl⟩ := he
          go_wp2_with fail
          go_quiet (fail)
          go_wp2_with fail
          go_roundw
          case rel => exact ⟨k + 1, _, by omega, by go_num, hid (eq_more hall.out Hxy.out Hxy'.out), rfl⟩
          case measure => simp [intOf]; omega
        · have HE := hid he
          rcases (show x ≠ x' ∨ y ≠ y' by omega) with hn | hn
          all_goals
            have hn' := eqf hn
            clear he hn
            go_wp2_with fail
            go_quiet (fail)
            go_wp2_with fail
            go_ret
            exact ⟨retb_eq (ne_at Hxy.out Hxy'.out (rg_ne HE.out)).symm, _, World.drewN_drewN _ _ _⟩
      · go_wp2_with fail
        go_ret
        exact ⟨retb_eq (by rw [decide_eq_true (eq_all HL.out (fun j hj => hall.out j (by omega)))]), _, rfl⟩
  · have hz := net_nat hlen
    have e : decide (l = m) = false := by simp; rintro rfl; exact hlen rfl
    rw [e]
    clear e hlen
    go_enter Try.func17, Try.ntmps17
    go_wp2_with fail
    go_ret
    exact ⟨rfl, 0, rfl⟩

theorem law_ranges (u v : Value) (l m : List Rg) (w : World) (hx : RngsR w 0 w.heap.size u l) (hy : RngsR w 0 w.heap.size v m) : Calls Try.prog 17 #[u, v] w (RetQ (.bool (decide (l = m))) w) := by
  obtain ⟨A, c, rfl, h1, h2, _⟩ := hx.open_
  obtain ⟨B, d, rfl, h3, h4, _⟩ := hy.open_
  exact law_ranges_run A B l m c d w (by omega) (by omega) hx hy

set_option maxRecDepth 100000 in
set_option maxHeartbeats 1000000 in
theorem slices_equal_run (A B : Option Addr) (l m : List Rg) (c d : Nat) (w : World) (hl : l.length ≤ 9223372036854775807) (hm : m.length ≤ 9223372036854775807) (hx : RngsR w 0 w.heap.size (.slice A l.length c) l) (hy : RngsR w 0 w.heap.size (.slice B m.length d) m) :
    Calls Try.prog 63 #[.slice A l.length c, .slice B m.length d] w (RetQ (.bool (decide (l = m))) w) := by
  have HX := hid hx; clear hx
  have HY := hid hy; clear hy
  by_cases hlen : l.length = m.length
  · have hz := nef_nat hlen
    have HL := hid hlen; clear hlen
    go_enter Try.func63, Try.ntmps63
    go_wp2_with fail
    go_loopw [13] (fun vi wr => ∃ k q : Nat, k ≤ l.length ∧ vi = .int .i64 k ∧ Hid (∀ j, j < k → l[j]? = m[j]?) ∧ wr = w.drewN q) (fun vi wr => (l.length - (intOf vi).toNat))
    case atStart => exact ⟨0, 0, by omega, rfl, hid (fun j hj => by omega), rfl⟩
    case round =>
      obtain ⟨k, q, hk, rfl, hall, rfl⟩ := hrel
      by_cases hlt : k < l.length
      · have hlt' : k < m.length := by have := HL.out; omega
        obtain ⟨x, y, hxy⟩ := at_rg hlt
        obtain ⟨x', y', hxy'⟩ := at_rg hlt'
        obtain ⟨a, rfl, _, hab, hc⟩ := HX.out.get hlt
        obtain ⟨b, rfl, _, hbb, hd⟩ := HY.out.get hlt'
        obtain ⟨g1, g2⟩ := hc _ _ _ hxy
        obtain ⟨g3, g4⟩ := hd _ _ _ hxy'
        clear hc hd
        have Hxy := hid hxy; clear hxy
        have Hxy' := hid hxy'; clear hxy'
        by_cases he : x = x' ∧ y = y'
        · obtain ⟨rfl, rfl⟩ := he
          go_wp2_with fail
          go_quiet (fail)
          go_wp2_with fail
          go_roundw
          case rel => exact ⟨k + 1, _, by omega, by go_num, hid (eq_more hall.out Hxy.out Hxy'.out), rfl⟩
          case measure => simp [intOf]; omega
        · have HE := hid he
          rcases (show x ≠ x' ∨ y ≠ y' by omega) with hn | hn
          all_goals
            have hn' := eqf hn
            clear he hn
            go_wp2_with fail
            go_quiet (fail)
            go_wp2_with fail
            go_ret
            exact ⟨retb_eq (ne_at Hxy.out Hxy'.out (rg_ne HE.out)).symm, _, World.drewN_drewN _ _ _⟩
      · go_wp2_with fail
        go_ret
        exact ⟨retb_eq (by rw [decide_eq_true (eq_all HL.out (fun j hj => hall.out j (by omega)))]), _, rfl⟩
  · have hz := net_nat hlen
    have e : decide (l = m) = false := by simp; rintro rfl; exact hlen rfl
    rw [e]
    clear e hlen
    go_enter Try.func63, Try.ntmps63
    go_wp2_with fail
    go_ret
    exact ⟨rfl, 0, rfl⟩

theorem slices_equal (u v : Value) (l m : List Rg) (w : World) (hx : RngsR w 0 w.heap.size u l) (hy : RngsR w 0 w.heap.size v m) : Calls Try.prog 63 #[u, v] w (RetQ (.bool (decide (l = m))) w) := by
  obtain ⟨A, c, rfl, h1, h2, _⟩ := hx.open_
  obtain ⟨B, d, rfl, h3, h4, _⟩ := hy.open_
  exact slices_equal_run A B l m c d w (by omega) (by omega) hx hy

set_option maxRecDepth 100000 in
set_option maxHeartbeats 1000000 in
theorem clone_rngs (u : Value) (l : List Rg) (w : World) (hl : l.length ≤ 2000000) (hx : RngsR w 0 w.heap.size u l) :
    Calls Try.prog 64 #[u] w (RetP (fun v w' => w'.ownsRow w.heap.size 36 2 v l.length (rcells l)) w) := by
  obtain ⟨A, c, rfl, h1, h2, _⟩ := hx.open_
  obtain ⟨i0, hi0, hz0, hz1, hz2⟩ := info_parts rng_info
  rcases A with _ | ad
  · obtain ⟨rfl, rfl⟩ := hx.nilcap
    have hq := fun w => Lib.run_eql_slice_nil_nil (P := Try.prog) w 0 0 Try.underlying22
    clear hx
    go_enter Try.func64, Try.ntmps64
    go_wp2_with fail
    go_ret
    exact ⟨_, rfl, Below.refl _ _, World.ownsRow_nil _ _ _ _⟩
  · have hq := fun w => Lib.run_eql_slice_nil (P := Try.prog) w 22 36 (some ad) l.length c 0 0 Try.underlying22
    obtain ⟨A', c', e1, _, _, e4, e5⟩ := hx
    injection e1 with e1 e2 e3
    subst e1 e3
    have hnews : ∀ (j : Nat) (u : Value), (rcells l)[j]? = some u → (w.alloc (.cells #[] 36)).cell? (ad.add j) = some u := by
      intro j u hu
      have hj := rcells_get hu
      obtain ⟨a, h6, h7, h8, h9⟩ := e5 (by omega)
      injection h6 with h6
      subst h6
      have := ((Below.refl w.heap.size w).alloc (Nat.le_refl _) (.cells #[] 36)).cell (p := ad.add j) (by rw [block_add]; exact h8)
      rw [this]
      exact h9 j u hu
    have HN := hid hnews
    clear hnews e5 e4
    go_enter Try.func64, Try.ntmps64
    go_wp2_with (at_builtin; refine wpList_append_own _ rfl (.tmp 5) (.tmp 6) 22 rfl w.heap.size 36 i0 _ 2 16 Try.underlying22 hi0 hz0 hz1 hz2 rfl (by omega) (.slice (some ⟨w.heap.size, 0, none⟩) 0 0) 0 [] rfl (by exact World.ownsRow_made w #[] 0 (Nat.le_refl _) (by decide) rfl) ad l.length c (rcells l) rfl (rcells_length l) HN.out (rcells_one l) (by unfold maxLen; omega) (by omega) (by simp) ?_; intro v1 w1 own1 hg1 _)
    go_ret
    refine ⟨_, rfl, ((Below.refl _ _).alloc (Nat.le_refl _) _).grown hg1 (by simp) (fun k hk => by simp [Value.ownBlock] at hk; omega), ?_⟩
    simpa using own1
end Go.Proofs.Ytjdlfmcnjpiaoaa
