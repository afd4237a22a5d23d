/- The laws of chapter 9, continued: SetMakes. -/
import Derived.Test.YtjdlfmcnjpiaoaaSetAlive
import Derived.Test.YtjdlfmcnjpiaoaaPlOf2
namespace Go.Proofs.Ytjdlfmcnjpiaoaa
open Go.RowKit
set_option linter.unusedVariables false

set_option maxRecDepth 100000 in
set_option maxHeartbeats 1000000 in
theorem law_makes (u : Value) (l : List Rg) (w : World) (hx : RngsR w 0 w.heap.size u l) :
    Calls Try.prog 3 #[u] w (RetB (.bool true) w) := by
  have X := hid (fun wx (b : Below w.heap.size w wx) => (hx.below b).mono (Nat.le_refl _) b.size)
  obtain ⟨A, c, rfl, h1, h2, _⟩ := hx.open_
  clear hx h1 h2
  have c3 := hid (fun wx b => set_right _ l wx (X.out wx b))
  have c4 := hid (fun wx b => rset_right _ l wx (X.out wx b))
  by_cases hl : 300 < l.length
  · clear X c3 c4
    go_enter Try.func3, Try.ntmps3
    go_wp2_with fail
    refine (set_alive _).mono ?_
    rintro e w1 ⟨rfl, b1⟩
    go_wp2_with fail
    go_ret
    exact ⟨rfl, b1⟩
  · have c1 := hid (fun wx b => set_of _ l wx (by omega) (X.out wx b))
    have c2 := hid (fun wx b => rset_of _ l wx (by omega) (X.out wx b))
    clear X
    generalize rightB l = e6 at c3 c4
    cases hk : keepGo [] l with
    | none =>
      rw [hk] at c1
      rw [of_none hk] at c2
      clear hk
      go_enter Try.func3, Try.ntmps3
      go_wp2_with fail
      refine (set_alive _).mono ?_
      rintro e w1 ⟨rfl, b1⟩
      have B1 := hid b1; clear b1
      go_wp2_with fail
      refine (c1.out _ B1.out).mono ?_
      rintro e w2 ⟨v, rfl, b2, hv⟩
      obtain rfl : v = .tuple #[.slice none 0 0, .int .i64 2] := hv
      have B2 := hid (B1.out.trans (b2.mono B1.out.size)); clear b2 c1
      go_wp2_with fail
      refine (c2.out _ B2.out).mono ?_
      rintro e w3 ⟨v, rfl, b3, s, rfl, i3⟩
      have B3 := hid (B2.out.trans (b3.mono B2.out.size)); clear b3 c2
      have I3 := hid i3; clear i3
      go_wp2_with fail
      have c5 := hid (retq_b (law_ranges (.slice none 0 0) s [] [] w3 (RngsR.nil _ _ _) I3.out))
      rw [show decide (([] : List Rg) = []) = true by decide] at c5
      refine c5.out.mono ?_
      rintro e w4 ⟨rfl, b4⟩
      have B4 := hid (B3.out.trans (b4.mono B3.out.size)); clear b4 c5 I3
      go_wp2_with fail
      refine (c3.out _ B4.out).mono ?_
      rintro e w5 ⟨rfl, b5⟩
      have B5 := hid (B4.out.trans (b5.mono B4.out.size)); clear b5 c3
      go_wp2_with fail
      refine (c4.out _ B5.out).mono ?_
      rintro e w6 ⟨rfl, b6⟩
      have B6 := hid (B5.out.trans (b6.mono B5.out.size)); clear b6 c4
      go_wp2_with fail
      go_ret
      exact ⟨rfl, B6.out⟩
    | some L =>
      rw [hk] at c1
      go_enter Try.func3, Try.ntmps3
      go_wp2_with fail
      refine (set_alive _).mono ?_
      rintro e w1 ⟨rfl, b1⟩
      have B1 := hid b1; clear b1
      go_wp2_with fail
      refine (c1.out _ B1.out).mono ?_
      rintro e w2 ⟨v, rfl, b2, l', s, hp, ha, rfl, own⟩
      have B2 := hid (B1.out.trans (b2.mono B1.out.size)); clear b2 c1
      obtain ⟨e1, e2⟩ := of_some hk hp ha
      rw [e1] at c2
      clear e1 hk hp ha
      obtain ⟨R, hR⟩ : ∃ R, R = mergeS l' := ⟨_, rfl⟩
      rw [← hR] at c2 e2 own
      clear hR l'
      have E2 := hid e2; clear e2
      have I2 := hid (RngsR.of_own own); clear own
      go_wp2_with fail
      refine (c2.out _ B2.out).mono ?_
      rintro e w3 ⟨v, rfl, b3, s2, rfl, i3⟩
      have B3 := hid (B2.out.trans (b3.mono B2.out.size))
      have X3 := hid ((I2.out.below b3).mono (Nat.zero_le _) b3.size); clear b3 c2 I2
      have I3 := hid i3; clear i3
      go_wp2_with fail
      have c5 := hid (retq_b (law_ranges s s2 R R w3 X3.out I3.out))
      rw [show decide (R = R) = true by simp] at c5
      refine c5.out.mono ?_
      rintro e w4 ⟨rfl, b4⟩
      have B4 := hid (B3.out.trans (b4.mono B3.out.size))
      have X4 := hid ((X3.out.below b4).mono (Nat.le_refl _) b4.size); clear b4 c5 I3 X3
      go_wp2_with fail
      refine (c3.out _ B4.out).mono ?_
      rintro e w5 ⟨rfl, b5⟩
      have B5 := hid (B4.out.trans (b5.mono B4.out.size))
      have X5 := hid ((X4.out.below b5).mono (Nat.le_refl _) b5.size); clear b5 c3 X4
      go_wp2_with fail
      refine (c4.out _ B5.out).mono ?_
      rintro e w6 ⟨rfl, b6⟩
      have B6 := hid (B5.out.trans (b6.mono B5.out.size))
      have X6 := hid ((X5.out.below b6).mono (Nat.le_refl _) b6.size); clear b6 c4 X5
      go_wp2_with fail
      have c7 := hid (set_right s R w6 X6.out)
      rw [E2.out] at c7
      refine c7.out.mono ?_
      rintro e w7 ⟨rfl, b7⟩
      have B7 := hid (B6.out.trans (b7.mono B6.out.size)); clear b7 c7 X6
      go_wp2_with fail
      go_ret
      exact ⟨rfl, B7.out⟩
end Go.Proofs.Ytjdlfmcnjpiaoaa
