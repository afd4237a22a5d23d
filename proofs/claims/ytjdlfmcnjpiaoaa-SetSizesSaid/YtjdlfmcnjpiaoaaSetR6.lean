/- The walks of the reference of chapter 9: Of. -/
import Derived.Test.YtjdlfmcnjpiaoaaSetR5
namespace Go.Proofs.Ytjdlfmcnjpiaoaa
open Go.RowKit
set_option linter.unusedVariables false


def rofGo : List Rg → List Rg → List Rg × Int
  | acc, [] => (acc, 0)
  | acc, r :: l => if r.2 < r.1 then rofGo acc l else if (withinB r.1 && withinB r.2) = true then rofGo (joinedGo r false acc) l else ([], 2)
def rofS (l : List Rg) : List Rg × Int := rofGo [] l
theorem InB_of {x y : Int} (h2 : withinB x = true) (h3 : withinB y = true) : InB (x, y) := by
  have h4 := withinB_iff.1 h2
  have h5 := withinB_iff.1 h3
  unfold InB
  simp only
  omega
set_option maxRecDepth 100000 in
set_option maxHeartbeats 1000000 in
theorem rset_of (u : Value) (l : List Rg) (w : World) (hl : l.length ≤ 3000000) (hx : RngsR w 0 w.heap.size u l) :
    Calls Try.prog 16 #[u] w (RetP (fun v w' => ∃ s, v = .tuple #[s, .int .i64 (rofS l).2] ∧ RngsR w' 0 w'.heap.size s (rofS l).1) w) := by
  obtain ⟨A, c, rfl, h1, h2, _⟩ := hx.open_
  have HX := hid hx; clear hx h1 h2
  obtain ⟨T, hT⟩ : ∃ T, T = rofS l := ⟨_, rfl⟩
  rw [← hT]
  have e0 := hid (show rofGo [] (l.drop 0) = T by rw [hT]; rfl)
  clear hT
  go_enter Try.func16, Try.ntmps16
  go_wp2_with fail
  go_loopw [4, 5] (fun vo vi wr => ∃ (k : Nat) (acc : List Rg), k ≤ l.length ∧ acc.length ≤ k ∧ vi = .int .i64 k ∧ Hid (RngsR wr 0 wr.heap.size vo acc) ∧ Hid (∀ d ∈ acc, InB d) ∧ Hid (rofGo acc (l.drop k) = T) ∧ Hid (Below w.heap.size w wr)) (fun vo vi wr => (l.length - (intOf vi).toNat))
  case atStart => exact ⟨0, [], by omega, by simp, rfl, RngsR.nil _ _ _, hid (by simp), e0, hid (Below.refl _ _)⟩
  case round =>
    obtain ⟨k, acc, hk, hak, rfl, hO, hI, hs, hB⟩ := hrel
    by_cases hlt : k < l.length
    · obtain ⟨x, y, hxy⟩ := at_rg hlt
      obtain ⟨a, rfl, _, hab, hc⟩ := (HX.out.below hB.out).get hlt
      obtain ⟨g1, g2⟩ := hc _ _ _ hxy
      clear hc
      replace hs := hs.out
      rw [drop_at hxy] at hs
      clear hxy
      unfold rofGo at hs
      simp only at hs
      by_cases c1 : y < x
      · rw [if_pos c1] at hs
        replace hs := hid hs
        go_wp2_with fail
        go_quiet (fail)
        go_wp2_with fail
        go_roundw
        case rel => exact ⟨k + 1, acc, by omega, by omega, by go_num, hid (((hO.out.below (below_q _ _))).mono (Nat.le_refl _) (by simp)), hid (hI.out), hs, hid (below_drewN hB.out _)⟩
        case measure => simp [intOf]; omega
      · rw [if_neg c1] at hs
        cases h2 : withinB x
        · rw [h2, Bool.false_and, if_neg (by simp)] at hs
          replace hs := hid hs
          go_wp2_with fail
          go_quiet (fail)
          go_wp2_with (go_at_call 60; refine (rset_within _ _).mono ?_; rintro e w' ⟨rfl, n9, rfl⟩)
          go_ret2
          have e := hs.out
          subst e
          exact ⟨_, rfl, by first | exact below_drewN hB.out _ | (rw [← World.drewN_drewN]; exact below_drewN (below_drewN hB.out _) _), _, rfl, RngsR.nil _ _ _⟩
        · cases h3 : withinB y
          · rw [h2, h3, Bool.true_and, if_neg (by simp)] at hs
            replace hs := hid hs
            go_wp2_with fail
            go_quiet (fail)
            go_wp2_with (go_at_call 60; refine (rset_within _ _).mono ?_; rintro e w' ⟨rfl, n9, rfl⟩)
            go_ret2
            have e := hs.out
            subst e
            exact ⟨_, rfl, by first | exact below_drewN hB.out _ | (rw [← World.drewN_drewN]; exact below_drewN (below_drewN hB.out _) _), _, rfl, RngsR.nil _ _ _⟩
          · rw [h2, h3, Bool.true_and, if_pos rfl] at hs
            have hI2 := InB_of h2 h3
            have hjl := joined_length acc (x, y) false
            simp only [Bool.false_eq_true, if_false] at hjl
            have hI3 := hid (joined_inB acc (x, y) false hI2 hI.out)
            have J := hid (fun wx (hb : Below wr.heap.size wr wx) => rset_joined u4 acc x y wx (by omega) hI2 hI.out ((hO.out.below hb).mono (Nat.le_refl _) hb.size))
            clear hI2
            obtain ⟨m, hm⟩ : ∃ m, m = joinedGo (x, y) false acc := ⟨_, rfl⟩
            rw [← hm] at J hs hjl hI3
            clear hm
            replace hs := hid hs
            go_wp2_with fail
            go_quiet (fail)
            go_wp2_with (go_at_call 60; refine (rset_within _ _).mono ?_; rintro e w' ⟨rfl, n9, rfl⟩)
            refine (J.out _ (by first | exact below_q _ _ | (rw [← World.drewN_drewN]; exact below_drewN (below_q _ _) _))).mono ?_
            rintro e w3 ⟨r, rfl, b3, own3⟩
            go_wp2_with fail
            have B3 := hid ((show Below w.heap.size w _ from below_drewN hB.out _).trans (b3.mono (by simpa using hB.out.size)))
            go_roundw
            case rel => exact ⟨k + 1, m, by omega, by omega, by go_num, hid ((RngsR.of_own own3).mono (Nat.zero_le _) (Nat.le_refl _)), hid (hI3.out), hs, hid (B3.out)⟩
            case measure => simp [intOf]; omega
    · go_wp2_with fail
      go_ret2
      replace hs := hs.out
      rw [List.drop_eq_nil_of_le (by omega)] at hs
      unfold rofGo at hs
      subst hs
      exact ⟨_, rfl, hB.out, _, rfl, hO.out⟩

end Go.Proofs.Ytjdlfmcnjpiaoaa
