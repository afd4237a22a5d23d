/- The laws of chapter 9, continued: SetSizes. -/
import Derived.Test.YtjdlfmcnjpiaoaaSetAlive
import Derived.Test.YtjdlfmcnjpiaoaaPlSizes
namespace Go.Proofs.Ytjdlfmcnjpiaoaa
open Go.RowKit
set_option linter.unusedVariables false

set_option maxRecDepth 100000 in
set_option maxHeartbeats 2000000 in
theorem law_sizes (u : Value) (l : List Rg) (v : Int) (w : World) (hv : I64 v) (hx : RngsR w 0 w.heap.size u l) :
    Calls Try.prog 12 #[u, .int .i64 v] w (RetB (.bool true) w) := by
  have X := hid (fun wx (b : Below w.heap.size w wx) => (hx.below b).mono (Nat.le_refl _) b.size)
  obtain ⟨A, c, rfl, h1, h2, -⟩ := hx.open_
  clear hx h1 h2
  obtain ⟨hv1, hv2⟩ := hv
  have c3 := hid (fun wx b => set_right _ l wx (X.out wx b))
  by_cases hl : 300 < l.length
  · clear X c3
    go_enter Try.func12, Try.ntmps12
    go_wp2_with fail
    refine (set_alive _).mono ?_
    rintro e w1 ⟨rfl, b1⟩
    have B1 := hid b1; clear b1
    go_wp2_with fail
    go_ret
    exact ⟨rfl, B1.out⟩
  · cases hr : rightB l
    · rw [hr] at c3
      go_enter Try.func12, Try.ntmps12
      go_wp2_with fail
      refine (set_alive _).mono ?_
      rintro e w1 ⟨rfl, b1⟩
      have B1 := hid b1; clear b1
      go_wp2_with fail
      refine (c3.out _ B1.out).mono ?_
      rintro e w2 ⟨rfl, b2⟩
      have B2 := hid (B1.out.trans (b2.mono B1.out.size))
      clear b2
      go_wp2_with fail
      go_ret
      exact ⟨rfl, B2.out⟩
    · rw [hr] at c3
      have f1 := size_cut hr v
      have f2 := size_without hr v
      have f3 := size_bounds hr
      have f4 := size_bounds (cutS_facts (-1048576) v hr).1
      obtain ⟨f5, f6, f7⟩ := ends_next hr
      have c4 := hid (fun wx b => set_size _ l wx (X.out wx b))
      have c5 := hid (fun wx b => set_cut _ l (-1048576) v wx (X.out wx b))
      have c6 := hid (fun wx b => set_has _ l v wx (X.out wx b))
      have c7 := hid (fun wx b => set_ends _ l wx (X.out wx b))
      have c8 := hid (fun wx b => set_next _ l (-1048576) wx (X.out wx b))
      have c9 := hid (fun wx b => set_cut _ l (v + 1) 1048576 wx (X.out wx b))
      have c10 := hid (fun (wl : l.length ≤ 1000000) wx b => set_without _ l v wx wl (X.out wx b))
      rw [f5] at c7
      rw [f6, f7] at c8
      generalize (endsV l).1 = e1 at c7 c8
      generalize (endsV l).2 = e2 at c7
      clear f5 f6 f7
      have W1 := hid (fun (wx : World) (q : Value) (h : RngsR wx 0 wx.heap.size q (cutS (-1048576) v l)) => set_size q _ wx h)
      have W2 := hid (fun (wx : World) (q : Value) (h : RngsR wx 0 wx.heap.size q (if v < 1048576 then cutS (v + 1) 1048576 l else [])) => set_size q _ wx h)
      have W3 := hid (fun (wx : World) (q : Value) (h : RngsR wx 0 wx.heap.size q (withoutS v l)) => set_size q _ wx h)
      obtain ⟨S, hS⟩ : ∃ S, S = sizeV l := ⟨_, rfl⟩
      obtain ⟨S1, hS1⟩ : ∃ S1, S1 = sizeV (cutS (-1048576) v l) := ⟨_, rfl⟩
      obtain ⟨S2, hS2⟩ : ∃ S2, S2 = sizeV (if v < 1048576 then cutS (v + 1) 1048576 l else []) := ⟨_, rfl⟩
      obtain ⟨S3, hS3⟩ : ∃ S3, S3 = sizeV (withoutS v l) := ⟨_, rfl⟩
      rw [← hS] at f1 f2 f3 c4 c7 c8
      rw [← hS1] at f1 f4 W1
      rw [← hS2] at f1 W2
      rw [← hS3] at f2 W3
      clear hS hS1 hS2 hS3 hr
      by_cases cv : v < 1048576
      · cases ch : hasB l v
        · rw [ch] at f2 c6
          simp only [Bool.false_eq_true, if_false] at f2
          by_cases cp : 0 < S
          · rw [show decide (0 < S) = true by simp; omega] at c7 c8
            go_enter Try.func12, Try.ntmps12
            go_wp2_with fail
            refine (set_alive _).mono ?_
            rintro e w1 ⟨rfl, b1⟩
            have B1 := hid b1; clear b1
            go_wp2_with fail
            refine (c3.out _ B1.out).mono ?_
            rintro e w2 ⟨rfl, b2⟩
            have B2 := hid (B1.out.trans (b2.mono B1.out.size))
            clear b2
            go_wp2_with fail
            refine (c4.out _ B2.out).mono ?_
            rintro e w3 ⟨rfl, b3⟩
            have B3 := hid (B2.out.trans (b3.mono B2.out.size))
            clear b3
            go_wp2_with fail
            refine (c5.out _ B3.out).mono ?_
            rintro e w4 ⟨r1, rfl, b4, own4⟩
            have B4 := hid (B3.out.trans (b4.mono B3.out.size))
            have Ir14 := hid ((RngsR.of_own own4).mono (Nat.zero_le _) (Nat.le_refl _)); clear own4
            clear b4
            go_wp2_with fail
            refine (c9.out _ B4.out).mono ?_
            rintro e w5 ⟨r2, rfl, b5, own5⟩
            have B5 := hid (B4.out.trans (b5.mono B4.out.size))
            have Ir15 := hid ((Ir14.out.below b5).mono (Nat.le_refl _) b5.size); clear Ir14
            have Ir25 := hid ((RngsR.of_own own5).mono (Nat.zero_le _) (Nat.le_refl _)); clear own5
            clear b5
            go_wp2_with fail
            refine (c6.out _ B5.out).mono ?_
            rintro e w6 ⟨rfl, b6⟩
            have B6 := hid (B5.out.trans (b6.mono B5.out.size))
            have Ir16 := hid ((Ir15.out.below b6).mono (Nat.le_refl _) b6.size); clear Ir15
            have Ir26 := hid ((Ir25.out.below b6).mono (Nat.le_refl _) b6.size); clear Ir25
            clear b6
            go_wp2_with fail
            refine (c7.out _ B6.out).mono ?_
            rintro e w7 ⟨rfl, b7⟩
            have B7 := hid (B6.out.trans (b7.mono B6.out.size))
            have Ir17 := hid ((Ir16.out.below b7).mono (Nat.le_refl _) b7.size); clear Ir16
            have Ir27 := hid ((Ir26.out.below b7).mono (Nat.le_refl _) b7.size); clear Ir26
            clear b7
            have K7 := hid (Blk.at_ w7 36 #[.int .i64 e1, .int .i64 e2] rfl)
            have D7 := hid ((Below.refl _ w7).alloc (Nat.le_refl _) (.cells #[.int .i64 e1, .int .i64 e2] 36))
            have Jr1 := hid ((Ir17.out.below D7.out).mono (Nat.le_refl _) D7.out.size)
            have Jr2 := hid ((Ir27.out.below D7.out).mono (Nat.le_refl _) D7.out.size)
            have E7 := hid (B7.out.trans (D7.out.mono B7.out.size)); clear D7
            go_wp2_with fail
            refine (c8.out _ E7.out).mono ?_
            rintro e w8 ⟨rfl, b8⟩
            have B8 := hid (E7.out.trans (b8.mono E7.out.size))
            have Ir18 := hid ((Jr1.out.below b8).mono (Nat.le_refl _) b8.size); clear Jr1 Ir17
            have Ir28 := hid ((Jr2.out.below b8).mono (Nat.le_refl _) b8.size); clear Jr2 Ir27
            have Ik8 := hid (K7.out.below b8 K7.out.lt); clear K7 b8
            go_wp2_with fail
            refine (W1.out _ _ (by exact Ir18.out)).mono ?_
            rintro e w9 ⟨rfl, b9⟩
            have B9 := hid (B8.out.trans (b9.mono B8.out.size))
            clear Ir18
            have Ir29 := hid ((Ir28.out.below b9).mono (Nat.le_refl _) b9.size); clear Ir28
            have Ik9 := hid (Ik8.out.below b9 Ik8.out.lt); clear Ik8
            clear b9
            go_wp2_with fail
            refine (W2.out _ _ (by rw [if_pos cv]; exact Ir29.out)).mono ?_
            rintro e w10 ⟨rfl, b10⟩
            have B10 := hid (B9.out.trans (b10.mono B9.out.size))
            clear Ir29
            have Ik10 := hid (Ik9.out.below b10 Ik9.out.lt); clear Ik9
            clear b10
            go_wp2_with fail
            refine (c10.out (by omega) _ B10.out).mono ?_
            rintro e w11 ⟨r3, rfl, b11, own11⟩
            have B11 := hid (B10.out.trans (b11.mono B10.out.size))
            have Ik11 := hid (Ik10.out.below b11 Ik10.out.lt); clear Ik10
            have Ir311 := hid ((RngsR.of_own own11).mono (Nat.zero_le _) (Nat.le_refl _)); clear own11
            clear b11
            go_wp2_with fail
            refine (W3.out _ _ (by exact Ir311.out)).mono ?_
            rintro e w12 ⟨rfl, b12⟩
            have B12 := hid (B11.out.trans (b12.mono B11.out.size))
            clear Ir311
            have Ik12 := hid (Ik11.out.below b12 Ik11.out.lt); clear Ik11
            clear b12
            obtain ⟨g1, g2, _, _⟩ := Ik12.out.two
            go_wp2_with fail
            go_ret
            first | exact ⟨rfl, B12.out⟩ | exact ⟨retb_eq (by simp; omega), B12.out⟩ | exact ⟨retb_eq (by simp [cp]), B12.out⟩
          · rw [show decide (0 < S) = false by simp; omega] at c7 c8
            go_enter Try.func12, Try.ntmps12
            go_wp2_with fail
            refine (set_alive _).mono ?_
            rintro e w1 ⟨rfl, b1⟩
            have B1 := hid b1; clear b1
            go_wp2_with fail
            refine (c3.out _ B1.out).mono ?_
            rintro e w2 ⟨rfl, b2⟩
            have B2 := hid (B1.out.trans (b2.mono B1.out.size))
            clear b2
            go_wp2_with fail
            refine (c4.out _ B2.out).mono ?_
            rintro e w3 ⟨rfl, b3⟩
            have B3 := hid (B2.out.trans (b3.mono B2.out.size))
            clear b3
            go_wp2_with fail
            refine (c5.out _ B3.out).mono ?_
            rintro e w4 ⟨r1, rfl, b4, own4⟩
            have B4 := hid (B3.out.trans (b4.mono B3.out.size))
            have Ir14 := hid ((RngsR.of_own own4).mono (Nat.zero_le _) (Nat.le_refl _)); clear own4
            clear b4
            go_wp2_with fail
            refine (c9.out _ B4.out).mono ?_
            rintro e w5 ⟨r2, rfl, b5, own5⟩
            have B5 := hid (B4.out.trans (b5.mono B4.out.size))
            have Ir15 := hid ((Ir14.out.below b5).mono (Nat.le_refl _) b5.size); clear Ir14
            have Ir25 := hid ((RngsR.of_own own5).mono (Nat.zero_le _) (Nat.le_refl _)); clear own5
            clear b5
            go_wp2_with fail
            refine (c6.out _ B5.out).mono ?_
            rintro e w6 ⟨rfl, b6⟩
            have B6 := hid (B5.out.trans (b6.mono B5.out.size))
            have Ir16 := hid ((Ir15.out.below b6).mono (Nat.le_refl _) b6.size); clear Ir15
            have Ir26 := hid ((Ir25.out.below b6).mono (Nat.le_refl _) b6.size); clear Ir25
            clear b6
            go_wp2_with fail
            refine (c7.out _ B6.out).mono ?_
            rintro e w7 ⟨rfl, b7⟩
            have B7 := hid (B6.out.trans (b7.mono B6.out.size))
            have Ir17 := hid ((Ir16.out.below b7).mono (Nat.le_refl _) b7.size); clear Ir16
            have Ir27 := hid ((Ir26.out.below b7).mono (Nat.le_refl _) b7.size); clear Ir26
            clear b7
            have K7 := hid (Blk.at_ w7 36 #[.int .i64 e1, .int .i64 e2] rfl)
            have D7 := hid ((Below.refl _ w7).alloc (Nat.le_refl _) (.cells #[.int .i64 e1, .int .i64 e2] 36))
            have Jr1 := hid ((Ir17.out.below D7.out).mono (Nat.le_refl _) D7.out.size)
            have Jr2 := hid ((Ir27.out.below D7.out).mono (Nat.le_refl _) D7.out.size)
            have E7 := hid (B7.out.trans (D7.out.mono B7.out.size)); clear D7
            go_wp2_with fail
            refine (c8.out _ E7.out).mono ?_
            rintro e w8 ⟨rfl, b8⟩
            have B8 := hid (E7.out.trans (b8.mono E7.out.size))
            have Ir18 := hid ((Jr1.out.below b8).mono (Nat.le_refl _) b8.size); clear Jr1 Ir17
            have Ir28 := hid ((Jr2.out.below b8).mono (Nat.le_refl _) b8.size); clear Jr2 Ir27
            have Ik8 := hid (K7.out.below b8 K7.out.lt); clear K7 b8
            go_wp2_with fail
            refine (W1.out _ _ (by exact Ir18.out)).mono ?_
            rintro e w9 ⟨rfl, b9⟩
            have B9 := hid (B8.out.trans (b9.mono B8.out.size))
            clear Ir18
            have Ir29 := hid ((Ir28.out.below b9).mono (Nat.le_refl _) b9.size); clear Ir28
            have Ik9 := hid (Ik8.out.below b9 Ik8.out.lt); clear Ik8
            clear b9
            go_wp2_with fail
            refine (W2.out _ _ (by rw [if_pos cv]; exact Ir29.out)).mono ?_
            rintro e w10 ⟨rfl, b10⟩
            have B10 := hid (B9.out.trans (b10.mono B9.out.size))
            clear Ir29
            have Ik10 := hid (Ik9.out.below b10 Ik9.out.lt); clear Ik9
            clear b10
            go_wp2_with fail
            refine (c10.out (by omega) _ B10.out).mono ?_
            rintro e w11 ⟨r3, rfl, b11, own11⟩
            have B11 := hid (B10.out.trans (b11.mono B10.out.size))
            have Ik11 := hid (Ik10.out.below b11 Ik10.out.lt); clear Ik10
            have Ir311 := hid ((RngsR.of_own own11).mono (Nat.zero_le _) (Nat.le_refl _)); clear own11
            clear b11
            go_wp2_with fail
            refine (W3.out _ _ (by exact Ir311.out)).mono ?_
            rintro e w12 ⟨rfl, b12⟩
            have B12 := hid (B11.out.trans (b12.mono B11.out.size))
            clear Ir311
            have Ik12 := hid (Ik11.out.below b12 Ik11.out.lt); clear Ik11
            clear b12
            obtain ⟨g1, g2, _, _⟩ := Ik12.out.two
            go_wp2_with fail
            go_ret
            first | exact ⟨rfl, B12.out⟩ | exact ⟨retb_eq (by simp; omega), B12.out⟩ | exact ⟨retb_eq (by simp [cp]), B12.out⟩
        · rw [ch] at f2 c6
          simp only [if_true] at f2
          by_cases cp : 0 < S
          · rw [show decide (0 < S) = true by simp; omega] at c7 c8
            go_enter Try.func12, Try.ntmps12
            go_wp2_with fail
            refine (set_alive _).mono ?_
            rintro e w1 ⟨rfl, b1⟩
            have B1 := hid b1; clear b1
            go_wp2_with fail
            refine (c3.out _ B1.out).mono ?_
            rintro e w2 ⟨rfl, b2⟩
            have B2 := hid (B1.out.trans (b2.mono B1.out.size))
            clear b2
            go_wp2_with fail
            refine (c4.out _ B2.out).mono ?_
            rintro e w3 ⟨rfl, b3⟩
            have B3 := hid (B2.out.trans (b3.mono B2.out.size))
            clear b3
            go_wp2_with fail
            refine (c5.out _ B3.out).mono ?_
            rintro e w4 ⟨r1, rfl, b4, own4⟩
            have B4 := hid (B3.out.trans (b4.mono B3.out.size))
            have Ir14 := hid ((RngsR.of_own own4).mono (Nat.zero_le _) (Nat.le_refl _)); clear own4
            clear b4
            go_wp2_with fail
            refine (c9.out _ B4.out).mono ?_
            rintro e w5 ⟨r2, rfl, b5, own5⟩
            have B5 := hid (B4.out.trans (b5.mono B4.out.size))
            have Ir15 := hid ((Ir14.out.below b5).mono (Nat.le_refl _) b5.size); clear Ir14
            have Ir25 := hid ((RngsR.of_own own5).mono (Nat.zero_le _) (Nat.le_refl _)); clear own5
            clear b5
            go_wp2_with fail
            refine (c6.out _ B5.out).mono ?_
            rintro e w6 ⟨rfl, b6⟩
            have B6 := hid (B5.out.trans (b6.mono B5.out.size))
            have Ir16 := hid ((Ir15.out.below b6).mono (Nat.le_refl _) b6.size); clear Ir15
            have Ir26 := hid ((Ir25.out.below b6).mono (Nat.le_refl _) b6.size); clear Ir25
            clear b6
            go_wp2_with fail
            refine (c7.out _ B6.out).mono ?_
            rintro e w7 ⟨rfl, b7⟩
            have B7 := hid (B6.out.trans (b7.mono B6.out.size))
            have Ir17 := hid ((Ir16.out.below b7).mono (Nat.le_refl _) b7.size); clear Ir16
            have Ir27 := hid ((Ir26.out.below b7).mono (Nat.le_refl _) b7.size); clear Ir26
            clear b7
            have K7 := hid (Blk.at_ w7 36 #[.int .i64 e1, .int .i64 e2] rfl)
            have D7 := hid ((Below.refl _ w7).alloc (Nat.le_refl _) (.cells #[.int .i64 e1, .int .i64 e2] 36))
            have Jr1 := hid ((Ir17.out.below D7.out).mono (Nat.le_refl _) D7.out.size)
            have Jr2 := hid ((Ir27.out.below D7.out).mono (Nat.le_refl _) D7.out.size)
            have E7 := hid (B7.out.trans (D7.out.mono B7.out.size)); clear D7
            go_wp2_with fail
            refine (c8.out _ E7.out).mono ?_
            rintro e w8 ⟨rfl, b8⟩
            have B8 := hid (E7.out.trans (b8.mono E7.out.size))
            have Ir18 := hid ((Jr1.out.below b8).mono (Nat.le_refl _) b8.size); clear Jr1 Ir17
            have Ir28 := hid ((Jr2.out.below b8).mono (Nat.le_refl _) b8.size); clear Jr2 Ir27
            have Ik8 := hid (K7.out.below b8 K7.out.lt); clear K7 b8
            go_wp2_with fail
            refine (W1.out _ _ (by exact Ir18.out)).mono ?_
            rintro e w9 ⟨rfl, b9⟩
            have B9 := hid (B8.out.trans (b9.mono B8.out.size))
            clear Ir18
            have Ir29 := hid ((Ir28.out.below b9).mono (Nat.le_refl _) b9.size); clear Ir28
            have Ik9 := hid (Ik8.out.below b9 Ik8.out.lt); clear Ik8
            clear b9
            go_wp2_with fail
            refine (W2.out _ _ (by rw [if_pos cv]; exact Ir29.out)).mono ?_
            rintro e w10 ⟨rfl, b10⟩
            have B10 := hid (B9.out.trans (b10.mono B9.out.size))
            clear Ir29
            have Ik10 := hid (Ik9.out.below b10 Ik9.out.lt); clear Ik9
            clear b10
            go_wp2_with fail
            refine (c10.out (by omega) _ B10.out).mono ?_
            rintro e w11 ⟨r3, rfl, b11, own11⟩
            have B11 := hid (B10.out.trans (b11.mono B10.out.size))
            have Ik11 := hid (Ik10.out.below b11 Ik10.out.lt); clear Ik10
            have Ir311 := hid ((RngsR.of_own own11).mono (Nat.zero_le _) (Nat.le_refl _)); clear own11
            clear b11
            go_wp2_with fail
            refine (W3.out _ _ (by exact Ir311.out)).mono ?_
            rintro e w12 ⟨rfl, b12⟩
            have B12 := hid (B11.out.trans (b12.mono B11.out.size))
            clear Ir311
            have Ik12 := hid (Ik11.out.below b12 Ik11.out.lt); clear Ik11
            clear b12
            obtain ⟨g1, g2, _, _⟩ := Ik12.out.two
            go_wp2_with fail
            go_ret
            first | exact ⟨rfl, B12.out⟩ | exact ⟨retb_eq (by simp; omega), B12.out⟩ | exact ⟨retb_eq (by simp [cp]), B12.out⟩
          · rw [show decide (0 < S) = false by simp; omega] at c7 c8
            go_enter Try.func12, Try.ntmps12
            go_wp2_with fail
            refine (set_alive _).mono ?_
            rintro e w1 ⟨rfl, b1⟩
            have B1 := hid b1; clear b1
            go_wp2_with fail
            refine (c3.out _ B1.out).mono ?_
            rintro e w2 ⟨rfl, b2⟩
            have B2 := hid (B1.out.trans (b2.mono B1.out.size))
            clear b2
            go_wp2_with fail
            refine (c4.out _ B2.out).mono ?_
            rintro e w3 ⟨rfl, b3⟩
            have B3 := hid (B2.out.trans (b3.mono B2.out.size))
            clear b3
            go_wp2_with fail
            refine (c5.out _ B3.out).mono ?_
            rintro e w4 ⟨r1, rfl, b4, own4⟩
            have B4 := hid (B3.out.trans (b4.mono B3.out.size))
            have Ir14 := hid ((RngsR.of_own own4).mono (Nat.zero_le _) (Nat.le_refl _)); clear own4
            clear b4
            go_wp2_with fail
            refine (c9.out _ B4.out).mono ?_
            rintro e w5 ⟨r2, rfl, b5, own5⟩
            have B5 := hid (B4.out.trans (b5.mono B4.out.size))
            have Ir15 := hid ((Ir14.out.below b5).mono (Nat.le_refl _) b5.size); clear Ir14
            have Ir25 := hid ((RngsR.of_own own5).mono (Nat.zero_le _) (Nat.le_refl _)); clear own5
            clear b5
            go_wp2_with fail
            refine (c6.out _ B5.out).mono ?_
            rintro e w6 ⟨rfl, b6⟩
            have B6 := hid (B5.out.trans (b6.mono B5.out.size))
            have Ir16 := hid ((Ir15.out.below b6).mono (Nat.le_refl _) b6.size); clear Ir15
            have Ir26 := hid ((Ir25.out.below b6).mono (Nat.le_refl _) b6.size); clear Ir25
            clear b6
            go_wp2_with fail
            refine (c7.out _ B6.out).mono ?_
            rintro e w7 ⟨rfl, b7⟩
            have B7 := hid (B6.out.trans (b7.mono B6.out.size))
            have Ir17 := hid ((Ir16.out.below b7).mono (Nat.le_refl _) b7.size); clear Ir16
            have Ir27 := hid ((Ir26.out.below b7).mono (Nat.le_refl _) b7.size); clear Ir26
            clear b7
            have K7 := hid (Blk.at_ w7 36 #[.int .i64 e1, .int .i64 e2] rfl)
            have D7 := hid ((Below.refl _ w7).alloc (Nat.le_refl _) (.cells #[.int .i64 e1, .int .i64 e2] 36))
            have Jr1 := hid ((Ir17.out.below D7.out).mono (Nat.le_refl _) D7.out.size)
            have Jr2 := hid ((Ir27.out.below D7.out).mono (Nat.le_refl _) D7.out.size)
            have E7 := hid (B7.out.trans (D7.out.mono B7.out.size)); clear D7
            go_wp2_with fail
            refine (c8.out _ E7.out).mono ?_
            rintro e w8 ⟨rfl, b8⟩
            have B8 := hid (E7.out.trans (b8.mono E7.out.size))
            have Ir18 := hid ((Jr1.out.below b8).mono (Nat.le_refl _) b8.size); clear Jr1 Ir17
            have Ir28 := hid ((Jr2.out.below b8).mono (Nat.le_refl _) b8.size); clear Jr2 Ir27
            have Ik8 := hid (K7.out.below b8 K7.out.lt); clear K7 b8
            go_wp2_with fail
            refine (W1.out _ _ (by exact Ir18.out)).mono ?_
            rintro e w9 ⟨rfl, b9⟩
            have B9 := hid (B8.out.trans (b9.mono B8.out.size))
            clear Ir18
            have Ir29 := hid ((Ir28.out.below b9).mono (Nat.le_refl _) b9.size); clear Ir28
            have Ik9 := hid (Ik8.out.below b9 Ik8.out.lt); clear Ik8
            clear b9
            go_wp2_with fail
            refine (W2.out _ _ (by rw [if_pos cv]; exact Ir29.out)).mono ?_
            rintro e w10 ⟨rfl, b10⟩
            have B10 := hid (B9.out.trans (b10.mono B9.out.size))
            clear Ir29
            have Ik10 := hid (Ik9.out.below b10 Ik9.out.lt); clear Ik9
            clear b10
            go_wp2_with fail
            refine (c10.out (by omega) _ B10.out).mono ?_
            rintro e w11 ⟨r3, rfl, b11, own11⟩
            have B11 := hid (B10.out.trans (b11.mono B10.out.size))
            have Ik11 := hid (Ik10.out.below b11 Ik10.out.lt); clear Ik10
            have Ir311 := hid ((RngsR.of_own own11).mono (Nat.zero_le _) (Nat.le_refl _)); clear own11
            clear b11
            go_wp2_with fail
            refine (W3.out _ _ (by exact Ir311.out)).mono ?_
            rintro e w12 ⟨rfl, b12⟩
            have B12 := hid (B11.out.trans (b12.mono B11.out.size))
            clear Ir311
            have Ik12 := hid (Ik11.out.below b12 Ik11.out.lt); clear Ik11
            clear b12
            obtain ⟨g1, g2, _, _⟩ := Ik12.out.two
            go_wp2_with fail
            go_ret
            first | exact ⟨rfl, B12.out⟩ | exact ⟨retb_eq (by simp; omega), B12.out⟩ | exact ⟨retb_eq (by simp [cp]), B12.out⟩
      · cases ch : hasB l v
        · rw [ch] at f2 c6
          simp only [Bool.false_eq_true, if_false] at f2
          by_cases cp : 0 < S
          · rw [show decide (0 < S) = true by simp; omega] at c7 c8
            go_enter Try.func12, Try.ntmps12
            go_wp2_with fail
            refine (set_alive _).mono ?_
            rintro e w1 ⟨rfl, b1⟩
            have B1 := hid b1; clear b1
            go_wp2_with fail
            refine (c3.out _ B1.out).mono ?_
            rintro e w2 ⟨rfl, b2⟩
            have B2 := hid (B1.out.trans (b2.mono B1.out.size))
            clear b2
            go_wp2_with fail
            refine (c4.out _ B2.out).mono ?_
            rintro e w3 ⟨rfl, b3⟩
            have B3 := hid (B2.out.trans (b3.mono B2.out.size))
            clear b3
            go_wp2_with fail
            refine (c5.out _ B3.out).mono ?_
            rintro e w4 ⟨r1, rfl, b4, own4⟩
            have B4 := hid (B3.out.trans (b4.mono B3.out.size))
            have Ir14 := hid ((RngsR.of_own own4).mono (Nat.zero_le _) (Nat.le_refl _)); clear own4
            clear b4
            go_wp2_with fail
            refine (c6.out _ B4.out).mono ?_
            rintro e w5 ⟨rfl, b5⟩
            have B5 := hid (B4.out.trans (b5.mono B4.out.size))
            have Ir15 := hid ((Ir14.out.below b5).mono (Nat.le_refl _) b5.size); clear Ir14
            clear b5
            go_wp2_with fail
            refine (c7.out _ B5.out).mono ?_
            rintro e w6 ⟨rfl, b6⟩
            have B6 := hid (B5.out.trans (b6.mono B5.out.size))
            have Ir16 := hid ((Ir15.out.below b6).mono (Nat.le_refl _) b6.size); clear Ir15
            clear b6
            have K6 := hid (Blk.at_ w6 36 #[.int .i64 e1, .int .i64 e2] rfl)
            have D6 := hid ((Below.refl _ w6).alloc (Nat.le_refl _) (.cells #[.int .i64 e1, .int .i64 e2] 36))
            have Jr1 := hid ((Ir16.out.below D6.out).mono (Nat.le_refl _) D6.out.size)
            have E6 := hid (B6.out.trans (D6.out.mono B6.out.size)); clear D6
            go_wp2_with fail
            refine (c8.out _ E6.out).mono ?_
            rintro e w7 ⟨rfl, b7⟩
            have B7 := hid (E6.out.trans (b7.mono E6.out.size))
            have Ir17 := hid ((Jr1.out.below b7).mono (Nat.le_refl _) b7.size); clear Jr1 Ir16
            have Ik7 := hid (K6.out.below b7 K6.out.lt); clear K6 b7
            go_wp2_with fail
            refine (W1.out _ _ (by exact Ir17.out)).mono ?_
            rintro e w8 ⟨rfl, b8⟩
            have B8 := hid (B7.out.trans (b8.mono B7.out.size))
            clear Ir17
            have Ik8 := hid (Ik7.out.below b8 Ik7.out.lt); clear Ik7
            clear b8
            go_wp2_with fail
            refine (W2.out _ _ (by rw [if_neg (by omega)]; exact RngsR.nil _ _ _)).mono ?_
            rintro e w9 ⟨rfl, b9⟩
            have B9 := hid (B8.out.trans (b9.mono B8.out.size))
            have Ik9 := hid (Ik8.out.below b9 Ik8.out.lt); clear Ik8
            clear b9
            go_wp2_with fail
            refine (c10.out (by omega) _ B9.out).mono ?_
            rintro e w10 ⟨r3, rfl, b10, own10⟩
            have B10 := hid (B9.out.trans (b10.mono B9.out.size))
            have Ik10 := hid (Ik9.out.below b10 Ik9.out.lt); clear Ik9
            have Ir310 := hid ((RngsR.of_own own10).mono (Nat.zero_le _) (Nat.le_refl _)); clear own10
            clear b10
            go_wp2_with fail
            refine (W3.out _ _ (by exact Ir310.out)).mono ?_
            rintro e w11 ⟨rfl, b11⟩
            have B11 := hid (B10.out.trans (b11.mono B10.out.size))
            clear Ir310
            have Ik11 := hid (Ik10.out.below b11 Ik10.out.lt); clear Ik10
            clear b11
            obtain ⟨g1, g2, _, _⟩ := Ik11.out.two
            go_wp2_with fail
            go_ret
            first | exact ⟨rfl, B11.out⟩ | exact ⟨retb_eq (by simp; omega), B11.out⟩ | exact ⟨retb_eq (by simp [cp]), B11.out⟩
          · rw [show decide (0 < S) = false by simp; omega] at c7 c8
            go_enter Try.func12, Try.ntmps12
            go_wp2_with fail
            refine (set_alive _).mono ?_
            rintro e w1 ⟨rfl, b1⟩
            have B1 := hid b1; clear b1
            go_wp2_with fail
            refine (c3.out _ B1.out).mono ?_
            rintro e w2 ⟨rfl, b2⟩
            have B2 := hid (B1.out.trans (b2.mono B1.out.size))
            clear b2
            go_wp2_with fail
            refine (c4.out _ B2.out).mono ?_
            rintro e w3 ⟨rfl, b3⟩
            have B3 := hid (B2.out.trans (b3.mono B2.out.size))
            clear b3
            go_wp2_with fail
            refine (c5.out _ B3.out).mono ?_
            rintro e w4 ⟨r1, rfl, b4, own4⟩
            have B4 := hid (B3.out.trans (b4.mono B3.out.size))
            have Ir14 := hid ((RngsR.of_own own4).mono (Nat.zero_le _) (Nat.le_refl _)); clear own4
            clear b4
            go_wp2_with fail
            refine (c6.out _ B4.out).mono ?_
            rintro e w5 ⟨rfl, b5⟩
            have B5 := hid (B4.out.trans (b5.mono B4.out.size))
            have Ir15 := hid ((Ir14.out.below b5).mono (Nat.le_refl _) b5.size); clear Ir14
            clear b5
            go_wp2_with fail
            refine (c7.out _ B5.out).mono ?_
            rintro e w6 ⟨rfl, b6⟩
            have B6 := hid (B5.out.trans (b6.mono B5.out.size))
            have Ir16 := hid ((Ir15.out.below b6).mono (Nat.le_refl _) b6.size); clear Ir15
            clear b6
            have K6 := hid (Blk.at_ w6 36 #[.int .i64 e1, .int .i64 e2] rfl)
            have D6 := hid ((Below.refl _ w6).alloc (Nat.le_refl _) (.cells #[.int .i64 e1, .int .i64 e2] 36))
            have Jr1 := hid ((Ir16.out.below D6.out).mono (Nat.le_refl _) D6.out.size)
            have E6 := hid (B6.out.trans (D6.out.mono B6.out.size)); clear D6
            go_wp2_with fail
            refine (c8.out _ E6.out).mono ?_
            rintro e w7 ⟨rfl, b7⟩
            have B7 := hid (E6.out.trans (b7.mono E6.out.size))
            have Ir17 := hid ((Jr1.out.below b7).mono (Nat.le_refl _) b7.size); clear Jr1 Ir16
            have Ik7 := hid (K6.out.below b7 K6.out.lt); clear K6 b7
            go_wp2_with fail
            refine (W1.out _ _ (by exact Ir17.out)).mono ?_
            rintro e w8 ⟨rfl, b8⟩
            have B8 := hid (B7.out.trans (b8.mono B7.out.size))
            clear Ir17
            have Ik8 := hid (Ik7.out.below b8 Ik7.out.lt); clear Ik7
            clear b8
            go_wp2_with fail
            refine (W2.out _ _ (by rw [if_neg (by omega)]; exact RngsR.nil _ _ _)).mono ?_
            rintro e w9 ⟨rfl, b9⟩
            have B9 := hid (B8.out.trans (b9.mono B8.out.size))
            have Ik9 := hid (Ik8.out.below b9 Ik8.out.lt); clear Ik8
            clear b9
            go_wp2_with fail
            refine (c10.out (by omega) _ B9.out).mono ?_
            rintro e w10 ⟨r3, rfl, b10, own10⟩
            have B10 := hid (B9.out.trans (b10.mono B9.out.size))
            have Ik10 := hid (Ik9.out.below b10 Ik9.out.lt); clear Ik9
            have Ir310 := hid ((RngsR.of_own own10).mono (Nat.zero_le _) (Nat.le_refl _)); clear own10
            clear b10
            go_wp2_with fail
            refine (W3.out _ _ (by exact Ir310.out)).mono ?_
            rintro e w11 ⟨rfl, b11⟩
            have B11 := hid (B10.out.trans (b11.mono B10.out.size))
            clear Ir310
            have Ik11 := hid (Ik10.out.below b11 Ik10.out.lt); clear Ik10
            clear b11
            obtain ⟨g1, g2, _, _⟩ := Ik11.out.two
            go_wp2_with fail
            go_ret
            first | exact ⟨rfl, B11.out⟩ | exact ⟨retb_eq (by simp; omega), B11.out⟩ | exact ⟨retb_eq (by simp [cp]), B11.out⟩
        · rw [ch] at f2 c6
          simp only [if_true] at f2
          by_cases cp : 0 < S
          · rw [show decide (0 < S) = true by simp; omega] at c7 c8
            go_enter Try.func12, Try.ntmps12
            go_wp2_with fail
            refine (set_alive _).mono ?_
            rintro e w1 ⟨rfl, b1⟩
            have B1 := hid b1; clear b1
            go_wp2_with fail
            refine (c3.out _ B1.out).mono ?_
            rintro e w2 ⟨rfl, b2⟩
            have B2 := hid (B1.out.trans (b2.mono B1.out.size))
            clear b2
            go_wp2_with fail
            refine (c4.out _ B2.out).mono ?_
            rintro e w3 ⟨rfl, b3⟩
            have B3 := hid (B2.out.trans (b3.mono B2.out.size))
            clear b3
            go_wp2_with fail
            refine (c5.out _ B3.out).mono ?_
            rintro e w4 ⟨r1, rfl, b4, own4⟩
            have B4 := hid (B3.out.trans (b4.mono B3.out.size))
            have Ir14 := hid ((RngsR.of_own own4).mono (Nat.zero_le _) (Nat.le_refl _)); clear own4
            clear b4
            go_wp2_with fail
            refine (c6.out _ B4.out).mono ?_
            rintro e w5 ⟨rfl, b5⟩
            have B5 := hid (B4.out.trans (b5.mono B4.out.size))
            have Ir15 := hid ((Ir14.out.below b5).mono (Nat.le_refl _) b5.size); clear Ir14
            clear b5
            go_wp2_with fail
            refine (c7.out _ B5.out).mono ?_
            rintro e w6 ⟨rfl, b6⟩
            have B6 := hid (B5.out.trans (b6.mono B5.out.size))
            have Ir16 := hid ((Ir15.out.below b6).mono (Nat.le_refl _) b6.size); clear Ir15
            clear b6
            have K6 := hid (Blk.at_ w6 36 #[.int .i64 e1, .int .i64 e2] rfl)
            have D6 := hid ((Below.refl _ w6).alloc (Nat.le_refl _) (.cells #[.int .i64 e1, .int .i64 e2] 36))
            have Jr1 := hid ((Ir16.out.below D6.out).mono (Nat.le_refl _) D6.out.size)
            have E6 := hid (B6.out.trans (D6.out.mono B6.out.size)); clear D6
            go_wp2_with fail
            refine (c8.out _ E6.out).mono ?_
            rintro e w7 ⟨rfl, b7⟩
            have B7 := hid (E6.out.trans (b7.mono E6.out.size))
            have Ir17 := hid ((Jr1.out.below b7).mono (Nat.le_refl _) b7.size); clear Jr1 Ir16
            have Ik7 := hid (K6.out.below b7 K6.out.lt); clear K6 b7
            go_wp2_with fail
            refine (W1.out _ _ (by exact Ir17.out)).mono ?_
            rintro e w8 ⟨rfl, b8⟩
            have B8 := hid (B7.out.trans (b8.mono B7.out.size))
            clear Ir17
            have Ik8 := hid (Ik7.out.below b8 Ik7.out.lt); clear Ik7
            clear b8
            go_wp2_with fail
            refine (W2.out _ _ (by rw [if_neg (by omega)]; exact RngsR.nil _ _ _)).mono ?_
            rintro e w9 ⟨rfl, b9⟩
            have B9 := hid (B8.out.trans (b9.mono B8.out.size))
            have Ik9 := hid (Ik8.out.below b9 Ik8.out.lt); clear Ik8
            clear b9
            go_wp2_with fail
            refine (c10.out (by omega) _ B9.out).mono ?_
            rintro e w10 ⟨r3, rfl, b10, own10⟩
            have B10 := hid (B9.out.trans (b10.mono B9.out.size))
            have Ik10 := hid (Ik9.out.below b10 Ik9.out.lt); clear Ik9
            have Ir310 := hid ((RngsR.of_own own10).mono (Nat.zero_le _) (Nat.le_refl _)); clear own10
            clear b10
            go_wp2_with fail
            refine (W3.out _ _ (by exact Ir310.out)).mono ?_
            rintro e w11 ⟨rfl, b11⟩
            have B11 := hid (B10.out.trans (b11.mono B10.out.size))
            clear Ir310
            have Ik11 := hid (Ik10.out.below b11 Ik10.out.lt); clear Ik10
            clear b11
            obtain ⟨g1, g2, _, _⟩ := Ik11.out.two
            go_wp2_with fail
            go_ret
            first | exact ⟨rfl, B11.out⟩ | exact ⟨retb_eq (by simp; omega), B11.out⟩ | exact ⟨retb_eq (by simp [cp]), B11.out⟩
          · rw [show decide (0 < S) = false by simp; omega] at c7 c8
            go_enter Try.func12, Try.ntmps12
            go_wp2_with fail
            refine (set_alive _).mono ?_
            rintro e w1 ⟨rfl, b1⟩
            have B1 := hid b1; clear b1
            go_wp2_with fail
            refine (c3.out _ B1.out).mono ?_
            rintro e w2 ⟨rfl, b2⟩
            have B2 := hid (B1.out.trans (b2.mono B1.out.size))
            clear b2
            go_wp2_with fail
            refine (c4.out _ B2.out).mono ?_
            rintro e w3 ⟨rfl, b3⟩
            have B3 := hid (B2.out.trans (b3.mono B2.out.size))
            clear b3
            go_wp2_with fail
            refine (c5.out _ B3.out).mono ?_
            rintro e w4 ⟨r1, rfl, b4, own4⟩
            have B4 := hid (B3.out.trans (b4.mono B3.out.size))
            have Ir14 := hid ((RngsR.of_own own4).mono (Nat.zero_le _) (Nat.le_refl _)); clear own4
            clear b4
            go_wp2_with fail
            refine (c6.out _ B4.out).mono ?_
            rintro e w5 ⟨rfl, b5⟩
            have B5 := hid (B4.out.trans (b5.mono B4.out.size))
            have Ir15 := hid ((Ir14.out.below b5).mono (Nat.le_refl _) b5.size); clear Ir14
            clear b5
            go_wp2_with fail
            refine (c7.out _ B5.out).mono ?_
            rintro e w6 ⟨rfl, b6⟩
            have B6 := hid (B5.out.trans (b6.mono B5.out.size))
            have Ir16 := hid ((Ir15.out.below b6).mono (Nat.le_refl _) b6.size); clear Ir15
            clear b6
            have K6 := hid (Blk.at_ w6 36 #[.int .i64 e1, .int .i64 e2] rfl)
            have D6 := hid ((Below.refl _ w6).alloc (Nat.le_refl _) (.cells #[.int .i64 e1, .int .i64 e2] 36))
            have Jr1 := hid ((Ir16.out.below D6.out).mono (Nat.le_refl _) D6.out.size)
            have E6 := hid (B6.out.trans (D6.out.mono B6.out.size)); clear D6
            go_wp2_with fail
            refine (c8.out _ E6.out).mono ?_
            rintro e w7 ⟨rfl, b7⟩
            have B7 := hid (E6.out.trans (b7.mono E6.out.size))
            have Ir17 := hid ((Jr1.out.below b7).mono (Nat.le_refl _) b7.size); clear Jr1 Ir16
            have Ik7 := hid (K6.out.below b7 K6.out.lt); clear K6 b7
            go_wp2_with fail
            refine (W1.out _ _ (by exact Ir17.out)).mono ?_
            rintro e w8 ⟨rfl, b8⟩
            have B8 := hid (B7.out.trans (b8.mono B7.out.size))
            clear Ir17
            have Ik8 := hid (Ik7.out.below b8 Ik7.out.lt); clear Ik7
            clear b8
            go_wp2_with fail
            refine (W2.out _ _ (by rw [if_neg (by omega)]; exact RngsR.nil _ _ _)).mono ?_
            rintro e w9 ⟨rfl, b9⟩
            have B9 := hid (B8.out.trans (b9.mono B8.out.size))
            have Ik9 := hid (Ik8.out.below b9 Ik8.out.lt); clear Ik8
            clear b9
            go_wp2_with fail
            refine (c10.out (by omega) _ B9.out).mono ?_
            rintro e w10 ⟨r3, rfl, b10, own10⟩
            have B10 := hid (B9.out.trans (b10.mono B9.out.size))
            have Ik10 := hid (Ik9.out.below b10 Ik9.out.lt); clear Ik9
            have Ir310 := hid ((RngsR.of_own own10).mono (Nat.zero_le _) (Nat.le_refl _)); clear own10
            clear b10
            go_wp2_with fail
            refine (W3.out _ _ (by exact Ir310.out)).mono ?_
            rintro e w11 ⟨rfl, b11⟩
            have B11 := hid (B10.out.trans (b11.mono B10.out.size))
            clear Ir310
            have Ik11 := hid (Ik10.out.below b11 Ik10.out.lt); clear Ik10
            clear b11
            obtain ⟨g1, g2, _, _⟩ := Ik11.out.two
            go_wp2_with fail
            go_ret
            first | exact ⟨rfl, B11.out⟩ | exact ⟨retb_eq (by simp; omega), B11.out⟩ | exact ⟨retb_eq (by simp [cp]), B11.out⟩
end Go.Proofs.Ytjdlfmcnjpiaoaa
