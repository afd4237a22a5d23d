/- The laws of chapter 9: what each returns. -/
import Derived.Test.YtjdlfmcnjpiaoaaSetAlive
namespace Go.Proofs.Ytjdlfmcnjpiaoaa
open Go.RowKit
set_option linter.unusedVariables false

set_option maxRecDepth 100000 in
set_option maxHeartbeats 1000000 in
theorem law_asks (u : Value) (l : List Rg) (v : Int) (w : World) (hx : RngsR w 0 w.heap.size u l) :
    Calls Try.prog 5 #[u, .int .i64 v] w (RetB (.bool true) w) := by
  have X := hid (fun wx (b : Below w.heap.size w wx) => (hx.below b).mono (Nat.le_refl _) b.size)
  obtain ⟨A, c, rfl, h1, h2, _⟩ := hx.open_
  clear hx h1 h2
  have c1 := hid (fun wx b => set_ends _ l wx (X.out wx b))
  have c2 := hid (fun wx b => rset_ends _ l wx (X.out wx b))
  have c3 := hid (fun wx b => set_next _ l v wx (X.out wx b))
  have c4 := hid (fun wx b => retq_b (rset_next _ l v wx (X.out wx b)))
  have c5 := hid (fun wx b => set_has _ l v wx (X.out wx b))
  have c6 := hid (fun wx b => retq_b (rset_has _ l v wx (X.out wx b)))
  have c7 := hid (fun wx b => set_size _ l wx (X.out wx b))
  have c8 := hid (fun wx b => retq_b (rset_size _ l wx (X.out wx b)))
  rw [← has_eq] at c6
  generalize (endsV l).1 = e1 at c1 c2
  generalize (endsV l).2 = e2 at c1 c2
  generalize endsB l = e3 at c1 c2
  generalize nextV l v = e4 at c3 c4
  generalize nextB l v = e5 at c3 c4
  generalize hasB l v = e6 at c5 c6
  generalize sizeV l = e7 at c7 c8
  clear X
  go_enter Try.func5, Try.ntmps5
  go_wp2_with fail
  refine (set_alive _).mono ?_
  rintro e w1 ⟨rfl, b1⟩
  have B1 := hid b1; clear b1
  by_cases hl : 300 < l.length
  · go_wp2_with fail
    go_ret
    exact ⟨rfl, B1.out⟩
  · go_wp2_with fail
    refine (c1.out _ B1.out).mono ?_
    rintro e w2 ⟨rfl, b2⟩
    have B2 := hid (B1.out.trans (b2.mono B1.out.size)); clear b2 c1
    have K2 := hid (Blk.at_ w2 36 #[.int .i64 e1, .int .i64 e2] rfl)
    have D2 := hid ((Below.refl _ w2).alloc (Nat.le_refl _) (.cells #[.int .i64 e1, .int .i64 e2] 36))
    have E2 := hid (B2.out.trans (D2.out.mono B2.out.size))
    go_wp2_with fail
    refine (c2.out _ E2.out).mono ?_
    rintro e w3 ⟨rfl, b3⟩
    have B3 := hid (E2.out.trans (b3.mono E2.out.size))
    have K3 := hid (K2.out.below b3 K2.out.lt)
    have J2 := hid (show w2.heap.size < w3.heap.size from K3.out.lt)
    clear b3 c2 K2 D2 E2 B2
    have M3 := hid (Blk.at_ w3 36 #[.int .i64 e1, .int .i64 e2] rfl)
    have D3 := hid ((Below.refl _ w3).alloc (Nat.le_refl _) (.cells #[.int .i64 e1, .int .i64 e2] 36))
    have E3 := hid (B3.out.trans (D3.out.mono B3.out.size))
    have N3 := hid (K3.out.below D3.out J2.out)
    go_wp2_with fail
    refine (c3.out _ E3.out).mono ?_
    rintro e w4 ⟨rfl, b4⟩
    have B4 := hid (E3.out.trans (b4.mono E3.out.size))
    have K4 := hid (N3.out.below b4 N3.out.lt)
    have M4 := hid (M3.out.below b4 M3.out.lt)
    clear b4 c3 K3 M3 D3 E3 N3 B3 J2
    go_wp2_with fail
    refine (c4.out _ B4.out).mono ?_
    rintro e w5 ⟨rfl, b5⟩
    have B5 := hid (B4.out.trans (b5.mono B4.out.size))
    have K5 := hid (K4.out.below b5 K4.out.lt)
    have M5 := hid (M4.out.below b5 M4.out.lt)
    clear b5 c4 K4 M4 B4
    go_wp2_with fail
    refine (c5.out _ B5.out).mono ?_
    rintro e w6 ⟨rfl, b6⟩
    have B6 := hid (B5.out.trans (b6.mono B5.out.size))
    have K6 := hid (K5.out.below b6 K5.out.lt)
    have M6 := hid (M5.out.below b6 M5.out.lt)
    clear b6 c5 K5 M5 B5
    go_wp2_with fail
    refine (c6.out _ B6.out).mono ?_
    rintro e w7 ⟨rfl, b7⟩
    have B7 := hid (B6.out.trans (b7.mono B6.out.size))
    have K7 := hid (K6.out.below b7 K6.out.lt)
    have M7 := hid (M6.out.below b7 M6.out.lt)
    clear b7 c6 K6 M6 B6
    go_wp2_with fail
    refine (c7.out _ B7.out).mono ?_
    rintro e w8 ⟨rfl, b8⟩
    have B8 := hid (B7.out.trans (b8.mono B7.out.size))
    have K8 := hid (K7.out.below b8 K7.out.lt)
    have M8 := hid (M7.out.below b8 M7.out.lt)
    clear b8 c7 K7 M7 B7
    go_wp2_with fail
    refine (c8.out _ B8.out).mono ?_
    rintro e w9 ⟨rfl, b9⟩
    have B9 := hid (B8.out.trans (b9.mono B8.out.size))
    obtain ⟨g1, g2, _, _⟩ := (K8.out.below b9 K8.out.lt).two
    obtain ⟨g3, g4, _, _⟩ := (M8.out.below b9 M8.out.lt).two
    clear b9 c8 K8 M8 B8
    go_wp2_with fail
    go_ret
    exact ⟨rfl, B9.out⟩
end Go.Proofs.Ytjdlfmcnjpiaoaa
