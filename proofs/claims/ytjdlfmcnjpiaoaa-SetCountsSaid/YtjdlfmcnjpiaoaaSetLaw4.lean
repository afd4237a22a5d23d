/- The laws of chapter 9, continued: SetCounts. -/
import Derived.Test.YtjdlfmcnjpiaoaaSetAlive
import Derived.Test.YtjdlfmcnjpiaoaaPlCount
namespace Go.Proofs.Ytjdlfmcnjpiaoaa
open Go.RowKit
set_option linter.unusedVariables false

set_option maxRecDepth 100000 in
set_option maxHeartbeats 1000000 in
theorem law_counts (u : Value) (l : List Rg) (w : World) (hx : RngsR w 0 w.heap.size u l) :
    Calls Try.prog 4 #[u] w (RetB (.bool true) w) := by
  have X := hid (fun wx (b : Below w.heap.size w wx) => (hx.below b).mono (Nat.le_refl _) b.size)
  obtain ⟨A, c, rfl, h1, h2, -⟩ := hx.open_
  clear hx h1 h2
  have c3 := hid (fun wx b => set_right _ l wx (X.out wx b))
  have c4 := hid (fun wx b => set_size _ l wx (X.out wx b))
  by_cases hl : 300 < l.length
  · clear X c3 c4
    go_enter Try.func4, Try.ntmps4
    go_wp2_with fail
    refine (set_alive _).mono ?_
    rintro e w1 ⟨rfl, b1⟩
    go_wp2_with fail
    go_ret
    exact ⟨rfl, b1⟩
  · cases hr : rightB l
    · rw [hr] at c3
      clear X c4
      go_enter Try.func4, Try.ntmps4
      go_wp2_with fail
      refine (set_alive _).mono ?_
      rintro e w1 ⟨rfl, b1⟩
      have B1 := hid b1; clear b1
      go_wp2_with fail
      refine (c3.out _ B1.out).mono ?_
      rintro e w2 ⟨rfl, b2⟩
      have B2 := hid (B1.out.trans (b2.mono B1.out.size)); clear b2
      go_wp2_with fail
      go_ret
      exact ⟨rfl, B2.out⟩
    · rw [hr] at c3
      have F1 := hid (fun v h => next_some (l := l) (v := v) hr h)
      have F2 := hid (fun v h => next_none (l := l) (v := v) hr h)
      have F3 := hid (fun v h => has_step (l := l) (v := v) h)
      have F0 := hid (below_low hr)
      clear hr
      obtain ⟨S, hS⟩ : ∃ S, S = sizeV l := ⟨_, rfl⟩
      rw [← hS] at c4 F2 F3
      clear hS
      by_cases hS : 2000 < S
      · clear X F1 F2 F3 F0
        go_enter Try.func4, Try.ntmps4
        go_wp2_with fail
        refine (set_alive _).mono ?_
        rintro e w1 ⟨rfl, b1⟩
        have B1 := hid b1; clear b1
        go_wp2_with fail
        refine (c3.out _ B1.out).mono ?_
        rintro e w2 ⟨rfl, b2⟩
        have B2 := hid (B1.out.trans (b2.mono B1.out.size)); clear b2
        go_wp2_with fail
        refine (c4.out _ B2.out).mono ?_
        rintro e w3 ⟨rfl, b3⟩
        have B3 := hid (B2.out.trans (b3.mono B2.out.size)); clear b3
        go_wp2_with fail
        go_ret
        exact ⟨rfl, B3.out⟩
      · go_enter Try.func4, Try.ntmps4
        go_wp2_with fail
        refine (set_alive _).mono ?_
        rintro e w1 ⟨rfl, b1⟩
        have B1 := hid b1; clear b1
        go_wp2_with fail
        refine (c3.out _ B1.out).mono ?_
        rintro e w2 ⟨rfl, b2⟩
        have B2 := hid (B1.out.trans (b2.mono B1.out.size)); clear b2
        go_wp2_with fail
        refine (c4.out _ B2.out).mono ?_
        rintro e w3 ⟨rfl, b3⟩
        have B3 := hid (B2.out.trans (b3.mono B2.out.size)); clear b3
        go_wp2_with fail
        refine (set_next _ l (-1048576) _ (X.out _ B3.out)).mono ?_
        rintro e w4 ⟨rfl, b4⟩
        have B4 := hid (B3.out.trans (b4.mono B3.out.size)); clear b4
        have G0 := hid (show (nextB l (-1048576) = true → hasB l (nextV l (-1048576)) = true ∧ belowS l (nextV l (-1048576)) = 0) ∧ (nextB l (-1048576) = false → 0 = S) from
          ⟨fun h => ⟨(F1.out _ h).2.1, (F1.out _ h).2.2.trans F0.out⟩, fun h => F0.out.symm.trans (F2.out _ h)⟩)
        generalize nextB l (-1048576) = o0 at G0 ⊢
        generalize nextV l (-1048576) = v0 at G0 ⊢
        go_wp2_with fail
        go_loopw [3, 4, 5] (fun vn vv vo wr => ∃ (n v : Int) (o : Bool), vn = .int .i64 n ∧ vv = .int .i64 v ∧ vo = .bool o ∧ 0 ≤ n ∧ n ≤ 2001 ∧ Hid (o = true → hasB l v = true ∧ belowS l v = n) ∧ Hid (o = false → n = S) ∧ Hid (Below w.heap.size w wr)) (fun vn vv vo wr => ((S - intOf vn).toNat))
        case atStart => exact ⟨0, v0, o0, rfl, rfl, rfl, by omega, by omega, hid G0.out.1, hid G0.out.2, B4⟩
        case round =>
          obtain ⟨n, v, o, rfl, rfl, rfl, hn0, hn1, ht, hf, hB⟩ := hrel
          cases o
          · have e := hf.out rfl
            clear hf ht
            go_wp2_with fail
            refine (c4.out _ hB.out).mono ?_
            rintro e w5 ⟨rfl, b5⟩
            have B5 := hid (hB.out.trans (b5.mono hB.out.size)); clear b5
            go_wp2_with fail
            go_ret
            exact ⟨rfl, B5.out⟩
          · obtain ⟨t1, t2⟩ := ht.out rfl
            obtain ⟨s1, s2, s3, s4, s5⟩ := F3.out v t1
            rw [t2] at s1 s2 s3
            clear hf ht
            have q1 := hid (set_has (.slice A l.length c) l v wr (X.out _ hB.out))
            rw [t1] at q1
            cases h5 : nextB l (v + 1)
            · have E5 := hid ((F2.out _ h5).symm.trans s1)
              have q2 := hid (fun wx b => set_next (.slice A l.length c) l (v + 1) wx (X.out wx b))
              rw [h5] at q2
              generalize nextV l (v + 1) = v' at q2
              go_wp2_with fail
              refine q1.out.mono ?_
              rintro e w5 ⟨rfl, b5⟩
              have B5 := hid (hB.out.trans (b5.mono hB.out.size)); clear b5 q1
              go_wp2_with fail
              refine (q2.out _ B5.out).mono ?_
              rintro e w6 ⟨rfl, b6⟩
              have B6 := hid (B5.out.trans (b6.mono B5.out.size)); clear b6 q2
              go_wp2_with fail
              go_roundw
              case rel => exact ⟨n + 1, v', false, rfl, rfl, rfl, by omega, by omega, hid (fun h => by cases h), hid (fun _ => E5.out.symm), B6⟩
              case measure => simp [intOf]; omega
            · obtain ⟨f1, f2, f3⟩ := F1.out _ h5
              have q2 := hid (fun wx b => set_next (.slice A l.length c) l (v + 1) wx (X.out wx b))
              rw [h5] at q2
              generalize nextV l (v + 1) = v' at q2 f1 f2 f3
              have E5 := hid (show hasB l v' = true ∧ belowS l v' = n + 1 from ⟨f2, f3.trans s1⟩)
              clear f2 f3 t1 t2 h5
              go_wp2_with fail
              refine q1.out.mono ?_
              rintro e w5 ⟨rfl, b5⟩
              have B5 := hid (hB.out.trans (b5.mono hB.out.size)); clear b5 q1
              go_wp2_with fail
              refine (q2.out _ B5.out).mono ?_
              rintro e w6 ⟨rfl, b6⟩
              have B6 := hid (B5.out.trans (b6.mono B5.out.size)); clear b6 q2
              go_wp2_with fail
              go_roundw
              case rel => exact ⟨n + 1, v', true, rfl, rfl, rfl, by omega, by omega, hid (fun _ => E5.out), hid (fun h => by cases h), B6⟩
              case measure => simp [intOf]; omega
end Go.Proofs.Ytjdlfmcnjpiaoaa
