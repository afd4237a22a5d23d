/- The laws of chapter 9, continued: SetLaws. -/
import Derived.Test.YtjdlfmcnjpiaoaaSetAlive
import Derived.Test.YtjdlfmcnjpiaoaaApp
namespace Go.Proofs.Ytjdlfmcnjpiaoaa
open Go.RowKit
set_option linter.unusedVariables false

theorem keep_good : ∀ (l acc : List Rg), (∀ s ∈ l, s.1 ≤ s.2 ∧ InB s) → keepGo acc l = some (acc ++ l)
  | [], acc, _ => by simp [keepGo]
  | r :: l, acc, h => by
    obtain ⟨h1, h2⟩ := h r (by simp)
    unfold InB at h2
    unfold keepGo
    rw [if_neg (by omega), if_pos (by rw [Bool.and_eq_true, withinB_iff, withinB_iff]; omega), keep_good l _ (fun s hs => h s (by simp [hs]))]
    simp
theorem right_good {l : List Rg} (h : rightB l = true) : ∀ s ∈ l, s.1 ≤ s.2 ∧ InB s := fun s hs => ⟨wf_le (right_wf h).1 s hs, (right_wf h).2 s hs⟩
theorem keep_twice {a : List Rg} (h : rightB a = true) : keepGo [] (a ++ a) = some (a ++ a) := keep_good _ _ fun s hs => right_good h s (by rcases List.mem_append.1 hs with h | h <;> exact h)
theorem merge_twice {a m : List Rg} (h : rightB a = true) (hp : m.Perm (a ++ a)) (ha : Asc m) : mergeS m = a := by
  have hg : ∀ s ∈ a ++ a, s.1 ≤ s.2 ∧ InB s := fun s hs => right_good h s (by rcases List.mem_append.1 hs with h | h <;> exact h)
  refine merge_eq hp ha (fun s hs => (hg s hs).1) (fun s hs => (hg s hs).2) h fun v => ?_
  rw [mem_append]
  simp
theorem meet_comm {a b : List Rg} (ha : rightB a = true) (hb : rightB b = true) : meetS a b = meetS b a :=
  right_ext (meetS_facts ha hb).1 (meetS_facts hb ha).1 fun v => by rw [(meetS_facts ha hb).2, (meetS_facts hb ha).2]; exact And.comm
theorem meet_assoc {a b c : List Rg} (ha : rightB a = true) (hb : rightB b = true) (hc : rightB c = true) : meetS (meetS a b) c = meetS a (meetS b c) := by
  have h1 := meetS_facts ha hb
  have h2 := meetS_facts hb hc
  exact right_ext (meetS_facts h1.1 hc).1 (meetS_facts ha h2.1).1 fun v => by rw [(meetS_facts h1.1 hc).2, h1.2, (meetS_facts ha h2.1).2, h2.2]; exact and_assoc
theorem meet_self {a : List Rg} (ha : rightB a = true) : meetS a a = a := right_ext (meetS_facts ha ha).1 ha fun v => by rw [(meetS_facts ha ha).2]; exact and_self_iff

set_option maxRecDepth 100000 in
set_option maxHeartbeats 2000000 in
theorem law_laws (u v z : Value) (a b c : List Rg) (w : World) (hx : RngsR w 0 w.heap.size u a) (hy : RngsR w 0 w.heap.size v b) (hz : RngsR w 0 w.heap.size z c) :
    Calls Try.prog 6 #[u, v, z] w (RetB (.bool true) w) := by
  have X := hid (fun wx (b : Below w.heap.size w wx) => (hx.below b).mono (Nat.le_refl _) b.size)
  have Y := hid (fun wx (b : Below w.heap.size w wx) => (hy.below b).mono (Nat.le_refl _) b.size)
  have Z := hid (fun wx (b : Below w.heap.size w wx) => (hz.below b).mono (Nat.le_refl _) b.size)
  obtain ⟨A1, c1, rfl, h1, h2, -⟩ := hx.open_
  obtain ⟨A2, c2, rfl, h3, h4, -⟩ := hy.open_
  obtain ⟨A3, c3, rfl, h5, h6, -⟩ := hz.open_
  clear hx hy hz h1 h2 h3 h4 h5 h6
  have ra := hid (fun wx b => set_right _ a wx (X.out wx b))
  have rb := hid (fun wx bb => set_right _ b wx (Y.out wx bb))
  have rc := hid (fun wx bb => set_right _ c wx (Z.out wx bb))
  by_cases la : 300 < a.length
  · clear X Y Z ra rb rc
    go_enter Try.func6, Try.ntmps6
    go_wp2_with fail
    refine (set_alive _).mono ?_
    rintro e w1 ⟨rfl, b1⟩
    have B1 := hid b1; clear b1
    go_wp2_with fail
    go_ret
    exact ⟨rfl, B1.out⟩
  · skip
    by_cases lb : 300 < b.length
    · clear X Y Z ra rb rc
      go_enter Try.func6, Try.ntmps6
      go_wp2_with fail
      refine (set_alive _).mono ?_
      rintro e w1 ⟨rfl, b1⟩
      have B1 := hid b1; clear b1
      go_wp2_with fail
      go_ret
      exact ⟨rfl, B1.out⟩
    · skip
      by_cases lc : 300 < c.length
      · clear X Y Z ra rb rc
        go_enter Try.func6, Try.ntmps6
        go_wp2_with fail
        refine (set_alive _).mono ?_
        rintro e w1 ⟨rfl, b1⟩
        have B1 := hid b1; clear b1
        go_wp2_with fail
        go_ret
        exact ⟨rfl, B1.out⟩
      · skip
        cases ea : rightB a
        · rw [ea] at ra
          go_enter Try.func6, Try.ntmps6
          go_wp2_with fail
          refine (set_alive _).mono ?_
          rintro e w1 ⟨rfl, b1⟩
          have B1 := hid b1; clear b1
          go_wp2_with fail
          refine (ra.out _ B1.out).mono ?_
          rintro e w2 ⟨rfl, b2⟩
          have B2 := hid (B1.out.trans (b2.mono B1.out.size)); clear b2
          go_wp2_with fail
          go_ret
          exact ⟨rfl, B2.out⟩
        · rw [ea] at ra
          cases eb : rightB b
          · rw [eb] at rb
            go_enter Try.func6, Try.ntmps6
            go_wp2_with fail
            refine (set_alive _).mono ?_
            rintro e w1 ⟨rfl, b1⟩
            have B1 := hid b1; clear b1
            go_wp2_with fail
            refine (ra.out _ B1.out).mono ?_
            rintro e w2 ⟨rfl, b2⟩
            have B2 := hid (B1.out.trans (b2.mono B1.out.size)); clear b2
            go_wp2_with fail
            refine (rb.out _ B2.out).mono ?_
            rintro e w3 ⟨rfl, b3⟩
            have B3 := hid (B2.out.trans (b3.mono B2.out.size)); clear b3
            go_wp2_with fail
            go_ret
            exact ⟨rfl, B3.out⟩
          · rw [eb] at rb
            cases ec : rightB c
            · rw [ec] at rc
              go_enter Try.func6, Try.ntmps6
              go_wp2_with fail
              refine (set_alive _).mono ?_
              rintro e w1 ⟨rfl, b1⟩
              have B1 := hid b1; clear b1
              go_wp2_with fail
              refine (ra.out _ B1.out).mono ?_
              rintro e w2 ⟨rfl, b2⟩
              have B2 := hid (B1.out.trans (b2.mono B1.out.size)); clear b2
              go_wp2_with fail
              refine (rb.out _ B2.out).mono ?_
              rintro e w3 ⟨rfl, b3⟩
              have B3 := hid (B2.out.trans (b3.mono B2.out.size)); clear b3
              go_wp2_with fail
              refine (rc.out _ B3.out).mono ?_
              rintro e w4 ⟨rfl, b4⟩
              have B4 := hid (B3.out.trans (b4.mono B3.out.size)); clear b4
              go_wp2_with fail
              go_ret
              exact ⟨rfl, B4.out⟩
            · rw [ec] at rc
              have la' := right_length ea
              have lm := right_length (meetS_facts ea eb).1
              have ln := right_length (meetS_facts eb ec).1
              have P1 := hid (meet_comm ea eb)
              have P2 := hid (meet_assoc ea eb ec)
              have P3 := hid (meet_self ea)
              have P4 := hid (fun m hp ha => merge_twice (m := m) ea hp ha)
              have P5 := hid (keep_twice ea)
              go_enter Try.func6, Try.ntmps6
              go_wp2_with fail
              refine (set_alive _).mono ?_
              rintro e w1 ⟨rfl, b1⟩
              have B1 := hid b1; clear b1
              go_wp2_with fail
              refine (ra.out _ B1.out).mono ?_
              rintro e w2 ⟨rfl, b2⟩
              have B2 := hid (B1.out.trans (b2.mono B1.out.size)); clear b2
              go_wp2_with fail
              refine (rb.out _ B2.out).mono ?_
              rintro e w3 ⟨rfl, b3⟩
              have B3 := hid (B2.out.trans (b3.mono B2.out.size)); clear b3
              go_wp2_with fail
              refine (rc.out _ B3.out).mono ?_
              rintro e w4 ⟨rfl, b4⟩
              have B4 := hid (B3.out.trans (b4.mono B3.out.size)); clear b4
              go_wp2_with (at_builtin; first | (refine wpList_append_cells _ rfl (.const (.slice none 0 0)) (.tmp 40) 22 rfl w4.heap.size 36 _ 2 16 Try.underlying22 rng_info rfl (by omega) (by omega) (.slice none 0 0) 0 [] rfl (World.ownsRow_nil _ _ _ _) (.slice A1 a.length c1) 0 w4.heap.size a.length (rcells a) rfl (by exact X.out _ B4.out) (rcells_one _) (by omega) (Nat.le_refl _) ?_; intro v5 w5 own5 b5) | go_must (refine wpList_append_cells _ rfl (.tmp 41) (.tmp 42) 22 rfl w4.heap.size 36 _ 2 16 Try.underlying22 rng_info rfl (by omega) (by omega) v5 _ _ rfl own5 (.slice A1 a.length c1) 0 w5.heap.size a.length (rcells a) rfl (by exact X.out _ (B4.out.trans (b5.mono B4.out.size))) (rcells_one _) (by omega) b5.size ?_); intro v6 w6 own6 b6)
              have B5 := hid (B4.out.trans (b5.mono B4.out.size))
              have B6 := hid (B5.out.trans (b6.mono B4.out.size)); clear b6
              have I6 := hid (show RngsR w6 0 w6.heap.size v6 (a ++ a) from (CellsR.mono (CellsR.of_own (show w6.ownsRow w4.heap.size 36 2 v6 (a ++ a).length (rcells (a ++ a)) by rw [rcells_append, List.length_append]; simpa using own6)) (Nat.zero_le _) (Nat.le_refl _)))
              clear own6 own5 b5
              have c6 := hid (set_of v6 (a ++ a) w6 (by rw [List.length_append]; omega) I6.out)
              rw [P5.out] at c6
              refine c6.out.mono ?_
              rintro e w7 ⟨v, rfl, b7, l', s, hp, ha, rfl, own7⟩
              rw [P4.out l' hp ha] at own7
              have B7 := hid (B6.out.trans (b7.mono B6.out.size))
              have Is7 := hid ((RngsR.of_own own7).mono (Nat.zero_le _) (Nat.le_refl _))
              clear hp ha l' own7 b7 c6 I6 P4 P5
              go_wp2_with fail
              clear la'
              have hm1 := hid lm; have hn1 := hid ln
              refine (set_meet (.slice A1 a.length c1) (.slice A2 b.length c2) a b _ (by omega) (X.out _ B7.out) (Y.out _ B7.out)).mono ?_
              rintro e w8 ⟨m1, rfl, b8, own8⟩
              have B8 := hid (B7.out.trans (b8.mono B7.out.size))
              have Is8 := hid ((Is7.out.below b8).mono (Nat.le_refl _) b8.size); clear Is7
              have Im18 := hid ((RngsR.of_own own8).mono (Nat.zero_le _) (Nat.le_refl _)); clear own8
              clear b8
              go_wp2_with fail
              refine (set_meet (.slice A2 b.length c2) (.slice A1 a.length c1) b a _ (by omega) (Y.out _ B8.out) (X.out _ B8.out)).mono ?_
              rintro e w9 ⟨m2, rfl, b9, own9⟩
              have B9 := hid (B8.out.trans (b9.mono B8.out.size))
              have Is9 := hid ((Is8.out.below b9).mono (Nat.le_refl _) b9.size); clear Is8
              have Im19 := hid ((Im18.out.below b9).mono (Nat.le_refl _) b9.size); clear Im18
              have Im29 := hid ((RngsR.of_own own9).mono (Nat.zero_le _) (Nat.le_refl _)); clear own9
              clear b9
              go_wp2_with fail
              have q9 := hid (retq_b (law_ranges m1 m2 (meetS a b) (meetS b a) _ Im19.out Im29.out))
              rw [show decide (meetS a b = meetS b a) = true from decide_eq_true P1.out] at q9
              refine q9.out.mono ?_
              rintro e w10 ⟨rfl, b10⟩
              have B10 := hid (B9.out.trans (b10.mono B9.out.size))
              clear Im19
              clear Im29
              have Is10 := hid ((Is9.out.below b10).mono (Nat.le_refl _) b10.size); clear Is9
              clear b10
              go_wp2_with fail
              refine (set_meet (.slice A1 a.length c1) (.slice A2 b.length c2) a b _ (by omega) (X.out _ B10.out) (Y.out _ B10.out)).mono ?_
              rintro e w11 ⟨m3, rfl, b11, own11⟩
              have B11 := hid (B10.out.trans (b11.mono B10.out.size))
              have Is11 := hid ((Is10.out.below b11).mono (Nat.le_refl _) b11.size); clear Is10
              have Im311 := hid ((RngsR.of_own own11).mono (Nat.zero_le _) (Nat.le_refl _)); clear own11
              clear b11
              go_wp2_with fail
              refine (set_meet m3 (.slice A3 c.length c3) (meetS a b) c _ (by omega) Im311.out (Z.out _ B11.out)).mono ?_
              rintro e w12 ⟨m4, rfl, b12, own12⟩
              have B12 := hid (B11.out.trans (b12.mono B11.out.size))
              clear Im311
              have Is12 := hid ((Is11.out.below b12).mono (Nat.le_refl _) b12.size); clear Is11
              have Im412 := hid ((RngsR.of_own own12).mono (Nat.zero_le _) (Nat.le_refl _)); clear own12
              clear b12
              go_wp2_with fail
              refine (set_meet (.slice A2 b.length c2) (.slice A3 c.length c3) b c _ (by omega) (Y.out _ B12.out) (Z.out _ B12.out)).mono ?_
              rintro e w13 ⟨m5, rfl, b13, own13⟩
              have B13 := hid (B12.out.trans (b13.mono B12.out.size))
              have Is13 := hid ((Is12.out.below b13).mono (Nat.le_refl _) b13.size); clear Is12
              have Im413 := hid ((Im412.out.below b13).mono (Nat.le_refl _) b13.size); clear Im412
              have Im513 := hid ((RngsR.of_own own13).mono (Nat.zero_le _) (Nat.le_refl _)); clear own13
              clear b13
              go_wp2_with fail
              refine (set_meet (.slice A1 a.length c1) m5 a (meetS b c) _ (by omega) (X.out _ B13.out) Im513.out).mono ?_
              rintro e w14 ⟨m6, rfl, b14, own14⟩
              have B14 := hid (B13.out.trans (b14.mono B13.out.size))
              clear Im513
              have Is14 := hid ((Is13.out.below b14).mono (Nat.le_refl _) b14.size); clear Is13
              have Im414 := hid ((Im413.out.below b14).mono (Nat.le_refl _) b14.size); clear Im413
              have Im614 := hid ((RngsR.of_own own14).mono (Nat.zero_le _) (Nat.le_refl _)); clear own14
              clear b14
              go_wp2_with fail
              have q14 := hid (retq_b (law_ranges m4 m6 (meetS (meetS a b) c) (meetS a (meetS b c)) _ Im414.out Im614.out))
              rw [show decide (meetS (meetS a b) c = meetS a (meetS b c)) = true from decide_eq_true P2.out] at q14
              refine q14.out.mono ?_
              rintro e w15 ⟨rfl, b15⟩
              have B15 := hid (B14.out.trans (b15.mono B14.out.size))
              clear Im414
              clear Im614
              have Is15 := hid ((Is14.out.below b15).mono (Nat.le_refl _) b15.size); clear Is14
              clear b15
              go_wp2_with fail
              refine (set_meet (.slice A1 a.length c1) (.slice A1 a.length c1) a a _ (by omega) (X.out _ B15.out) (X.out _ B15.out)).mono ?_
              rintro e w16 ⟨m7, rfl, b16, own16⟩
              have B16 := hid (B15.out.trans (b16.mono B15.out.size))
              have Is16 := hid ((Is15.out.below b16).mono (Nat.le_refl _) b16.size); clear Is15
              have Im716 := hid ((RngsR.of_own own16).mono (Nat.zero_le _) (Nat.le_refl _)); clear own16
              clear b16
              go_wp2_with fail
              have q16 := hid (retq_b (law_ranges m7 (.slice A1 a.length c1) (meetS a a) (a) _ Im716.out (X.out _ B16.out)))
              rw [show decide (meetS a a = a) = true from decide_eq_true P3.out] at q16
              refine q16.out.mono ?_
              rintro e w17 ⟨rfl, b17⟩
              have B17 := hid (B16.out.trans (b17.mono B16.out.size))
              clear Im716
              have Is17 := hid ((Is16.out.below b17).mono (Nat.le_refl _) b17.size); clear Is16
              clear b17
              go_wp2_with fail
              have q17 := hid (retq_b (law_ranges s (.slice A1 a.length c1) (a) (a) _ Is17.out (X.out _ B17.out)))
              rw [show decide (a = a) = true from decide_eq_true rfl] at q17
              refine q17.out.mono ?_
              rintro e w18 ⟨rfl, b18⟩
              have B18 := hid (B17.out.trans (b18.mono B17.out.size))
              clear Is17
              clear b18
              go_wp2_with fail
              have qs := hid (set_same (.slice A1 a.length c1) (.slice A1 a.length c1) a a _ (X.out _ B18.out) (X.out _ B18.out))
              rw [ea, show decide (a = a) = true from decide_eq_true rfl] at qs
              refine qs.out.mono ?_
              rintro e w19 ⟨rfl, b19⟩
              have B19 := hid (B18.out.trans (b19.mono B18.out.size))
              clear b19
              go_wp2_with fail
              go_ret
              exact ⟨rfl, B19.out⟩
end Go.Proofs.Ytjdlfmcnjpiaoaa
