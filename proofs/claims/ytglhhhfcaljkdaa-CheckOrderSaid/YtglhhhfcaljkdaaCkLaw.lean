/- The laws of chapter 1: what each returns. -/
import Derived.Test.YtglhhhfcaljkdaaCkDot
namespace Go.Proofs.Ytglhhhfcaljkdaa
open Go.RowKit
set_option linter.unusedVariables false

set_option maxHeartbeats 1000000 in
theorem ck_alive (w : World) : Calls Try.prog 10 #[] w (RetB (.bool true) w) := by
  have f1 := hid fun w => ck_floor (-7) 2 ⟨by decide, by decide⟩ w
  rw [show floV (-7) 2 = -4 by decide, show divE (-7) 2 = 0 by decide] at f1
  have f2 := hid fun w => ck_ceil (-7) 2 ⟨by decide, by decide⟩ w
  rw [show ceiV (-7) 2 = -3 by decide, show divE (-7) 2 = 0 by decide] at f2
  have f3 := hid fun w => ck_add 9223372036854775807 1 ⟨by decide, by decide⟩ ⟨by decide, by decide⟩ w
  rw [show fitV (9223372036854775807 + 1) = 0 by decide, show fitE (9223372036854775807 + 1) = 4 by decide] at f3
  go_enter Try.func10, Try.ntmps10
  go_wp2_with fail
  refine (f1.out _).mono ?_
  rintro e w' ⟨rfl, n1, rfl⟩
  go_wp2_with fail
  refine (f2.out _).mono ?_
  rintro e w' ⟨rfl, n2, rfl⟩
  go_wp2_with fail
  refine (f3.out _).mono ?_
  rintro e w' ⟨rfl, n3, rfl⟩
  go_wp2_with fail
  have f4 := hid (ck_dot (.slice (some { block := w.heap.size, off := 0 }) 2 2) (.slice (some { block := w.heap.size + 1, off := 0 }) 2 2) [1, 2] [3, 4] (((w.drewN (n1 + n2 + n3)).alloc (Obj.cells #[Value.int IntKind.i64 1, Value.int IntKind.i64 2] 2)).alloc
    (Obj.cells #[Value.int IntKind.i64 3, Value.int IntKind.i64 4] 2)) 0 0
    (((Blk.new (w.drewN (n1 + n2 + n3)) _ _).alloc _).ints (l := [1, 2]) rfl (Nat.zero_le _) (by decide))
    ((Blk.at_ ((w.drewN (n1 + n2 + n3)).alloc (Obj.cells #[Value.int IntKind.i64 1, Value.int IntKind.i64 2] 2)) _ _ (by simp)).ints (l := [3, 4]) rfl (Nat.zero_le _) (by decide))
    (by intro x hx; simp at hx; rcases hx with rfl | rfl <;> exact ⟨by decide, by decide⟩) (by intro x hx; simp at hx; rcases hx with rfl | rfl <;> exact ⟨by decide, by decide⟩))
  rw [show dotS [1, 2] [3, 4] = (11, 0) by decide] at f4
  refine f4.out.mono ?_
  rintro e w' ⟨rfl, n4, rfl⟩
  go_wp2
  go_ret
  exact ⟨rfl, below_drewN ((below_q w _).alloc (by simp) _ |>.alloc (by simp) _) _⟩

set_option maxHeartbeats 1000000 in
theorem law_muls (a b : Int) (ha : I64 a) (hb : I64 b) (w : World) : Calls Try.prog 3 #[.int .i64 a, .int .i64 b] w (RetB (.bool true) w) := by
  go_enter Try.func3, Try.ntmps3
  go_wp2_with fail
  refine (ck_alive _).mono ?_
  rintro e w1 ⟨rfl, b1⟩
  go_wp2_with fail
  refine (ck_mul a b ha hb _).mono ?_
  rintro e w' ⟨rfl, n2, rfl⟩
  go_wp2_with fail
  refine (rf_mul a b ha hb _).mono ?_
  rintro e w' ⟨rfl, n3, rfl⟩
  go_wp2
  go_ret
  exact ⟨rfl, below_drewN b1 _⟩

set_option maxHeartbeats 1000000 in
theorem law_divs (a b : Int) (ha : I64 a) (w : World) : Calls Try.prog 4 #[.int .i64 a, .int .i64 b] w (RetB (.bool true) w) := by
  go_enter Try.func4, Try.ntmps4
  go_wp2_with fail
  refine (ck_alive _).mono ?_
  rintro e w1 ⟨rfl, b1⟩
  go_wp2_with fail
  refine (ck_floor a b ha _).mono ?_
  rintro e w' ⟨rfl, n2, rfl⟩
  go_wp2_with fail
  refine (rf_floor a b ha _).mono ?_
  rintro e w' ⟨rfl, n3, rfl⟩
  go_wp2_with fail
  refine (ck_ceil a b ha _).mono ?_
  rintro e w' ⟨rfl, n4, rfl⟩
  go_wp2_with fail
  refine (rf_ceil a b ha _).mono ?_
  rintro e w' ⟨rfl, n5, rfl⟩
  go_wp2
  go_ret
  exact ⟨rfl, below_drewN b1 _⟩

set_option maxHeartbeats 1000000 in
theorem law_sums (a b : Int) (ha : I64 a) (hb : I64 b) (w : World) : Calls Try.prog 8 #[.int .i64 a, .int .i64 b] w (RetB (.bool true) w) := by
  go_enter Try.func8, Try.ntmps8
  go_wp2_with fail
  refine (ck_alive _).mono ?_
  rintro e w1 ⟨rfl, b1⟩
  go_wp2_with fail
  refine (ck_add a b ha hb _).mono ?_
  rintro e w' ⟨rfl, n2, rfl⟩
  go_wp2_with fail
  refine (rf_add a b ha hb _).mono ?_
  rintro e w' ⟨rfl, n3, rfl⟩
  go_wp2_with fail
  refine (ck_sub a b ha hb _).mono ?_
  rintro e w' ⟨rfl, n4, rfl⟩
  go_wp2_with fail
  refine (rf_sub a b ha hb _).mono ?_
  rintro e w' ⟨rfl, n5, rfl⟩
  go_wp2
  go_ret
  exact ⟨rfl, below_drewN b1 _⟩

theorem I64_fitV (n : Int) : I64 (fitV n) := by
  unfold fitV
  split
  · exact fitB_true.1 (by assumption)
  · exact ⟨by decide, by decide⟩
theorem fitE_cases (n : Int) : (fitE n = 0 ∧ I64 n ∧ fitV n = n) ∨ (fitE n = 4 ∧ fitB n = false ∧ fitV n = 0) := by
  unfold fitE fitV
  cases h : fitB n
  · simp
  · simp; exact fitB_true.1 h

theorem fitE_zero {n : Int} (h : fitE n = 0) : fitV n = n := by
  rcases fitE_cases n with h1 | h1
  · exact h1.2.2
  · omega
set_option maxHeartbeats 1000000 in
theorem law_spread (a b c : Int) (ha : I64 a) (hb : I64 b) (hc : I64 c) (w : World) : Calls Try.prog 7 #[.int .i64 a, .int .i64 b, .int .i64 c] w (RetB (.bool true) w) := by
  go_enter Try.func7, Try.ntmps7
  go_wp2_with fail
  refine (ck_alive _).mono ?_
  rintro e w1 ⟨rfl, b1⟩
  go_wp2_with fail
  refine (ck_add a b ha hb _).mono ?_
  rintro e w' ⟨rfl, n2, rfl⟩
  go_wp2_with fail
  refine (ck_mul _ c (I64_fitV _) hc _).mono ?_
  rintro e w' ⟨rfl, n3, rfl⟩
  go_wp2_with fail
  refine (ck_mul a c ha hc _).mono ?_
  rintro e w' ⟨rfl, n4, rfl⟩
  go_wp2_with fail
  refine (ck_mul b c hb hc _).mono ?_
  rintro e w' ⟨rfl, n5, rfl⟩
  go_wp2_with fail
  refine (ck_add _ _ (I64_fitV _) (I64_fitV _) _).mono ?_
  rintro e w' ⟨rfl, n6, rfl⟩
  go_wp2
  all_goals go_ret
  · exact ⟨rfl, below_drewN b1 _⟩
  · refine ⟨retb_eq ?_, below_drewN b1 _⟩
    rename_i h1 h2 h3 h4 h5
    rw [fitE_zero h1] at h2 ⊢
    rw [fitE_zero h3, fitE_zero h4] at h5 ⊢
    rw [fitE_zero h2, fitE_zero (by simpa using h5)]
    simp [Int.add_mul]
  all_goals exact ⟨rfl, below_drewN b1 _⟩

theorem divE_cases (a b : Int) : (b = 0 ∧ divE a b = 2) ∨ (b ≠ 0 ∧ b = -1 ∧ a = -9223372036854775808 ∧ divE a b = 4) ∨ (b ≠ 0 ∧ ¬ (b = -1 ∧ a = -9223372036854775808) ∧ divE a b = 0) := by
  unfold divE
  by_cases h : b = 0
  · simp [h]
  · by_cases h' : b = -1 ∧ a = -9223372036854775808
    · simp [h']
    · simp [h, h']

set_option maxHeartbeats 1000000 in
theorem law_order_run (a b : Int) (ha : I64 a) (hb : I64 b) (w : World) (z : Bool) (V : Int) (E : Int) (hz : (E != 0) = z) (C : ∀ w, Calls Try.prog 21 #[.int .i64 0, .int .i64 b] w (RetQ (.tuple #[.int .i64 V, .int .i64 E]) w))
    (hV : z = false → V = -b ∧ I64 (-b)) (hW : z = true → (b == -9223372036854775808) = true) :
    Calls Try.prog 9 #[.int .i64 a, .int .i64 b] w (RetB (.bool true) w) := by
  have HC := hid C; clear C
  go_enter Try.func9, Try.ntmps9
  go_wp2_with fail
  refine (ck_alive _).mono ?_
  rintro e w1 ⟨rfl, b1⟩
  go_wp2_with fail
  refine (ck_add a b ha hb _).mono ?_
  rintro e w' ⟨rfl, n2, rfl⟩
  go_wp2_with fail
  refine (ck_add b a hb ha _).mono ?_
  rintro e w' ⟨rfl, n3, rfl⟩
  rw [Int.add_comm b a]
  go_wp2_with fail
  refine (ck_mul a b ha hb _).mono ?_
  rintro e w' ⟨rfl, n4, rfl⟩
  go_wp2_with fail
  refine (ck_mul b a hb ha _).mono ?_
  rintro e w' ⟨rfl, n5, rfl⟩
  rw [Int.mul_comm b a]
  go_wp2_with fail
  refine (HC.out _).mono ?_
  rintro e w' ⟨rfl, n6, rfl⟩
  cases z
  · obtain ⟨rfl, hi⟩ := hV rfl
    clear hW hV
    go_wp2_with fail
    refine (ck_sub a b ha hb _).mono ?_
    rintro e w' ⟨rfl, n7, rfl⟩
    go_wp2_with fail
    refine (ck_add a _ ha hi _).mono ?_
    rintro e w' ⟨rfl, n8, rfl⟩
    rw [Int.sub_eq_add_neg]
    go_wp2
    all_goals go_ret
    all_goals exact ⟨rfl, below_drewN b1 _⟩
  · have hb' := hW rfl
    clear hW hV
    go_wp2
    go_ret
    exact ⟨rfl, below_drewN b1 _⟩
theorem law_order (a b : Int) (ha : I64 a) (hb : I64 b) (w : World) : Calls Try.prog 9 #[.int .i64 a, .int .i64 b] w (RetB (.bool true) w) := by
  have h := fitE_cases (0 - b)
  have C := ck_sub 0 b ⟨by decide, by decide⟩ hb
  refine law_order_run a b ha hb w _ _ _ rfl C (fun hz => ?_) (fun hz => ?_)
  · have : fitE (0 - b) = 0 := by simpa using hz
    rcases h with h | h
    · rw [h.2.2, Int.zero_sub]; rw [Int.zero_sub] at h; exact ⟨rfl, h.2.1⟩
    · omega
  · have : fitE (0 - b) ≠ 0 := by simpa using hz
    rcases h with h | h
    · omega
    · have h2 := fitB_false.1 h.2.1
      unfold I64 at hb
      simp; omega

set_option maxHeartbeats 2000000 in
theorem rests_run (a b q p r s : Int) (w : World) (C1 : Hid (∀ w, Calls Try.prog 13 #[.int .i64 a, .int .i64 b] w (RetQ (.tuple #[.int .i64 q, .int .i64 0]) w)))
    (C2 : Hid (∀ w, Calls Try.prog 15 #[.int .i64 a, .int .i64 b] w (RetQ (.tuple #[.int .i64 p, .int .i64 0]) w)))
    (hb : I64 b) (iq : -9223372036854775808 ≤ q ∧ q ≤ 9223372036854775807) (ip : -9223372036854775808 ≤ p ∧ p ≤ 9223372036854775807) (hz : (b == 0) = false)
    (hlo : (a == -9223372036854775808) = false ∨ ((a == -9223372036854775808) = true ∧ (b == -1) = false)) (e3 : wrap64 (a - wrap64 (q * b)) = r) (e4 : wrap64 (a - wrap64 (p * b)) = s)
    (hcase : (p = q ∧ r = 0 ∧ s = 0) ∨ (p = q + 1 ∧ r ≠ 0 ∧ s = r - b ∧ (0 < b → 0 < r ∧ r < b) ∧ (b < 0 → b < r ∧ r < 0))) :
    Calls Try.prog 6 #[.int .i64 a, .int .i64 b] w (RetB (.bool true) w) := by
  unfold I64 at hb
  rcases hcase with ⟨rfl, rfl, rfl⟩ | ⟨hp, hr, hs, hp1, hn1⟩
  · clear e4
    rcases Int.lt_or_gt_of_ne (show b ≠ 0 by simpa using hz) with hx | hx
    all_goals
      clear hz
      rcases hlo with hlo | ⟨hlo, hlo2⟩
    all_goals
      go_enter Try.func6, Try.ntmps6
      go_wp2_with fail
      refine (ck_alive _).mono ?_
      rintro e w1 ⟨rfl, b1⟩
      go_wp2_with fail
      refine (C1.out _).mono ?_
      rintro e w' ⟨rfl, n2, rfl⟩
      go_wp2_with fail
      refine (C2.out _).mono ?_
      rintro e w' ⟨rfl, n3, rfl⟩
      go_wp2
      go_ret
      refine ⟨?_, below_drewN b1 _⟩
      first | rfl | (simp; done) | (simp; omega)
  · have hpq : (p == q) = false := by simp; omega
    have hr0 : (r == 0) = false := by simpa using hr
    have hd : wrap64 (p - q) = 1 := by unfold wrap64; omega
    have hle : q ≤ p := by omega
    have Hs := hid hs; clear hs hp
    rcases Int.lt_or_gt_of_ne (show b ≠ 0 by simpa using hz) with hx | hx
    · obtain ⟨h5, h6⟩ := hn1 hx
      have hs2 : 0 ≤ s := by have := Hs.out; omega
      have hs3 : s + b < 0 := by have := Hs.out; omega
      have hs4 : s ≤ 9223372036854775807 := by have := Hs.out; omega
      clear hn1 hp1 hz Hs hr
      rcases hlo with hlo | ⟨hlo, hlo2⟩
      all_goals
        go_enter Try.func6, Try.ntmps6
        go_wp2_with fail
        refine (ck_alive _).mono ?_
        rintro e w1 ⟨rfl, b1⟩
        go_wp2_with fail
        refine (C1.out _).mono ?_
        rintro e w' ⟨rfl, n2, rfl⟩
        go_wp2_with fail
        refine (C2.out _).mono ?_
        rintro e w' ⟨rfl, n3, rfl⟩
        go_wp2
        go_ret
        refine ⟨?_, below_drewN b1 _⟩
        first | rfl | (simp; done) | (simp; omega)
    · obtain ⟨h5, h6⟩ := hp1 hx
      have hs2 : s ≤ 0 := by have := Hs.out; omega
      have hs3 : -b < s := by have := Hs.out; omega
      clear hn1 hp1 hz Hs hr
      rcases hlo with hlo | ⟨hlo, hlo2⟩
      all_goals
        go_enter Try.func6, Try.ntmps6
        go_wp2_with fail
        refine (ck_alive _).mono ?_
        rintro e w1 ⟨rfl, b1⟩
        go_wp2_with fail
        refine (C1.out _).mono ?_
        rintro e w' ⟨rfl, n2, rfl⟩
        go_wp2_with fail
        refine (C2.out _).mono ?_
        rintro e w' ⟨rfl, n3, rfl⟩
        go_wp2
        go_ret
        refine ⟨?_, below_drewN b1 _⟩
        first | rfl | (simp; done) | (simp; omega)
set_option maxHeartbeats 1000000 in
theorem law_rests (a b : Int) (ha : I64 a) (hb : I64 b) (w : World) : Calls Try.prog 6 #[.int .i64 a, .int .i64 b] w (RetB (.bool true) w) := by
  have C1 := ck_floor a b ha
  have C2 := ck_ceil a b ha
  rcases divE_cases a b with ⟨rfl, h2⟩ | ⟨h1, rfl, rfl, h4⟩ | ⟨h1, h2, h3⟩
  · rw [h2] at C1 C2
    have C1 := hid C1
    have C2 := hid C2
    clear h2
    go_enter Try.func6, Try.ntmps6
    go_wp2_with fail
    refine (ck_alive _).mono ?_
    rintro e w1 ⟨rfl, b1⟩
    go_wp2_with fail
    refine (C1.out _).mono ?_
    rintro e w' ⟨rfl, n2, rfl⟩
    go_wp2_with fail
    refine (C2.out _).mono ?_
    rintro e w' ⟨rfl, n3, rfl⟩
    go_wp2
    all_goals go_ret
    all_goals exact ⟨rfl, below_drewN b1 _⟩
  · rw [h4] at C1 C2
    have C1 := hid C1
    have C2 := hid C2
    clear h1 h4
    go_enter Try.func6, Try.ntmps6
    go_wp2_with fail
    refine (ck_alive _).mono ?_
    rintro e w1 ⟨rfl, b1⟩
    go_wp2_with fail
    refine (C1.out _).mono ?_
    rintro e w' ⟨rfl, n2, rfl⟩
    go_wp2_with fail
    refine (C2.out _).mono ?_
    rintro e w' ⟨rfl, n3, rfl⟩
    go_wp2
    all_goals go_ret
    all_goals exact ⟨rfl, below_drewN b1 _⟩
  · rw [h3] at C1 C2
    rw [show floV a b = flo a b by unfold floV; rw [if_pos h3]] at C1
    rw [show ceiV a b = cei a b by unfold ceiV; rw [if_pos h3]] at C2
    have hz : (b == 0) = false := by simpa using h1
    have hz2 : (b == -1) = ((a != -9223372036854775808) && b == -1) := by
      by_cases x : a = -9223372036854775808
      · have : ¬ b = -1 := fun e => h2 ⟨e, x⟩
        simp [x, this]
      · simp [x]
    obtain ⟨q, p, r, s, e1, e2, e3, e4, iq, ip, hcase⟩ := rests_facts ha hb h1 h2
    rw [e1] at C1
    rw [e2] at C2
    have hlo : ∀ z, (a == -9223372036854775808) = z → (b == -1) = (!z && b == -1) := fun z hz => by subst hz; simpa using hz2
    obtain ⟨z, hz3⟩ : ∃ z, (a == -9223372036854775808) = z := ⟨_, rfl⟩
    have hlo := hlo z hz3
    have C1 := hid C1
    have C2 := hid C2
    unfold I64 at iq ip
    clear h1 h2 h3 ha e1 e2 hz2
    cases z
    · clear hlo
      exact rests_run a b q p r s w C1 C2 hb iq ip hz (.inl hz3) e3 e4 hcase
    · simp only [Bool.not_true, Bool.false_and] at hlo
      exact rests_run a b q p r s w C1 C2 hb iq ip hz (.inr ⟨hz3, hlo⟩) e3 e4 hcase

set_option maxHeartbeats 1000000 in
theorem law_dots (u v : Value) (xs ys : List Int) (w : World) (hx : IntsR w 0 w.heap.size u xs) (hy : IntsR w 0 w.heap.size v ys) (ix : ∀ x ∈ xs, I64 x) (iy : ∀ x ∈ ys, I64 x) :
    Calls Try.prog 5 #[u, v] w (RetB (.bool true) w) := by
  obtain ⟨A, c, rfl, h1, h2, _⟩ := hx.open_
  obtain ⟨B, d, rfl, h4, h5, _⟩ := hy.open_
  go_enter Try.func5, Try.ntmps5
  go_wp2_with fail
  refine (ck_alive _).mono ?_
  rintro e w1 ⟨rfl, b1⟩
  have Hx := hid (hx.below b1)
  have Hy := hid (hy.below b1)
  have hs := b1.size
  go_wp2_with fail
  · go_ret
    exact ⟨rfl, b1⟩
  · refine (ck_dot _ _ xs ys _ 0 0 (Hx.out.mono (Nat.le_refl _) hs) (Hy.out.mono (Nat.le_refl _) hs) ix iy).mono ?_
    rintro e w' ⟨rfl, n2, rfl⟩
    go_wp2_with fail
    refine (rf_dot _ _ xs ys _ 0 0 (by exact (Hx.out.mono (Nat.le_refl _) hs).below (below_q _ _)) (by exact (Hy.out.mono (Nat.le_refl _) hs).below (below_q _ _)) ix iy).mono ?_
    rintro e w' ⟨rfl, n3, rfl⟩
    go_wp2
    go_ret
    exact ⟨rfl, below_drewN b1 _⟩
  · go_ret
    exact ⟨rfl, b1⟩
end Go.Proofs.Ytglhhhfcaljkdaa
