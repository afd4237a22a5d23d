/- The walks of the package check and of its reference: what each function returns. -/
import Derived.Test.YtglhhhfcaljkdaaProg
import Derived.Test.YtglhhhfcaljkdaaPlCheck
import Derived.Test.YtglhhhfcaljkdaaBase
import Derived.Lib.Mul64
namespace Go.Proofs.Ytglhhhfcaljkdaa
open Go.RowKit
set_option linter.unusedVariables false

set_option maxHeartbeats 400000 in
theorem ck_add (a b : Int) (ha : I64 a) (hb : I64 b) (w : World) :
    Calls Try.prog 19 #[.int .i64 a, .int .i64 b] w (RetQ (.tuple #[.int .i64 (fitV (a + b)), .int .i64 (fitE (a + b))]) w) := by
  go_enter Try.func19, Try.ntmps19
  go_wp2
  all_goals go_ret2
  · have := add_over ha hb (by simp_all)
    exact ⟨ret2_eq (by simp [fitV, this]) (by simp [fitE, this]), 0, rfl⟩
  · have := add_fits ha hb (by simp_all)
    exact ⟨ret2_eq (by simp [fitV, fitB_true.2 this, wrap64_fit this]) (by simp [fitE, fitB_true.2 this]), 0, rfl⟩
  · have := add_fits ha hb (by simp_all)
    exact ⟨ret2_eq (by simp [fitV, fitB_true.2 this, wrap64_fit this]) (by simp [fitE, fitB_true.2 this]), 0, rfl⟩

set_option maxHeartbeats 400000 in
theorem ck_sub (a b : Int) (ha : I64 a) (hb : I64 b) (w : World) :
    Calls Try.prog 21 #[.int .i64 a, .int .i64 b] w (RetQ (.tuple #[.int .i64 (fitV (a - b)), .int .i64 (fitE (a - b))]) w) := by
  go_enter Try.func21, Try.ntmps21
  go_wp2
  all_goals go_ret2
  · have := sub_fits ha hb (by simp_all)
    exact ⟨ret2_eq (by simp [fitV, fitB_true.2 this, wrap64_fit this]) (by simp [fitE, fitB_true.2 this]), 0, rfl⟩
  · have := sub_over ha hb (by simp_all)
    exact ⟨ret2_eq (by simp [fitV, this]) (by simp [fitE, this]), 0, rfl⟩
  · have := sub_fits ha hb (by simp_all)
    exact ⟨ret2_eq (by simp [fitV, fitB_true.2 this, wrap64_fit this]) (by simp [fitE, fitB_true.2 this]), 0, rfl⟩

set_option maxHeartbeats 400000 in
theorem ck_size (a : Int) (ha : I64 a) (w : World) :
    Calls Try.prog 24 #[.int .i64 a] w (RetQ (.int .u64 (sizeN a : Int)) w) := by
  go_enter Try.func24, Try.ntmps24
  go_wp2
  · go_ret
    exact ⟨ret1_eq (sizeN_neg ha ‹_›), 0, rfl⟩
  · go_ret
    exact ⟨ret1_eq (sizeN_pos ha ‹_›), 0, rfl⟩

namespace Mul64
theorem maskN (a : Nat) (ha : a < 18446744073709551616) : bits .and .u64 (a : Int) 4294967295 = ((a % 4294967296 : Nat) : Int) := by
  have h := bits_and_u64_nat a 4294967295 ha (by omega)
  have e : a &&& 4294967295 = a % 4294967296 := Nat.and_two_pow_sub_one_eq_mod a 32
  rw [e] at h
  exact h
theorem divN (a : Nat) : (a : Int) / 4294967296 = ((a / 4294967296 : Nat) : Int) := by omega
theorem mulN (a b : Nat) : (a : Int) * (b : Int) = ((a * b : Nat) : Int) := (Int.natCast_mul a b).symm
theorem addN (a b : Nat) : (a : Int) + (b : Int) = ((a + b : Nat) : Int) := (Int.natCast_add a b).symm
theorem wrapN (a : Nat) (ha : a < 18446744073709551616) : IntKind.u64.wrap (a : Int) = (a : Int) := by rw [IntKind.wrap_u64]; omega
theorem wrapM (a : Nat) : IntKind.u64.wrap (a : Int) = ((a % 18446744073709551616 : Nat) : Int) := by rw [IntKind.wrap_u64]; omega
end Mul64

set_option maxHeartbeats 1000000 in
theorem bits_mul64 (x y : Nat) (hx : x < 18446744073709551616) (hy : y < 18446744073709551616) (w : World) :
    Calls Try.prog 23 #[.int .u64 x, .int .u64 y] w (RetQ (.tuple #[.int .u64 ((x * y / 18446744073709551616 : Nat) : Int), .int .u64 ((x * y % 18446744073709551616 : Nat) : Int)]) w) := by
  obtain ⟨bd, bt, bw, hhi⟩ := Lib.mul64_hi x y hx hy
  have ba := Lib.half_mul_le (a := x / 4294967296) (b := y / 4294967296) (by omega) (by omega)
  have bb := Lib.half_mul_le (a := x / 4294967296) (b := y % 4294967296) (by omega) (by omega)
  have bc := Lib.half_mul_le (a := x % 4294967296) (b := y / 4294967296) (by omega) (by omega)
  have ba' : x / 4294967296 * (y / 4294967296) < 18446744073709551616 := by omega
  have bb' : x / 4294967296 * (y % 4294967296) < 18446744073709551616 := by omega
  have bc' : x % 4294967296 * (y / 4294967296) < 18446744073709551616 := by omega
  have bh1 : x / 4294967296 * (y / 4294967296) + (x / 4294967296 * (y % 4294967296) + x % 4294967296 * (y % 4294967296) / 4294967296) / 4294967296 < 18446744073709551616 := by omega
  have bh : x / 4294967296 * (y / 4294967296) + (x / 4294967296 * (y % 4294967296) + x % 4294967296 * (y % 4294967296) / 4294967296) / 4294967296 + ((x / 4294967296 * (y % 4294967296) + x % 4294967296 * (y % 4294967296) / 4294967296) % 4294967296 + x % 4294967296 * (y / 4294967296)) / 4294967296 < 18446744073709551616 := by omega
  have HH := hid hhi
  clear hhi
  go_enter Try.func23, Try.ntmps23
  go_wp2
  simp only [Mul64.maskN x hx, Mul64.maskN y hy, Mul64.divN, Mul64.mulN, Mul64.addN, Mul64.wrapN _ bd, Mul64.wrapN _ bb', Mul64.wrapN _ bt, Mul64.maskN _ bt, Mul64.wrapN _ bc', Mul64.wrapN _ bw, Mul64.wrapN _ ba', Mul64.wrapN _ bh1, Mul64.wrapN _ bh, Mul64.wrapM (x * y)]
  rw [HH.out]
  go_ret2
  exact RetQ.same

set_option maxHeartbeats 400000 in
theorem ck_mul (a b : Int) (ha : I64 a) (hb : I64 b) (w : World) :
    Calls Try.prog 11 #[.int .i64 a, .int .i64 b] w (RetQ (.tuple #[.int .i64 (fitV (a * b)), .int .i64 (fitE (a * b))]) w) := by
  have sa := sizeN_lt ha
  have sb := sizeN_lt hb
  obtain ⟨hi, hhi⟩ : ∃ hi, hi = sizeN a * sizeN b / 18446744073709551616 := ⟨_, rfl⟩
  obtain ⟨lo, hlo⟩ : ∃ lo, lo = sizeN a * sizeN b % 18446744073709551616 := ⟨_, rfl⟩
  have Hm := hid (bits_mul64 (sizeN a) (sizeN b) sa sb)
  rw [← hhi, ← hlo] at Hm
  have HHi := hid hhi; clear hhi
  have HLo := hid hlo; clear hlo
  clear sa sb
  go_enter Try.func11, Try.ntmps11
  go_wp2_with fail
  refine (ck_size a ha _).mono ?_
  rintro e w' ⟨rfl, n1, rfl⟩
  go_wp2_with fail
  refine (ck_size b hb _).mono ?_
  rintro e w' ⟨rfl, n2, rfl⟩
  go_wp2_with fail
  refine (Hm.out _).mono ?_
  rintro e w' ⟨rfl, n3, rfl⟩
  go_wp2
  all_goals go_ret2
  · have := fit_big (a := a) (b := b) (mul_hi (lo := lo) HHi.out (by simp_all))
    exact ⟨ret2_eq (by simp [fitV, this]) (by simp [fitE, this]), _, rfl⟩
  · have el := mul_lo HHi.out HLo.out (by simp_all)
    subst el
    have := (fit_same (by assumption)).1 (by assumption)
    exact ⟨ret2_eq (by simp [fitV, this]) (by simp [fitE, this]), _, rfl⟩
  · have el := mul_lo HHi.out HLo.out (by simp_all)
    subst el
    obtain ⟨h1, h2⟩ := (fit_same (by assumption)).2 (by assumption)
    rw [prod_pos (by assumption)] at h1
    exact ⟨ret2_eq (by rw [prod_pos (by assumption)]; unfold fitV; rw [if_pos (fitB_true.2 h1)]) (by rw [prod_pos (by assumption)]; unfold fitE; rw [if_pos (fitB_true.2 h1)]), _, rfl⟩
  · have el := mul_lo HHi.out HLo.out (by simp_all)
    subst el
    rename_i hs hq
    have := (fit_other hs).1 hq.2
    exact ⟨ret2_eq (by simp [fitV, this]) (by simp [fitE, this]), _, rfl⟩
  · have el := mul_lo HHi.out HLo.out (by simp_all)
    subst el
    rename_i hs hd hq
    obtain ⟨h1, h2⟩ := (fit_other (a := a) (b := b) hs).2 (by rcases hq with h | h <;> simp_all)
    exact ⟨ret2_eq (by rw [h2]; simp [fitV, fitB_true.2 h1]) (by simp [fitE, fitB_true.2 h1]), _, rfl⟩
  · simp_all

set_option maxHeartbeats 400000 in
theorem ck_may (a b : Int) (w : World) :
    Calls Try.prog 25 #[.int .i64 a, .int .i64 b] w (RetQ (.int .i64 (divE a b)) w) := by
  go_enter Try.func25, Try.ntmps25
  go_wp2
  all_goals go_ret
  all_goals exact ⟨ret1_eq (by unfold divE; simp_all), 0, rfl⟩

set_option maxHeartbeats 400000 in
theorem ck_floor (a b : Int) (ha : I64 a) (w : World) :
    Calls Try.prog 13 #[.int .i64 a, .int .i64 b] w (RetQ (.tuple #[.int .i64 (floV a b), .int .i64 (divE a b)]) w) := by
  have Hc := hid (ck_may a b w)
  by_cases h : divE a b = 0
  · obtain ⟨h0, h1⟩ := divE_zero h
    rw [h] at Hc
    have HV : Hid (floV a b = flo a b) := by unfold floV; rw [if_pos h]; exact rfl
    have H := hid h; clear h
    have hz : (b == 0) = false := by simpa using h0
    go_enter Try.func13, Try.ntmps13
    go_wp2_with (go_at_call 25; refine Hc.out.mono ?_; rintro e w' ⟨rfl, n1, rfl⟩)
    go_quiet (fail)
    go_wp2
    all_goals go_ret2
    · rw [HV.out]
      exact ⟨ret2_eq (by rw [flo_of_t a b h0, if_neg (by omega), wrap64_fit (tdiv_fits ha h0 h1)]) H.out.symm, _, rfl⟩
    · rw [HV.out]
      have hf := flo_fits ha h0 h1
      have e : flo a b = a.tdiv b - 1 := by rw [flo_of_t a b h0, if_pos (by simp_all)]
      exact ⟨ret2_eq (by rw [e, wrap64_fit (tdiv_fits ha h0 h1), wrap64_fit (e ▸ hf)]) H.out.symm, _, rfl⟩
    · rw [HV.out]
      exact ⟨ret2_eq (by rw [flo_of_t a b h0, if_neg (by simp_all), wrap64_fit (tdiv_fits ha h0 h1)]) H.out.symm, _, rfl⟩
  · have HV : Hid (floV a b = 0) := by unfold floV; rw [if_neg h]; exact rfl
    have hz : (divE a b != 0) = true := by simpa using h
    clear h
    go_enter Try.func13, Try.ntmps13
    go_wp2_with (go_at_call 25; refine Hc.out.mono ?_; rintro e w' ⟨rfl, n1, rfl⟩)
    go_ret2
    rw [HV.out]
    exact ⟨rfl, _, rfl⟩

set_option maxHeartbeats 400000 in
theorem ck_ceil (a b : Int) (ha : I64 a) (w : World) :
    Calls Try.prog 15 #[.int .i64 a, .int .i64 b] w (RetQ (.tuple #[.int .i64 (ceiV a b), .int .i64 (divE a b)]) w) := by
  have Hc := hid (ck_may a b w)
  by_cases h : divE a b = 0
  · obtain ⟨h0, h1⟩ := divE_zero h
    rw [h] at Hc
    have HV : Hid (ceiV a b = cei a b) := by unfold ceiV; rw [if_pos h]; exact rfl
    have H := hid h; clear h
    have hz : (b == 0) = false := by simpa using h0
    go_enter Try.func15, Try.ntmps15
    go_wp2_with (go_at_call 25; refine Hc.out.mono ?_; rintro e w' ⟨rfl, n1, rfl⟩)
    go_quiet (fail)
    go_wp2
    all_goals go_ret2
    · rw [HV.out]
      exact ⟨ret2_eq (by rw [cei_of_t a b h0, if_neg (by omega), wrap64_fit (tdiv_fits ha h0 h1)]) H.out.symm, _, rfl⟩
    · rw [HV.out]
      have hf := cei_fits ha h0 h1
      have e : cei a b = a.tdiv b + 1 := by rw [cei_of_t a b h0, if_pos (by simp_all)]
      exact ⟨ret2_eq (by rw [e, wrap64_fit (tdiv_fits ha h0 h1), wrap64_fit (e ▸ hf)]) H.out.symm, _, rfl⟩
    · rw [HV.out]
      exact ⟨ret2_eq (by rw [cei_of_t a b h0, if_neg (by simp_all), wrap64_fit (tdiv_fits ha h0 h1)]) H.out.symm, _, rfl⟩
  · have HV : Hid (ceiV a b = 0) := by unfold ceiV; rw [if_neg h]; exact rfl
    have hz : (divE a b != 0) = true := by simpa using h
    clear h
    go_enter Try.func15, Try.ntmps15
    go_wp2_with (go_at_call 25; refine Hc.out.mono ?_; rintro e w' ⟨rfl, n1, rfl⟩)
    go_ret2
    rw [HV.out]
    exact ⟨rfl, _, rfl⟩

theorem fit_yes {n : Int} (h : I64 n) : fitV n = n ∧ fitE n = 0 := by simp [fitV, fitE, fitB_true.2 h]
theorem fit_no {n : Int} (h : n < -9223372036854775808 ∨ 9223372036854775807 < n) : fitV n = 0 ∧ fitE n = 4 := by simp [fitV, fitE, fitB_false.2 h]
theorem ret_yes {m n : Int} (h : I64 n) (e : m = n) : Ending.returned (.tuple #[.int .i64 m, .int .i64 0]) = .returned (.tuple #[.int .i64 (fitV n), .int .i64 (fitE n)]) := by
  subst e; rw [(fit_yes h).1, (fit_yes h).2]
theorem ret_no {n : Int} (h : n < -9223372036854775808 ∨ 9223372036854775807 < n) : Ending.returned (.tuple #[.int .i64 0, .int .i64 4]) = .returned (.tuple #[.int .i64 (fitV n), .int .i64 (fitE n)]) := by
  rw [(fit_no h).1, (fit_no h).2]

set_option maxHeartbeats 400000 in
theorem rf_add (a b : Int) (ha : I64 a) (hb : I64 b) (w : World) :
    Calls Try.prog 20 #[.int .i64 a, .int .i64 b] w (RetQ (.tuple #[.int .i64 (fitV (a + b)), .int .i64 (fitE (a + b))]) w) := by
  obtain ⟨ha1, ha2⟩ := ha
  obtain ⟨hb1, hb2⟩ := hb
  go_enter Try.func20, Try.ntmps20
  go_wp2
  all_goals go_ret2
  all_goals first
    | exact ⟨ret_no (by omega), 0, rfl⟩
    | exact ⟨ret_yes ⟨by omega, by omega⟩ (by first | rfl | (unfold wrap64; omega)), 0, rfl⟩
set_option maxHeartbeats 400000 in
theorem rf_sub (a b : Int) (ha : I64 a) (hb : I64 b) (w : World) :
    Calls Try.prog 22 #[.int .i64 a, .int .i64 b] w (RetQ (.tuple #[.int .i64 (fitV (a - b)), .int .i64 (fitE (a - b))]) w) := by
  obtain ⟨ha1, ha2⟩ := ha
  obtain ⟨hb1, hb2⟩ := hb
  go_enter Try.func22, Try.ntmps22
  go_wp2
  all_goals go_ret2
  all_goals first
    | exact ⟨ret_no (by omega), 0, rfl⟩
    | exact ⟨ret_yes ⟨by omega, by omega⟩ (by first | rfl | (unfold wrap64; omega)), 0, rfl⟩
set_option maxHeartbeats 400000 in
theorem rf_floor_run (a b : Int) (ha : I64 a) (w : World) (lo : Bool) (hz : (b == 0) = false) (hl : (a == -9223372036854775808) = lo) (hg : (b == -1) = (!lo && b == -1))
    (hE : Hid (divE a b = 0)) (H0 : Hid (b ≠ 0)) (H1 : Hid (¬ (b = -1 ∧ a = -9223372036854775808))) :
    Calls Try.prog 14 #[.int .i64 a, .int .i64 b] w (RetQ (.tuple #[.int .i64 (floV a b), .int .i64 (divE a b)]) w) := by
  have hV : Hid (floV a b = flo a b) := by unfold floV; rw [hE.out]; exact rfl
  cases lo
  all_goals
    simp only [Bool.not_true, Bool.not_false, Bool.false_and, Bool.true_and] at hg
    go_enter Try.func14, Try.ntmps14
    go_wp2
    all_goals go_ret2
    all_goals rw [hV.out]
    · exact ⟨ret2_eq (by rw [flo_of_t a b H0.out, if_neg (by omega), wrap64_fit (tdiv_fits ha H0.out H1.out)]) hE.out.symm, 0, rfl⟩
    · have hf := flo_fits ha H0.out H1.out
      rename_i hr hq
      have hs := tdiv_sign (a := a) H0.out hr
      have e : flo a b = a.tdiv b - 1 := by rw [flo_of_t a b H0.out, if_pos ⟨hr, by rw [hs]; simpa using hq.2⟩]
      exact ⟨ret2_eq (by rw [e, wrap64_fit (tdiv_fits ha H0.out H1.out), wrap64_fit (e ▸ hf)]) hE.out.symm, 0, rfl⟩
    · rename_i hr hq
      have hs := tdiv_sign (a := a) H0.out hr
      exact ⟨ret2_eq (by rw [flo_of_t a b H0.out, if_neg (fun h => by have h := h.2; rw [hs] at h; exact hq.elim (fun hq => hr (by simpa using hq)) (fun hq => absurd h (by simpa using hq))), wrap64_fit (tdiv_fits ha H0.out H1.out)]) hE.out.symm, 0, rfl⟩
set_option maxHeartbeats 400000 in
theorem rf_floor (a b : Int) (ha : I64 a) (w : World) :
    Calls Try.prog 14 #[.int .i64 a, .int .i64 b] w (RetQ (.tuple #[.int .i64 (floV a b), .int .i64 (divE a b)]) w) := by
  by_cases h0 : b = 0
  · subst h0
    go_enter Try.func14, Try.ntmps14
    go_wp2
    go_ret2
    exact ⟨ret2_eq (by simp [floV, divE]) (by simp [divE]), 0, rfl⟩
  by_cases h1 : b = -1 ∧ a = -9223372036854775808
  · obtain ⟨rfl, rfl⟩ := h1
    go_enter Try.func14, Try.ntmps14
    go_wp2
    go_ret2
    exact ⟨ret2_eq (by simp [floV, divE]) (by simp [divE]), 0, rfl⟩
  have hE : Hid (divE a b = 0) := by unfold divE; rw [if_neg h0, if_neg h1]; exact rfl
  refine rf_floor_run a b ha w _ (by simpa using h0) rfl ?_ hE h0 h1
  by_cases x : a = -9223372036854775808
  · have : ¬ b = -1 := fun e => h1 ⟨e, x⟩
    simp [x, this]
  · simp [x]
set_option maxHeartbeats 400000 in
theorem rf_ceil_run (a b : Int) (ha : I64 a) (w : World) (lo : Bool) (hz : (b == 0) = false) (hl : (a == -9223372036854775808) = lo) (hg : (b == -1) = (!lo && b == -1))
    (hE : Hid (divE a b = 0)) (H0 : Hid (b ≠ 0)) (H1 : Hid (¬ (b = -1 ∧ a = -9223372036854775808))) :
    Calls Try.prog 16 #[.int .i64 a, .int .i64 b] w (RetQ (.tuple #[.int .i64 (ceiV a b), .int .i64 (divE a b)]) w) := by
  have hV : Hid (ceiV a b = cei a b) := by unfold ceiV; rw [hE.out]; exact rfl
  cases lo
  all_goals
    simp only [Bool.not_true, Bool.not_false, Bool.false_and, Bool.true_and] at hg
    go_enter Try.func16, Try.ntmps16
    go_wp2
    all_goals go_ret2
    all_goals rw [hV.out]
    · exact ⟨ret2_eq (by rw [cei_of_t a b H0.out, if_neg (by omega), wrap64_fit (tdiv_fits ha H0.out H1.out)]) hE.out.symm, 0, rfl⟩
    · have hf := cei_fits ha H0.out H1.out
      rename_i hr hq
      have hs := tdiv_sign (a := a) H0.out hr
      have e : cei a b = a.tdiv b + 1 := by rw [cei_of_t a b H0.out, if_pos ⟨hr, by rw [hs]; simpa using hq.2⟩]
      exact ⟨ret2_eq (by rw [e, wrap64_fit (tdiv_fits ha H0.out H1.out), wrap64_fit (e ▸ hf)]) hE.out.symm, 0, rfl⟩
    · rename_i hr hq
      have hs := tdiv_sign (a := a) H0.out hr
      exact ⟨ret2_eq (by rw [cei_of_t a b H0.out, if_neg (fun h => by have h := h.2; rw [hs] at h; exact hq.elim (fun hq => hr (by simpa using hq)) (fun hq => absurd h (by simpa using hq))), wrap64_fit (tdiv_fits ha H0.out H1.out)]) hE.out.symm, 0, rfl⟩
set_option maxHeartbeats 400000 in
theorem rf_ceil (a b : Int) (ha : I64 a) (w : World) :
    Calls Try.prog 16 #[.int .i64 a, .int .i64 b] w (RetQ (.tuple #[.int .i64 (ceiV a b), .int .i64 (divE a b)]) w) := by
  by_cases h0 : b = 0
  · subst h0
    go_enter Try.func16, Try.ntmps16
    go_wp2
    go_ret2
    exact ⟨ret2_eq (by simp [ceiV, divE]) (by simp [divE]), 0, rfl⟩
  by_cases h1 : b = -1 ∧ a = -9223372036854775808
  · obtain ⟨rfl, rfl⟩ := h1
    go_enter Try.func16, Try.ntmps16
    go_wp2
    go_ret2
    exact ⟨ret2_eq (by simp [ceiV, divE]) (by simp [divE]), 0, rfl⟩
  have hE : Hid (divE a b = 0) := by unfold divE; rw [if_neg h0, if_neg h1]; exact rfl
  refine rf_ceil_run a b ha w _ (by simpa using h0) rfl ?_ hE h0 h1
  by_cases x : a = -9223372036854775808
  · have : ¬ b = -1 := fun e => h1 ⟨e, x⟩
    simp [x, this]
  · simp [x]

theorem mul_in {a b : Int} (h : I64 (a * b)) : Ending.returned (.tuple #[.int .i64 (wrap64 (a * b)), .int .i64 0]) = .returned (.tuple #[.int .i64 (fitV (a * b)), .int .i64 (fitE (a * b))]) := ret_yes h (wrap64_fit h)
theorem mul_abs_neg1 (b : Int) : (-1) * b = -b := by omega
set_option maxHeartbeats 400000 in
theorem rf_mul (a b : Int) (ha : I64 a) (hb : I64 b) (w : World) :
    Calls Try.prog 12 #[.int .i64 a, .int .i64 b] w (RetQ (.tuple #[.int .i64 (fitV (a * b)), .int .i64 (fitE (a * b))]) w) := by
  have Hs1 := fun w => rf_sub 0 b ⟨by decide, by decide⟩ hb w
  have Hs2 := fun w => rf_sub 0 a ⟨by decide, by decide⟩ ha w
  by_cases h0 : a = 0
  · subst h0
    have E := hid (Int.zero_mul b)
    rw [E.out]
    go_enter Try.func12, Try.ntmps12
    go_wp2_with fail
    go_ret2
    exact ⟨ret_yes ⟨by decide, by decide⟩ rfl, 0, rfl⟩
  have ea : (a == 0) = false := by simpa using h0
  by_cases h1 : b = 0
  · subst h1
    have E := hid (Int.mul_zero a)
    rw [E.out]
    clear h0
    go_enter Try.func12, Try.ntmps12
    go_wp2_with fail
    go_ret2
    exact ⟨ret_yes ⟨by decide, by decide⟩ rfl, 0, rfl⟩
  have eb : (b == 0) = false := by simpa using h1
  by_cases h2 : a = -1
  · subst h2
    rw [mul_abs_neg1]
    have HS := Hs1 w; rw [Int.zero_sub] at HS; have HS := hid HS; clear Hs1 Hs2
    clear h0 h1
    go_enter Try.func12, Try.ntmps12
    go_wp2_with fail
    refine HS.out.mono ?_
    rintro e w' ⟨rfl, n, rfl⟩
    go_wp2
    go_ret2
    exact ⟨rfl, _, rfl⟩
  have ea1 : (a == -1) = false := by simpa using h2
  by_cases h3 : b = -1
  · subst h3
    rw [Int.mul_comm, mul_abs_neg1]
    have HS := Hs2 w; rw [Int.zero_sub] at HS; have HS := hid HS; clear Hs1 Hs2
    clear h0 h1 h2
    go_enter Try.func12, Try.ntmps12
    go_wp2_with fail
    refine HS.out.mono ?_
    rintro e w' ⟨rfl, n, rfl⟩
    go_wp2
    go_ret2
    exact ⟨rfl, _, rfl⟩
  have eb1 : (b == -1) = false := by simpa using h3
  clear Hs1 Hs2 h2 h3
  rcases Int.lt_or_gt_of_ne h0 with hx | hx <;> rcases Int.lt_or_gt_of_ne h1 with hy | hy
  all_goals clear h0 h1
  · have hs := hid (prod_sign_nn hx hy)
    have ho := hid (over_nn' hx hy)
    go_enter Try.func12, Try.ntmps12
    go_wp2_with fail
    all_goals go_ret2
    · exact ⟨ret_no (by have := ho.out; omega), 0, rfl⟩
    · exact ⟨mul_in (by have := ho.out; have := hs.out; unfold I64; omega), 0, rfl⟩
  · have hs := hid (prod_sign_np hx hy)
    have ho := hid (over_np' hx hy)
    go_enter Try.func12, Try.ntmps12
    go_wp2_with fail
    all_goals go_ret2
    · exact ⟨ret_no (by have := ho.out; omega), 0, rfl⟩
    · exact ⟨mul_in (by have := ho.out; have := hs.out; unfold I64; omega), 0, rfl⟩
  · have hs := hid (prod_sign_pn hx hy)
    have ho := hid (over_pn' hx hy)
    go_enter Try.func12, Try.ntmps12
    go_wp2_with fail
    all_goals go_ret2
    · exact ⟨ret_no (by have := ho.out; omega), 0, rfl⟩
    · exact ⟨mul_in (by have := ho.out; have := hs.out; unfold I64; omega), 0, rfl⟩
  · have hs := hid (prod_sign_pp hx hy)
    have ho := hid (over_pp' hx hy)
    go_enter Try.func12, Try.ntmps12
    go_wp2_with fail
    all_goals go_ret2
    · exact ⟨ret_no (by have := ho.out; omega), 0, rfl⟩
    · exact ⟨mul_in (by have := ho.out; have := hs.out; unfold I64; omega), 0, rfl⟩
end Go.Proofs.Ytglhhhfcaljkdaa
