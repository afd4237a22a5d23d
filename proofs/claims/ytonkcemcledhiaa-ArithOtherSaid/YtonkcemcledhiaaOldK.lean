/- Old walks: a product of 64 bits. -/
import Derived.Test.YtonkcemcledhiaaProg
import Derived.Lib.Mul64
import Derived.Test.YtonkcemcledhiaaOldA
namespace Go.Proofs.Ytonkcemcledhiaa.Old
open Go.RowKit
set_option linter.unusedVariables false

set_option maxHeartbeats 400000 in
theorem ck_size (a : Int) (ha : I64 a) (w : World) :
    Calls Try.prog 165 #[.int .i64 a] w (RetQ (.int .u64 (sizeN a : Int)) w) := by
  go_enter Try.func165, Try.ntmps165
  go_wp2
  · go_ret
    exact ⟨ret1_eq (sizeN_neg ha ‹_›), 0, rfl⟩
  · go_ret
    exact ⟨ret1_eq (sizeN_pos ha ‹_›), 0, rfl⟩

namespace Mul64
theorem maskN (a : Nat) (ha : a < 18446744073709551616) : bits .and .u64 (a : Int) 4294967295 = ((a % 4294967296 : Nat) : Int) := by
  have h := bits_and_u64_nat a 4294967295 ha (by omega)
  have e : a &&& 4294967295 = a % 4294967296 := Nat.and_two_pow_sub_one_eq_mod a 32
  rw [e] at h
  exact h
theorem divN (a : Nat) : (a : Int) / 4294967296 = ((a / 4294967296 : Nat) : Int) := by omega
theorem mulN (a b : Nat) : (a : Int) * (b : Int) = ((a * b : Nat) : Int) := (Int.natCast_mul a b).symm
theorem addN (a b : Nat) : (a : Int) + (b : Int) = ((a + b : Nat) : Int) := (Int.natCast_add a b).symm
theorem wrapN (a : Nat) (ha : a < 18446744073709551616) : IntKind.u64.wrap (a : Int) = (a : Int) := by rw [IntKind.wrap_u64]; omega
theorem wrapM (a : Nat) : IntKind.u64.wrap (a : Int) = ((a % 18446744073709551616 : Nat) : Int) := by rw [IntKind.wrap_u64]; omega
end Mul64

set_option maxHeartbeats 1000000 in
theorem bits_mul64 (x y : Nat) (hx : x < 18446744073709551616) (hy : y < 18446744073709551616) (w : World) :
    Calls Try.prog 164 #[.int .u64 x, .int .u64 y] w (RetQ (.tuple #[.int .u64 ((x * y / 18446744073709551616 : Nat) : Int), .int .u64 ((x * y % 18446744073709551616 : Nat) : Int)]) w) := by
  obtain ⟨bd, bt, bw, hhi⟩ := Lib.mul64_hi x y hx hy
  have ba := Lib.half_mul_le (a := x / 4294967296) (b := y / 4294967296) (by omega) (by omega)
  have bb := Lib.half_mul_le (a := x / 4294967296) (b := y % 4294967296) (by omega) (by omega)
  have bc := Lib.half_mul_le (a := x % 4294967296) (b := y / 4294967296) (by omega) (by omega)
  have ba' : x / 4294967296 * (y / 4294967296) < 18446744073709551616 := by omega
  have bb' : x / 4294967296 * (y % 4294967296) < 18446744073709551616 := by omega
  have bc' : x % 4294967296 * (y / 4294967296) < 18446744073709551616 := by omega
  have bh1 : x / 4294967296 * (y / 4294967296) + (x / 4294967296 * (y % 4294967296) + x % 4294967296 * (y % 4294967296) / 4294967296) / 4294967296 < 18446744073709551616 := by omega
  have bh : x / 4294967296 * (y / 4294967296) + (x / 4294967296 * (y % 4294967296) + x % 4294967296 * (y % 4294967296) / 4294967296) / 4294967296 + ((x / 4294967296 * (y % 4294967296) + x % 4294967296 * (y % 4294967296) / 4294967296) % 4294967296 + x % 4294967296 * (y / 4294967296)) / 4294967296 < 18446744073709551616 := by omega
  have HH := hid hhi
  clear hhi
  go_enter Try.func164, Try.ntmps164
  go_wp2
  simp only [Mul64.maskN x hx, Mul64.maskN y hy, Mul64.divN, Mul64.mulN, Mul64.addN, Mul64.wrapN _ bd, Mul64.wrapN _ bb', Mul64.wrapN _ bt, Mul64.maskN _ bt, Mul64.wrapN _ bc', Mul64.wrapN _ bw, Mul64.wrapN _ ba', Mul64.wrapN _ bh1, Mul64.wrapN _ bh, Mul64.wrapM (x * y)]
  rw [HH.out]
  go_ret2
  exact RetQ.same

set_option maxHeartbeats 400000 in
theorem ck_mul (a b : Int) (ha : I64 a) (hb : I64 b) (w : World) :
    Calls Try.prog 138 #[.int .i64 a, .int .i64 b] w (RetQ (.tuple #[.int .i64 (fitV (a * b)), .int .i64 (fitE (a * b))]) w) := by
  have sa := sizeN_lt ha
  have sb := sizeN_lt hb
  obtain ⟨hi, hhi⟩ : ∃ hi, hi = sizeN a * sizeN b / 18446744073709551616 := ⟨_, rfl⟩
  obtain ⟨lo, hlo⟩ : ∃ lo, lo = sizeN a * sizeN b % 18446744073709551616 := ⟨_, rfl⟩
  have Hm := hid (bits_mul64 (sizeN a) (sizeN b) sa sb)
  rw [← hhi, ← hlo] at Hm
  have HHi := hid hhi; clear hhi
  have HLo := hid hlo; clear hlo
  clear sa sb
  go_enter Try.func138, Try.ntmps138
  go_wp2_with fail
  refine (ck_size a ha _).mono ?_
  rintro e w' ⟨rfl, n1, rfl⟩
  go_wp2_with fail
  refine (ck_size b hb _).mono ?_
  rintro e w' ⟨rfl, n2, rfl⟩
  go_wp2_with fail
  refine (Hm.out _).mono ?_
  rintro e w' ⟨rfl, n3, rfl⟩
  go_wp2
  all_goals go_ret2
  · have := fit_big (a := a) (b := b) (mul_hi (lo := lo) HHi.out (by simp_all))
    exact ⟨ret2_eq (by simp [fitV, this]) (by simp [fitE, this]), _, rfl⟩
  · have el := mul_lo HHi.out HLo.out (by simp_all)
    subst el
    have := (fit_same (by assumption)).1 (by assumption)
    exact ⟨ret2_eq (by simp [fitV, this]) (by simp [fitE, this]), _, rfl⟩
  · have el := mul_lo HHi.out HLo.out (by simp_all)
    subst el
    obtain ⟨h1, h2⟩ := (fit_same (by assumption)).2 (by assumption)
    rw [prod_pos (by assumption)] at h1
    exact ⟨ret2_eq (by rw [prod_pos (by assumption)]; unfold fitV; rw [if_pos (fitB_true.2 h1)]) (by rw [prod_pos (by assumption)]; unfold fitE; rw [if_pos (fitB_true.2 h1)]), _, rfl⟩
  · have el := mul_lo HHi.out HLo.out (by simp_all)
    subst el
    rename_i hs hq
    have := (fit_other hs).1 hq.2
    exact ⟨ret2_eq (by simp [fitV, this]) (by simp [fitE, this]), _, rfl⟩
  · have el := mul_lo HHi.out HLo.out (by simp_all)
    subst el
    rename_i hs hd hq
    obtain ⟨h1, h2⟩ := (fit_other (a := a) (b := b) hs).2 (by rcases hq with h | h <;> simp_all)
    exact ⟨ret2_eq (by rw [h2]; simp [fitV, fitB_true.2 h1]) (by simp [fitE, fitB_true.2 h1]), _, rfl⟩
  · simp_all
end Go.Proofs.Ytonkcemcledhiaa.Old
