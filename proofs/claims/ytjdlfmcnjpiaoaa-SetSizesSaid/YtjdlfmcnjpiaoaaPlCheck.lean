/- Plain arithmetic for the package check and its reference: no program in sight. -/
import Derived.RowKit
import Derived.Laws.Small
import Derived.IntWalk
import Derived.WalkKit
namespace Go.Proofs.Ytjdlfmcnjpiaoaa
open Go.RowKit
set_option linter.unusedVariables false

/-- A number of 64 bits. -/
def I64 (a : Int) : Prop := -9223372036854775808 ≤ a ∧ a ≤ 9223372036854775807

theorem I64.lo {a : Int} (h : I64 a) : -9223372036854775808 ≤ a := h.1
theorem I64.hi {a : Int} (h : I64 a) : a ≤ 9223372036854775807 := h.2

def fitB (n : Int) : Bool := decide (-9223372036854775808 ≤ n ∧ n ≤ 9223372036854775807)
theorem fitB_true {n : Int} : fitB n = true ↔ I64 n := by unfold fitB I64; simp
theorem fitB_false {n : Int} : fitB n = false ↔ (n < -9223372036854775808 ∨ 9223372036854775807 < n) := by
  unfold fitB; simp; omega

/-- The number, or nought; the error. -/
def fitV (n : Int) : Int := if fitB n then n else 0
def fitE (n : Int) : Int := if fitB n then 0 else 4

theorem wrap64_fit {n : Int} (h : I64 n) : wrap64 n = n := by unfold wrap64 I64 at *; omega

theorem add_over {a b : Int} (ha : I64 a) (hb : I64 b) (h : (a < 0 ↔ b < 0) ∧ ¬ (wrap64 (a + b) < 0 ↔ b < 0)) : fitB (a + b) = false := by
  rw [fitB_false]; unfold wrap64 I64 at *; omega
theorem add_fits {a b : Int} (ha : I64 a) (hb : I64 b) (h : ¬ ((a < 0 ↔ b < 0) ∧ ¬ (wrap64 (a + b) < 0 ↔ b < 0))) : I64 (a + b) := by
  unfold wrap64 I64 at *; omega
theorem sub_over {a b : Int} (ha : I64 a) (hb : I64 b) (h : ¬ (a < 0 ↔ b < 0) ∧ ¬ (wrap64 (a - b) < 0 ↔ a < 0)) : fitB (a - b) = false := by
  rw [fitB_false]; unfold wrap64 I64 at *; omega
theorem sub_fits {a b : Int} (ha : I64 a) (hb : I64 b) (h : ¬ (¬ (a < 0 ↔ b < 0) ∧ ¬ (wrap64 (a - b) < 0 ↔ a < 0))) : I64 (a - b) := by
  unfold wrap64 I64 at *; omega

/-! ### products -/
def sizeN (a : Int) : Nat := a.natAbs
theorem sizeN_lt {a : Int} (h : I64 a) : sizeN a < 18446744073709551616 := by unfold sizeN I64 at *; omega
theorem sizeN_neg {a : Int} (h : I64 a) (hn : a < 0) : IntKind.u64.wrap (-IntKind.u64.wrap a) = (sizeN a : Int) := by
  unfold sizeN I64 at *; rw [IntKind.wrap_u64, IntKind.wrap_u64]; omega
theorem sizeN_pos {a : Int} (h : I64 a) (hn : 0 ≤ a) : IntKind.u64.wrap a = (sizeN a : Int) := by
  unfold sizeN I64 at *; rw [IntKind.wrap_u64]; omega

theorem prod_pos {a b : Int} (h : (a < 0 ↔ b < 0)) : a * b = ((sizeN a * sizeN b : Nat) : Int) := by
  unfold sizeN
  rw [Int.natCast_mul]
  by_cases ha : a < 0
  · have hb := h.1 ha
    rw [show ((a.natAbs : Nat) : Int) = -a by omega, show ((b.natAbs : Nat) : Int) = -b by omega, Int.neg_mul_neg]
  · have hb : ¬ b < 0 := fun x => ha (h.2 x)
    rw [show ((a.natAbs : Nat) : Int) = a by omega, show ((b.natAbs : Nat) : Int) = b by omega]
theorem prod_neg {a b : Int} (h : ¬ (a < 0 ↔ b < 0)) : a * b = - ((sizeN a * sizeN b : Nat) : Int) := by
  unfold sizeN
  rw [Int.natCast_mul]
  by_cases ha : a < 0
  · have hb : ¬ b < 0 := fun x => h ⟨fun _ => x, fun _ => ha⟩
    rw [show ((a.natAbs : Nat) : Int) = -a by omega, show ((b.natAbs : Nat) : Int) = b by omega, Int.neg_mul, Int.neg_neg]
  · have hb : b < 0 := Decidable.byContradiction fun x => h ⟨fun y => absurd y ha, fun y => absurd y x⟩
    rw [show ((a.natAbs : Nat) : Int) = a by omega, show ((b.natAbs : Nat) : Int) = -b by omega, Int.mul_neg, Int.neg_neg]

theorem mul_hi {p hi lo : Nat} (h1 : hi = p / 18446744073709551616) (hne : ¬ (hi : Int) = 0) : 18446744073709551616 ≤ p := by
  subst h1; omega
theorem mul_lo {p hi lo : Nat} (h1 : hi = p / 18446744073709551616) (h2 : lo = p % 18446744073709551616) (he : (hi : Int) = 0) : lo = p := by
  subst h1 h2; omega

theorem fit_big {a b : Int} (h : 18446744073709551616 ≤ sizeN a * sizeN b) : fitB (a * b) = false := by
  rw [fitB_false]
  by_cases hs : a < 0 ↔ b < 0
  · rw [prod_pos hs]; omega
  · rw [prod_neg hs]; omega
theorem fit_same {a b : Int} (hs : a < 0 ↔ b < 0) : (9223372036854775807 < ((sizeN a * sizeN b : Nat) : Int) → fitB (a * b) = false) ∧
    (((sizeN a * sizeN b : Nat) : Int) ≤ 9223372036854775807 → I64 (a * b) ∧ wrap64 ((sizeN a * sizeN b : Nat) : Int) = a * b) := by
  rw [prod_pos hs, fitB_false]
  unfold I64 wrap64
  omega
theorem fit_other {a b : Int} (hs : ¬ (a < 0 ↔ b < 0)) : (9223372036854775808 < ((sizeN a * sizeN b : Nat) : Int) → fitB (a * b) = false) ∧
    (((sizeN a * sizeN b : Nat) : Int) ≤ 9223372036854775808 → I64 (a * b) ∧ wrap64 (IntKind.u64.wrap (-((sizeN a * sizeN b : Nat) : Int))) = a * b) := by
  rw [prod_neg hs, fitB_false, IntKind.wrap_u64]
  unfold I64 wrap64
  omega
theorem neg_wrap {p : Nat} (h : (p : Int) ≤ 9223372036854775808) : wrap64 (IntKind.u64.wrap (-(p : Int))) = -(p : Int) := by
  rw [IntKind.wrap_u64]; unfold wrap64; omega

/-! ### quotients: rounded down, rounded up -/
theorem small_mul {b x m : Int} (h : b * x = m) (h1 : 0 < b → -b < m ∧ m < b) (h2 : b < 0 → b < m ∧ m < -b) (hb : b ≠ 0) : x = 0 := by
  have e := congrArg Int.natAbs h
  rw [Int.natAbs_mul] at e
  have hm : m.natAbs < b.natAbs := by omega
  rcases Nat.eq_zero_or_pos x.natAbs with hx | hx
  · omega
  · have := Nat.mul_le_mul_left b.natAbs hx
    omega

def flo (a b : Int) : Int := a.fdiv b
def cei (a b : Int) : Int := -((-a).fdiv b)

theorem flo_spec (a b : Int) (hb : b ≠ 0) : b * flo a b + a.fmod b = a ∧ (0 < b → 0 ≤ a.fmod b ∧ a.fmod b < b) ∧ (b < 0 → a.fmod b ≤ 0 ∧ b < a.fmod b) := by
  refine ⟨Int.mul_fdiv_add_fmod a b, fun h => ⟨Int.fmod_nonneg_of_pos a h, Int.fmod_lt_of_pos a h⟩, fun h => ?_⟩
  have h1 := Int.fmod_nonneg_of_pos (-a) (b := -b) (by omega)
  have h2 := Int.fmod_lt_of_pos (-a) (b := -b) (by omega)
  rw [Int.neg_fmod_neg] at h1 h2
  omega

/-- What is left says which quotient it is. -/
theorem flo_unique {a b q r : Int} (hb : b ≠ 0) (h : b * q + r = a) (hp : 0 < b → 0 ≤ r ∧ r < b) (hn : b < 0 → r ≤ 0 ∧ b < r) : flo a b = q := by
  obtain ⟨h1, h2, h3⟩ := flo_spec a b hb
  have e : b * (flo a b - q) = r - a.fmod b := by rw [Int.mul_sub]; omega
  have := small_mul e (fun h => by have := h2 h; have := hp h; omega) (fun h => by have := h3 h; have := hn h; omega) hb
  omega

theorem trem_bounds (a b : Int) (hb : b ≠ 0) : b * a.tdiv b + a.tmod b = a ∧ (0 ≤ a → 0 ≤ a.tmod b) ∧ (a ≤ 0 → a.tmod b ≤ 0) ∧ (0 < b → -b < a.tmod b ∧ a.tmod b < b) ∧ (b < 0 → b < a.tmod b ∧ a.tmod b < -b) := by
  have h1 := Int.mul_tdiv_add_tmod a b
  have hl : (a.tmod b).natAbs < b.natAbs := by
    rw [Int.natAbs_tmod]; exact Nat.mod_lt _ (by omega)
  refine ⟨h1, fun h => Int.tmod_nonneg b h, fun h => ?_, fun h => by omega, fun h => by omega⟩
  have := Int.tmod_nonneg b (a := -a) (by omega)
  rw [Int.neg_tmod] at this
  omega

/-- The quotient that Go makes, and the one below. -/
theorem flo_of_t (a b : Int) (hb : b ≠ 0) : flo a b = if a.tmod b ≠ 0 ∧ ¬ (a.tmod b < 0 ↔ b < 0) then a.tdiv b - 1 else a.tdiv b := by
  obtain ⟨h1, h2, h3, h4, h5⟩ := trem_bounds a b hb
  split
  · rename_i hc
    refine flo_unique (r := a.tmod b + b) hb (by rw [Int.mul_sub]; omega) (fun h => by have := h4 h; omega) (fun h => by have := h5 h; omega)
  · rename_i hc
    refine flo_unique (r := a.tmod b) hb h1 (fun h => by have := h4 h; omega) (fun h => by have := h5 h; omega)
theorem cei_of_t (a b : Int) (hb : b ≠ 0) : cei a b = if a.tmod b ≠ 0 ∧ (a.tmod b < 0 ↔ b < 0) then a.tdiv b + 1 else a.tdiv b := by
  obtain ⟨h1, h2, h3, h4, h5⟩ := trem_bounds a b hb
  have key : ∀ q : Int, flo (-a) b = -q → cei a b = q := by
    intro q h; unfold cei flo at *; omega
  split
  · rename_i hc
    refine key _ (flo_unique (r := b - a.tmod b) hb ?_ (fun h => by have := h4 h; omega) (fun h => by have := h5 h; omega))
    rw [Int.mul_neg, Int.mul_add]; omega
  · rename_i hc
    refine key _ (flo_unique (r := - a.tmod b) hb ?_ (fun h => by have := h4 h; omega) (fun h => by have := h5 h; omega))
    rw [Int.mul_neg]; omega

theorem cei_flo (a b : Int) (hb : b ≠ 0) : cei a b = if a.tmod b = 0 then flo a b else flo a b + 1 := by
  rw [cei_of_t a b hb, flo_of_t a b hb]
  by_cases h : a.tmod b = 0
  · simp [h]
  · by_cases h' : (a.tmod b < 0 ↔ b < 0) <;> simp [h, h']

theorem tdiv_sign {a b : Int} (hb : b ≠ 0) (h : ¬ a.tmod b = 0) : (a.tmod b < 0) = (a < 0) := by
  obtain ⟨_, h2, h3, _, _⟩ := trem_bounds a b hb
  have : a.tmod b < 0 ↔ a < 0 := by omega
  exact propext this
theorem tdiv_small {a b : Int} (ha : I64 a) (h : 2 ≤ b.natAbs) : -4611686018427387904 ≤ a.tdiv b ∧ a.tdiv b ≤ 4611686018427387904 := by
  have h1 : (a.tdiv b).natAbs = a.natAbs / b.natAbs := Int.natAbs_tdiv a b
  have h2 : a.natAbs / b.natAbs ≤ a.natAbs / 2 := Nat.div_le_div_left h (by omega)
  unfold I64 at ha
  omega
theorem tdiv_cases {a b : Int} (ha : I64 a) (h0 : b ≠ 0) (h : ¬ (b = -1 ∧ a = -9223372036854775808)) :
    (a.tmod b = 0 ∧ I64 (a.tdiv b)) ∨ (-4611686018427387904 ≤ a.tdiv b ∧ a.tdiv b ≤ 4611686018427387904) := by
  by_cases h2 : 2 ≤ b.natAbs
  · exact .inr (tdiv_small ha h2)
  · left
    rcases (show b = 1 ∨ b = -1 by omega) with rfl | rfl
    · simp only [Int.tmod_one, Int.tdiv_one]; exact ⟨trivial, ha⟩
    · rw [Int.tmod_neg, Int.tdiv_neg]
      simp only [Int.tmod_one, Int.tdiv_one, true_and]
      have : ¬ a = -9223372036854775808 := fun e => h ⟨rfl, e⟩
      unfold I64 at *; omega
theorem tdiv_fits {a b : Int} (ha : I64 a) (h0 : b ≠ 0) (h : ¬ (b = -1 ∧ a = -9223372036854775808)) : I64 (a.tdiv b) := by
  rcases tdiv_cases ha h0 h with h | h
  · exact h.2
  · unfold I64; omega
theorem flo_fits {a b : Int} (ha : I64 a) (h0 : b ≠ 0) (h : ¬ (b = -1 ∧ a = -9223372036854775808)) : I64 (flo a b) := by
  rw [flo_of_t a b h0]
  rcases tdiv_cases ha h0 h with h | h
  · rw [if_neg (by omega)]; exact h.2
  · unfold I64; split <;> omega
theorem cei_fits {a b : Int} (ha : I64 a) (h0 : b ≠ 0) (h : ¬ (b = -1 ∧ a = -9223372036854775808)) : I64 (cei a b) := by
  rw [cei_of_t a b h0]
  rcases tdiv_cases ha h0 h with h | h
  · rw [if_neg (by omega)]; exact h.2
  · unfold I64; split <;> omega

/-- A quotient's error: 2, 4 or nought. -/
def divE (a b : Int) : Int := if b = 0 then 2 else if b = -1 ∧ a = -9223372036854775808 then 4 else 0
def floV (a b : Int) : Int := if divE a b = 0 then flo a b else 0
def ceiV (a b : Int) : Int := if divE a b = 0 then cei a b else 0
theorem divE_zero {a b : Int} (h : divE a b = 0) : b ≠ 0 ∧ ¬ (b = -1 ∧ a = -9223372036854775808) := by
  unfold divE at h
  split at h
  · omega
  · split at h <;> constructor <;> first | assumption | omega

theorem wrap_sub (a x : Int) : wrap64 (a - wrap64 x) = wrap64 (a - x) := by unfold wrap64; omega
/-- What is left of both quotients. -/
theorem rests_facts {a b : Int} (ha : I64 a) (hb : I64 b) (h0 : b ≠ 0) (h : ¬ (b = -1 ∧ a = -9223372036854775808)) :
    ∃ q p r s : Int, flo a b = q ∧ cei a b = p ∧ wrap64 (a - wrap64 (q * b)) = r ∧ wrap64 (a - wrap64 (p * b)) = s ∧ I64 q ∧ I64 p ∧
      ((p = q ∧ r = 0 ∧ s = 0) ∨ (p = q + 1 ∧ r ≠ 0 ∧ s = r - b ∧ (0 < b → 0 < r ∧ r < b) ∧ (b < 0 → b < r ∧ r < 0))) := by
  obtain ⟨h1, h2, h3⟩ := flo_spec a b h0
  have e1 : a - flo a b * b = a.fmod b := by rw [Int.mul_comm]; omega
  have hf := flo_fits ha h0 h
  have hc := cei_fits ha h0 h
  have hr : I64 (a.fmod b) := by
    unfold I64 at *
    rcases Int.lt_or_gt_of_ne h0 with hx | hx
    · have := h3 hx; omega
    · have := h2 hx; omega
  have hcf := cei_flo a b h0
  have hz : a.tmod b = 0 ↔ a.fmod b = 0 := ⟨fun x => Int.fmod_eq_zero_of_dvd (Int.dvd_iff_tmod_eq_zero.mpr x), fun x => Int.dvd_iff_tmod_eq_zero.mp (Int.dvd_of_fmod_eq_zero x)⟩
  refine ⟨_, _, _, _, rfl, rfl, rfl, rfl, hf, hc, ?_⟩
  rw [wrap_sub, wrap_sub, e1, wrap64_fit hr]
  by_cases hm : a.fmod b = 0
  · left
    rw [if_pos (hz.2 hm)] at hcf
    rw [hcf, e1, wrap64_fit hr]
    exact ⟨rfl, hm, hm⟩
  · right
    rw [if_neg (fun x => hm (hz.1 x))] at hcf
    have e2 : a - cei a b * b = a.fmod b - b := by rw [hcf, Int.add_mul]; omega
    rw [e2]
    have hs : I64 (a.fmod b - b) := by
      unfold I64 at *
      rcases Int.lt_or_gt_of_ne h0 with hx | hx
      · have := h3 hx; omega
      · have := h2 hx; omega
    rw [wrap64_fit hs]
    exact ⟨hcf, hm, rfl, fun hx => by have := h2 hx; omega, fun hx => by have := h3 hx; omega⟩

/-! ### the reference's products: by the quotients that there may be -/
theorem over_pp {a b : Int} (_ha : 0 < a) (hb : 0 < b) : (9223372036854775807 : Int).tdiv b < a ↔ 9223372036854775807 < a * b := by
  rw [Int.tdiv_eq_ediv_of_nonneg (by omega)]
  exact Int.ediv_lt_iff_lt_mul hb
theorem over_neg_t (M b : Int) : (-M).tdiv b = - (M.tdiv b) := Int.neg_tdiv ..
theorem over_pn {a b : Int} (ha : 0 < a) (_hb : b < 0) : b < (-9223372036854775808 : Int).tdiv a ↔ a * b < -9223372036854775808 := by
  rw [show (-9223372036854775808 : Int) = -(9223372036854775808 : Int) from rfl, over_neg_t, Int.tdiv_eq_ediv_of_nonneg (by omega)]
  have := Int.ediv_lt_iff_lt_mul (a := 9223372036854775808) (b := -b) ha
  rw [Int.neg_mul, Int.mul_comm b a] at this
  omega
theorem over_np {a b : Int} (_ha : a < 0) (hb : 0 < b) : a < (-9223372036854775808 : Int).tdiv b ↔ a * b < -9223372036854775808 := by
  rw [show (-9223372036854775808 : Int) = -(9223372036854775808 : Int) from rfl, over_neg_t, Int.tdiv_eq_ediv_of_nonneg (by omega)]
  have := Int.ediv_lt_iff_lt_mul (a := 9223372036854775808) (b := -a) hb
  rw [Int.neg_mul] at this
  omega
theorem over_nn {a b : Int} (_ha : a < 0) (hb : b < 0) : a < (9223372036854775807 : Int).tdiv b ↔ 9223372036854775807 < a * b := by
  have e : (9223372036854775807 : Int).tdiv b = -((9223372036854775807 : Int).tdiv (-b)) := by rw [Int.tdiv_neg]; omega
  rw [e, Int.tdiv_eq_ediv_of_nonneg (by omega)]
  have := Int.ediv_lt_iff_lt_mul (a := 9223372036854775807) (b := -a) (c := -b) (by omega)
  rw [Int.neg_mul_neg] at this
  omega
theorem tdiv_in (M : Nat) {b : Int} (hb : b ≠ 0) : -(M : Int) ≤ (M : Int).tdiv b ∧ (M : Int).tdiv b ≤ M := by
  have h1 : ((M : Int).tdiv b).natAbs = (M : Int).natAbs / b.natAbs := Int.natAbs_tdiv _ _
  have h2 : (M : Int).natAbs / b.natAbs ≤ (M : Int).natAbs := Nat.div_le_self _ _
  omega
theorem over_pp' {a b : Int} (_ha : 0 < a) (hb : 0 < b) : 9223372036854775807 / b < a ↔ 9223372036854775807 < a * b := Int.ediv_lt_iff_lt_mul hb
theorem over_pn' {a b : Int} (ha : 0 < a) (hb : b < 0) : b < wrap64 (-Int.tdiv 9223372036854775808 a) ↔ a * b < -9223372036854775808 := by
  rw [← over_pn ha hb, show (-9223372036854775808 : Int) = -(9223372036854775808 : Int) from rfl, over_neg_t, wrap64_fit]
  rw [Int.tdiv_eq_ediv_of_nonneg (by omega)]
  have h1 := Int.ediv_nonneg (a := 9223372036854775808) (b := a) (by omega) (by omega)
  have h2 := Int.ediv_le_self (a := 9223372036854775808) a (by omega)
  unfold I64; omega
theorem over_np' {a b : Int} (ha : a < 0) (hb : 0 < b) : a < wrap64 (-Int.tdiv 9223372036854775808 b) ↔ a * b < -9223372036854775808 := by
  rw [Int.mul_comm]; exact over_pn' hb ha
theorem over_nn' {a b : Int} (ha : a < 0) (hb : b < 0) : a < wrap64 (Int.tdiv 9223372036854775807 b) ↔ 9223372036854775807 < a * b := by
  rw [← over_nn ha hb, wrap64_fit]
  have := tdiv_in 9223372036854775807 (b := b) (by omega)
  rw [show ((9223372036854775807 : Nat) : Int) = 9223372036854775807 from rfl] at this
  unfold I64; omega
theorem prod_sign_pp {a b : Int} (ha : 0 < a) (hb : 0 < b) : 0 < a * b := Int.mul_pos ha hb
theorem prod_sign_pn {a b : Int} (ha : 0 < a) (hb : b < 0) : a * b < 0 := Int.mul_neg_of_pos_of_neg ha hb
theorem prod_sign_np {a b : Int} (ha : a < 0) (hb : 0 < b) : a * b < 0 := Int.mul_neg_of_neg_of_pos ha hb
theorem prod_sign_nn {a b : Int} (ha : a < 0) (hb : b < 0) : 0 < a * b := Int.mul_pos_of_neg_of_neg ha hb

end Go.Proofs.Ytjdlfmcnjpiaoaa
