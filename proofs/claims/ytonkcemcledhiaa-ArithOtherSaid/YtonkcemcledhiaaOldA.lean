/- Old walks over sets (PlCheck, Base). -/
import Derived.RowKit
import Derived.Laws.Small
import Derived.IntWalk
import Derived.WalkKit
import Derived.WalkSpells
import Derived.WalkLawsBesides
import Derived.Handy
import Derived.ProofKit
import Derived.Carry
import Derived.ChangeOld
import Derived.OpenShut
import Derived.Below
import Derived.Deep.Slices
import Derived.Deep.Fields
import Derived.Lib.SmallJoins
import Derived.Deep.Draws
import Derived.Deep.QuietTactic
import Derived.BigQuiet
/- Plain arithmetic for the package check and its reference: no program in sight. -/
namespace Go.Proofs.Ytonkcemcledhiaa.Old
open Go.RowKit
set_option linter.unusedVariables false

/-- A number of 64 bits. -/
def I64 (a : Int) : Prop := -9223372036854775808 ≤ a ∧ a ≤ 9223372036854775807

theorem I64.lo {a : Int} (h : I64 a) : -9223372036854775808 ≤ a := h.1
theorem I64.hi {a : Int} (h : I64 a) : a ≤ 9223372036854775807 := h.2

def fitB (n : Int) : Bool := decide (-9223372036854775808 ≤ n ∧ n ≤ 9223372036854775807)
theorem fitB_true {n : Int} : fitB n = true ↔ I64 n := by unfold fitB I64; simp
theorem fitB_false {n : Int} : fitB n = false ↔ (n < -9223372036854775808 ∨ 9223372036854775807 < n) := by
  unfold fitB; simp; omega

/-- The number, or nought; the error. -/
def fitV (n : Int) : Int := if fitB n then n else 0
def fitE (n : Int) : Int := if fitB n then 0 else 4

theorem wrap64_fit {n : Int} (h : I64 n) : wrap64 n = n := by unfold wrap64 I64 at *; omega

theorem add_over {a b : Int} (ha : I64 a) (hb : I64 b) (h : (a < 0 ↔ b < 0) ∧ ¬ (wrap64 (a + b) < 0 ↔ b < 0)) : fitB (a + b) = false := by
  rw [fitB_false]; unfold wrap64 I64 at *; omega
theorem add_fits {a b : Int} (ha : I64 a) (hb : I64 b) (h : ¬ ((a < 0 ↔ b < 0) ∧ ¬ (wrap64 (a + b) < 0 ↔ b < 0))) : I64 (a + b) := by
  unfold wrap64 I64 at *; omega
theorem sub_over {a b : Int} (ha : I64 a) (hb : I64 b) (h : ¬ (a < 0 ↔ b < 0) ∧ ¬ (wrap64 (a - b) < 0 ↔ a < 0)) : fitB (a - b) = false := by
  rw [fitB_false]; unfold wrap64 I64 at *; omega
theorem sub_fits {a b : Int} (ha : I64 a) (hb : I64 b) (h : ¬ (¬ (a < 0 ↔ b < 0) ∧ ¬ (wrap64 (a - b) < 0 ↔ a < 0))) : I64 (a - b) := by
  unfold wrap64 I64 at *; omega

/-! ### products -/
def sizeN (a : Int) : Nat := a.natAbs
theorem sizeN_lt {a : Int} (h : I64 a) : sizeN a < 18446744073709551616 := by unfold sizeN I64 at *; omega
theorem sizeN_neg {a : Int} (h : I64 a) (hn : a < 0) : IntKind.u64.wrap (-IntKind.u64.wrap a) = (sizeN a : Int) := by
  unfold sizeN I64 at *; rw [IntKind.wrap_u64, IntKind.wrap_u64]; omega
theorem sizeN_pos {a : Int} (h : I64 a) (hn : 0 ≤ a) : IntKind.u64.wrap a = (sizeN a : Int) := by
  unfold sizeN I64 at *; rw [IntKind.wrap_u64]; omega

theorem prod_pos {a b : Int} (h : (a < 0 ↔ b < 0)) : a * b = ((sizeN a * sizeN b : Nat) : Int) := by
  unfold sizeN
  rw [Int.natCast_mul]
  by_cases ha : a < 0
  · have hb := h.1 ha
    rw [show ((a.natAbs : Nat) : Int) = -a by omega, show ((b.natAbs : Nat) : Int) = -b by omega, Int.neg_mul_neg]
  · have hb : ¬ b < 0 := fun x => ha (h.2 x)
    rw [show ((a.natAbs : Nat) : Int) = a by omega, show ((b.natAbs : Nat) : Int) = b by omega]
theorem prod_neg {a b : Int} (h : ¬ (a < 0 ↔ b < 0)) : a * b = - ((sizeN a * sizeN b : Nat) : Int) := by
  unfold sizeN
  rw [Int.natCast_mul]
  by_cases ha : a < 0
  · have hb : ¬ b < 0 := fun x => h ⟨fun _ => x, fun _ => ha⟩
    rw [show ((a.natAbs : Nat) : Int) = -a by omega, show ((b.natAbs : Nat) : Int) = b by omega, Int.neg_mul, Int.neg_neg]
  · have hb : b < 0 := Decidable.byContradiction fun x => h ⟨fun y => absurd y ha, fun y => absurd y x⟩
    rw [show ((a.natAbs : Nat) : Int) = a by omega, show ((b.natAbs : Nat) : Int) = -b by omega, Int.mul_neg, Int.neg_neg]

theorem mul_hi {p hi lo : Nat} (h1 : hi = p / 18446744073709551616) (hne : ¬ (hi : Int) = 0) : 18446744073709551616 ≤ p := by
  subst h1; omega
theorem mul_lo {p hi lo : Nat} (h1 : hi = p / 18446744073709551616) (h2 : lo = p % 18446744073709551616) (he : (hi : Int) = 0) : lo = p := by
  subst h1 h2; omega

theorem fit_big {a b : Int} (h : 18446744073709551616 ≤ sizeN a * sizeN b) : fitB (a * b) = false := by
  rw [fitB_false]
  by_cases hs : a < 0 ↔ b < 0
  · rw [prod_pos hs]; omega
  · rw [prod_neg hs]; omega
theorem fit_same {a b : Int} (hs : a < 0 ↔ b < 0) : (9223372036854775807 < ((sizeN a * sizeN b : Nat) : Int) → fitB (a * b) = false) ∧
    (((sizeN a * sizeN b : Nat) : Int) ≤ 9223372036854775807 → I64 (a * b) ∧ wrap64 ((sizeN a * sizeN b : Nat) : Int) = a * b) := by
  rw [prod_pos hs, fitB_false]
  unfold I64 wrap64
  omega
theorem fit_other {a b : Int} (hs : ¬ (a < 0 ↔ b < 0)) : (9223372036854775808 < ((sizeN a * sizeN b : Nat) : Int) → fitB (a * b) = false) ∧
    (((sizeN a * sizeN b : Nat) : Int) ≤ 9223372036854775808 → I64 (a * b) ∧ wrap64 (IntKind.u64.wrap (-((sizeN a * sizeN b : Nat) : Int))) = a * b) := by
  rw [prod_neg hs, fitB_false, IntKind.wrap_u64]
  unfold I64 wrap64
  omega
theorem neg_wrap {p : Nat} (h : (p : Int) ≤ 9223372036854775808) : wrap64 (IntKind.u64.wrap (-(p : Int))) = -(p : Int) := by
  rw [IntKind.wrap_u64]; unfold wrap64; omega

/-! ### quotients: rounded down, rounded up -/
theorem small_mul {b x m : Int} (h : b * x = m) (h1 : 0 < b → -b < m ∧ m < b) (h2 : b < 0 → b < m ∧ m < -b) (hb : b ≠ 0) : x = 0 := by
  have e := congrArg Int.natAbs h
  rw [Int.natAbs_mul] at e
  have hm : m.natAbs < b.natAbs := by omega
  rcases Nat.eq_zero_or_pos x.natAbs with hx | hx
  · omega
  · have := Nat.mul_le_mul_left b.natAbs hx
    omega

def flo (a b : Int) : Int := a.fdiv b
def cei (a b : Int) : Int := -((-a).fdiv b)

theorem flo_spec (a b : Int) (hb : b ≠ 0) : b * flo a b + a.fmod b = a ∧ (0 < b → 0 ≤ a.fmod b ∧ a.fmod b < b) ∧ (b < 0 → a.fmod b ≤ 0 ∧ b < a.fmod b) := by
  refine ⟨Int.mul_fdiv_add_fmod a b, fun h => ⟨Int.fmod_nonneg_of_pos a h, Int.fmod_lt_of_pos a h⟩, fun h => ?_⟩
  have h1 := Int.fmod_nonneg_of_pos (-a) (b := -b) (by omega)
  have h2 := Int.fmod_lt_of_pos (-a) (b := -b) (by omega)
  rw [Int.neg_fmod_neg] at h1 h2
  omega

/-- What is left says which quotient it is. -/
theorem flo_unique {a b q r : Int} (hb : b ≠ 0) (h : b * q + r = a) (hp : 0 < b → 0 ≤ r ∧ r < b) (hn : b < 0 → r ≤ 0 ∧ b < r) : flo a b = q := by
  obtain ⟨h1, h2, h3⟩ := flo_spec a b hb
  have e : b * (flo a b - q) = r - a.fmod b := by rw [Int.mul_sub]; omega
  have := small_mul e (fun h => by have := h2 h; have := hp h; omega) (fun h => by have := h3 h; have := hn h; omega) hb
  omega

theorem trem_bounds (a b : Int) (hb : b ≠ 0) : b * a.tdiv b + a.tmod b = a ∧ (0 ≤ a → 0 ≤ a.tmod b) ∧ (a ≤ 0 → a.tmod b ≤ 0) ∧ (0 < b → -b < a.tmod b ∧ a.tmod b < b) ∧ (b < 0 → b < a.tmod b ∧ a.tmod b < -b) := by
  have h1 := Int.mul_tdiv_add_tmod a b
  have hl : (a.tmod b).natAbs < b.natAbs := by
    rw [Int.natAbs_tmod]; exact Nat.mod_lt _ (by omega)
  refine ⟨h1, fun h => Int.tmod_nonneg b h, fun h => ?_, fun h => by omega, fun h => by omega⟩
  have := Int.tmod_nonneg b (a := -a) (by omega)
  rw [Int.neg_tmod] at this
  omega

/-- The quotient that Go makes, and the one below. -/
theorem flo_of_t (a b : Int) (hb : b ≠ 0) : flo a b = if a.tmod b ≠ 0 ∧ ¬ (a.tmod b < 0 ↔ b < 0) then a.tdiv b - 1 else a.tdiv b := by
  obtain ⟨h1, h2, h3, h4, h5⟩ := trem_bounds a b hb
  split
  · rename_i hc
    refine flo_unique (r := a.tmod b + b) hb (by rw [Int.mul_sub]; omega) (fun h => by have := h4 h; omega) (fun h => by have := h5 h; omega)
  · rename_i hc
    refine flo_unique (r := a.tmod b) hb h1 (fun h => by have := h4 h; omega) (fun h => by have := h5 h; omega)
theorem cei_of_t (a b : Int) (hb : b ≠ 0) : cei a b = if a.tmod b ≠ 0 ∧ (a.tmod b < 0 ↔ b < 0) then a.tdiv b + 1 else a.tdiv b := by
  obtain ⟨h1, h2, h3, h4, h5⟩ := trem_bounds a b hb
  have key : ∀ q : Int, flo (-a) b = -q → cei a b = q := by
    intro q h; unfold cei flo at *; omega
  split
  · rename_i hc
    refine key _ (flo_unique (r := b - a.tmod b) hb ?_ (fun h => by have := h4 h; omega) (fun h => by have := h5 h; omega))
    rw [Int.mul_neg, Int.mul_add]; omega
  · rename_i hc
    refine key _ (flo_unique (r := - a.tmod b) hb ?_ (fun h => by have := h4 h; omega) (fun h => by have := h5 h; omega))
    rw [Int.mul_neg]; omega

theorem cei_flo (a b : Int) (hb : b ≠ 0) : cei a b = if a.tmod b = 0 then flo a b else flo a b + 1 := by
  rw [cei_of_t a b hb, flo_of_t a b hb]
  by_cases h : a.tmod b = 0
  · simp [h]
  · by_cases h' : (a.tmod b < 0 ↔ b < 0) <;> simp [h, h']

theorem tdiv_sign {a b : Int} (hb : b ≠ 0) (h : ¬ a.tmod b = 0) : (a.tmod b < 0) = (a < 0) := by
  obtain ⟨_, h2, h3, _, _⟩ := trem_bounds a b hb
  have : a.tmod b < 0 ↔ a < 0 := by omega
  exact propext this
theorem tdiv_small {a b : Int} (ha : I64 a) (h : 2 ≤ b.natAbs) : -4611686018427387904 ≤ a.tdiv b ∧ a.tdiv b ≤ 4611686018427387904 := by
  have h1 : (a.tdiv b).natAbs = a.natAbs / b.natAbs := Int.natAbs_tdiv a b
  have h2 : a.natAbs / b.natAbs ≤ a.natAbs / 2 := Nat.div_le_div_left h (by omega)
  unfold I64 at ha
  omega
theorem tdiv_cases {a b : Int} (ha : I64 a) (h0 : b ≠ 0) (h : ¬ (b = -1 ∧ a = -9223372036854775808)) :
    (a.tmod b = 0 ∧ I64 (a.tdiv b)) ∨ (-4611686018427387904 ≤ a.tdiv b ∧ a.tdiv b ≤ 4611686018427387904) := by
  by_cases h2 : 2 ≤ b.natAbs
  · exact .inr (tdiv_small ha h2)
  · left
    rcases (show b = 1 ∨ b = -1 by omega) with rfl | rfl
    · simp only [Int.tmod_one, Int.tdiv_one]; exact ⟨trivial, ha⟩
    · rw [Int.tmod_neg, Int.tdiv_neg]
      simp only [Int.tmod_one, Int.tdiv_one, true_and]
      have : ¬ a = -9223372036854775808 := fun e => h ⟨rfl, e⟩
      unfold I64 at *; omega
theorem tdiv_fits {a b : Int} (ha : I64 a) (h0 : b ≠ 0) (h : ¬ (b = -1 ∧ a = -9223372036854775808)) : I64 (a.tdiv b) := by
  rcases tdiv_cases ha h0 h with h | h
  · exact h.2
  · unfold I64; omega
theorem flo_fits {a b : Int} (ha : I64 a) (h0 : b ≠ 0) (h : ¬ (b = -1 ∧ a = -9223372036854775808)) : I64 (flo a b) := by
  rw [flo_of_t a b h0]
  rcases tdiv_cases ha h0 h with h | h
  · rw [if_neg (by omega)]; exact h.2
  · unfold I64; split <;> omega
theorem cei_fits {a b : Int} (ha : I64 a) (h0 : b ≠ 0) (h : ¬ (b = -1 ∧ a = -9223372036854775808)) : I64 (cei a b) := by
  rw [cei_of_t a b h0]
  rcases tdiv_cases ha h0 h with h | h
  · rw [if_neg (by omega)]; exact h.2
  · unfold I64; split <;> omega

/-- A quotient's error: 2, 4 or nought. -/
def divE (a b : Int) : Int := if b = 0 then 2 else if b = -1 ∧ a = -9223372036854775808 then 4 else 0
def floV (a b : Int) : Int := if divE a b = 0 then flo a b else 0
def ceiV (a b : Int) : Int := if divE a b = 0 then cei a b else 0
theorem divE_zero {a b : Int} (h : divE a b = 0) : b ≠ 0 ∧ ¬ (b = -1 ∧ a = -9223372036854775808) := by
  unfold divE at h
  split at h
  · omega
  · split at h <;> constructor <;> first | assumption | omega

theorem wrap_sub (a x : Int) : wrap64 (a - wrap64 x) = wrap64 (a - x) := by unfold wrap64; omega
/-- What is left of both quotients. -/
theorem rests_facts {a b : Int} (ha : I64 a) (hb : I64 b) (h0 : b ≠ 0) (h : ¬ (b = -1 ∧ a = -9223372036854775808)) :
    ∃ q p r s : Int, flo a b = q ∧ cei a b = p ∧ wrap64 (a - wrap64 (q * b)) = r ∧ wrap64 (a - wrap64 (p * b)) = s ∧ I64 q ∧ I64 p ∧
      ((p = q ∧ r = 0 ∧ s = 0) ∨ (p = q + 1 ∧ r ≠ 0 ∧ s = r - b ∧ (0 < b → 0 < r ∧ r < b) ∧ (b < 0 → b < r ∧ r < 0))) := by
  obtain ⟨h1, h2, h3⟩ := flo_spec a b h0
  have e1 : a - flo a b * b = a.fmod b := by rw [Int.mul_comm]; omega
  have hf := flo_fits ha h0 h
  have hc := cei_fits ha h0 h
  have hr : I64 (a.fmod b) := by
    unfold I64 at *
    rcases Int.lt_or_gt_of_ne h0 with hx | hx
    · have := h3 hx; omega
    · have := h2 hx; omega
  have hcf := cei_flo a b h0
  have hz : a.tmod b = 0 ↔ a.fmod b = 0 := ⟨fun x => Int.fmod_eq_zero_of_dvd (Int.dvd_iff_tmod_eq_zero.mpr x), fun x => Int.dvd_iff_tmod_eq_zero.mp (Int.dvd_of_fmod_eq_zero x)⟩
  refine ⟨_, _, _, _, rfl, rfl, rfl, rfl, hf, hc, ?_⟩
  rw [wrap_sub, wrap_sub, e1, wrap64_fit hr]
  by_cases hm : a.fmod b = 0
  · left
    rw [if_pos (hz.2 hm)] at hcf
    rw [hcf, e1, wrap64_fit hr]
    exact ⟨rfl, hm, hm⟩
  · right
    rw [if_neg (fun x => hm (hz.1 x))] at hcf
    have e2 : a - cei a b * b = a.fmod b - b := by rw [hcf, Int.add_mul]; omega
    rw [e2]
    have hs : I64 (a.fmod b - b) := by
      unfold I64 at *
      rcases Int.lt_or_gt_of_ne h0 with hx | hx
      · have := h3 hx; omega
      · have := h2 hx; omega
    rw [wrap64_fit hs]
    exact ⟨hcf, hm, rfl, fun hx => by have := h2 hx; omega, fun hx => by have := h3 hx; omega⟩

/-! ### the reference's products: by the quotients that there may be -/
theorem over_pp {a b : Int} (_ha : 0 < a) (hb : 0 < b) : (9223372036854775807 : Int).tdiv b < a ↔ 9223372036854775807 < a * b := by
  rw [Int.tdiv_eq_ediv_of_nonneg (by omega)]
  exact Int.ediv_lt_iff_lt_mul hb
theorem over_neg_t (M b : Int) : (-M).tdiv b = - (M.tdiv b) := Int.neg_tdiv ..
theorem over_pn {a b : Int} (ha : 0 < a) (_hb : b < 0) : b < (-9223372036854775808 : Int).tdiv a ↔ a * b < -9223372036854775808 := by
  rw [show (-9223372036854775808 : Int) = -(9223372036854775808 : Int) from rfl, over_neg_t, Int.tdiv_eq_ediv_of_nonneg (by omega)]
  have := Int.ediv_lt_iff_lt_mul (a := 9223372036854775808) (b := -b) ha
  rw [Int.neg_mul, Int.mul_comm b a] at this
  omega
theorem over_np {a b : Int} (_ha : a < 0) (hb : 0 < b) : a < (-9223372036854775808 : Int).tdiv b ↔ a * b < -9223372036854775808 := by
  rw [show (-9223372036854775808 : Int) = -(9223372036854775808 : Int) from rfl, over_neg_t, Int.tdiv_eq_ediv_of_nonneg (by omega)]
  have := Int.ediv_lt_iff_lt_mul (a := 9223372036854775808) (b := -a) hb
  rw [Int.neg_mul] at this
  omega
theorem over_nn {a b : Int} (_ha : a < 0) (hb : b < 0) : a < (9223372036854775807 : Int).tdiv b ↔ 9223372036854775807 < a * b := by
  have e : (9223372036854775807 : Int).tdiv b = -((9223372036854775807 : Int).tdiv (-b)) := by rw [Int.tdiv_neg]; omega
  rw [e, Int.tdiv_eq_ediv_of_nonneg (by omega)]
  have := Int.ediv_lt_iff_lt_mul (a := 9223372036854775807) (b := -a) (c := -b) (by omega)
  rw [Int.neg_mul_neg] at this
  omega
theorem tdiv_in (M : Nat) {b : Int} (hb : b ≠ 0) : -(M : Int) ≤ (M : Int).tdiv b ∧ (M : Int).tdiv b ≤ M := by
  have h1 : ((M : Int).tdiv b).natAbs = (M : Int).natAbs / b.natAbs := Int.natAbs_tdiv _ _
  have h2 : (M : Int).natAbs / b.natAbs ≤ (M : Int).natAbs := Nat.div_le_self _ _
  omega
theorem over_pp' {a b : Int} (_ha : 0 < a) (hb : 0 < b) : 9223372036854775807 / b < a ↔ 9223372036854775807 < a * b := Int.ediv_lt_iff_lt_mul hb
theorem over_pn' {a b : Int} (ha : 0 < a) (hb : b < 0) : b < wrap64 (-Int.tdiv 9223372036854775808 a) ↔ a * b < -9223372036854775808 := by
  rw [← over_pn ha hb, show (-9223372036854775808 : Int) = -(9223372036854775808 : Int) from rfl, over_neg_t, wrap64_fit]
  rw [Int.tdiv_eq_ediv_of_nonneg (by omega)]
  have h1 := Int.ediv_nonneg (a := 9223372036854775808) (b := a) (by omega) (by omega)
  have h2 := Int.ediv_le_self (a := 9223372036854775808) a (by omega)
  unfold I64; omega
theorem over_np' {a b : Int} (ha : a < 0) (hb : 0 < b) : a < wrap64 (-Int.tdiv 9223372036854775808 b) ↔ a * b < -9223372036854775808 := by
  rw [Int.mul_comm]; exact over_pn' hb ha
theorem over_nn' {a b : Int} (ha : a < 0) (hb : b < 0) : a < wrap64 (Int.tdiv 9223372036854775807 b) ↔ 9223372036854775807 < a * b := by
  rw [← over_nn ha hb, wrap64_fit]
  have := tdiv_in 9223372036854775807 (b := b) (by omega)
  rw [show ((9223372036854775807 : Nat) : Int) = 9223372036854775807 from rfl] at this
  unfold I64; omega
theorem prod_sign_pp {a b : Int} (ha : 0 < a) (hb : 0 < b) : 0 < a * b := Int.mul_pos ha hb
theorem prod_sign_pn {a b : Int} (ha : 0 < a) (hb : b < 0) : a * b < 0 := Int.mul_neg_of_pos_of_neg ha hb
theorem prod_sign_np {a b : Int} (ha : a < 0) (hb : 0 < b) : a * b < 0 := Int.mul_neg_of_neg_of_pos ha hb
theorem prod_sign_nn {a b : Int} (ha : a < 0) (hb : b < 0) : 0 < a * b := Int.mul_pos_of_neg_of_neg ha hb

end Go.Proofs.Ytonkcemcledhiaa.Old
/- Words of my own for memory: slices that read as lists, what a call leaves, how arguments are opened. No function of the program in sight. -/
namespace Go.Proofs.Ytonkcemcledhiaa.Old
open Go.RowKit
set_option linter.unusedVariables false

theorem hid {p : Prop} (h : p) : Hid p := h

/-- It returns v; of the world only draws have been made. -/
def RetQ (v : Value) (w : World) (e : Ending) (w' : World) : Prop := e = .returned v ∧ ∃ n, w' = w.drewN n
theorem RetQ.same {v : Value} {w : World} : RetQ v w (.returned v) w := ⟨rfl, 0, rfl⟩
/-- It returns v; what there was is as it was. -/
def RetB (v : Value) (w : World) (e : Ending) (w' : World) : Prop := e = .returned v ∧ Below w.heap.size w w'
/-- It returns a value of which P holds in the new world; what there was is as it was. -/
def RetP (P : Value → World → Prop) (w : World) (e : Ending) (w' : World) : Prop := ∃ v, e = .returned v ∧ Below w.heap.size w w' ∧ P v w'
theorem ret3_eq {k l m : IntKind} {a b c d x y : Int} (h : a = c) (h' : b = d) (h'' : x = y) : Ending.returned (.tuple #[.int k a, .int l b, .int m x]) = .returned (.tuple #[.int k c, .int l d, .int m y]) := by rw [h, h', h'']
theorem ret2_eq {k l : IntKind} {a b c d : Int} (h : a = c) (h' : b = d) : Ending.returned (.tuple #[.int k a, .int l b]) = .returned (.tuple #[.int k c, .int l d]) := by rw [h, h']
theorem ret1_eq {k : IntKind} {a c : Int} (h : a = c) : Ending.returned (.int k a) = .returned (.int k c) := by rw [h]
theorem retib_eq {k : IntKind} {a c : Int} {b : Bool} (h : a = c) : Ending.returned (.tuple #[.int k a, .bool b]) = .returned (.tuple #[.int k c, .bool b]) := by rw [h]
theorem retb_eq {a c : Bool} (h : a = c) : Ending.returned (.bool a) = .returned (.bool c) := by rw [h]
theorem below_drewN {B : Nat} {a w : World} (h : Below B a w) (n : Nat) : Below B a (w.drewN n) := ⟨h.os, h.tape, h.output, h.size, h.block⟩
theorem below_q (w : World) (n : Nat) : Below w.heap.size w (w.drewN n) := below_drewN (Below.refl _ _) n

theorem quiet1 {P : Program} {f : FuncId} {args : Array Value} {w : World} {n : Nat} {v : Value} (h : Calls P f args (w.drewN n) (RetQ v (w.drewN n))) :
    Calls P f args (w.drewN n) fun e w'' => e = .returned v ∧ ∃ m, w'' = w.drewN m :=
  h.mono fun _ _ ⟨he, m, hm⟩ => ⟨he, n + m, by rw [hm, World.drewN_drewN]⟩
theorem quiet2 {P : Program} {f : FuncId} {args : Array Value} {w : World} {a n : Nat} {v : Value} (h : Calls P f args (w.drewN (a + n)) (RetQ v (w.drewN (a + n)))) :
    Calls P f args (w.drewN (a + n)) fun e w'' => e = .returned v ∧ ∃ m, w'' = w.drewN (a + m) :=
  h.mono fun _ _ ⟨he, m, hm⟩ => ⟨he, n + m, by rw [hm, World.drewN_drewN, Nat.add_assoc]⟩
theorem eqf {a b : Int} (h : a ≠ b) : (a == b) = false := by simpa using h
theorem eqt {a b : Int} (h : a = b) : (a == b) = true := by simpa using h
theorem nef {a b : Int} (h : a = b) : (a != b) = false := by simpa using h
theorem net {a b : Int} (h : a ≠ b) : (a != b) = true := by simpa using h
theorem cell_far {w : World} {p q : Addr} (u : Value) (h : q.block ≠ p.block) : (w.setCell p u).cell? q = w.cell? q := World.cell?_setCell_other w p q u (fun e => h (by rw [e]))
theorem block_add (a : Addr) (n : Nat) : (a.add n).block = a.block := by unfold Addr.add; split <;> rfl
theorem add_add (a : Addr) (i j : Nat) : (a.add i).add j = a.add (i + j) := by
  unfold Addr.add
  by_cases hi : i = 0 <;> by_cases hj : j = 0 <;> simp [hi, hj, Nat.add_assoc]

/-- The slice value v has n elements of sz cells each, in blocks from lo on and below hi: the cells xs. -/
def CellsR (w : World) (lo hi : Nat) (v : Value) (n sz : Nat) (xs : List Value) : Prop :=
  ∃ (A : Option Addr) (c : Nat), v = .slice A n c ∧ n ≤ c ∧ c ≤ maxLen ∧ (xs.length = n * sz ∧ (A = none → c = 0)) ∧
    (0 < n → ∃ a, A = some a ∧ lo ≤ a.block ∧ a.block < hi ∧ ∀ j u, xs[j]? = some u → w.cell? (a.add j) = some u)
section
variable {w w' : World} {lo hi lo' hi' n sz : Nat} {v : Value} {xs : List Value}
theorem CellsR.nil (w : World) (lo hi sz : Nat) : CellsR w lo hi (.slice none 0 0) 0 sz [] := ⟨none, 0, rfl, Nat.le_refl _, by decide, ⟨by simp, fun _ => rfl⟩, fun h => absurd h (by omega)⟩
theorem CellsR.mono (h : CellsR w lo hi v n sz xs) (h1 : lo' ≤ lo) (h2 : hi ≤ hi') : CellsR w lo' hi' v n sz xs := by
  obtain ⟨A, c, h3, h4, h5, h6, h7⟩ := h
  refine ⟨A, c, h3, h4, h5, h6, fun hn => ?_⟩
  obtain ⟨a, h8, h9, h10, h11⟩ := h7 hn
  exact ⟨a, h8, by omega, by omega, h11⟩
theorem CellsR.keep (h : CellsR w lo hi v n sz xs) (hk : ∀ p : Addr, lo ≤ p.block → p.block < hi → w'.cell? p = w.cell? p) : CellsR w' lo hi v n sz xs := by
  obtain ⟨A, c, h3, h4, h5, h6, h7⟩ := h
  refine ⟨A, c, h3, h4, h5, h6, fun hn => ?_⟩
  obtain ⟨a, h8, h9, h10, h11⟩ := h7 hn
  exact ⟨a, h8, h9, h10, fun j u hu => (hk _ (by rw [block_add]; exact h9) (by rw [block_add]; exact h10)).trans (h11 j u hu)⟩
theorem CellsR.below (h : CellsR w lo hi v n sz xs) (hb : Below hi w w') : CellsR w' lo hi v n sz xs := h.keep fun _ _ hp => hb.cell hp
theorem CellsR.of_own {base : Nat} {e : TypeId} (h : w.ownsRow base e sz v n xs) : CellsR w base w.heap.size v n sz xs := by
  have h' := h
  obtain ⟨h1, h2⟩ := h
  rcases h2 with ⟨rfl, rfl⟩ | ⟨g, cap, cur, rfl, hb, hg, hc, hm, _, _⟩
  · exact ⟨none, 0, rfl, Nat.le_refl _, by decide, ⟨by simpa using h1, fun _ => rfl⟩, fun h => absurd h (by omega)⟩
  · exact ⟨_, _, rfl, hc, hm, ⟨h1, fun h => by cases h⟩, fun _ => ⟨_, rfl, hb, (Array.getElem?_eq_some_iff.1 hg).1, h'.cells (g := g) rfl⟩⟩
end

/-- A choice for every place, as a list. -/
theorem list_choice {α : Type} {P : Nat → α → Prop} : ∀ n : Nat, (∀ i, i < n → ∃ x, P i x) → ∃ l : List α, l.length = n ∧ ∀ i x, l[i]? = some x → P i x
  | 0, _ => ⟨[], rfl, fun i x h => by simp at h⟩
  | n + 1, h => by
    obtain ⟨l, hl, hp⟩ := list_choice n fun i hi => h i (by omega)
    obtain ⟨x, hx⟩ := h n (by omega)
    refine ⟨l ++ [x], by simp [hl], fun i y hy => ?_⟩
    rw [List.getElem?_append] at hy
    split at hy
    · exact hp i y hy
    · rename_i hi
      have hi' : i - l.length < 1 := by
        rcases Nat.lt_or_ge (i - l.length) 1 with h | h
        · exact h
        · rw [List.getElem?_eq_none (by simpa using h)] at hy; cases hy
      have e : i = n := by omega
      subst e
      rw [show i - l.length = 0 by omega] at hy
      simp at hy
      exact hy ▸ hx

/-! ### integers -/
def IntsR (w : World) (lo hi : Nat) (v : Value) (l : List Int) : Prop := CellsR w lo hi v l.length 1 (l.map (Value.int .i64))
section
variable {w w' : World} {lo hi lo' hi' : Nat} {v : Value} {l : List Int}
theorem IntsR.nil (w : World) (lo hi : Nat) : IntsR w lo hi (.slice none 0 0) [] := CellsR.nil w lo hi 1
theorem IntsR.mono (h : IntsR w lo hi v l) (h1 : lo' ≤ lo) (h2 : hi ≤ hi') : IntsR w lo' hi' v l := CellsR.mono h h1 h2
theorem IntsR.below (h : IntsR w lo hi v l) (hb : Below hi w w') : IntsR w' lo hi v l := CellsR.below h hb
/-- What a walk wants of it. -/
theorem IntsR.open_ (h : IntsR w lo hi v l) : ∃ (A : Option Addr) (c : Nat), v = .slice A l.length c ∧ l.length ≤ c ∧ c ≤ 9223372036854775807 ∧
    ∀ k, k < l.length → ∃ a, A = some a ∧ a.block < hi ∧ ∀ j, j < l.length → w.cell? (a.add j) = some (.int .i64 (l.getD j 0)) := by
  obtain ⟨A, c, h1, h2, h3, h4, h5⟩ := h
  refine ⟨A, c, h1, h2, by simpa [maxLen] using h3, fun k hk => ?_⟩
  obtain ⟨a, h6, h7, h8, h9⟩ := h5 (by omega)
  refine ⟨a, h6, h8, fun j hj => h9 j _ ?_⟩
  rw [List.getElem?_map, List.getElem?_eq_getElem hj]
  simp [List.getD_eq_getElem?_getD, List.getElem?_eq_getElem hj]
end

theorem IntsR.get {w : World} {lo hi : Nat} {A : Option Addr} {n c : Nat} {l : List Int} (h : IntsR w lo hi (.slice A n c) l) {k : Nat} (hk : k < l.length) :
    ∃ a, A = some a ∧ a.block < hi ∧ ∀ j x, l[j]? = some x → w.cell? (a.add j) = some (.int .i64 x) := by
  obtain ⟨A', c', h1, _, _, h4⟩ := h.open_
  injection h1 with h1 h2 h3
  subst h1
  obtain ⟨a, h5, h6, h7⟩ := h4 k hk
  refine ⟨a, h5, h6, fun j x hj => ?_⟩
  have hjl := (List.getElem?_eq_some_iff.1 hj).1
  have := h7 j hjl
  rwa [List.getD_eq_getElem?_getD, hj] at this

/-! ### ranges -/
abbrev Rg := Int × Int
def rcells : List Rg → List Value
  | [] => []
  | r :: l => .int .i64 r.1 :: .int .i64 r.2 :: rcells l
theorem rcells_length : ∀ l : List Rg, (rcells l).length = l.length * 2
  | [] => rfl
  | _ :: l => by simp [rcells, rcells_length l]; omega
theorem rcells_at : ∀ (l : List Rg) (k : Nat) (x y : Int), l[k]? = some (x, y) → (rcells l)[k * 2]? = some (.int .i64 x) ∧ (rcells l)[k * 2 + 1]? = some (.int .i64 y)
  | [], k, x, y, h => by simp at h
  | r :: l, 0, x, y, h => by simp at h; subst h; exact ⟨rfl, rfl⟩
  | r :: l, k + 1, x, y, h => by
    have ih := rcells_at l k x y (by simpa using h)
    rw [show (k + 1) * 2 = k * 2 + 1 + 1 by omega]
    simpa [rcells] using ih
theorem rcells_append : ∀ (l m : List Rg), rcells (l ++ m) = rcells l ++ rcells m
  | [], m => rfl
  | r :: l, m => by simp [rcells, rcells_append l m]
theorem rcells_one : ∀ (l : List Rg), ∀ u ∈ rcells l, u.oneCell' = true
  | [], u, h => by simp [rcells] at h
  | r :: l, u, h => by
    simp only [rcells, List.mem_cons] at h
    rcases h with rfl | rfl | h
    · rfl
    · rfl
    · exact rcells_one l u h
theorem rcells_get {l : List Rg} {j : Nat} {u : Value} (h : (rcells l)[j]? = some u) : j < l.length * 2 := by
  rcases Nat.lt_or_ge j (l.length * 2) with h' | h'
  · exact h'
  · rw [List.getElem?_eq_none (by rw [rcells_length]; exact h')] at h; cases h
theorem rcells_of {l : List Rg} {f : Nat → Option Value} (h : ∀ k x y, l[k]? = some (x, y) → f (k * 2) = some (.int .i64 x) ∧ f (k * 2 + 1) = some (.int .i64 y)) :
    ∀ j u, (rcells l)[j]? = some u → f j = some u := by
  intro j u hu
  have hj := rcells_get hu
  have hk : j / 2 < l.length := by omega
  obtain ⟨x, y, hl⟩ : ∃ x y, l[j / 2]? = some (x, y) := ⟨_, _, List.getElem?_eq_getElem hk⟩
  have h1 := rcells_at l _ _ _ hl
  have h2 := h _ _ _ hl
  rcases Nat.mod_two_eq_zero_or_one j with hm | hm
  · have e : j / 2 * 2 = j := by omega
    rw [e] at h1 h2
    rw [h1.1] at hu
    rw [h2.1, hu]
  · have e : j / 2 * 2 + 1 = j := by omega
    rw [e] at h1 h2
    rw [h1.2] at hu
    rw [h2.2, hu]

def RngsR (w : World) (lo hi : Nat) (v : Value) (l : List Rg) : Prop := CellsR w lo hi v l.length 2 (rcells l)
section
variable {w w' : World} {lo hi lo' hi' : Nat} {v : Value} {l : List Rg}
theorem RngsR.nil (w : World) (lo hi : Nat) : RngsR w lo hi (.slice none 0 0) [] := CellsR.nil w lo hi 2
theorem RngsR.mono (h : RngsR w lo hi v l) (h1 : lo' ≤ lo) (h2 : hi ≤ hi') : RngsR w lo' hi' v l := CellsR.mono h h1 h2
theorem RngsR.below (h : RngsR w lo hi v l) (hb : Below hi w w') : RngsR w' lo hi v l := CellsR.below h hb
theorem RngsR.keep (h : RngsR w lo hi v l) (hk : ∀ p : Addr, lo ≤ p.block → p.block < hi → w'.cell? p = w.cell? p) : RngsR w' lo hi v l := CellsR.keep h hk
theorem RngsR.of_own {base : Nat} {e : TypeId} (h : w.ownsRow base e 2 v l.length (rcells l)) : RngsR w base w.heap.size v l := CellsR.of_own h
theorem add1 (a : Addr) (n : Nat) : (a.add n).add 1 = { block := (a.add n).block, off := (a.add n).off + 1 } := rfl
/-- What a walk wants of it. -/
theorem RngsR.open_ (h : RngsR w lo hi v l) : ∃ (A : Option Addr) (c : Nat), v = .slice A l.length c ∧ l.length ≤ c ∧ c ≤ 9223372036854775807 ∧
    ∀ k, k < l.length → ∃ a, A = some a ∧ lo ≤ a.block ∧ a.block < hi ∧ ∀ j x y, l[j]? = some (x, y) → w.cell? (a.add (j * 2)) = some (.int .i64 x) ∧ w.cell? { block := (a.add (j * 2)).block, off := (a.add (j * 2)).off + 1 } = some (.int .i64 y) := by
  obtain ⟨A, c, h1, h2, h3, h4, h5⟩ := h
  refine ⟨A, c, h1, h2, by simpa [maxLen] using h3, fun k hk => ?_⟩
  obtain ⟨a, h6, h7, h8, h9⟩ := h5 (by omega)
  refine ⟨a, h6, h7, h8, fun j x y hj => ?_⟩
  obtain ⟨h10, h11⟩ := rcells_at l j x y hj
  refine ⟨h9 _ _ h10, ?_⟩
  rw [← add1, add_add]
  exact h9 _ _ h11
theorem RngsR.nilcap {n c : Nat} (h : RngsR w lo hi (.slice none n c) l) : c = 0 ∧ l = [] := by
  obtain ⟨A, c', h1, h2, h3, h4, h5⟩ := h
  injection h1 with h1 h6 h7
  subst h7
  have := h4.2 h1.symm
  exact ⟨this, List.eq_nil_of_length_eq_zero (by omega)⟩
theorem RngsR.get {A : Option Addr} {n c : Nat} (h : RngsR w lo hi (.slice A n c) l) {k : Nat} (hk : k < l.length) :
    ∃ a, A = some a ∧ lo ≤ a.block ∧ a.block < hi ∧ ∀ j x y, l[j]? = some (x, y) → w.cell? (a.add (j * 2)) = some (.int .i64 x) ∧ w.cell? { block := (a.add (j * 2)).block, off := (a.add (j * 2)).off + 1 } = some (.int .i64 y) := by
  obtain ⟨A', c', h1, _, _, h4⟩ := h.open_
  injection h1 with h1 h2 h3
  subst h1
  exact h4 k hk
theorem at_rg {l : List Rg} {k : Nat} (h : k < l.length) : ∃ x y, l[k]? = some (x, y) := ⟨_, _, List.getElem?_eq_getElem h⟩
theorem drop_at {α : Type} {l : List α} {k : Nat} {x : α} (h : l[k]? = some x) : l.drop k = x :: l.drop (k + 1) := by
  obtain ⟨h1, h2⟩ := List.getElem?_eq_some_iff.1 h
  rw [List.drop_eq_getElem_cons h1, h2]
theorem mem_at {α : Type} {l : List α} {k : Nat} {x : α} (h : l[k]? = some x) : x ∈ l := List.mem_of_getElem? h
end

/-! ### lists of ranges -/
/-- A slice of sets: its own cells in blocks from lo on, the sets' cells in blocks from lo' on. -/
def DomsR (w : World) (lo lo' hi : Nat) (v : Value) (L : List (List Rg)) : Prop :=
  ∃ us : List Value, CellsR w lo hi v L.length 1 us ∧ ∀ (k : Nat) (u : Value) (l : List Rg), us[k]? = some u → L[k]? = some l → RngsR w lo' hi u l
section
variable {w w' : World} {lo hi lo' hi' l1 l2 : Nat} {v : Value} {L : List (List Rg)}
theorem DomsR.nil (w : World) (lo lo' hi : Nat) : DomsR w lo lo' hi (.slice none 0 0) [] := ⟨[], CellsR.nil w lo hi 1, fun k u l h => by simp at h⟩
theorem DomsR.mono (h : DomsR w lo lo' hi v L) (h1 : l1 ≤ lo) (h2 : l2 ≤ lo') (h3 : hi ≤ hi') : DomsR w l1 l2 hi' v L := by
  obtain ⟨us, h4, h5⟩ := h
  exact ⟨us, h4.mono h1 h3, fun k u l hu hl => (h5 k u l hu hl).mono h2 h3⟩
theorem DomsR.below (h : DomsR w lo lo' hi v L) (hb : Below hi w w') : DomsR w' lo lo' hi v L := by
  obtain ⟨us, h4, h5⟩ := h
  exact ⟨us, h4.below hb, fun k u l hu hl => (h5 k u l hu hl).below hb⟩
theorem DomsR.open_ (h : DomsR w lo lo' hi v L) : ∃ (A : Option Addr) (c : Nat), v = .slice A L.length c ∧ L.length ≤ c ∧ c ≤ 9223372036854775807 ∧
    ∀ k, k < L.length → ∃ a, A = some a ∧ lo ≤ a.block ∧ a.block < hi ∧ ∀ j l, L[j]? = some l → ∃ u, w.cell? (a.add j) = some u ∧ RngsR w lo' hi u l := by
  obtain ⟨us, ⟨A, c, h1, h2, h3, h4, h5⟩, h6⟩ := h
  refine ⟨A, c, h1, h2, by simpa [maxLen] using h3, fun k hk => ?_⟩
  obtain ⟨a, h7, h8, h9, h10⟩ := h5 (by omega)
  refine ⟨a, h7, h8, h9, fun j l hj => ?_⟩
  have hjl : j < us.length := by rw [h4.1, Nat.mul_one]; exact (List.getElem?_eq_some_iff.1 hj).1
  have hu := List.getElem?_eq_getElem hjl
  exact ⟨_, h10 _ _ hu, h6 _ _ _ hu hj⟩
theorem DomsR.get {A : Option Addr} {n c : Nat} (h : DomsR w lo lo' hi (.slice A n c) L) {k : Nat} (hk : k < L.length) :
    ∃ a, A = some a ∧ lo ≤ a.block ∧ a.block < hi ∧ ∀ j l, L[j]? = some l → ∃ u, w.cell? (a.add j) = some u ∧ RngsR w lo' hi u l := by
  obtain ⟨A', c', h1, _, _, h4⟩ := h.open_
  injection h1 with h1 h2 h3
  subst h1
  exact h4 k hk
end

/-! ### a block that is known whole -/
def Blk (w : World) (g : Nat) (t : TypeId) (cs : Array Value) : Prop := w.heap[g]? = some (.cells cs t (0, 0))
section
variable {w w' : World} {g : Nat} {t : TypeId} {cs : Array Value}
theorem Blk.lt (h : Blk w g t cs) : g < w.heap.size := (Array.getElem?_eq_some_iff.1 h).1
theorem Blk.cell (h : Blk w g t cs) (i : Nat) : w.cell? ⟨g, i, none⟩ = cs[i]? := cell_of_row w g i cs t (0, 0) h
theorem Blk.frozen (h : Blk w g t cs) (i : Nat) : w.frozen? ⟨g, i, none⟩ = false := by
  unfold Blk at h
  simp [World.frozen?, h]
theorem Blk.new (w : World) (t : TypeId) (cs : Array Value) : Blk (w.alloc (.cells cs t)) w.heap.size t cs := heap_alloc_new w _
theorem Blk.at_ (w : World) (t : TypeId) (cs : Array Value) {g : Nat} (hg : g = w.heap.size) : Blk (w.alloc (.cells cs t)) g t cs := by subst hg; exact heap_alloc_new w _
theorem Blk.drewN (h : Blk w g t cs) (n : Nat) : Blk (w.drewN n) g t cs := h
theorem Blk.drew (h : Blk w g t cs) : Blk w.drew g t cs := h
theorem Blk.alloc (h : Blk w g t cs) (o : Obj) : Blk (w.alloc o) g t cs := (Below.heap_alloc w o g h.lt).trans h
theorem Blk.set_ (h : Blk w g t cs) (i : Nat) (u : Value) : Blk (w.setCell ⟨g, i, none⟩ u) g t (cs.setIfInBounds i u) := by
  unfold Blk at h ⊢
  simp [World.setCell, Array.getElem?_modify, h]
theorem Blk.far (h : Blk w g t cs) {p : Addr} (hp : g ≠ p.block) (u : Value) : Blk (w.setCell p u) g t cs := (Below.heap_setCell w p u g hp).trans h
theorem Blk.below {B : Nat} (h : Blk w g t cs) (hb : Below B w w') (hg : g < B) : Blk w' g t cs := (hb.block g hg).trans h
theorem Blk.two {p q : Value} (h : Blk w g t #[p, q]) : w.cell? ⟨g, 0, none⟩ = some p ∧ w.cell? ⟨g, 1, none⟩ = some q ∧ w.frozen? ⟨g, 0, none⟩ = false ∧ w.frozen? ⟨g, 1, none⟩ = false :=
  ⟨h.cell 0, h.cell 1, h.frozen 0, h.frozen 1⟩
theorem Blk.cells {lo n sz : Nat} {xs : List Value} (h : Blk w g t cs) (hx : cs.toList = xs) (hl : xs.length = n * sz) (hlo : lo ≤ g) (hm : n ≤ maxLen) :
    CellsR w lo w.heap.size (.slice (some ⟨g, 0, none⟩) n n) n sz xs := by
  refine ⟨_, _, rfl, Nat.le_refl _, hm, ⟨hl, fun h => by cases h⟩, fun _ => ⟨_, rfl, hlo, h.lt, fun j u hu => ?_⟩⟩
  have e : (⟨g, 0, none⟩ : Addr).add j = ⟨g, j, none⟩ := by unfold Addr.add; split <;> simp_all
  rw [e, h.cell, ← hu, ← hx]
  simp
theorem Blk.ints {lo : Nat} {l : List Int} (h : Blk w g t cs) (hx : cs.toList = l.map (Value.int .i64)) (hlo : lo ≤ g) (hm : l.length ≤ maxLen) :
    IntsR w lo w.heap.size (.slice (some ⟨g, 0, none⟩) l.length l.length) l := h.cells hx (by simp) hlo hm
end

/-! ### the tail of a slice -/
theorem run_tail {P : Program} (T E : TypeId) (ht : P.underlying T = some (.slice E)) {z : Option Value} {sz bytes : Nat} (hinfo : (P.info? E).map (fun i => (i.zero, i.size, i.bytes)) = some (z, sz, bytes))
    (A : Option Addr) (n c k : Nat) (hk : k ≤ n) (w : World) :
    (Instr.slice T (.slice A n c) (some (.int .i64 (k : Int))) none none).run P w = .ok (.slice (if c = k then A else A.map (·.add (k * sz))) (n - k) (c - k)) w := by
  obtain ⟨i, hi, h1⟩ : ∃ i, P.info? E = some i ∧ (i.zero, i.size, i.bytes) = (z, sz, bytes) := by
    cases h : P.info? E with
    | none => rw [h] at hinfo; simp at hinfo
    | some i => rw [h] at hinfo; exact ⟨i, rfl, by simpa using hinfo⟩
  have he : P.elem T = E := by simp [Program.elem, ht]
  have hs : i.size = sz := by simp at h1; exact h1.2.1
  rw [run_slice_l (P := P) w T A n c (by rw [he]; exact ht) .i64 k (by omega) (by omega), he]
  simp [sizeOf, typeInfo, hi, hs, sliced]

theorem RngsR.tail {w : World} {lo hi : Nat} {A : Option Addr} {n c : Nat} {l : List Rg} (h : RngsR w lo hi (.slice A n c) l) (k : Nat) (hk : k ≤ l.length) :
    RngsR w lo hi (.slice (if c = k then A else A.map (·.add (k * 2))) (n - k) (c - k)) (l.drop k) := by
  obtain ⟨A', c', h1, h2, h3, h4, h5⟩ := h
  injection h1 with h1 h6 h7
  subst h1 h6 h7
  rw [rcells_length] at h4
  refine ⟨_, _, by rw [List.length_drop], by rw [List.length_drop]; omega, by omega, ⟨by rw [rcells_length], fun hA => ?_⟩, fun hn => ?_⟩
  · split at hA
    · omega
    · simp at hA; have := h4.2 hA; omega
  · rw [List.length_drop] at hn
    obtain ⟨a, h8, h9, h10, h11⟩ := h5 (by omega)
    subst h8
    rw [if_neg (by omega)]
    refine ⟨_, rfl, by rw [block_add]; exact h9, by rw [block_add]; exact h10, rcells_of (fun j x y hj => ?_)⟩
    rw [List.getElem?_drop] at hj
    obtain ⟨h12, h13⟩ := rcells_at l (k + j) x y hj
    rw [add_add, add_add]
    exact ⟨h11 _ _ (by rw [← h12]; congr 1; omega), h11 _ _ (by rw [← h13]; congr 1; omega)⟩

theorem own_below {w w' : World} {base e size n : Nat} {v : Value} {xs : List Value} (h : w.ownsRow base e size v n xs) (hb : Below w.heap.size w w') : w'.ownsRow base e size v n xs := by
  obtain ⟨h1, h2⟩ := h
  refine ⟨h1, ?_⟩
  rcases h2 with h2 | ⟨g, cap, cur, hv, hg, hh, r⟩
  · exact .inl h2
  · exact .inr ⟨g, cap, cur, hv, hg, (hb.block g (Array.getElem?_eq_some_iff.1 hh).1).trans hh, r⟩

/-! ### append onto a row of the call's own -/
section
variable {P : Program} (w : World)
theorem wpList_app1 {ops : Array Oper} {rest : List Oper} {o : Oper} {a : Act} {Q : Exit → Act → World → Prop} (hgd : o.guard = none) (s x : Operand) (T E : TypeId)
    (ho : o.op = .call { callee := .builtin .append, args := #[s, x], argTypes := #[T, T] }) (ht : P.underlying T = some (.slice E)) (z : Value) (size bytes : Nat)
    (hinfo : (P.info? E).map (fun i => (i.zero, i.size, i.bytes)) = some (some z, size, bytes)) (hzs : z.cells.size = size) (hsz : 0 < size) (hby : bytes ≤ 64)
    (B : Nat) (v : Value) (n : Nat) (xs : List Value) (hs : a.eval s = v) (hown : w.ownsRow B E size v n xs)
    (g : Nat) (news : Array Value) (hx : a.eval x = .slice (some ⟨g, 0, none⟩) 1 1) (hblk : Blk w g E news) (hnl : news.toList.length = size) (hone : ∀ u ∈ news.toList, u.oneCell' = true)
    (hn : n ≤ 8000000) (hB : B ≤ w.heap.size)
    (h : ∀ v' w', w'.ownsRow B E size v' (n + 1) (xs ++ news.toList) → Below B w w' → wpList P ops Q rest (a.put o.dst v') w') : wpList P ops Q (o :: rest) a w := by
  obtain ⟨i0, hi0, hz0, hz1, hz2⟩ := info_parts hinfo
  refine wpList_append_own w hgd s x T ho B E i0 z size bytes ht hi0 hz0 hz1 hz2 hzs hsz v n xs hs hown ⟨g, 0, none⟩ 1 1 news.toList hx (by omega) (fun j u hu => ?_) hone (by unfold maxLen; omega) ?_ hB (fun v' w' h1 h2 _ => h v' w' h1 ?_)
  · have e : (⟨g, 0, none⟩ : Addr).add j = ⟨g, j, none⟩ := by unfold Addr.add; split <;> simp_all
    rw [e, hblk.cell, ← hu]
    simp
  · have := Nat.mul_le_mul (show n + 1 ≤ 8000001 by omega) hby
    omega
  · exact (Below.refl _ _).grown h2 hB (fun k hk => (hown.lt k hk).1)
theorem wpList_app_rng {ops : Array Oper} {rest : List Oper} {o : Oper} {a : Act} {Q : Exit → Act → World → Prop} (hgd : o.guard = none) (s x : Operand) (T E : TypeId)
    (ho : o.op = .call { callee := .builtin .append, args := #[s, x], argTypes := #[T, T] }) (ht : P.underlying T = some (.slice E))
    (hinfo : (P.info? E).map (fun i => (i.zero, i.size, i.bytes)) = some (some (.agg #[.int .i64 0, .int .i64 0]), 2, 16))
    (B : Nat) (v : Value) (acc : List Rg) (hs : a.eval s = v) (hown : w.ownsRow B E 2 v acc.length (rcells acc))
    (g : Nat) (p q : Int) (hx : a.eval x = .slice (some ⟨g, 0, none⟩) 1 1) (hblk : Blk w g E #[.int .i64 p, .int .i64 q]) (hn : acc.length ≤ 8000000) (hB : B ≤ w.heap.size)
    (h : ∀ v' w', w'.ownsRow B E 2 v' (acc ++ [(p, q)]).length (rcells (acc ++ [(p, q)])) → Below B w w' → wpList P ops Q rest (a.put o.dst v') w') : wpList P ops Q (o :: rest) a w := by
  refine wpList_app1 w hgd s x T E ho ht _ 2 16 hinfo rfl (by omega) (by omega) B v acc.length (rcells acc) hs hown g _ hx hblk rfl (fun u hu => ?_) hn hB (fun v' w' h1 h2 => h v' w' ?_ h2)
  · simp at hu
    rcases hu with rfl | rfl <;> rfl
  · rw [rcells_append, List.length_append]
    exact h1
end

/-! ### opening what came in -/
section
open Go.ChangeShapes Go.WideShapes Go.Deep
variable {H : Type} {enc : TypeId × Value → H} {P : Program} {w : World} {base : Nat} {held : Bool}
theorem wf_I64 {n : Int} (h : (Lit.int .i64 n).wf = true) : I64 n := bounds_i64 h
theorem I64_wf {n : Int} (h : I64 n) : (Lit.int .i64 n).wf = true := WalkArith.wf_i64 h
theorem okWide_slice' {P : Program} {w : World} {r : Reach} {b0 : Nat} {t e : TypeId} {v : Value} (ht : P.underlying t = some (.slice e)) (hv : Value.okWide P w r b0 t v) : ∃ A n c, v = .slice A n c := by
  obtain ⟨a, n, c, h⟩ := okWide_slice ht hv
  exact ⟨a, n, c, h⟩
theorem opens_ints {t e : TypeId} {v : Value} {d : DataW H} {p : List MemPlace} (ht : P.underlying t = some (.slice e)) (he : P.underlying e = some (.int .i64)) (hc : P.cellsOf e = 1)
    (hv : ∃ A n c, v = .slice A n c) (h : DataW.Trod enc P w base (fun _ => true) held t v d p) : ∃ l, IntsR w 0 w.heap.size v l ∧ ∀ x ∈ l, I64 x := by
  obtain ⟨A, n, c, rfl⟩ := hv
  obtain ⟨fuel, hf⟩ := h
  rcases open_ints ht he hc hf with ⟨hcs, _⟩ | ⟨x, l, c', zs, hcs, _, hl, hm, hz, _, hcell, hwz⟩
  · simp [Value.cells] at hcs
    obtain ⟨rfl, rfl, rfl⟩ := hcs
    exact ⟨[], IntsR.nil _ _ _, by simp⟩
  · simp [Value.cells] at hcs
    obtain ⟨rfl, rfl, rfl⟩ := hcs
    simp only [if_true] at hz
    refine ⟨zs.take n, ⟨some x, c, ?_, ?_, hm, ⟨by simp, fun h => by cases h⟩, fun hn => ⟨x, rfl, Nat.zero_le _, ?_, fun j u hu => ?_⟩⟩, fun y hy => wf_I64 (hwz y (List.mem_of_mem_take hy))⟩
    · rw [List.length_take, Nat.min_eq_left (by omega)]
    · rw [List.length_take]; omega
    · have := block_lt_of_cell (hcell 0 (by rw [List.length_take] at hn; omega))
      rwa [block_add] at this
    · rw [List.getElem?_map] at hu
      have hj : j < zs.length ∧ (zs.take n)[j]? = some (zs.getD j 0) := by
        rw [List.getElem?_take] at hu ⊢
        split at hu
        · rename_i hjn
          refine ⟨by omega, ?_⟩
          rw [if_pos hjn, List.getElem?_eq_getElem (by omega)]
          simp [List.getD_eq_getElem?_getD, List.getElem?_eq_getElem (show j < zs.length by omega)]
        · cases hu
      rw [hj.2] at hu
      simp at hu
      rw [← hu]
      simpa using hcell j hj.1
theorem fields_of {e : TypeId} {fs : Array Field} {fuel : Nat} {cs : List Value} {z : DataW H × List MemPlace} {sp : Nat → Bool} (he : P.underlying e = some (.struct fs)) (hone : oneCellFields P fs = true) (hC : P.cellsOf e = fs.size)
    (ht : DataW.trod enc P w base sp held fuel e cs = some z) : ∀ (j : Nat) (f : Field), fs[j]? = some f → ∃ u y n, cs[j]? = some u ∧ DataW.trod enc P w base sp held n f.type [u] = some y := by
  intro j f hj
  obtain ⟨ys, n', _, _, hcl, hyl, hfl⟩ := DataW.trod_struct he ht
  obtain ⟨ho, hk⟩ := hone_of hone j f hj
  have hjl : j < fs.size := (Array.getElem?_eq_some_iff.1 hj).1
  have g := hfl j f hj
  rw [ho, hk] at g
  have hys : ys[j]? = some (ys[j]'(by omega)) := List.getElem?_eq_getElem (by omega)
  rw [hys] at g
  rcases Nat.lt_or_ge j cs.length with hc | hc
  · have e1 : (cs.drop j).take 1 = [cs[j]] := by
      rw [List.drop_eq_getElem_cons hc]
      rfl
    rw [e1] at g
    exact ⟨_, _, _, List.getElem?_eq_getElem hc, g⟩
  · omega
theorem opens_rngs' {t e : TypeId} {f0 f1 : Field} {i : TypeId} {v : Value} {d : DataW H × List MemPlace} {fuel : Nat} {sp : Nat → Bool} (ht : P.underlying t = some (.slice e)) (he : P.underlying e = some (.struct #[f0, f1]))
    (hone : oneCellFields P #[f0, f1] = true) (hc : P.cellsOf e = 2) (h0 : f0.type = i) (h1 : f1.type = i) (hi : P.underlying i = some (.int .i64))
    (hf : DataW.trod enc P w base sp held fuel t [v] = some d) : ∃ l, RngsR w 0 w.heap.size v l ∧ ∀ r ∈ l, I64 r.1 ∧ I64 r.2 := by
  rcases open_slice ht hf with ⟨hcs, _⟩ | ⟨x, n, c, m, fu, D, Pl, hcs, hb, hl, hm, hmm, _, hi'⟩
  · simp at hcs
    subst hcs
    exact ⟨[], RngsR.nil _ _ _, by simp⟩
  · simp at hcs
    subst hcs
    have hnm : n ≤ m := by split at hmm <;> omega
    have each : ∀ k, k < n → ∃ r : Rg, w.cell? (x.add (k * 2)) = some (.int .i64 r.1) ∧ w.cell? (x.add (k * 2 + 1)) = some (.int .i64 r.2) ∧ I64 r.1 ∧ I64 r.2 := by
      intro k hk
      obtain ⟨cs', hcs', ht'⟩ := hi' k (by omega)
      rw [hc] at hcs'
      obtain ⟨_, hcl, hat⟩ := World.cells?_some hcs'
      obtain ⟨u0, y0, n0, hu0, hy0⟩ := fields_of he hone hc ht' 0 f0 rfl
      obtain ⟨u1, y1, n1, hu1, hy1⟩ := fields_of he hone hc ht' 1 f1 rfl
      rw [h0] at hy0
      rw [h1] at hy1
      obtain ⟨a, ha, _, wa⟩ := DataW.trod_int hi hy0
      obtain ⟨b, hb', _, wb⟩ := DataW.trod_int hi hy1
      simp at ha hb'
      subst ha hb'
      refine ⟨(a, b), ?_, ?_, wf_I64 wa, wf_I64 wb⟩
      · have := hat 0 (by omega)
        rw [add_add, hu0] at this
        exact this
      · have := hat 1 (by omega)
        rw [add_add, hu1] at this
        exact this
    obtain ⟨l, hll, hl'⟩ := list_choice n each
    refine ⟨l, ⟨some x, c, by rw [hll], by omega, hm, ⟨by rw [rcells_length], fun h => by cases h⟩, fun hn => ⟨x, rfl, Nat.zero_le _, ?_, rcells_of (fun k a b hk => ?_)⟩⟩, fun r hr => ?_⟩
    · obtain ⟨r, h2, _⟩ := each 0 (by omega)
      have := block_lt_of_cell h2
      rwa [block_add] at this
    · obtain ⟨h2, h3, _⟩ := hl' k _ hk
      exact ⟨h2, h3⟩
    · obtain ⟨k, hk, rfl⟩ := List.getElem_of_mem hr
      exact (hl' k _ (List.getElem?_eq_getElem hk)).2.2
theorem opens_rngs {t e : TypeId} {f0 f1 : Field} {i : TypeId} {v : Value} {d : DataW H} {p : List MemPlace} (ht : P.underlying t = some (.slice e)) (he : P.underlying e = some (.struct #[f0, f1]))
    (hone : oneCellFields P #[f0, f1] = true) (hc : P.cellsOf e = 2) (h0 : f0.type = i) (h1 : f1.type = i) (hi : P.underlying i = some (.int .i64))
    (hv : ∃ A n c, v = .slice A n c) (h : DataW.Trod enc P w base (fun _ => true) held t v d p) : ∃ l, RngsR w 0 w.heap.size v l ∧ ∀ r ∈ l, I64 r.1 ∧ I64 r.2 := by
  obtain ⟨A, n, c, rfl⟩ := hv
  obtain ⟨fuel, hf⟩ := h
  exact opens_rngs' ht he hone hc h0 h1 hi hf
theorem opens_doms' {t s e : TypeId} {f0 f1 : Field} {i : TypeId} {v : Value} {d : DataW H × List MemPlace} {fuel : Nat} {sp : Nat → Bool} (ht : P.underlying t = some (.slice s)) (hs : P.underlying s = some (.slice e)) (hcs : P.cellsOf s = 1)
    (he : P.underlying e = some (.struct #[f0, f1])) (hone : oneCellFields P #[f0, f1] = true) (hc : P.cellsOf e = 2) (h0 : f0.type = i) (h1 : f1.type = i) (hi : P.underlying i = some (.int .i64))
    (hf : DataW.trod enc P w base sp held fuel t [v] = some d) : ∃ L, DomsR w 0 0 w.heap.size v L ∧ ∀ l ∈ L, ∀ r ∈ l, I64 r.1 ∧ I64 r.2 := by
  rcases open_slice ht hf with ⟨hcs', _⟩ | ⟨x, n, c, m, fu, D, Pl, hcs', hb, hl, hm, hmm, _, hi'⟩
  · simp at hcs'
    subst hcs'
    exact ⟨[], DomsR.nil _ _ _ _, by simp⟩
  · simp at hcs'
    subst hcs'
    have hnm : n ≤ m := by split at hmm <;> omega
    have each : ∀ k, k < n → ∃ ul : Value × List Rg, w.cell? (x.add k) = some ul.1 ∧ RngsR w 0 w.heap.size ul.1 ul.2 ∧ ∀ r ∈ ul.2, I64 r.1 ∧ I64 r.2 := by
      intro k hk
      obtain ⟨cs', hcs'', ht'⟩ := hi' k (by omega)
      rw [hcs] at hcs''
      obtain ⟨_, hcl, hat⟩ := World.cells?_some hcs''
      match cs', hcl with
      | [u], _ =>
        obtain ⟨l, hl1, hl2⟩ := opens_rngs' hs he hone hc h0 h1 hi ht'
        refine ⟨(u, l), ?_, hl1, hl2⟩
        have := hat 0 (by omega)
        rw [add_add, Nat.mul_one, Nat.add_zero] at this
        exact this
    obtain ⟨ls, hll, hl'⟩ := list_choice n each
    refine ⟨ls.map (·.2), ⟨ls.map (·.1), ⟨some x, c, by simp [hll], by simp; omega, hm, ⟨by simp, fun h => by cases h⟩, fun hn => ⟨x, rfl, Nat.zero_le _, ?_, fun j u hu => ?_⟩⟩, fun k u l hu hl => ?_⟩, fun l hlm => ?_⟩
    · simp at hn
      obtain ⟨r, h2, _⟩ := each 0 (by omega)
      have := block_lt_of_cell h2
      rwa [block_add] at this
    · rw [List.getElem?_map] at hu
      cases hq : ls[j]? with
      | none => rw [hq] at hu; cases hu
      | some q =>
        rw [hq] at hu
        simp at hu
        subst hu
        exact (hl' j q hq).1
    · rw [List.getElem?_map] at hu hl
      cases hq : ls[k]? with
      | none => rw [hq] at hu; cases hu
      | some q =>
        rw [hq] at hu hl
        simp at hu hl
        subst hu hl
        exact (hl' k q hq).2.1
    · simp only [List.mem_map] at hlm
      obtain ⟨q, hq, rfl⟩ := hlm
      obtain ⟨k, hk, rfl⟩ := List.getElem_of_mem hq
      exact (hl' k _ (List.getElem?_eq_getElem hk)).2.2
theorem opens_doms {t s e : TypeId} {f0 f1 : Field} {i : TypeId} {v : Value} {d : DataW H} {p : List MemPlace} (ht : P.underlying t = some (.slice s)) (hs : P.underlying s = some (.slice e)) (hcs : P.cellsOf s = 1)
    (he : P.underlying e = some (.struct #[f0, f1])) (hone : oneCellFields P #[f0, f1] = true) (hc : P.cellsOf e = 2) (h0 : f0.type = i) (h1 : f1.type = i) (hi : P.underlying i = some (.int .i64))
    (hv : ∃ A n c, v = .slice A n c) (h : DataW.Trod enc P w base (fun _ => true) held t v d p) : ∃ L, DomsR w 0 0 w.heap.size v L ∧ ∀ l ∈ L, ∀ r ∈ l, I64 r.1 ∧ I64 r.2 := by
  obtain ⟨A, n, c, rfl⟩ := hv
  obtain ⟨fuel, hf⟩ := h
  exact opens_doms' ht hs hcs he hone hc h0 h1 hi hf
end
end Go.Proofs.Ytonkcemcledhiaa.Old
