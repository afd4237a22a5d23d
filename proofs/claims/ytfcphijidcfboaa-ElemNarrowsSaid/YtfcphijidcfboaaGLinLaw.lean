/- The code of functions, as abstract code. Printed by program. The code of functions, as abstract code. Printed by program. What Least, Opposite, Ends of package touchstoneref12 compute; alive; LinearEnds. The code of functions, as abstract code. Printed by program. LinearOrder. The code of functions, as abstract code. Printed by program. LinearKeeps. -/
import Derived.Test.YtfcphijidcfboaaAv2
import Derived.Test.YtfcphijidcfboaaProg
import Derived.Test.YtfcphijidcfboaaGLin
import Derived.Test.YtfcphijidcfboaaGRef12
import Derived.Test.YtfcphijidcfboaaGRef08
import Derived.Test.YtfcphijidcfboaaPlMod
import Derived.Test.YtfcphijidcfboaaGEvery
namespace Go.Proofs.Ytfcphijidcfboaa
open Av
set_option linter.unusedVariables false
set_option maxRecDepth 100000
def kd_CRef12 (f : Nat) : Nat := 0
/- touchstone/touchstoneref12.Least: slots a, 0, x, 1, d, 2, a, 3, x, 4, d, 5, n, 7, i, 8 -/
/- touchstone/touchstoneref12.Opposite: slots a, 0, a, 1, out, 3, i, 4 -/
/- touchstone/touchstoneref12.Ends: slots c, 0, d, 1, c, 2, d, 3 -/
end Go.Proofs.Ytfcphijidcfboaa
namespace Go.Proofs.Ytfcphijidcfboaa
open Av
set_option linter.unusedVariables false
set_option maxRecDepth 100000
def kd_CLinLaw (f : Nat) : Nat := 0
/- touchstone/touchstonelaw12.alive: slots d, 1, c, 2, out, 3, e, 4, r, 5, ok, 6, _, 7, f, 8 -/
/- touchstone/touchstonelaw12.LinearEnds: slots c, 0, d, 1, c, 2, d, 3, x, 5, p, 6, y, 7, q, 8 -/
end Go.Proofs.Ytfcphijidcfboaa
namespace Go.Proofs.Ytfcphijidcfboaa
open Av
attribute [local irreducible] awp awpOpers
set_option linter.unusedSimpArgs false
set_option linter.unusedVariables false
set_option maxRecDepth 100000
set_option maxHeartbeats 4000000
/-- numbers and variables as terms -/
def zipT (A X : List Int) : List Tm := List.zip A X
theorem zip_get {A X : List Int} {k : Nat} {a x : Int} (h1 : A[k]? = some a) (h2 : X[k]? = some x) : (zipT A X)[k]? = some (a, x) := by
  unfold zipT
  simp only [List.getElem?_zip_eq_some]
  exact ⟨h1, h2⟩
theorem zip_tX {A X : List Int} {k : Nat} {a x : Int} (h1 : A[k]? = some a) (h2 : X[k]? = some x) : tX (zipT A X) k = (a, x) := by
  unfold tX; rw [zip_get h1 h2]; rfl
theorem zip_len {A X : List Int} (h : A.length ≤ X.length) : (zipT A X).length = A.length := by unfold zipT; simp only [List.length_zip]; omega
theorem term_min {D : List (List Rg)} {a x : Int} (hD : DOk D) (hx : 0 ≤ x ∧ x < D.length) : min (a * (eAt D x).1) (a * (eAt D x).2) = (termE D (a, x)).1 := by
  obtain ⟨_, h4, h5, h6⟩ := eAt_facts hD hx
  rw [min_term h5]
  unfold termE
  simp only
  split <;> rfl
theorem zip_opp (A X : List Int) : zipT (A.map fun a => -a) X = opp (zipT A X) := by
  unfold zipT opp
  induction A generalizing X with
  | nil => rfl
  | cons a l ih => cases X with
    | nil => rfl
    | cons x m => simp only [List.map_cons, List.zip_cons_cons, ih]
theorem opp_span {D : List (List Rg)} {T : List Tm} : ∀ {k : Nat}, k ≤ T.length → (spanK D (opp T) k).1 = -(spanK D T k).2
  | 0, _ => by simp [spanK]
  | k + 1, h => by
    have ih := opp_span (D := D) (T := T) (k := k) (by omega)
    have e : tX (opp T) k = (-(tX T k).1, (tX T k).2) := by
      conv => lhs; unfold tX
      rw [opp_get (by omega)]; rfl
    unfold spanK
    simp only [ih, e]
    have ht : (termE D (-(tX T k).1, (tX T k).2)).1 = -(termE D (tX T k)).2 := by
      unfold termE
      simp only
      generalize (tX T k).1 = a
      generalize (eAt D (tX T k).2).1 = lo
      generalize (eAt D (tX T k).2).2 = hi
      by_cases h1 : a < 0
      · rw [if_neg (by omega), if_pos h1]; simp only [Int.neg_mul]
      · by_cases h2 : a = 0
        · subst h2; simp
        · rw [if_pos (by omega), if_neg h1]; simp only [Int.neg_mul]
    rw [ht]
    omega
set_option maxRecDepth 100000 in
theorem lalive_1 : linearL (1, [0, 1], [1, 1], 9) [[(0, 5)], [(0, 5)]] = ([[(4, 5)], [(4, 5)]], 0) := by decide +kernel
theorem lalive_2 : linearL (2, [0], [1], -1) [[(0, 5)], [(0, 5)]] = ([], 12) := by decide +kernel
theorem lalive_3 : lendsL (1, [0, 1], [1, 1], 9) [[(0, 5)], [(0, 5)]] = ((0, 10), true) := by decide +kernel
end Go.Proofs.Ytfcphijidcfboaa
namespace Go.Proofs.Ytfcphijidcfboaa
open Av
set_option linter.unusedVariables false
set_option maxRecDepth 100000
def kd_CLinOrd (f : Nat) : Nat := 0
/- touchstone/touchstonelaw12.LinearOrder: slots c, 0, d, 1, cut, 2, c, 3, d, 4, cut, 5, small, 7, x, 8, e, 9, y, 10, f, 11 -/
end Go.Proofs.Ytfcphijidcfboaa
namespace Go.Proofs.Ytfcphijidcfboaa
open Av
attribute [local irreducible] awp awpOpers
set_option linter.unusedSimpArgs false
set_option linter.unusedVariables false
set_option maxRecDepth 100000
set_option maxHeartbeats 4000000
theorem order_linear {c : Con} {S D : List (List Rg)} (hK : 1 ≤ c.1 ∧ c.1 ≤ 3) (hm : modB (D, [c], 0, 0) = true) (hS : modB (S, [c], 0, 0) = true) (hle : LeD S D) :
    (∃ E, linearL c D = (E, 0) ∧ (linearL c S = ([], 12) ∨ ∃ E', linearL c S = (E', 0) ∧ LeD E' E)) ∨ (linearL c D = ([], 12) ∧ linearL c S = ([], 12)) := by
  obtain ⟨f1, f2, f3, f4, f5, f6⟩ := sum_facts hm (by omega)
  obtain ⟨g1, g2, g3, g4, g5, g6⟩ := sum_facts hS (by omega)
  have key : ∀ F : List (List Rg), modB (F, [c], 0, 0) = true → linearL c F = (if c.1 = 1 then tell (isS F (termsOf c) c.2.2.2) else if c.1 = 2 then tell (mostS F (termsOf c) c.2.2.2) else if c.1 = 3 then tell (notS F (termsOf c) c.2.2.2) else ([], 10)) := by
    intro F hF
    unfold linearL
    rw [if_pos hF]
  rw [key D hm, key S hS]
  have hc : c.1 = 1 ∨ c.1 = 2 ∨ c.1 = 3 := by omega
  rcases hc with h | h | h <;> rw [h]
  · exact tell_up (isS_up hle g2 f2 f3)
  · exact tell_up (mostS_up hle g2 f2 f3)
  · exact tell_up (notS_up hle g2 f2 f3 fun E' b h => not_len g2 g3 h)
theorem size_linear {c : Con} {D : List (List Rg)} (hK : 1 ≤ c.1 ∧ c.1 ≤ 3) (hm : modB (D, [c], 0, 0) = true) : (linearL c D).1.length ≤ 1000000000000 := by
  obtain ⟨f1, f2, f3, f4, f5, f6⟩ := sum_facts hm (by omega)
  have ht : ∀ s : List (List Rg) × Bool, (∀ E b, s = (E, b) → LeD E D) → (tell s).1.length ≤ 1000000000000 := by
    rintro ⟨E, b⟩ h
    cases b
    · simp [tell]
    · have := (h E true rfl).1
      simp only [tell]
      omega
  unfold linearL
  rw [if_pos hm]
  split
  · exact ht _ fun E b h => is_len f2 f3 h
  · split
    · exact ht _ fun E b h => most_len f2 f3 h
    · split
      · exact ht _ fun E b h => not_len f2 f3 h
      · simp
end Go.Proofs.Ytfcphijidcfboaa
namespace Go.Proofs.Ytfcphijidcfboaa
open Av
set_option linter.unusedVariables false
set_option maxRecDepth 100000
def kd_CLinKeep (f : Nat) : Nat := 0
/- touchstone/touchstonelaw12.LinearKeeps: slots c, 0, d, 1, c, 2, d, 3, out, 5, e, 6 -/
end Go.Proofs.Ytfcphijidcfboaa
namespace Go.Proofs.Ytfcphijidcfboaa
open Av
attribute [local irreducible] awp awpOpers
set_option linter.unusedSimpArgs false
set_option linter.unusedVariables false
set_option maxRecDepth 100000
set_option maxHeartbeats 4000000
theorem whole_pos {E : List (List Rg)} (h : wholeB E = true) : ∀ r ∈ E, 0 < r.length := by
  unfold wholeB at h
  rw [Bool.not_eq_true', List.any_eq_false] at h
  intro r hr
  have := h r hr
  simp only [decide_eq_true_eq] at this
  omega
theorem dok_pos {E : List (List Rg)} (h : DOk E) : ∀ r ∈ E, 0 < r.length := by
  intro r hr
  obtain ⟨i, hi, rfl⟩ := List.getElem_of_mem hr
  have hx : 0 ≤ (i : Int) ∧ (i : Int) < E.length := by omega
  have h1 := dom_right (h i hx.1 hx.2)
  have e : rowOf E (i : Int) = E[i] := by
    have := row_get hx
    rw [Int.toNat_natCast, List.getElem?_eq_getElem hi] at this
    injection this with this
    exact this.symm
  rw [e] at h1
  exact h1.2
theorem linear_res {c : Con} {D : List (List Rg)} (hK : 1 ≤ c.1 ∧ c.1 ≤ 3) (hm : modB (D, [c], 0, 0) = true) : linearL c D = ([], 12) ∨ ∃ E, linearL c D = (E, 0) ∧ LeD E D ∧ ∀ r ∈ E, 0 < r.length := by
  obtain ⟨f1, f2, f3, f4, f5, f6⟩ := sum_facts hm (by omega)
  have ht : ∀ s : List (List Rg) × Bool, (∀ E b, s = (E, b) → LeD E D) → (∀ E, s = (E, true) → ∀ r ∈ E, 0 < r.length) → tell s = ([], 12) ∨ ∃ E, tell s = (E, 0) ∧ LeD E D ∧ ∀ r ∈ E, 0 < r.length := by
    rintro ⟨E, b⟩ h1 h2
    cases b
    · exact .inl rfl
    · exact .inr ⟨E, rfl, h1 E true rfl, h2 E rfl⟩
  unfold linearL
  rw [if_pos hm]
  have hc : c.1 = 1 ∨ c.1 = 2 ∨ c.1 = 3 := by omega
  rcases hc with h | h | h <;> rw [h]
  · refine ht _ (fun E b h => is_len f2 f3 h) fun E h => ?_
    have h' : isS D (termsOf c) c.2.2.2 = (E, true) := h
    unfold isS at h'
    split at h'
    · cases h'
    · exact whole_pos (most_wh h')
  · exact ht _ (fun E b h => most_len f2 f3 h) fun E h => whole_pos (most_wh h)
  · refine ht _ (fun E b h => not_len f2 f3 h) fun E h => ?_
    have h' : notS D (termsOf c) c.2.2.2 = (E, true) := h
    unfold notS at h'
    split at h'
    · cases h'; exact dok_pos f2
    · split at h'
      · injection h' with h1 h2; subst h1; exact dok_pos f2
      · split at h'
        · cases h'; exact dok_pos f2
        · injection h' with h1 h2; subst h1; exact whole_pos h2
theorem sum_link {A X a : List Int} (hAX : A.length ≤ X.length) : ∀ {n : Nat}, n ≤ A.length → sumN A (valsOf X a) n = sumT (zipT A X) a n
  | 0, _ => rfl
  | n + 1, h => by
    have h1 := sum_link (a := a) hAX (n := n) (by omega)
    have ha := xat_get (X := A) (i := n) (by omega)
    have hx := xat_get (X := X) (i := n) (by omega)
    have hv := vals_get (a := a) hx
    unfold sumN sumT
    rw [h1, zip_tX ha hx]
    simp only
    have he : xat (valsOf X a) n = xat a (xat X n).toNat := by
      conv => lhs; unfold xat
      rw [hv]; rfl
    rw [he]
theorem linear_kept {c : Con} {D : List (List Rg)} (hK : 1 ≤ c.1 ∧ c.1 ≤ 3) (hm : modB (D, [c], 0, 0) = true) :
    KeptP (fun a => askdB c a && holdsB c (valsOf c.2.1 a)) D (linearL c D).1 (linearL c D).2 := by
  obtain ⟨f1, f2, f3, f4, f5, f6⟩ := sum_facts hm (by omega)
  obtain ⟨g1, g2, g3⟩ := one_facts hm
  have hF := full_dom g2
  refine kept_of (fun a ha => ?_) (fun a ha hh => ?_) (linear_res hK hm)
  · obtain ⟨o1, o2⟩ := one_le hF ha
    exact order_linear hK hm (mod_sub o1 o2 hm) o1
  · obtain ⟨o1, o2⟩ := one_le hF ha
    rw [Bool.and_eq_true] at hh
    have hh2 := hh.2
    unfold holdsB at hh2
    rw [if_pos (by omega)] at hh2
    have hTl : (termsOf c).length = c.2.2.1.length := by unfold termsOf; simp only [List.length_zip]; omega
    have hsum : sumN c.2.2.1 (valsOf c.2.1 a) c.2.2.1.length = sumT (termsOf c) a (termsOf c).length := by
      rw [hTl]
      exact sum_link f5 (Nat.le_refl _)
    rw [hsum] at hh2
    refine linear_one (box_bound hF ha) hK (mod_sub o1 o2 hm) (fun k hk => by have := (f3.2 k hk).2; rw [ha.1]; exact this) ?_
    unfold linB at hh2
    have hc : c.1 = 1 ∨ c.1 = 2 ∨ c.1 = 3 := by omega
    rcases hc with h | h | h <;> rw [h] at hh2 ⊢
    · simp at hh2; exact ⟨fun _ => hh2, fun h => by omega, fun h => by omega⟩
    · simp at hh2; exact ⟨fun h => by omega, fun _ => hh2, fun h => by omega⟩
    · simp at hh2; exact ⟨fun h => by omega, fun h => by omega, fun _ => hh2⟩
end Go.Proofs.Ytfcphijidcfboaa
