/- Plain laws of constraints on truth values, continued: Xor over smaller domains. -/
import Derived.Test.YtclpkkbamgmooaaPlLogic2
namespace Go.Proofs.Ytclpkkbamgmooaa
open Av
set_option linter.unusedSimpArgs false
set_option linter.unusedVariables false
set_option maxHeartbeats 4000000
section
variable {s d : List (List Rg)} {X : List Int}
theorem mono_fix {j : Nat} {v : Int} (hj : j < X.length) (hv : v = 0 ∨ v = 1) (hle : LeD s d) (hI : InD d X) (hs : Tri s X) (h2 : lv (rowOf d (xat X j)) = 2) (h1 : lv (rowOf s (xat X j)) = v) : Mono (some s) (setO d (xat X j) v) := by
  intro E' h
  injection h with h; subst h
  refine ⟨d.set (xat X j).toNat [(v, v)], by unfold setO; rw [if_pos h2], le_set hle (hI j hj) hv (tri_row (hs j hj) hv h1)⟩
theorem mono_none (o : Option (List (List Rg))) : Mono none o := fun E' h => by cases h
theorem mono_shr {j : Nat} {v : Int} (hj : j < X.length) (hv : v = 0 ∨ v = 1) (hle : LeD s d) (hI : InD d X) (hs : Tri s X) : Mono (setO s (xat X j) v) (some d) := fun E' h => ⟨d, rfl, (shrink_set hle.self (in_le hle hI j hj) hv (hs j hj) h).trans hle⟩
theorem mono_self (hle : LeD s d) : Mono (some s) (some d) := fun E' h => by injection h with h; subst h; exact ⟨d, rfl, hle⟩
theorem mono_xor (hX : X.length = 3) (hle : LeD s d) (hI : InD d X) (hs : Tri s X) (hd : Tri d X) : Mono (xorO s X) (xorO d X) := by
  have f0 := lv_le (hs 0 (by omega)) (hd 0 (by omega)) (hle.2 _ (hI 0 (by omega)).1 (hI 0 (by omega)).2)
  have f1 := lv_le (hs 1 (by omega)) (hd 1 (by omega)) (hle.2 _ (hI 1 (by omega)).1 (hI 1 (by omega)).2)
  have f2 := lv_le (hs 2 (by omega)) (hd 2 (by omega)) (hle.2 _ (hI 2 (by omega)).1 (hI 2 (by omega)).2)
  have t0 := tri_lv (hs 0 (by omega))
  have t1 := tri_lv (hs 1 (by omega))
  have t2 := tri_lv (hs 2 (by omega))
  have l0 := tri_lo (hs 0 (by omega))
  have l1 := tri_lo (hs 1 (by omega))
  have l2 := tri_lo (hs 2 (by omega))
  have k0 := tri_lo (hd 0 (by omega))
  have k1 := tri_lo (hd 1 (by omega))
  have k2 := tri_lo (hd 2 (by omega))
  have pair : ∀ {u w : Int}, (u = w ∨ w = 2) → (u = 0 ∨ u = 1 ∨ u = 2) → (u = 0 ∧ w = 0) ∨ (u = 1 ∧ w = 1) ∨ (u = 2 ∧ w = 2) ∨ (u = 0 ∧ w = 2) ∨ (u = 1 ∧ w = 2) := fun {u w} h k => by omega
  unfold xorO otherV
  rcases pair f0 t0 with ⟨a, p⟩ | ⟨a, p⟩ | ⟨a, p⟩ | ⟨a, p⟩ | ⟨a, p⟩ <;> rcases pair f1 t1 with ⟨b, q⟩ | ⟨b, q⟩ | ⟨b, q⟩ | ⟨b, q⟩ | ⟨b, q⟩ <;> rcases pair f2 t2 with ⟨c, r⟩ | ⟨c, r⟩ | ⟨c, r⟩ | ⟨c, r⟩ | ⟨c, r⟩ <;>
    clear f0 f1 f2 t0 t1 t2 pair <;> rw [a] at l0 <;> rw [b] at l1 <;> rw [c] at l2 <;> rw [p] at k0 <;> rw [q] at k1 <;> rw [r] at k2 <;>
    simp (config := { decide := true }) only [not_true_eq_false, not_false_eq_true, true_implies, false_implies] at l0 l1 l2 k0 k1 k2 <;>
    simp (config := { decide := true }) [cl, so, atV, a, b, c, p, q, r, sumB, l0, l1, l2, k0, k1, k2] <;>
    first
    | exact mono_none _
    | exact mono_self hle
    | exact mono_set hle (hI 0 (by omega)) (by decide) (hs 0 (by omega)) (hd 0 (by omega))
    | exact mono_set hle (hI 1 (by omega)) (by decide) (hs 1 (by omega)) (hd 1 (by omega))
    | exact mono_set hle (hI 2 (by omega)) (by decide) (hs 2 (by omega)) (hd 2 (by omega))
    | exact mono_fix (by omega) (by decide) hle hI hs p a
    | exact mono_fix (by omega) (by decide) hle hI hs q b
    | exact mono_fix (by omega) (by decide) hle hI hs r c
    | exact mono_shr (by omega) (by decide) hle hI hs
end
end Go.Proofs.Ytclpkkbamgmooaa
