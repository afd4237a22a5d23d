/- Plain laws: only the rows of some variables change. -/
import Derived.Test.YtnhedjpghpdbdaaPlMod
namespace Go.Proofs.Ytnhedjpghpdbdaa
open Av
attribute [local irreducible] awp awpOpers
set_option linter.unusedSimpArgs false
set_option linter.unusedVariables false
def Kp (X : List Int) (D E : List (List Rg)) : Prop := ∀ k : Nat, (∀ x ∈ X, x.toNat ≠ k) → E[k]? = D[k]?
theorem kp_refl (X : List Int) (D : List (List Rg)) : Kp X D D := fun _ _ => rfl
theorem kp_set {X : List Int} {D E : List (List Rg)} {x : Int} (hx : x ∈ X) (r : List Rg) (h : Kp X D E) : Kp X D (E.set x.toNat r) := by
  intro k hk
  rw [List.getElem?_set_ne (hk x hx)]
  exact h k hk
theorem kp_trans {X : List Int} {D E F : List (List Rg)} (h1 : Kp X D E) (h2 : Kp X E F) : Kp X D F := fun k hk => (h2 k hk).trans (h1 k hk)
theorem kp_mono {X Y : List Int} {D E : List (List Rg)} (h : Kp X D E) (hs : ∀ x ∈ X, x ∈ Y) : Kp Y D E := fun k hk => h k fun x hx => hk x (hs x hx)
theorem xat_mem {X : List Int} {j : Nat} (h : j < X.length) : xat X j ∈ X := List.mem_of_getElem? (xat_get h)
theorem tell_kp {X : List Int} {D G : List (List Rg)} {s : List (List Rg) × Bool} (h : tell s = (G, 0)) (hk : Kp X D s.1) : Kp X D G := by
  obtain ⟨E, b⟩ := s
  cases b
  · simp [tell] at h
  · simp [tell] at h
    subst h
    exact hk
end Go.Proofs.Ytnhedjpghpdbdaa
