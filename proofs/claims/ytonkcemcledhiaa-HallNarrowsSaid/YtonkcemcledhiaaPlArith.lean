/- Plain laws of products, lesser and greater ones, sizes, likeness. -/
import Derived.Test.YtonkcemcledhiaaPlMod
namespace Go.Proofs.Ytonkcemcledhiaa
open Av
attribute [local irreducible] awp awpOpers
set_option linter.unusedSimpArgs false
set_option linter.unusedVariables false
set_option linter.unusedSectionVars false
/-- domains, and whether it failed -/
abbrev Sd := List (List Rg) × Bool
/-! quotients and products between ends -/
/-! steps leave no more than there was -/
section
variable {D : List (List Rg)} {s : Sd} {x y z : Int}
end
/-! smaller domains lead to smaller ones -/
section
variable {S D : List (List Rg)} {s t : Sd} {x y z : Int}
end
section
variable {S D : List (List Rg)} {x y z : Int} (hle : LeD S D) (hS : DOk S) (hD : DOk D) (hx : 0 ≤ x ∧ x < D.length) (hy : 0 ≤ y ∧ y < D.length)
include hle hS hD hx hy
end
/-! what a model of one such constraint says -/
end Go.Proofs.Ytonkcemcledhiaa
