/- Plain laws of products .. at one value each. -/
import Derived.Test.YtonkcemcledhiaaPlArith
import Derived.Test.YtonkcemcledhiaaGEvery
namespace Go.Proofs.Ytonkcemcledhiaa
open Av
attribute [local irreducible] awp awpOpers
set_option linter.unusedSimpArgs false
set_option linter.unusedVariables false
set_option linter.unusedSectionVars false
/-! one value each -/
section
variable {a : List Int} (hb : ∀ v ∈ a, -1048576 ≤ v ∧ v ≤ 1048576)
include hb
end
end Go.Proofs.Ytonkcemcledhiaa
