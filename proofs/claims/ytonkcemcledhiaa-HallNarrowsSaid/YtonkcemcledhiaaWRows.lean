/- Any number of boxes, one behind another: that they are among others, by their places. -/
import Derived.Test.YtonkcemcledhiaaWFrz
namespace Go.Proofs.Ytonkcemcledhiaa
open Av
attribute [local irreducible] awp awpOpers
set_option linter.unusedSimpArgs false
set_option linter.unusedVariables false
/-! the same boxes, by the same numbers -/
end Go.Proofs.Ytonkcemcledhiaa
