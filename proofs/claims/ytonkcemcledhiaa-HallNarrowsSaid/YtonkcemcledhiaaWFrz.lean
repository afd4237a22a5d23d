/- Contracts beside other boxes, and with rows given up. -/
import Derived.Test.YtonkcemcledhiaaAv3
namespace Go.Proofs.Ytonkcemcledhiaa
open Av
attribute [local irreducible] awp awpOpers
set_option linter.unusedSimpArgs false
set_option linter.unusedVariables false
end Go.Proofs.Ytonkcemcledhiaa
