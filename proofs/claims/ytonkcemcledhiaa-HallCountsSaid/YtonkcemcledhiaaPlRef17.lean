/- What the reference's functions for unlike values compute, in plain words. -/
import Derived.Test.YtonkcemcledhiaaPlHall
namespace Go.Proofs.Ytonkcemcledhiaa
open Av
attribute [local irreducible] awp awpOpers
set_option linter.unusedSimpArgs false
set_option linter.unusedVariables false
end Go.Proofs.Ytonkcemcledhiaa
