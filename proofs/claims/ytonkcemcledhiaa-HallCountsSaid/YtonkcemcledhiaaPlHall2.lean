/- Plain laws for unlike values: the reference gives values out one by one just if no stretch holds more ranges than values. -/
import Derived.Test.YtonkcemcledhiaaPlRef17
namespace Go.Proofs.Ytonkcemcledhiaa
open Av
attribute [local irreducible] awp awpOpers
set_option linter.unusedSimpArgs false
set_option linter.unusedVariables false
end Go.Proofs.Ytonkcemcledhiaa
