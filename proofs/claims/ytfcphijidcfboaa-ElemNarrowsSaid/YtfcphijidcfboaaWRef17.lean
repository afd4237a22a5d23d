/- What the reference computes for unlike values: without, given, Room. -/
import Derived.Test.YtfcphijidcfboaaPlRef17
import Derived.Test.YtfcphijidcfboaaGSet
import Derived.Test.YtfcphijidcfboaaCRef17
namespace Go.Proofs.Ytfcphijidcfboaa
open Av
attribute [local irreducible] awp awpOpers
set_option linter.unusedSimpArgs false
set_option linter.unusedVariables false
set_option maxRecDepth 100000
set_option maxHeartbeats 4000000
end Go.Proofs.Ytfcphijidcfboaa
