/- mine of package touchstonelaw17. -/
import Derived.Test.YtonkcemcledhiaaWLaw17
import Derived.Test.YtonkcemcledhiaaGRef08
import Derived.Test.YtonkcemcledhiaaGRef12
import Derived.Test.YtonkcemcledhiaaPlHall4
namespace Go.Proofs.Ytonkcemcledhiaa
open Av
attribute [local irreducible] awp awpOpers
set_option linter.unusedSimpArgs false
set_option linter.unusedVariables false
set_option maxRecDepth 100000
set_option maxHeartbeats 4000000
end Go.Proofs.Ytonkcemcledhiaa
