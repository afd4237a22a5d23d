/- The code of functions, as abstract code. Printed by program. The code of functions, as abstract code. Printed by program. What Least, Opposite, Ends of package touchstoneref12 compute; alive; LinearEnds. -/
import Derived.Test.YtonkcemcledhiaaAv2
import Derived.Test.YtonkcemcledhiaaProg
import Derived.Test.YtonkcemcledhiaaGLin
import Derived.Test.YtonkcemcledhiaaGRef12
import Derived.Test.YtonkcemcledhiaaGRef08
namespace Go.Proofs.Ytonkcemcledhiaa
open Av
set_option linter.unusedVariables false
set_option maxRecDepth 100000
/- touchstone/touchstoneref12.Least: slots a, 0, x, 1, d, 2, a, 3, x, 4, d, 5, n, 7, i, 8 -/
/- touchstone/touchstoneref12.Opposite: slots a, 0, a, 1, out, 3, i, 4 -/
/- touchstone/touchstoneref12.Ends: slots c, 0, d, 1, c, 2, d, 3 -/
end Go.Proofs.Ytonkcemcledhiaa
namespace Go.Proofs.Ytonkcemcledhiaa
open Av
set_option linter.unusedVariables false
set_option maxRecDepth 100000
/- touchstone/touchstonelaw12.alive: slots d, 1, c, 2, out, 3, e, 4, r, 5, ok, 6, _, 7, f, 8 -/
/- touchstone/touchstonelaw12.LinearEnds: slots c, 0, d, 1, c, 2, d, 3, x, 5, p, 6, y, 7, q, 8 -/
end Go.Proofs.Ytonkcemcledhiaa
namespace Go.Proofs.Ytonkcemcledhiaa
open Av
attribute [local irreducible] awp awpOpers
set_option linter.unusedSimpArgs false
set_option linter.unusedVariables false
set_option maxRecDepth 100000
set_option maxHeartbeats 4000000
end Go.Proofs.Ytonkcemcledhiaa
