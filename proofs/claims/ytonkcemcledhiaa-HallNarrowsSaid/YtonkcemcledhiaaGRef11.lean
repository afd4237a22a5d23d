/- The code of functions, as abstract code. Printed by program. What the functions of package ref11 compute: values, sum, lin, count, clause, Asked. What the functions of package ref11 compute, continued: Asked, Holds. The code of functions, as abstract code. Printed by program. What the functions of package ref11 compute, continued: unlike values, tasks. What the functions of package ref11 compute, continued: Holds. -/
import Derived.Test.YtonkcemcledhiaaAv2
import Derived.Test.YtonkcemcledhiaaProg
import Derived.Test.YtonkcemcledhiaaGRef08
import Derived.Test.YtonkcemcledhiaaPlMod
namespace Go.Proofs.Ytonkcemcledhiaa
open Av
set_option linter.unusedVariables false
set_option maxRecDepth 100000
/- touchstone/touchstoneref11.values: slots c, 0, a, 1, c, 2, a, 3, out, 5, i, 6 -/
/- touchstone/touchstoneref11.Asked: slots c, 0, a, 1, c, 2, a, 3, m, 5, i, 6, d, 7, i, 8, v, 9 -/
/- touchstone/touchstoneref11.sum: slots c, 0, v, 1, c, 2, v, 3, n, 5, i, 6 -/
/- touchstone/touchstoneref11.lin: slots c, 0, v, 1, flag, 2, c, 3, v, 4, flag, 5, n, 7 -/
/- touchstone/touchstoneref11.count: slots v, 0, n, 1, v, 2, n, 3, k, 5, i, 6 -/
/- touchstone/touchstoneref11.clause: slots c, 0, v, 1, c, 2, v, 3, i, 5 -/
/- touchstone/touchstoneref11.linear: slots kind, 0, kind, 1 -/
/- touchstone/touchstoneref11.Holds: slots c, 0, a, 1, c, 2, a, 3, v, 5, last, 6, n, 7 -/
end Go.Proofs.Ytonkcemcledhiaa
namespace Go.Proofs.Ytonkcemcledhiaa
open Av
attribute [local irreducible] awp awpOpers
set_option linter.unusedSimpArgs false
set_option linter.unusedVariables false
set_option maxRecDepth 100000
set_option maxHeartbeats 4000000
end Go.Proofs.Ytonkcemcledhiaa
namespace Go.Proofs.Ytonkcemcledhiaa
open Av
attribute [local irreducible] awp awpOpers
set_option linter.unusedSimpArgs false
set_option linter.unusedVariables false
set_option maxRecDepth 100000
set_option maxHeartbeats 4000000
end Go.Proofs.Ytonkcemcledhiaa
namespace Go.Proofs.Ytonkcemcledhiaa
open Av
set_option linter.unusedVariables false
set_option maxRecDepth 100000
/- touchstone/touchstoneref11.unlike: slots v, 0, v, 1, i, 3 -/
/- touchstone/touchstoneref11.load: slots c, 0, v, 1, t, 2, c, 3, v, 4, t, 5, n, 7, i, 8 -/
/- touchstone/touchstoneref11.tasks: slots c, 0, v, 1, c, 2, v, 3, i, 5 -/
end Go.Proofs.Ytonkcemcledhiaa
namespace Go.Proofs.Ytonkcemcledhiaa
open Av
attribute [local irreducible] awp awpOpers
set_option linter.unusedSimpArgs false
set_option linter.unusedVariables false
set_option maxRecDepth 100000
set_option maxHeartbeats 4000000
end Go.Proofs.Ytonkcemcledhiaa
namespace Go.Proofs.Ytonkcemcledhiaa
open Av
attribute [local irreducible] awp awpOpers
set_option linter.unusedSimpArgs false
set_option linter.unusedVariables false
set_option maxRecDepth 100000
set_option maxHeartbeats 4000000
end Go.Proofs.Ytonkcemcledhiaa
