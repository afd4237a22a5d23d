/- The code of functions, as abstract code. Printed by program. What the functions of package ref11 compute, continued: Size, Boxes, first, after, Every. What the functions of package ref11 compute, continued: Every. The code of functions, as abstract code. Printed by program. Few, Kept. Plain laws: values within domains, as domains of one value each; sums. -/
import Derived.Test.YtonkcemcledhiaaAv2
import Derived.Test.YtonkcemcledhiaaProg
import Derived.Test.YtonkcemcledhiaaGRef11
import Derived.Test.YtonkcemcledhiaaGRef09
import Derived.Test.YtonkcemcledhiaaPlMod
namespace Go.Proofs.Ytonkcemcledhiaa
open Av
set_option linter.unusedVariables false
set_option maxRecDepth 100000
/- touchstone/touchstoneref11.Boxes: slots doms, 0, most, 1, doms, 2, most, 3, n, 5, i, 6, k, 7 -/
/- touchstone/touchstoneref11.first: slots doms, 0, doms, 1, out, 3, i, 4 -/
/- touchstone/touchstoneref11.after: slots doms, 0, a, 1, doms, 2, a, 3, out, 6, i, 7, n, 8, ok, 9 -/
/- touchstone/touchstoneref11.Every: slots doms, 0, cons, 1, doms, 2, cons, 3, out, 5, i, 6, a, 7, ok, 8, holds, 9, i, 10 -/
end Go.Proofs.Ytonkcemcledhiaa
namespace Go.Proofs.Ytonkcemcledhiaa
open Av
attribute [local irreducible] awp awpOpers
set_option linter.unusedSimpArgs false
set_option linter.unusedVariables false
set_option maxRecDepth 100000
set_option maxHeartbeats 4000000
end Go.Proofs.Ytonkcemcledhiaa
namespace Go.Proofs.Ytonkcemcledhiaa
open Av
attribute [local irreducible] awp awpOpers
set_option linter.unusedSimpArgs false
set_option linter.unusedVariables false
set_option maxRecDepth 100000
set_option maxHeartbeats 4000000
end Go.Proofs.Ytonkcemcledhiaa
namespace Go.Proofs.Ytonkcemcledhiaa
open Av
set_option linter.unusedVariables false
set_option maxRecDepth 100000
/- touchstone/touchstonelaw12.Few: slots d, 0, d, 1, _, 3, x, 4 -/
/- touchstone/touchstonelaw12.Kept: slots c, 0, d, 1, out, 2, e, 3, c, 4, d, 5, out, 6, e, 7, l, 9, x, 10, _, 11, a, 12 -/
end Go.Proofs.Ytonkcemcledhiaa
namespace Go.Proofs.Ytonkcemcledhiaa
open Av
attribute [local irreducible] awp awpOpers
set_option linter.unusedSimpArgs false
set_option linter.unusedVariables false
set_option maxRecDepth 100000
set_option maxHeartbeats 4000000
end Go.Proofs.Ytonkcemcledhiaa
namespace Go.Proofs.Ytonkcemcledhiaa
open Av
set_option linter.unusedSimpArgs false
set_option linter.unusedVariables false
/-! sums of values -/
end Go.Proofs.Ytonkcemcledhiaa
