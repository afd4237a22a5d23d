/- The code of functions, as abstract code. Printed by program. What the functions of package linear compute: ends, span, opposite, whole, own, terms. What the functions of package linear compute, continued: terms, most. What the functions of package linear compute, continued: is, not, fit, Narrow, Ends. What the functions of package linear compute, continued: Narrow, Ends. -/
import Derived.Test.YtonkcemcledhiaaAv2
import Derived.Test.YtonkcemcledhiaaProg
import Derived.Test.YtonkcemcledhiaaPlMod
import Derived.Test.YtonkcemcledhiaaGSet
import Derived.Test.YtonkcemcledhiaaGMod
namespace Go.Proofs.Ytonkcemcledhiaa
open Av
set_option linter.unusedVariables false
set_option maxRecDepth 100000
/- (*touchstone/linear.sum).ends: slots s, 0, t, 1, s, 2, t, 3, lo, 4, hi, 5, r, 6, _, 7 -/
/- (*touchstone/linear.sum).span: slots s, 0, s, 1, out, 3, _, 4, t, 5, lo, 6, hi, 7 -/
/- (*touchstone/linear.sum).opposite: slots s, 0, s, 1, i, 2 -/
/- (*touchstone/linear.sum).most: slots s, 0, n, 1, s, 2, n, 3, room, 5, was, 6, _, 7, t, 8, r, 9, _, 10 -/
/- (*touchstone/linear.sum).whole: slots s, 0, s, 1 -/
/- (*touchstone/linear.sum).whole$1: slots d, 0, d, 1 -/
/- (*touchstone/linear.sum).is: slots s, 0, n, 1, s, 2, n, 3 -/
/- (*touchstone/linear.sum).not: slots s, 0, n, 1, s, 2, n, 3, open, 5, _, 6, t, 7, r, 8, _, 9, x, 10 -/
/- touchstone/linear.own: slots d, 0, d, 1, out, 3, _, 4, x, 5 -/
/- touchstone/linear.terms: slots c, 0, d, 1, c, 2, d, 3, s, 5, i, 6, a, 7 -/
/- touchstone/linear.fit: slots c, 0, d, 1, c, 2, d, 3 -/
/- touchstone/linear.Narrow: slots c, 0, d, 1, c, 2, d, 3, s, 6, ok, 7 -/
/- touchstone/linear.Ends: slots c, 0, d, 1, c, 2, d, 3 -/
/- slices.ContainsFunc[[][]touchstone/api.Range,[]touchstone/api.Range]: slots s, 0, f, 1, s, 2, f, 3 -/
/- slices.IndexFunc[[][]touchstone/api.Range,[]touchstone/api.Range]: slots s, 0, f, 1, s, 2, f, 3, i, 5 -/
end Go.Proofs.Ytonkcemcledhiaa
namespace Go.Proofs.Ytonkcemcledhiaa
open Av
attribute [local irreducible] awp awpOpers
set_option linter.unusedSimpArgs false
set_option linter.unusedVariables false
set_option maxRecDepth 100000
set_option maxHeartbeats 4000000
end Go.Proofs.Ytonkcemcledhiaa
namespace Go.Proofs.Ytonkcemcledhiaa
open Av
attribute [local irreducible] awp awpOpers
set_option linter.unusedSimpArgs false
set_option linter.unusedVariables false
set_option maxRecDepth 100000
set_option maxHeartbeats 4000000
end Go.Proofs.Ytonkcemcledhiaa
namespace Go.Proofs.Ytonkcemcledhiaa
open Av
attribute [local irreducible] awp awpOpers
set_option linter.unusedSimpArgs false
set_option linter.unusedVariables false
set_option maxRecDepth 100000
set_option maxHeartbeats 4000000
end Go.Proofs.Ytonkcemcledhiaa
namespace Go.Proofs.Ytonkcemcledhiaa
open Av
attribute [local irreducible] awp awpOpers
set_option linter.unusedSimpArgs false
set_option linter.unusedVariables false
set_option maxRecDepth 100000
set_option maxHeartbeats 4000000
end Go.Proofs.Ytonkcemcledhiaa
