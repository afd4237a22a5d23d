/- The code of functions, as abstract code. Printed by program. -/
import Derived.Test.YtbhigfllanblpaaAv2
import Derived.Test.YtbhigfllanblpaaProg
namespace Go.Proofs.Ytbhigfllanblpaa
open Av
set_option linter.unusedVariables false
set_option maxRecDepth 100000
/- touchstone/touchstoneref12.Keep: slots a, 0, x, 1, n, 2, d, 3, a, 4, x, 5, n, 6, d, 7, m, 10, out, 11, i, 12, k, 13, q, 14, _, 15, q, 16, _, 17 -/
/- touchstone/touchstoneref12.KeepIs: slots a, 0, x, 1, n, 2, d, 3, a, 4, x, 5, n, 6, d, 7, e, 10, ok, 11 -/
/- touchstone/touchstoneref12.KeepNot: slots a, 0, x, 1, n, 2, d, 3, a, 4, x, 5, n, 6, d, 7, open, 10, at, 11, s, 12, i, 13, k, 14, out, 15 -/
/- touchstone/touchstoneref12.Empty: slots d, 0, d, 1, i, 3 -/
end Go.Proofs.Ytbhigfllanblpaa
