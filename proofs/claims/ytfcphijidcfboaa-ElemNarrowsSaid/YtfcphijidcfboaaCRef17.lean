/- The code of functions, as abstract code. Printed by program. -/
import Derived.Test.YtfcphijidcfboaaAv2
import Derived.Test.YtfcphijidcfboaaProg
namespace Go.Proofs.Ytfcphijidcfboaa
open Av
set_option linter.unusedVariables false
set_option maxRecDepth 100000
def kd_CRef17 (f : Nat) : Nat := 0
/- touchstone/touchstoneref17.without: slots l, 0, k, 1, l, 2, k, 3, out, 5, i, 6 -/
/- touchstone/touchstoneref17.given: slots l, 0, l, 1, v, 3, at, 4, i, 5, best, 6, i, 7 -/
/- touchstone/touchstoneref17.Room: slots l, 0, l, 1, i, 3 -/
/- touchstone/touchstoneref17.with: slots l, 0, k, 1, v, 2, l, 3, k, 4, v, 5, out, 7 -/
/- touchstone/touchstoneref17.ends: slots l, 0, k, 1, l, 2, k, 3, r, 5 -/
end Go.Proofs.Ytfcphijidcfboaa
