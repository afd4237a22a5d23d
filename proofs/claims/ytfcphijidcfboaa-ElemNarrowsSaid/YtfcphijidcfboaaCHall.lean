/- The code of functions, as abstract code. Printed by program. -/
import Derived.Test.YtfcphijidcfboaaAv2
import Derived.Test.YtfcphijidcfboaaProg
namespace Go.Proofs.Ytfcphijidcfboaa
open Av
set_option linter.unusedVariables false
set_option maxRecDepth 100000
def kd_CHall (f : Nat) : Nat := 0
/- touchstone/hall.within: slots n, 0, n, 1 -/
/- touchstone/hall.count: slots l, 0, lo, 1, hi, 2, l, 3, lo, 4, hi, 5, n, 7, _, 8, r, 9 -/
/- touchstone/hall.Room: slots l, 0, l, 1, _, 3, r, 4, _, 5, p, 6, _, 7, q, 8, n, 9 -/
/- touchstone/hall.ends: slots r, 0, stretches, 1, r, 2, stretches, 3, again, 5, _, 6, s, 7 -/
end Go.Proofs.Ytfcphijidcfboaa
