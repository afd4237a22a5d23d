/- The code of functions, as abstract code. Printed by program. -/
import Derived.Test.YtfcphijidcfboaaAv2
import Derived.Test.YtfcphijidcfboaaProg
namespace Go.Proofs.Ytfcphijidcfboaa
open Av
set_option linter.unusedVariables false
set_option maxRecDepth 100000
def kd_CRef01 (f : Nat) : Nat := 0
/- touchstone/touchstoneref01.Floor: slots a, 0, b, 1, a, 2, b, 3, q, 6 -/
/- touchstone/touchstoneref01.Ceil: slots a, 0, b, 1, a, 2, b, 3, q, 6 -/
end Go.Proofs.Ytfcphijidcfboaa
