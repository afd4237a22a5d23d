/- The code of functions, as abstract code. Printed by program. -/
import Derived.Test.YtnhedjpghpdbdaaAv2
import Derived.Test.YtnhedjpghpdbdaaProg
namespace Go.Proofs.Ytnhedjpghpdbdaa
open Av
set_option linter.unusedVariables false
set_option maxRecDepth 100000
def kd_CSenseA (f : Nat) : Nat := if f = 33 then 1 else 0
/- touchstone/sense.All: slots m, 0, a, 1, m, 2, a, 3, x, 5, d, 6 -/
/- slices.ContainsFunc[[]touchstone/api.Con,touchstone/api.Con]: slots s, 0, f, 1, s, 2, f, 3 -/
/- slices.IndexFunc[[]touchstone/api.Con,touchstone/api.Con]: slots s, 0, f, 1, s, 2, f, 3, i, 5 -/
end Go.Proofs.Ytnhedjpghpdbdaa
