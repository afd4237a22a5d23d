/- The code of functions, as abstract code. Printed by program. What the functions of package touchstoneref09 compute. What Without, Meet, Same of package touchstoneref09 compute. -/
import Derived.Test.YtnhedjpghpdbdaaAv2
import Derived.Test.YtnhedjpghpdbdaaProg
import Derived.Test.YtnhedjpghpdbdaaGSet
namespace Go.Proofs.Ytnhedjpghpdbdaa
open Av
set_option linter.unusedVariables false
set_option maxRecDepth 100000
/- touchstone/touchstoneref09.Right: slots d, 0, d, 1, i, 3 -/
/- touchstone/touchstoneref09.Has: slots d, 0, v, 1, d, 2, v, 3, i, 5 -/
/- touchstone/touchstoneref09.Size: slots d, 0, d, 1, n, 3, i, 4 -/
/- touchstone/touchstoneref09.Next: slots d, 0, v, 1, d, 2, v, 3, i, 6 -/
/- touchstone/touchstoneref09.Cut: slots d, 0, lo, 1, hi, 2, d, 3, lo, 4, hi, 5, out, 7, i, 8, r, 9 -/
/- touchstone/touchstoneref09.Without: slots d, 0, v, 1, d, 2, v, 3, out, 5, i, 6, r, 7 -/
/- touchstone/touchstoneref09.Meet: slots a, 0, b, 1, a, 2, b, 3, out, 5, i, 6 -/
/- touchstone/touchstoneref09.Same: slots a, 0, b, 1, a, 2, b, 3, i, 5 -/
end Go.Proofs.Ytnhedjpghpdbdaa
namespace Go.Proofs.Ytnhedjpghpdbdaa
open Av
attribute [local irreducible] awp awpOpers
set_option linter.unusedSimpArgs false
set_option linter.unusedVariables false
set_option maxRecDepth 100000
set_option maxHeartbeats 4000000
end Go.Proofs.Ytnhedjpghpdbdaa
namespace Go.Proofs.Ytnhedjpghpdbdaa
open Av
attribute [local irreducible] awp awpOpers
set_option linter.unusedSimpArgs false
set_option linter.unusedVariables false
set_option maxRecDepth 100000
set_option maxHeartbeats 4000000
end Go.Proofs.Ytnhedjpghpdbdaa
