/- The code of functions, as abstract code. Printed by program. What Lo, Hi, Fixed, With of package touchstoneref12 compute. The code of functions, as abstract code. Printed by program. Smaller, Under. -/
import Derived.Test.YtnhedjpghpdbdaaAv2
import Derived.Test.YtnhedjpghpdbdaaProg
import Derived.Test.YtnhedjpghpdbdaaPlMod
import Derived.Test.YtnhedjpghpdbdaaGRef09
namespace Go.Proofs.Ytnhedjpghpdbdaa
open Av
set_option linter.unusedVariables false
set_option maxRecDepth 100000
/- touchstone/touchstoneref12.Lo: slots d, 0, d, 1 -/
/- touchstone/touchstoneref12.Hi: slots d, 0, d, 1 -/
/- touchstone/touchstoneref12.Fixed: slots d, 0, d, 1 -/
/- touchstone/touchstoneref12.With: slots d, 0, x, 1, l, 2, d, 3, x, 4, l, 5, out, 7, i, 8 -/
end Go.Proofs.Ytnhedjpghpdbdaa
namespace Go.Proofs.Ytnhedjpghpdbdaa
open Av
attribute [local irreducible] awp awpOpers
set_option linter.unusedSimpArgs false
set_option linter.unusedVariables false
set_option maxRecDepth 100000
set_option maxHeartbeats 4000000
end Go.Proofs.Ytnhedjpghpdbdaa
namespace Go.Proofs.Ytnhedjpghpdbdaa
open Av
set_option linter.unusedVariables false
set_option maxRecDepth 100000
/- touchstone/touchstonelaw12.Smaller: slots d, 0, cut, 1, d, 2, cut, 3, out, 5, x, 6, m, 7 -/
/- touchstone/touchstonelaw12.Under: slots a, 0, b, 1, a, 2, b, 3, x, 5 -/
end Go.Proofs.Ytnhedjpghpdbdaa
namespace Go.Proofs.Ytnhedjpghpdbdaa
open Av
attribute [local irreducible] awp awpOpers
set_option linter.unusedSimpArgs false
set_option linter.unusedVariables false
set_option maxRecDepth 100000
set_option maxHeartbeats 4000000
end Go.Proofs.Ytnhedjpghpdbdaa
