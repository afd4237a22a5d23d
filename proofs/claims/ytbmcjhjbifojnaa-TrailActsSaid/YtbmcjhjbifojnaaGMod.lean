/- The code of functions, as abstract code. Printed by program. What the functions of package model compute. What the functions of package model compute: whole models. What the functions of package model compute: may, Right. What the functions of package model compute: Right. -/
import Derived.Test.YtbmcjhjbifojnaaAv2
import Derived.Test.YtbmcjhjbifojnaaProg
import Derived.Test.YtbmcjhjbifojnaaPlS
namespace Go.Proofs.Ytbmcjhjbifojnaa
open Av
set_option linter.unusedVariables false
set_option maxRecDepth 100000
/- touchstone/model.within: slots n, 0, n, 1 -/
/- touchstone/model.truth: slots l, 0, l, 1 -/
/- touchstone/model.shapes: slots kind, 0, kind, 1 -/
/- touchstone/model.may$1: slots a, 0, a, 1 -/
/- touchstone/model.may: slots m, 0, c, 1, m, 2, c, 3, s, 5, _, 6, i, 7, x, 8 -/
/- touchstone/model.formed$2: slots a, 0, a, 1 -/
/- touchstone/model.formed$1: slots a, 0, a, 1 -/
/- touchstone/model.formed: slots c, 0, c, 1, s, 3, ok, 4 -/
/- touchstone/model.domain: slots l, 0, l, 1, i, 3, r, 4 -/
/- touchstone/model.Right: slots m, 0, m, 1, _, 3, d, 4, _, 5, c, 6 -/
/- (touchstone/model.shape).counts: slots s, 0, x, 1, a, 2, s, 3, x, 4, a, 5 -/
/- slices.IndexFunc[[]int64,int64]: slots s, 0, f, 1, s, 2, f, 3, i, 5 -/
/- slices.ContainsFunc[[]int64,int64]: slots s, 0, f, 1, s, 2, f, 3 -/
end Go.Proofs.Ytbmcjhjbifojnaa
namespace Go.Proofs.Ytbmcjhjbifojnaa
open Av
attribute [local irreducible] awp awpOpers
set_option linter.unusedSimpArgs false
set_option linter.unusedVariables false
set_option maxRecDepth 100000
end Go.Proofs.Ytbmcjhjbifojnaa
namespace Go.Proofs.Ytbmcjhjbifojnaa
open Av
attribute [local irreducible] awp awpOpers
set_option linter.unusedSimpArgs false
set_option linter.unusedVariables false
set_option maxRecDepth 100000
end Go.Proofs.Ytbmcjhjbifojnaa
namespace Go.Proofs.Ytbmcjhjbifojnaa
open Av
attribute [local irreducible] awp awpOpers
set_option linter.unusedSimpArgs false
set_option linter.unusedVariables false
set_option maxRecDepth 100000
set_option maxHeartbeats 4000000
end Go.Proofs.Ytbmcjhjbifojnaa
namespace Go.Proofs.Ytbmcjhjbifojnaa
open Av
attribute [local irreducible] awp awpOpers
set_option linter.unusedSimpArgs false
set_option linter.unusedVariables false
set_option maxRecDepth 100000
set_option maxHeartbeats 4000000
end Go.Proofs.Ytbmcjhjbifojnaa
