/- What sense.All and Better compute. -/
import Derived.Test.YtnhedjpghpdbdaaWSense2
import Derived.Test.YtnhedjpghpdbdaaGSet
import Derived.Test.YtnhedjpghpdbdaaWClos
import Derived.Test.YtnhedjpghpdbdaaCSenseA
namespace Go.Proofs.Ytnhedjpghpdbdaa
open Av
attribute [local irreducible] awp awpOpers
set_option linter.unusedSimpArgs false
set_option linter.unusedVariables false
set_option maxRecDepth 100000
set_option maxHeartbeats 4000000
def holdB (c : Con) (a : List Int) : Bool := askdB c a && holdsB c (valsOf c.2.1 a)
def allB (m : Mod) (a : List Int) : Bool := modB m && decide (a.length = m.1.length) && (List.range m.1.length).all (fun k => hasB ((m.1[k]?).getD []) (xat a k)) && m.2.1.all fun c => holdB c a
end Go.Proofs.Ytnhedjpghpdbdaa
