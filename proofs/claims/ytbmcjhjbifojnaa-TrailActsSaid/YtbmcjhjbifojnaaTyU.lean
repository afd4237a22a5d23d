/- More kinds of arguments: small numbers, models, rows of rows of numbers. -/
import Derived.Test.YtbmcjhjbifojnaaAv2
namespace Go.Proofs.Ytbmcjhjbifojnaa
open Av
attribute [local irreducible] awp awpOpers
set_option linter.unusedVariables false
def tyU8 : Ty := .int .u8
section
variable {H : Type} {enc : TypeId × Value → H} {P : Program} {w : World} {base : Nat} {spare : Nat → Bool} {held : Bool} {r : Reach} {b0 : Nat} {t : TypeId} {v : Value} {d : DataW H} {p : List MemPlace}
end
end Go.Proofs.Ytbmcjhjbifojnaa
