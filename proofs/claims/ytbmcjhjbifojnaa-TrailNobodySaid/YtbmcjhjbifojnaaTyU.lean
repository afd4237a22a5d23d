/- More kinds of arguments: small numbers, models, rows of rows of numbers. -/
import Derived.Test.YtbmcjhjbifojnaaAv2
namespace Go.Proofs.Ytbmcjhjbifojnaa
open Av
attribute [local irreducible] awp awpOpers
set_option linter.unusedVariables false
def tyU8 : Ty := .int .u8
def tyMod : Ty := .st (.cons tyDoms (.cons tyCons (.cons tyInt (.one tyInt))))
section
variable {H : Type} {enc : TypeId × Value → H} {P : Program} {w : World} {base : Nat} {spare : Nat → Bool} {held : Bool} {r : Reach} {b0 : Nat} {t : TypeId} {v : Value} {d : DataW H} {p : List MemPlace}
theorem read_u8 (hc : (tyU8.chk P).1 t = true) (hval : Value.okWide P w r b0 t v) (hd : DataW.Trod enc P w base spare held t v d p) :
    ∃ x : Int, (0 ≤ x ∧ x ≤ 255) ∧ RepF (fun b => w.heap[b]?) (.int .u8 x) v := read_arg tyU8 hc hval hd
end
end Go.Proofs.Ytbmcjhjbifojnaa
