/- More kinds of arguments: acts on a store. -/
import Derived.Test.YtbmcjhjbifojnaaTyU
import Derived.Test.YtbmcjhjbifojnaaPlS
namespace Go.Proofs.Ytbmcjhjbifojnaa
open Av
attribute [local irreducible] awp awpOpers
set_option linter.unusedVariables false
abbrev Act10 := Int × Int × List Rg
def tyAct : Ty := .st (.cons tyU8 (.cons tyInt (.one tyRgs)))
def tyActs : Ty := .sl tyAct
def eAct (a : Act10) : AV := .agg [.int .u8 a.1, .int .i64 a.2.1, eRgs a.2.2]
def eActs (l : List Act10) : AV := .list 3 (l.map eAct)
def actIn (a : Act10) : Prop := (0 ≤ a.1 ∧ a.1 ≤ 255) ∧ i64In a.2.1 ∧ lenIn a.2.2 ∧ ∀ r ∈ a.2.2, rgIn r
section
variable {H : Type} {enc : TypeId × Value → H} {P : Program} {w : World} {base : Nat} {spare : Nat → Bool} {held : Bool} {r : Reach} {b0 : Nat} {t : TypeId} {v : Value} {d : DataW H} {p : List MemPlace}
theorem read_act (hc : (tyAct.chk P).1 t = true) (hval : Value.okWide P w r b0 t v) (hd : DataW.Trod enc P w base spare held t v d p) :
    ∃ x : Act10, actIn x ∧ RepF (fun b => w.heap[b]?) (eAct x) v := by
  obtain ⟨x, ⟨h1, h2, h3, h4⟩, hr⟩ := read_arg tyAct hc hval hd
  exact ⟨x, ⟨h1, h2, h3, h4⟩, hr⟩
theorem read_acts (hc : (tyActs.chk P).1 t = true) (hval : Value.okWide P w r b0 t v) (hd : DataW.Trod enc P w base spare held t v d p) :
    ∃ x : List Act10, (lenIn x ∧ ∀ a ∈ x, actIn a) ∧ RepF (fun b => w.heap[b]?) (eActs x) v := by
  obtain ⟨x, ⟨h1, h2⟩, hr⟩ := read_arg tyActs hc hval hd
  exact ⟨x, ⟨h1, fun a ha => by
    obtain ⟨k1, k2, k3, k4⟩ := h2 a ha
    exact ⟨k1, k2, k3, k4⟩⟩, hr⟩
end
end Go.Proofs.Ytbmcjhjbifojnaa
