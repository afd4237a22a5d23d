/- More kinds of arguments: models, arrays of rows of numbers. -/
import Derived.Test.YtfcphijidcfboaaTyU
import Derived.Test.YtfcphijidcfboaaGMod
namespace Go.Proofs.Ytfcphijidcfboaa
open Av
attribute [local irreducible] awp awpOpers
set_option linter.unusedVariables false
section
variable {H : Type} {enc : TypeId × Value → H} {P : Program} {w : World} {base : Nat} {spare : Nat → Bool} {held : Bool} {r : Reach} {b0 : Nat} {t : TypeId} {v : Value} {d : DataW H} {p : List MemPlace}
theorem read_mod (hc : (tyMod.chk P).1 t = true) (hval : Value.okWide P w r b0 t v) (hd : DataW.Trod enc P w base spare held t v d p) :
    ∃ x : Mod, True ∧ RepF (fun b => w.heap[b]?) (eMod x) v := by
  obtain ⟨x, -, hr⟩ := read_arg tyMod hc hval hd
  exact ⟨x, trivial, hr⟩
theorem read_rows (n : Nat) (hc : ((tyArr n tyInts).chk P).1 t = true) (hval : Value.okWide P w r b0 t v) (hd : DataW.Trod enc P w base spare held t v d p) :
    ∃ x : List (List Int), (x.length = n) ∧ RepF (fun b => w.heap[b]?) (.agg (x.map eIs)) v := by
  obtain ⟨x, hx, hr⟩ := read_arg (tyArr n tyInts) hc hval hd
  refine ⟨x, hx.1, ?_⟩
  have : x.flatMap tyInts.enc = x.map eIs := by
    clear hr hx
    induction x with
    | nil => rfl
    | cons a l ih => simp only [List.flatMap_cons, ih]; rfl
  rw [← this]
  exact hr
end
end Go.Proofs.Ytfcphijidcfboaa
