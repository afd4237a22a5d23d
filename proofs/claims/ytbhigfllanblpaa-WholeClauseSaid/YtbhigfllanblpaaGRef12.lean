/- The code of functions, as abstract code. Printed by program. What Lo, Hi, Fixed, With of package touchstoneref12 compute. -/
import Derived.Test.YtbhigfllanblpaaAv2
import Derived.Test.YtbhigfllanblpaaProg
import Derived.Test.YtbhigfllanblpaaPlMod
namespace Go.Proofs.Ytbhigfllanblpaa
open Av
set_option linter.unusedVariables false
set_option maxRecDepth 100000
def kd_CRef12a (f : Nat) : Nat := 0
/- touchstone/touchstoneref12.Lo: slots d, 0, d, 1 -/
def c_ref12_Lo : AFunc := ⟨7, [.tmp 2],
  .seq (.region (⟨some 2, .mov (.val (.int .i64 0)), none⟩ :: [])) <|
  .seq (.region (⟨some 3, .mov (.tmp 0), none⟩ ::
    ⟨some 4, .iaddr 2 (.tmp 3) (.val (.int .i64 0)), none⟩ ::
    ⟨some 5, .faddr 0 (.tmp 4), none⟩ ::
    ⟨some 6, .load false 1 (.tmp 5), none⟩ ::
    ⟨some 2, .mov (.tmp 6), none⟩ :: [])) <|
  .ret⟩
theorem e_ref12_Lo : cFunc Try.prog kd_CRef12a Try.f26 = some c_ref12_Lo := by kernel_rfl
/- touchstone/touchstoneref12.Hi: slots d, 0, d, 1 -/
/- touchstone/touchstoneref12.Fixed: slots d, 0, d, 1 -/
/- touchstone/touchstoneref12.With: slots d, 0, x, 1, l, 2, d, 3, x, 4, l, 5, out, 7, i, 8 -/
end Go.Proofs.Ytbhigfllanblpaa
namespace Go.Proofs.Ytbhigfllanblpaa
open Av
attribute [local irreducible] awp awpOpers
set_option linter.unusedSimpArgs false
set_option linter.unusedVariables false
set_option maxRecDepth 100000
set_option maxHeartbeats 4000000
theorem ref12_Lo (r : List Rg) (hr : rightB r = true) (h0 : 0 < r.length) : Ctr Try.prog 26 [eRgs r] [] (.int .i64 (endsV r).1) [] := by
  refine call_pure Try.func26 Try.call26 e_ref12_Lo ?_
  obtain ⟨⟨x, y⟩, hx⟩ : ∃ a, r[0]? = some a := ⟨_, List.getElem?_eq_getElem h0⟩
  obtain ⟨⟨p, q⟩, hp⟩ : ∃ a, r[r.length - 1]? = some a := ⟨_, List.getElem?_eq_getElem (by omega)⟩
  rw [ends_at hr hx hp]
  simp +contextual -implicitDefEqProofs (maxSteps := 1000000) only [c_ref12_Lo, eRgs, sm, sn, seval, hx]
end Go.Proofs.Ytbhigfllanblpaa
