/- Plain laws for unlike values: room, and what is left of ranges, is told alike; smaller ranges leave less. -/
import Derived.Test.YtonkcemcledhiaaPlHall2
namespace Go.Proofs.Ytonkcemcledhiaa
open Av
attribute [local irreducible] awp awpOpers
set_option linter.unusedSimpArgs false
set_option linter.unusedVariables false
theorem pairOk_iff {l : List Rg} {p q : Rg} : pairOk l p q = true ↔ (0 < cntR l p.1 q.2 → (cntR l p.1 q.2 : Int) ≤ q.2 - p.1 + 1) := by
  unfold pairOk
  by_cases h : 0 < cntR l p.1 q.2 <;> simp [h]
/-! smaller ranges -/
end Go.Proofs.Ytonkcemcledhiaa
