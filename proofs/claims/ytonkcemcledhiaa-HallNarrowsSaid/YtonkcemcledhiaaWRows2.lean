/- Rows that are owned: slices.Clone of a row; domains of which some rows are owned. -/
import Derived.Test.YtonkcemcledhiaaWRows
import Derived.Test.YtonkcemcledhiaaGSet
namespace Go.Proofs.Ytonkcemcledhiaa
open Av
attribute [local irreducible] awp awpOpers
set_option linter.unusedSimpArgs false
set_option linter.unusedVariables false
set_option maxRecDepth 100000
set_option maxHeartbeats 4000000
theorem clone_rgsO (l : List Rg) (hl : l.length ≤ 1000000000000) : Ctr Try.prog 45 [eRgs l] [] (.sl 2 0 0 l.length) [some (2, l.map eRg)] := by
  refine call_box Try.func45 Try.call45 e_slices_Clone_sRange_Range ?_
  by_cases h0 : l = []
  · subst h0
    simp +contextual -implicitDefEqProofs (maxSteps := 1000000) only [c_slices_Clone_sRange_Range, eRgs, sm, sn, sxx, seval, Nat.zero_le]
    refine ⟨⟨[], [0], by decide, ?_⟩, [2], [0], by decide, ?_⟩
    · simp +contextual -implicitDefEqProofs (maxSteps := 1000000) only [sm, sn, sxx, seval]
    · simp +contextual -implicitDefEqProofs (maxSteps := 1000000) only [sm, sn, sxx, seval]
  · have hnn : (AV.list 2 (l.map eRg)).nonNil = true := by
      cases l with
      | nil => exact absurd rfl h0
      | cons a b => rfl
    have c1 : l.length * 16 ≤ 140737488355328 := by omega
    have c2 : l.length ≤ maxLen := by unfold maxLen; omega
    simp +contextual -implicitDefEqProofs (maxSteps := 1000000) only [c_slices_Clone_sRange_Range, eRgs, sm, sn, sxx, seval, hnn, c1, c2, Nat.le_refl]
    refine ⟨[], [0], by decide, ?_⟩
    simp +contextual -implicitDefEqProofs (maxSteps := 1000000) only [sm, sn, sxx, seval]
end Go.Proofs.Ytonkcemcledhiaa
