/-
  No cell of these rows narrows 'for every input' (looked for: loops, veiled, ifaces, maps, wideKeys, modest, calm, conditions, laid).
  DERIVED. THE GIVEN ROWS OF THIS SEAT. 11 by the template 'for every input the law returns true; each argument reads behind the call as it read before'; 0 by the template 'total and deterministic' (their statements: YtclpkkbamgmooaaTotals.lean).
  GIVEN WITH THE SEED: the statements are not yours to turn. If you find one false, say at which input.
  Laid BY PROGRAM, IN A SANDBOX (cutbox-rows.mjs): the forced cells as the released guide's own fill.sh prints them over the translation 1e0911ea88df1bc2… (all of the seat's roots in one cut). By AI agents, Wed Nov 11 2026. No macro, syntax, notation, axiom, sorry.
-/
import Derived.Test.YtclpkkbamgmooaaChecked
import GoSem.Claim
import GoSem.ClaimJoined
import GoSem.ClaimMapViews
import Derived.JoinedTies
import Derived.KernelRfl
namespace Go.Proofs.Ytclpkkbamgmooaa
/- THE CELL 'sum', in the pinned program and in every row, IS THE sha256 OF THE DUMP (.gsa) THAT YtclpkkbamgmooaaProg.lean LOADS. Nothing in Lean hashes anything: it is a label: what it is worth is what the hold of that sum in a sandbox is worth. -/
noncomputable def Try.pinned : Pinned := { name := "ytclpkkbamgmooaa", sum := "1e0911ea88df1bc2b468859ef79ad7bfe02bd195a16f119a538ac1ef421880f6", checked := Try.checked }
namespace Rows
def none {H : Type} : Left H := { results := [], args := [] }

/-- 'touchstonelaw15.LogicNarrows': WHATEVER THE INPUT: true; the input reads as it did. -/
def logicNarrowsSpec : ChangeSpec := { name := "logicNarrows", fn := fun _ => fun
  | [d1, d2] => { results := [.lit (.bool true)], args := [d1, d2] }
  | _ => none }
def logicNarrowsRow : OpenClaim := { program := "ytclpkkbamgmooaa", sum := "1e0911ea88df1bc2b468859ef79ad7bfe02bd195a16f119a538ac1ef421880f6", func := "touchstone/touchstonelaw15.LogicNarrows", spec := "logicNarrows", unfollowed := true, recurses := true, apart := false }
def LogicNarrowsSaid : Prop := logicNarrowsRow.holds Try.pinned (OpenSpec.ofChange logicNarrowsSpec)

/-- ITS FALSE NEIGHBOUR: 'it returns false'. Refute it at one input. -/
def logicNarrowsWrong : ChangeSpec := { name := "logicNarrows", fn := fun _ => fun
  | [d1, d2] => { results := [.lit (.bool false)], args := [d1, d2] }
  | _ => none }
def LogicNarrowsWrongFalsely : Prop := logicNarrowsRow.holds Try.pinned (OpenSpec.ofChange logicNarrowsWrong)

/-- 'touchstonelaw15.LogicKeeps': WHATEVER THE INPUT: true; the input reads as it did. -/
def logicKeepsSpec : ChangeSpec := { name := "logicKeeps", fn := fun _ => fun
  | [d1, d2] => { results := [.lit (.bool true)], args := [d1, d2] }
  | _ => none }
def logicKeepsRow : OpenClaim := { program := "ytclpkkbamgmooaa", sum := "1e0911ea88df1bc2b468859ef79ad7bfe02bd195a16f119a538ac1ef421880f6", func := "touchstone/touchstonelaw15.LogicKeeps", spec := "logicKeeps", unfollowed := true, recurses := true, apart := false }
def LogicKeepsSaid : Prop := logicKeepsRow.holds Try.pinned (OpenSpec.ofChange logicKeepsSpec)

/-- ITS FALSE NEIGHBOUR: 'it returns false'. Refute it at one input. -/
def logicKeepsWrong : ChangeSpec := { name := "logicKeeps", fn := fun _ => fun
  | [d1, d2] => { results := [.lit (.bool false)], args := [d1, d2] }
  | _ => none }
def LogicKeepsWrongFalsely : Prop := logicKeepsRow.holds Try.pinned (OpenSpec.ofChange logicKeepsWrong)

/-- 'touchstonelaw15.LogicOrder': WHATEVER THE INPUT: true; the input reads as it did. -/
def logicOrderSpec : ChangeSpec := { name := "logicOrder", fn := fun _ => fun
  | [d1, d2, d3] => { results := [.lit (.bool true)], args := [d1, d2, d3] }
  | _ => none }
def logicOrderRow : OpenClaim := { program := "ytclpkkbamgmooaa", sum := "1e0911ea88df1bc2b468859ef79ad7bfe02bd195a16f119a538ac1ef421880f6", func := "touchstone/touchstonelaw15.LogicOrder", spec := "logicOrder", unfollowed := true, recurses := true, apart := false }
def LogicOrderSaid : Prop := logicOrderRow.holds Try.pinned (OpenSpec.ofChange logicOrderSpec)

/-- ITS FALSE NEIGHBOUR: 'it returns false'. Refute it at one input. -/
def logicOrderWrong : ChangeSpec := { name := "logicOrder", fn := fun _ => fun
  | [d1, d2, d3] => { results := [.lit (.bool false)], args := [d1, d2, d3] }
  | _ => none }
def LogicOrderWrongFalsely : Prop := logicOrderRow.holds Try.pinned (OpenSpec.ofChange logicOrderWrong)

/-- 'touchstonelaw15.LogicOther': WHATEVER THE INPUT: true; the input reads as it did. -/
def logicOtherSpec : ChangeSpec := { name := "logicOther", fn := fun _ => fun
  | [d1, d2] => { results := [.lit (.bool true)], args := [d1, d2] }
  | _ => none }
def logicOtherRow : OpenClaim := { program := "ytclpkkbamgmooaa", sum := "1e0911ea88df1bc2b468859ef79ad7bfe02bd195a16f119a538ac1ef421880f6", func := "touchstone/touchstonelaw15.LogicOther", spec := "logicOther", unfollowed := true, recurses := true, apart := false }
def LogicOtherSaid : Prop := logicOtherRow.holds Try.pinned (OpenSpec.ofChange logicOtherSpec)

/-- ITS FALSE NEIGHBOUR: 'it returns false'. Refute it at one input. -/
def logicOtherWrong : ChangeSpec := { name := "logicOther", fn := fun _ => fun
  | [d1, d2] => { results := [.lit (.bool false)], args := [d1, d2] }
  | _ => none }
def LogicOtherWrongFalsely : Prop := logicOtherRow.holds Try.pinned (OpenSpec.ofChange logicOtherWrong)

/-- 'touchstonelaw12.LinearNarrows': WHATEVER THE INPUT: true; the input reads as it did. -/
def linearNarrowsSpec : ChangeSpec := { name := "linearNarrows", fn := fun _ => fun
  | [d1, d2] => { results := [.lit (.bool true)], args := [d1, d2] }
  | _ => none }
def linearNarrowsRow : OpenClaim := { program := "ytclpkkbamgmooaa", sum := "1e0911ea88df1bc2b468859ef79ad7bfe02bd195a16f119a538ac1ef421880f6", func := "touchstone/touchstonelaw12.LinearNarrows", spec := "linearNarrows", unfollowed := true, recurses := true, apart := false }
def LinearNarrowsSaid : Prop := linearNarrowsRow.holds Try.pinned (OpenSpec.ofChange linearNarrowsSpec)

/-- ITS FALSE NEIGHBOUR: 'it returns false'. Refute it at one input. -/
def linearNarrowsWrong : ChangeSpec := { name := "linearNarrows", fn := fun _ => fun
  | [d1, d2] => { results := [.lit (.bool false)], args := [d1, d2] }
  | _ => none }
def LinearNarrowsWrongFalsely : Prop := linearNarrowsRow.holds Try.pinned (OpenSpec.ofChange linearNarrowsWrong)

/-- 'touchstonelaw12.LinearEnds': WHATEVER THE INPUT: true; the input reads as it did. -/
def linearEndsSpec : ChangeSpec := { name := "linearEnds", fn := fun _ => fun
  | [d1, d2] => { results := [.lit (.bool true)], args := [d1, d2] }
  | _ => none }
def linearEndsRow : OpenClaim := { program := "ytclpkkbamgmooaa", sum := "1e0911ea88df1bc2b468859ef79ad7bfe02bd195a16f119a538ac1ef421880f6", func := "touchstone/touchstonelaw12.LinearEnds", spec := "linearEnds", unfollowed := true, recurses := true, apart := false }
def LinearEndsSaid : Prop := linearEndsRow.holds Try.pinned (OpenSpec.ofChange linearEndsSpec)

/-- ITS FALSE NEIGHBOUR: 'it returns false'. Refute it at one input. -/
def linearEndsWrong : ChangeSpec := { name := "linearEnds", fn := fun _ => fun
  | [d1, d2] => { results := [.lit (.bool false)], args := [d1, d2] }
  | _ => none }
def LinearEndsWrongFalsely : Prop := linearEndsRow.holds Try.pinned (OpenSpec.ofChange linearEndsWrong)

/-- 'touchstonelaw12.LinearKeeps': WHATEVER THE INPUT: true; the input reads as it did. -/
def linearKeepsSpec : ChangeSpec := { name := "linearKeeps", fn := fun _ => fun
  | [d1, d2] => { results := [.lit (.bool true)], args := [d1, d2] }
  | _ => none }
def linearKeepsRow : OpenClaim := { program := "ytclpkkbamgmooaa", sum := "1e0911ea88df1bc2b468859ef79ad7bfe02bd195a16f119a538ac1ef421880f6", func := "touchstone/touchstonelaw12.LinearKeeps", spec := "linearKeeps", unfollowed := true, recurses := true, apart := false }
def LinearKeepsSaid : Prop := linearKeepsRow.holds Try.pinned (OpenSpec.ofChange linearKeepsSpec)

/-- ITS FALSE NEIGHBOUR: 'it returns false'. Refute it at one input. -/
def linearKeepsWrong : ChangeSpec := { name := "linearKeeps", fn := fun _ => fun
  | [d1, d2] => { results := [.lit (.bool false)], args := [d1, d2] }
  | _ => none }
def LinearKeepsWrongFalsely : Prop := linearKeepsRow.holds Try.pinned (OpenSpec.ofChange linearKeepsWrong)

/-- 'touchstonelaw12.LinearOrder': WHATEVER THE INPUT: true; the input reads as it did. -/
def linearOrderSpec : ChangeSpec := { name := "linearOrder", fn := fun _ => fun
  | [d1, d2, d3] => { results := [.lit (.bool true)], args := [d1, d2, d3] }
  | _ => none }
def linearOrderRow : OpenClaim := { program := "ytclpkkbamgmooaa", sum := "1e0911ea88df1bc2b468859ef79ad7bfe02bd195a16f119a538ac1ef421880f6", func := "touchstone/touchstonelaw12.LinearOrder", spec := "linearOrder", unfollowed := true, recurses := true, apart := false }
def LinearOrderSaid : Prop := linearOrderRow.holds Try.pinned (OpenSpec.ofChange linearOrderSpec)

/-- ITS FALSE NEIGHBOUR: 'it returns false'. Refute it at one input. -/
def linearOrderWrong : ChangeSpec := { name := "linearOrder", fn := fun _ => fun
  | [d1, d2, d3] => { results := [.lit (.bool false)], args := [d1, d2, d3] }
  | _ => none }
def LinearOrderWrongFalsely : Prop := linearOrderRow.holds Try.pinned (OpenSpec.ofChange linearOrderWrong)

/-- 'touchstonelaw12.LinearTight': WHATEVER THE INPUT: true; the input reads as it did. -/
def linearTightSpec : ChangeSpec := { name := "linearTight", fn := fun _ => fun
  | [d1, d2] => { results := [.lit (.bool true)], args := [d1, d2] }
  | _ => none }
def linearTightRow : OpenClaim := { program := "ytclpkkbamgmooaa", sum := "1e0911ea88df1bc2b468859ef79ad7bfe02bd195a16f119a538ac1ef421880f6", func := "touchstone/touchstonelaw12.LinearTight", spec := "linearTight", unfollowed := true, recurses := true, apart := false }
def LinearTightSaid : Prop := linearTightRow.holds Try.pinned (OpenSpec.ofChange linearTightSpec)

/-- ITS FALSE NEIGHBOUR: 'it returns false'. Refute it at one input. -/
def linearTightWrong : ChangeSpec := { name := "linearTight", fn := fun _ => fun
  | [d1, d2] => { results := [.lit (.bool false)], args := [d1, d2] }
  | _ => none }
def LinearTightWrongFalsely : Prop := linearTightRow.holds Try.pinned (OpenSpec.ofChange linearTightWrong)

/-- 'touchstonetop.WholeClause': WHATEVER THE INPUT: true; the input reads as it did. -/
def wholeClauseSpec : ChangeSpec := { name := "wholeClause", fn := fun _ => fun
  | [d1, d2, d3] => { results := [.lit (.bool true)], args := [d1, d2, d3] }
  | _ => none }
def wholeClauseRow : OpenClaim := { program := "ytclpkkbamgmooaa", sum := "1e0911ea88df1bc2b468859ef79ad7bfe02bd195a16f119a538ac1ef421880f6", func := "touchstone/touchstonetop.WholeClause", spec := "wholeClause", unfollowed := true, recurses := true, apart := false }
def WholeClauseSaid : Prop := wholeClauseRow.holds Try.pinned (OpenSpec.ofChange wholeClauseSpec)

/-- ITS FALSE NEIGHBOUR: 'it returns false'. Refute it at one input. -/
def wholeClauseWrong : ChangeSpec := { name := "wholeClause", fn := fun _ => fun
  | [d1, d2, d3] => { results := [.lit (.bool false)], args := [d1, d2, d3] }
  | _ => none }
def WholeClauseWrongFalsely : Prop := wholeClauseRow.holds Try.pinned (OpenSpec.ofChange wholeClauseWrong)

/-- 'touchstonelaw12.LinearOther': WHATEVER THE INPUT: true; the input reads as it did. -/
def linearOtherSpec : ChangeSpec := { name := "linearOther", fn := fun _ => fun
  | [d1, d2] => { results := [.lit (.bool true)], args := [d1, d2] }
  | _ => none }
def linearOtherRow : OpenClaim := { program := "ytclpkkbamgmooaa", sum := "1e0911ea88df1bc2b468859ef79ad7bfe02bd195a16f119a538ac1ef421880f6", func := "touchstone/touchstonelaw12.LinearOther", spec := "linearOther", unfollowed := true, recurses := true, apart := false }
def LinearOtherSaid : Prop := linearOtherRow.holds Try.pinned (OpenSpec.ofChange linearOtherSpec)

/-- ITS FALSE NEIGHBOUR: 'it returns false'. Refute it at one input. -/
def linearOtherWrong : ChangeSpec := { name := "linearOther", fn := fun _ => fun
  | [d1, d2] => { results := [.lit (.bool false)], args := [d1, d2] }
  | _ => none }
def LinearOtherWrongFalsely : Prop := linearOtherRow.holds Try.pinned (OpenSpec.ofChange linearOtherWrong)

/- THE SECOND FORM. 'bulk': how many values and letters a reading holds, each counted each time it is reached (what is shared counts as often as it is met; a slice's spare places count too). A statement '..UptoSaid' is the law's where the arguments, and the package variables that the reading takes, are together of bulk at most 1048576: NARROWER than '..Said'. Prove '..Said' where nothing that the law and all that it calls make is longer than what came in: it says more and counts as full. Else prove '..UptoSaid'. A law counts once. -/
mutual
def uptoBulk {H : Type} : DataW H → Nat
  | .lit (.string bytes) => bytes.length + 1
  | .lit _ => 1
  | .nil => 1
  | .ptr d => uptoBulk d + 1
  | .slice elems spare => uptoBulkAll elems + uptoBulkAll spare + 1
  | .agg parts => uptoBulkAll parts + 1
  | .iface _ d => uptoBulk d + 1
  | .map entries => uptoBulkEntries entries + 1
  | .held _ => 1
def uptoBulkAll {H : Type} : List (DataW H) → Nat
  | [] => 0
  | d :: r => uptoBulk d + uptoBulkAll r
def uptoBulkEntries {H : Type} : List (Lit × DataW H) → Nat
  | [] => 0
  | x :: r => uptoBulkEntry x + uptoBulkEntries r
def uptoBulkEntry {H : Type} : Lit × DataW H → Nat
  | (.string bytes, d) => bytes.length + uptoBulk d + 1
  | (_, d) => uptoBulk d + 1
 end
def uptoSmall : (H : Type) → List (DataW H) → Bool := fun _ ds => decide (uptoBulkAll ds ≤ 1048576)
def OpenSpec.upto (s : _root_.Go.ChangeSpec) : _root_.Go.OpenSpec := { _root_.Go.OpenSpec.ofChange s with cond := some uptoSmall }

/-- 'touchstonelaw15.LogicNarrows', WHERE WHAT IT READS IS OF BULK AT MOST 1048576: true; the input reads as it did. -/
def logicNarrowsUptoRow : OpenClaim := { program := "ytclpkkbamgmooaa", sum := "1e0911ea88df1bc2b468859ef79ad7bfe02bd195a16f119a538ac1ef421880f6", func := "touchstone/touchstonelaw15.LogicNarrows", spec := "logicNarrows", unfollowed := true, recurses := true, apart := false, narrowed := true }
def LogicNarrowsUptoSaid : Prop := logicNarrowsUptoRow.holds Try.pinned (OpenSpec.upto logicNarrowsSpec)

/-- 'touchstonelaw15.LogicKeeps', WHERE WHAT IT READS IS OF BULK AT MOST 1048576: true; the input reads as it did. -/
def logicKeepsUptoRow : OpenClaim := { program := "ytclpkkbamgmooaa", sum := "1e0911ea88df1bc2b468859ef79ad7bfe02bd195a16f119a538ac1ef421880f6", func := "touchstone/touchstonelaw15.LogicKeeps", spec := "logicKeeps", unfollowed := true, recurses := true, apart := false, narrowed := true }
def LogicKeepsUptoSaid : Prop := logicKeepsUptoRow.holds Try.pinned (OpenSpec.upto logicKeepsSpec)

/-- 'touchstonelaw15.LogicOrder', WHERE WHAT IT READS IS OF BULK AT MOST 1048576: true; the input reads as it did. -/
def logicOrderUptoRow : OpenClaim := { program := "ytclpkkbamgmooaa", sum := "1e0911ea88df1bc2b468859ef79ad7bfe02bd195a16f119a538ac1ef421880f6", func := "touchstone/touchstonelaw15.LogicOrder", spec := "logicOrder", unfollowed := true, recurses := true, apart := false, narrowed := true }
def LogicOrderUptoSaid : Prop := logicOrderUptoRow.holds Try.pinned (OpenSpec.upto logicOrderSpec)

/-- 'touchstonelaw15.LogicOther', WHERE WHAT IT READS IS OF BULK AT MOST 1048576: true; the input reads as it did. -/
def logicOtherUptoRow : OpenClaim := { program := "ytclpkkbamgmooaa", sum := "1e0911ea88df1bc2b468859ef79ad7bfe02bd195a16f119a538ac1ef421880f6", func := "touchstone/touchstonelaw15.LogicOther", spec := "logicOther", unfollowed := true, recurses := true, apart := false, narrowed := true }
def LogicOtherUptoSaid : Prop := logicOtherUptoRow.holds Try.pinned (OpenSpec.upto logicOtherSpec)

/-- 'touchstonelaw12.LinearNarrows', WHERE WHAT IT READS IS OF BULK AT MOST 1048576: true; the input reads as it did. -/
def linearNarrowsUptoRow : OpenClaim := { program := "ytclpkkbamgmooaa", sum := "1e0911ea88df1bc2b468859ef79ad7bfe02bd195a16f119a538ac1ef421880f6", func := "touchstone/touchstonelaw12.LinearNarrows", spec := "linearNarrows", unfollowed := true, recurses := true, apart := false, narrowed := true }
def LinearNarrowsUptoSaid : Prop := linearNarrowsUptoRow.holds Try.pinned (OpenSpec.upto linearNarrowsSpec)

/-- 'touchstonelaw12.LinearEnds', WHERE WHAT IT READS IS OF BULK AT MOST 1048576: true; the input reads as it did. -/
def linearEndsUptoRow : OpenClaim := { program := "ytclpkkbamgmooaa", sum := "1e0911ea88df1bc2b468859ef79ad7bfe02bd195a16f119a538ac1ef421880f6", func := "touchstone/touchstonelaw12.LinearEnds", spec := "linearEnds", unfollowed := true, recurses := true, apart := false, narrowed := true }
def LinearEndsUptoSaid : Prop := linearEndsUptoRow.holds Try.pinned (OpenSpec.upto linearEndsSpec)

/-- 'touchstonelaw12.LinearKeeps', WHERE WHAT IT READS IS OF BULK AT MOST 1048576: true; the input reads as it did. -/
def linearKeepsUptoRow : OpenClaim := { program := "ytclpkkbamgmooaa", sum := "1e0911ea88df1bc2b468859ef79ad7bfe02bd195a16f119a538ac1ef421880f6", func := "touchstone/touchstonelaw12.LinearKeeps", spec := "linearKeeps", unfollowed := true, recurses := true, apart := false, narrowed := true }
def LinearKeepsUptoSaid : Prop := linearKeepsUptoRow.holds Try.pinned (OpenSpec.upto linearKeepsSpec)

/-- 'touchstonelaw12.LinearOrder', WHERE WHAT IT READS IS OF BULK AT MOST 1048576: true; the input reads as it did. -/
def linearOrderUptoRow : OpenClaim := { program := "ytclpkkbamgmooaa", sum := "1e0911ea88df1bc2b468859ef79ad7bfe02bd195a16f119a538ac1ef421880f6", func := "touchstone/touchstonelaw12.LinearOrder", spec := "linearOrder", unfollowed := true, recurses := true, apart := false, narrowed := true }
def LinearOrderUptoSaid : Prop := linearOrderUptoRow.holds Try.pinned (OpenSpec.upto linearOrderSpec)

/-- 'touchstonelaw12.LinearTight', WHERE WHAT IT READS IS OF BULK AT MOST 1048576: true; the input reads as it did. -/
def linearTightUptoRow : OpenClaim := { program := "ytclpkkbamgmooaa", sum := "1e0911ea88df1bc2b468859ef79ad7bfe02bd195a16f119a538ac1ef421880f6", func := "touchstone/touchstonelaw12.LinearTight", spec := "linearTight", unfollowed := true, recurses := true, apart := false, narrowed := true }
def LinearTightUptoSaid : Prop := linearTightUptoRow.holds Try.pinned (OpenSpec.upto linearTightSpec)

/-- 'touchstonetop.WholeClause', WHERE WHAT IT READS IS OF BULK AT MOST 1048576: true; the input reads as it did. -/
def wholeClauseUptoRow : OpenClaim := { program := "ytclpkkbamgmooaa", sum := "1e0911ea88df1bc2b468859ef79ad7bfe02bd195a16f119a538ac1ef421880f6", func := "touchstone/touchstonetop.WholeClause", spec := "wholeClause", unfollowed := true, recurses := true, apart := false, narrowed := true }
def WholeClauseUptoSaid : Prop := wholeClauseUptoRow.holds Try.pinned (OpenSpec.upto wholeClauseSpec)

/-- 'touchstonelaw12.LinearOther', WHERE WHAT IT READS IS OF BULK AT MOST 1048576: true; the input reads as it did. -/
def linearOtherUptoRow : OpenClaim := { program := "ytclpkkbamgmooaa", sum := "1e0911ea88df1bc2b468859ef79ad7bfe02bd195a16f119a538ac1ef421880f6", func := "touchstone/touchstonelaw12.LinearOther", spec := "linearOther", unfollowed := true, recurses := true, apart := false, narrowed := true }
def LinearOtherUptoSaid : Prop := linearOtherUptoRow.holds Try.pinned (OpenSpec.upto linearOtherSpec)

end Rows
end Go.Proofs.Ytclpkkbamgmooaa
