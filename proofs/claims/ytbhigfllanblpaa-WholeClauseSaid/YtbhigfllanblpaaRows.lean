/-
  No cell of these rows narrows 'for every input' (looked for: loops, veiled, ifaces, maps, wideKeys, modest, calm, conditions, laid).
  DERIVED. THE GIVEN ROWS OF THIS SEAT. 12 by the template 'for every input the law returns true; each argument reads behind the call as it read before'; 0 by the template 'total and deterministic' (their statements: YtbhigfllanblpaaTotals.lean).
  GIVEN WITH THE SEED: the statements are not yours to turn. If you find one false, say at which input.
  Laid BY PROGRAM, IN A SANDBOX (cutbox-rows.mjs): the forced cells as the released guide's own fill.sh prints them over the translation 2953c50fd87b76b6… (all of the seat's roots in one cut). By AI agents, Wed Nov 11 2026. No macro, syntax, notation, axiom, sorry.
-/
import Derived.Test.YtbhigfllanblpaaChecked
import GoSem.Claim
import GoSem.ClaimJoined
import GoSem.ClaimMapViews
import Derived.JoinedTies
import Derived.KernelRfl
namespace Go.Proofs.Ytbhigfllanblpaa
/- THE CELL 'sum', in the pinned program and in every row, IS THE sha256 OF THE DUMP (.gsa) THAT YtbhigfllanblpaaProg.lean LOADS. Nothing in Lean hashes anything: it is a label: what it is worth is what the hold of that sum in a sandbox is worth. -/
noncomputable def Try.pinned : Pinned := { name := "ytbhigfllanblpaa", sum := "2953c50fd87b76b69ede084f46c9ce47933f28376e0508325fe16fedce655a3a", checked := Try.checked }
namespace Rows
def none {H : Type} : Left H := { results := [], args := [] }

/-- 'touchstonelaw15.LogicOther': WHATEVER THE INPUT: true; the input reads as it did. -/
def logicOtherSpec : ChangeSpec := { name := "logicOther", fn := fun _ => fun
  | [d1, d2] => { results := [.lit (.bool true)], args := [d1, d2] }
  | _ => none }
def logicOtherRow : OpenClaim := { program := "ytbhigfllanblpaa", sum := "2953c50fd87b76b69ede084f46c9ce47933f28376e0508325fe16fedce655a3a", func := "touchstone/touchstonelaw15.LogicOther", spec := "logicOther", unfollowed := true, recurses := true, apart := false }
def LogicOtherSaid : Prop := logicOtherRow.holds Try.pinned (OpenSpec.ofChange logicOtherSpec)

/-- ITS FALSE NEIGHBOUR: 'it returns false'. Refute it at one input. -/
def logicOtherWrong : ChangeSpec := { name := "logicOther", fn := fun _ => fun
  | [d1, d2] => { results := [.lit (.bool false)], args := [d1, d2] }
  | _ => none }
def LogicOtherWrongFalsely : Prop := logicOtherRow.holds Try.pinned (OpenSpec.ofChange logicOtherWrong)

/-- 'touchstonelaw12.LinearTight': WHATEVER THE INPUT: true; the input reads as it did. -/
def linearTightSpec : ChangeSpec := { name := "linearTight", fn := fun _ => fun
  | [d1, d2] => { results := [.lit (.bool true)], args := [d1, d2] }
  | _ => none }
def linearTightRow : OpenClaim := { program := "ytbhigfllanblpaa", sum := "2953c50fd87b76b69ede084f46c9ce47933f28376e0508325fe16fedce655a3a", func := "touchstone/touchstonelaw12.LinearTight", spec := "linearTight", unfollowed := true, recurses := true, apart := false }
def LinearTightSaid : Prop := linearTightRow.holds Try.pinned (OpenSpec.ofChange linearTightSpec)

/-- ITS FALSE NEIGHBOUR: 'it returns false'. Refute it at one input. -/
def linearTightWrong : ChangeSpec := { name := "linearTight", fn := fun _ => fun
  | [d1, d2] => { results := [.lit (.bool false)], args := [d1, d2] }
  | _ => none }
def LinearTightWrongFalsely : Prop := linearTightRow.holds Try.pinned (OpenSpec.ofChange linearTightWrong)

/-- 'touchstonetop.WholeClause': WHATEVER THE INPUT: true; the input reads as it did. -/
def wholeClauseSpec : ChangeSpec := { name := "wholeClause", fn := fun _ => fun
  | [d1, d2, d3] => { results := [.lit (.bool true)], args := [d1, d2, d3] }
  | _ => none }
def wholeClauseRow : OpenClaim := { program := "ytbhigfllanblpaa", sum := "2953c50fd87b76b69ede084f46c9ce47933f28376e0508325fe16fedce655a3a", func := "touchstone/touchstonetop.WholeClause", spec := "wholeClause", unfollowed := true, recurses := true, apart := false }
def WholeClauseSaid : Prop := wholeClauseRow.holds Try.pinned (OpenSpec.ofChange wholeClauseSpec)

/-- ITS FALSE NEIGHBOUR: 'it returns false'. Refute it at one input. -/
def wholeClauseWrong : ChangeSpec := { name := "wholeClause", fn := fun _ => fun
  | [d1, d2, d3] => { results := [.lit (.bool false)], args := [d1, d2, d3] }
  | _ => none }
def WholeClauseWrongFalsely : Prop := wholeClauseRow.holds Try.pinned (OpenSpec.ofChange wholeClauseWrong)

/-- 'touchstonelaw12.LinearOther': WHATEVER THE INPUT: true; the input reads as it did. -/
def linearOtherSpec : ChangeSpec := { name := "linearOther", fn := fun _ => fun
  | [d1, d2] => { results := [.lit (.bool true)], args := [d1, d2] }
  | _ => none }
def linearOtherRow : OpenClaim := { program := "ytbhigfllanblpaa", sum := "2953c50fd87b76b69ede084f46c9ce47933f28376e0508325fe16fedce655a3a", func := "touchstone/touchstonelaw12.LinearOther", spec := "linearOther", unfollowed := true, recurses := true, apart := false }
def LinearOtherSaid : Prop := linearOtherRow.holds Try.pinned (OpenSpec.ofChange linearOtherSpec)

/-- ITS FALSE NEIGHBOUR: 'it returns false'. Refute it at one input. -/
def linearOtherWrong : ChangeSpec := { name := "linearOther", fn := fun _ => fun
  | [d1, d2] => { results := [.lit (.bool false)], args := [d1, d2] }
  | _ => none }
def LinearOtherWrongFalsely : Prop := linearOtherRow.holds Try.pinned (OpenSpec.ofChange linearOtherWrong)

/-- 'touchstonelaw13.ReifyNarrows': WHATEVER THE INPUT: true; the input reads as it did. -/
def reifyNarrowsSpec : ChangeSpec := { name := "reifyNarrows", fn := fun _ => fun
  | [d1, d2] => { results := [.lit (.bool true)], args := [d1, d2] }
  | _ => none }
def reifyNarrowsRow : OpenClaim := { program := "ytbhigfllanblpaa", sum := "2953c50fd87b76b69ede084f46c9ce47933f28376e0508325fe16fedce655a3a", func := "touchstone/touchstonelaw13.ReifyNarrows", spec := "reifyNarrows", unfollowed := true, recurses := true, apart := false }
def ReifyNarrowsSaid : Prop := reifyNarrowsRow.holds Try.pinned (OpenSpec.ofChange reifyNarrowsSpec)

/-- ITS FALSE NEIGHBOUR: 'it returns false'. Refute it at one input. -/
def reifyNarrowsWrong : ChangeSpec := { name := "reifyNarrows", fn := fun _ => fun
  | [d1, d2] => { results := [.lit (.bool false)], args := [d1, d2] }
  | _ => none }
def ReifyNarrowsWrongFalsely : Prop := reifyNarrowsRow.holds Try.pinned (OpenSpec.ofChange reifyNarrowsWrong)

/-- 'touchstonelaw13.ReifyKeeps': WHATEVER THE INPUT: true; the input reads as it did. -/
def reifyKeepsSpec : ChangeSpec := { name := "reifyKeeps", fn := fun _ => fun
  | [d1, d2] => { results := [.lit (.bool true)], args := [d1, d2] }
  | _ => none }
def reifyKeepsRow : OpenClaim := { program := "ytbhigfllanblpaa", sum := "2953c50fd87b76b69ede084f46c9ce47933f28376e0508325fe16fedce655a3a", func := "touchstone/touchstonelaw13.ReifyKeeps", spec := "reifyKeeps", unfollowed := true, recurses := true, apart := false }
def ReifyKeepsSaid : Prop := reifyKeepsRow.holds Try.pinned (OpenSpec.ofChange reifyKeepsSpec)

/-- ITS FALSE NEIGHBOUR: 'it returns false'. Refute it at one input. -/
def reifyKeepsWrong : ChangeSpec := { name := "reifyKeeps", fn := fun _ => fun
  | [d1, d2] => { results := [.lit (.bool false)], args := [d1, d2] }
  | _ => none }
def ReifyKeepsWrongFalsely : Prop := reifyKeepsRow.holds Try.pinned (OpenSpec.ofChange reifyKeepsWrong)

/-- 'touchstonelaw13.ReifyOther': WHATEVER THE INPUT: true; the input reads as it did. -/
def reifyOtherSpec : ChangeSpec := { name := "reifyOther", fn := fun _ => fun
  | [d1, d2] => { results := [.lit (.bool true)], args := [d1, d2] }
  | _ => none }
def reifyOtherRow : OpenClaim := { program := "ytbhigfllanblpaa", sum := "2953c50fd87b76b69ede084f46c9ce47933f28376e0508325fe16fedce655a3a", func := "touchstone/touchstonelaw13.ReifyOther", spec := "reifyOther", unfollowed := true, recurses := true, apart := false }
def ReifyOtherSaid : Prop := reifyOtherRow.holds Try.pinned (OpenSpec.ofChange reifyOtherSpec)

/-- ITS FALSE NEIGHBOUR: 'it returns false'. Refute it at one input. -/
def reifyOtherWrong : ChangeSpec := { name := "reifyOther", fn := fun _ => fun
  | [d1, d2] => { results := [.lit (.bool false)], args := [d1, d2] }
  | _ => none }
def ReifyOtherWrongFalsely : Prop := reifyOtherRow.holds Try.pinned (OpenSpec.ofChange reifyOtherWrong)

/-- 'touchstonelaw14.ArithNarrows': WHATEVER THE INPUT: true; the input reads as it did. -/
def arithNarrowsSpec : ChangeSpec := { name := "arithNarrows", fn := fun _ => fun
  | [d1, d2] => { results := [.lit (.bool true)], args := [d1, d2] }
  | _ => none }
def arithNarrowsRow : OpenClaim := { program := "ytbhigfllanblpaa", sum := "2953c50fd87b76b69ede084f46c9ce47933f28376e0508325fe16fedce655a3a", func := "touchstone/touchstonelaw14.ArithNarrows", spec := "arithNarrows", unfollowed := true, recurses := true, apart := false }
def ArithNarrowsSaid : Prop := arithNarrowsRow.holds Try.pinned (OpenSpec.ofChange arithNarrowsSpec)

/-- ITS FALSE NEIGHBOUR: 'it returns false'. Refute it at one input. -/
def arithNarrowsWrong : ChangeSpec := { name := "arithNarrows", fn := fun _ => fun
  | [d1, d2] => { results := [.lit (.bool false)], args := [d1, d2] }
  | _ => none }
def ArithNarrowsWrongFalsely : Prop := arithNarrowsRow.holds Try.pinned (OpenSpec.ofChange arithNarrowsWrong)

/-- 'touchstonelaw14.ArithKeeps': WHATEVER THE INPUT: true; the input reads as it did. -/
def arithKeepsSpec : ChangeSpec := { name := "arithKeeps", fn := fun _ => fun
  | [d1, d2] => { results := [.lit (.bool true)], args := [d1, d2] }
  | _ => none }
def arithKeepsRow : OpenClaim := { program := "ytbhigfllanblpaa", sum := "2953c50fd87b76b69ede084f46c9ce47933f28376e0508325fe16fedce655a3a", func := "touchstone/touchstonelaw14.ArithKeeps", spec := "arithKeeps", unfollowed := true, recurses := true, apart := false }
def ArithKeepsSaid : Prop := arithKeepsRow.holds Try.pinned (OpenSpec.ofChange arithKeepsSpec)

/-- ITS FALSE NEIGHBOUR: 'it returns false'. Refute it at one input. -/
def arithKeepsWrong : ChangeSpec := { name := "arithKeeps", fn := fun _ => fun
  | [d1, d2] => { results := [.lit (.bool false)], args := [d1, d2] }
  | _ => none }
def ArithKeepsWrongFalsely : Prop := arithKeepsRow.holds Try.pinned (OpenSpec.ofChange arithKeepsWrong)

/-- 'touchstonelaw14.ArithOrder': WHATEVER THE INPUT: true; the input reads as it did. -/
def arithOrderSpec : ChangeSpec := { name := "arithOrder", fn := fun _ => fun
  | [d1, d2, d3] => { results := [.lit (.bool true)], args := [d1, d2, d3] }
  | _ => none }
def arithOrderRow : OpenClaim := { program := "ytbhigfllanblpaa", sum := "2953c50fd87b76b69ede084f46c9ce47933f28376e0508325fe16fedce655a3a", func := "touchstone/touchstonelaw14.ArithOrder", spec := "arithOrder", unfollowed := true, recurses := true, apart := false }
def ArithOrderSaid : Prop := arithOrderRow.holds Try.pinned (OpenSpec.ofChange arithOrderSpec)

/-- ITS FALSE NEIGHBOUR: 'it returns false'. Refute it at one input. -/
def arithOrderWrong : ChangeSpec := { name := "arithOrder", fn := fun _ => fun
  | [d1, d2, d3] => { results := [.lit (.bool false)], args := [d1, d2, d3] }
  | _ => none }
def ArithOrderWrongFalsely : Prop := arithOrderRow.holds Try.pinned (OpenSpec.ofChange arithOrderWrong)

/-- 'touchstonelaw14.ArithDecides': WHATEVER THE INPUT: true; the input reads as it did. -/
def arithDecidesSpec : ChangeSpec := { name := "arithDecides", fn := fun _ => fun
  | [d1, d2] => { results := [.lit (.bool true)], args := [d1, d2] }
  | _ => none }
def arithDecidesRow : OpenClaim := { program := "ytbhigfllanblpaa", sum := "2953c50fd87b76b69ede084f46c9ce47933f28376e0508325fe16fedce655a3a", func := "touchstone/touchstonelaw14.ArithDecides", spec := "arithDecides", unfollowed := true, recurses := true, apart := false }
def ArithDecidesSaid : Prop := arithDecidesRow.holds Try.pinned (OpenSpec.ofChange arithDecidesSpec)

/-- ITS FALSE NEIGHBOUR: 'it returns false'. Refute it at one input. -/
def arithDecidesWrong : ChangeSpec := { name := "arithDecides", fn := fun _ => fun
  | [d1, d2] => { results := [.lit (.bool false)], args := [d1, d2] }
  | _ => none }
def ArithDecidesWrongFalsely : Prop := arithDecidesRow.holds Try.pinned (OpenSpec.ofChange arithDecidesWrong)

/-- 'touchstonelaw14.ArithOther': WHATEVER THE INPUT: true; the input reads as it did. -/
def arithOtherSpec : ChangeSpec := { name := "arithOther", fn := fun _ => fun
  | [d1, d2] => { results := [.lit (.bool true)], args := [d1, d2] }
  | _ => none }
def arithOtherRow : OpenClaim := { program := "ytbhigfllanblpaa", sum := "2953c50fd87b76b69ede084f46c9ce47933f28376e0508325fe16fedce655a3a", func := "touchstone/touchstonelaw14.ArithOther", spec := "arithOther", unfollowed := true, recurses := true, apart := false }
def ArithOtherSaid : Prop := arithOtherRow.holds Try.pinned (OpenSpec.ofChange arithOtherSpec)

/-- ITS FALSE NEIGHBOUR: 'it returns false'. Refute it at one input. -/
def arithOtherWrong : ChangeSpec := { name := "arithOther", fn := fun _ => fun
  | [d1, d2] => { results := [.lit (.bool false)], args := [d1, d2] }
  | _ => none }
def ArithOtherWrongFalsely : Prop := arithOtherRow.holds Try.pinned (OpenSpec.ofChange arithOtherWrong)

/- THE SECOND FORM. 'bulk': how many values and letters a reading holds, each counted each time it is reached (what is shared counts as often as it is met; a slice's spare places count too). A statement '..UptoSaid' is the law's where the arguments, and the package variables that the reading takes, are together of bulk at most 1048576: NARROWER than '..Said'. Prove '..Said' where nothing that the law and all that it calls make is longer than what came in: it says more and counts as full. Else prove '..UptoSaid'. A law counts once. -/
mutual
def uptoBulk {H : Type} : DataW H → Nat
  | .lit (.string bytes) => bytes.length + 1
  | .lit _ => 1
  | .nil => 1
  | .ptr d => uptoBulk d + 1
  | .slice elems spare => uptoBulkAll elems + uptoBulkAll spare + 1
  | .agg parts => uptoBulkAll parts + 1
  | .iface _ d => uptoBulk d + 1
  | .map entries => uptoBulkEntries entries + 1
  | .held _ => 1
def uptoBulkAll {H : Type} : List (DataW H) → Nat
  | [] => 0
  | d :: r => uptoBulk d + uptoBulkAll r
def uptoBulkEntries {H : Type} : List (Lit × DataW H) → Nat
  | [] => 0
  | x :: r => uptoBulkEntry x + uptoBulkEntries r
def uptoBulkEntry {H : Type} : Lit × DataW H → Nat
  | (.string bytes, d) => bytes.length + uptoBulk d + 1
  | (_, d) => uptoBulk d + 1
 end
def uptoSmall : (H : Type) → List (DataW H) → Bool := fun _ ds => decide (uptoBulkAll ds ≤ 1048576)
def OpenSpec.upto (s : _root_.Go.ChangeSpec) : _root_.Go.OpenSpec := { _root_.Go.OpenSpec.ofChange s with cond := some uptoSmall }

/-- 'touchstonelaw15.LogicOther', WHERE WHAT IT READS IS OF BULK AT MOST 1048576: true; the input reads as it did. -/
def logicOtherUptoRow : OpenClaim := { program := "ytbhigfllanblpaa", sum := "2953c50fd87b76b69ede084f46c9ce47933f28376e0508325fe16fedce655a3a", func := "touchstone/touchstonelaw15.LogicOther", spec := "logicOther", unfollowed := true, recurses := true, apart := false, narrowed := true }
def LogicOtherUptoSaid : Prop := logicOtherUptoRow.holds Try.pinned (OpenSpec.upto logicOtherSpec)

/-- 'touchstonelaw12.LinearTight', WHERE WHAT IT READS IS OF BULK AT MOST 1048576: true; the input reads as it did. -/
def linearTightUptoRow : OpenClaim := { program := "ytbhigfllanblpaa", sum := "2953c50fd87b76b69ede084f46c9ce47933f28376e0508325fe16fedce655a3a", func := "touchstone/touchstonelaw12.LinearTight", spec := "linearTight", unfollowed := true, recurses := true, apart := false, narrowed := true }
def LinearTightUptoSaid : Prop := linearTightUptoRow.holds Try.pinned (OpenSpec.upto linearTightSpec)

/-- 'touchstonetop.WholeClause', WHERE WHAT IT READS IS OF BULK AT MOST 1048576: true; the input reads as it did. -/
def wholeClauseUptoRow : OpenClaim := { program := "ytbhigfllanblpaa", sum := "2953c50fd87b76b69ede084f46c9ce47933f28376e0508325fe16fedce655a3a", func := "touchstone/touchstonetop.WholeClause", spec := "wholeClause", unfollowed := true, recurses := true, apart := false, narrowed := true }
def WholeClauseUptoSaid : Prop := wholeClauseUptoRow.holds Try.pinned (OpenSpec.upto wholeClauseSpec)

/-- 'touchstonelaw12.LinearOther', WHERE WHAT IT READS IS OF BULK AT MOST 1048576: true; the input reads as it did. -/
def linearOtherUptoRow : OpenClaim := { program := "ytbhigfllanblpaa", sum := "2953c50fd87b76b69ede084f46c9ce47933f28376e0508325fe16fedce655a3a", func := "touchstone/touchstonelaw12.LinearOther", spec := "linearOther", unfollowed := true, recurses := true, apart := false, narrowed := true }
def LinearOtherUptoSaid : Prop := linearOtherUptoRow.holds Try.pinned (OpenSpec.upto linearOtherSpec)

/-- 'touchstonelaw13.ReifyNarrows', WHERE WHAT IT READS IS OF BULK AT MOST 1048576: true; the input reads as it did. -/
def reifyNarrowsUptoRow : OpenClaim := { program := "ytbhigfllanblpaa", sum := "2953c50fd87b76b69ede084f46c9ce47933f28376e0508325fe16fedce655a3a", func := "touchstone/touchstonelaw13.ReifyNarrows", spec := "reifyNarrows", unfollowed := true, recurses := true, apart := false, narrowed := true }
def ReifyNarrowsUptoSaid : Prop := reifyNarrowsUptoRow.holds Try.pinned (OpenSpec.upto reifyNarrowsSpec)

/-- 'touchstonelaw13.ReifyKeeps', WHERE WHAT IT READS IS OF BULK AT MOST 1048576: true; the input reads as it did. -/
def reifyKeepsUptoRow : OpenClaim := { program := "ytbhigfllanblpaa", sum := "2953c50fd87b76b69ede084f46c9ce47933f28376e0508325fe16fedce655a3a", func := "touchstone/touchstonelaw13.ReifyKeeps", spec := "reifyKeeps", unfollowed := true, recurses := true, apart := false, narrowed := true }
def ReifyKeepsUptoSaid : Prop := reifyKeepsUptoRow.holds Try.pinned (OpenSpec.upto reifyKeepsSpec)

/-- 'touchstonelaw13.ReifyOther', WHERE WHAT IT READS IS OF BULK AT MOST 1048576: true; the input reads as it did. -/
def reifyOtherUptoRow : OpenClaim := { program := "ytbhigfllanblpaa", sum := "2953c50fd87b76b69ede084f46c9ce47933f28376e0508325fe16fedce655a3a", func := "touchstone/touchstonelaw13.ReifyOther", spec := "reifyOther", unfollowed := true, recurses := true, apart := false, narrowed := true }
def ReifyOtherUptoSaid : Prop := reifyOtherUptoRow.holds Try.pinned (OpenSpec.upto reifyOtherSpec)

/-- 'touchstonelaw14.ArithNarrows', WHERE WHAT IT READS IS OF BULK AT MOST 1048576: true; the input reads as it did. -/
def arithNarrowsUptoRow : OpenClaim := { program := "ytbhigfllanblpaa", sum := "2953c50fd87b76b69ede084f46c9ce47933f28376e0508325fe16fedce655a3a", func := "touchstone/touchstonelaw14.ArithNarrows", spec := "arithNarrows", unfollowed := true, recurses := true, apart := false, narrowed := true }
def ArithNarrowsUptoSaid : Prop := arithNarrowsUptoRow.holds Try.pinned (OpenSpec.upto arithNarrowsSpec)

/-- 'touchstonelaw14.ArithKeeps', WHERE WHAT IT READS IS OF BULK AT MOST 1048576: true; the input reads as it did. -/
def arithKeepsUptoRow : OpenClaim := { program := "ytbhigfllanblpaa", sum := "2953c50fd87b76b69ede084f46c9ce47933f28376e0508325fe16fedce655a3a", func := "touchstone/touchstonelaw14.ArithKeeps", spec := "arithKeeps", unfollowed := true, recurses := true, apart := false, narrowed := true }
def ArithKeepsUptoSaid : Prop := arithKeepsUptoRow.holds Try.pinned (OpenSpec.upto arithKeepsSpec)

/-- 'touchstonelaw14.ArithOrder', WHERE WHAT IT READS IS OF BULK AT MOST 1048576: true; the input reads as it did. -/
def arithOrderUptoRow : OpenClaim := { program := "ytbhigfllanblpaa", sum := "2953c50fd87b76b69ede084f46c9ce47933f28376e0508325fe16fedce655a3a", func := "touchstone/touchstonelaw14.ArithOrder", spec := "arithOrder", unfollowed := true, recurses := true, apart := false, narrowed := true }
def ArithOrderUptoSaid : Prop := arithOrderUptoRow.holds Try.pinned (OpenSpec.upto arithOrderSpec)

/-- 'touchstonelaw14.ArithDecides', WHERE WHAT IT READS IS OF BULK AT MOST 1048576: true; the input reads as it did. -/
def arithDecidesUptoRow : OpenClaim := { program := "ytbhigfllanblpaa", sum := "2953c50fd87b76b69ede084f46c9ce47933f28376e0508325fe16fedce655a3a", func := "touchstone/touchstonelaw14.ArithDecides", spec := "arithDecides", unfollowed := true, recurses := true, apart := false, narrowed := true }
def ArithDecidesUptoSaid : Prop := arithDecidesUptoRow.holds Try.pinned (OpenSpec.upto arithDecidesSpec)

/-- 'touchstonelaw14.ArithOther', WHERE WHAT IT READS IS OF BULK AT MOST 1048576: true; the input reads as it did. -/
def arithOtherUptoRow : OpenClaim := { program := "ytbhigfllanblpaa", sum := "2953c50fd87b76b69ede084f46c9ce47933f28376e0508325fe16fedce655a3a", func := "touchstone/touchstonelaw14.ArithOther", spec := "arithOther", unfollowed := true, recurses := true, apart := false, narrowed := true }
def ArithOtherUptoSaid : Prop := arithOtherUptoRow.holds Try.pinned (OpenSpec.upto arithOtherSpec)

end Rows
end Go.Proofs.Ytbhigfllanblpaa
