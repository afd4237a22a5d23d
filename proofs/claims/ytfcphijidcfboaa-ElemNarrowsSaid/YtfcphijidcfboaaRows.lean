/-
  No cell of these rows narrows 'for every input' (looked for: loops, veiled, ifaces, maps, wideKeys, modest, calm, conditions, laid).
  DERIVED. THE GIVEN ROWS OF THIS SEAT. 12 by the template 'for every input the law returns true; each argument reads behind the call as it read before'; 0 by the template 'total and deterministic' (their statements: YtfcphijidcfboaaTotals.lean).
  GIVEN WITH THE SEED: the statements are not yours to turn. If you find one false, say at which input.
  Laid BY PROGRAM, IN A SANDBOX (cutbox-rows.mjs): the forced cells as the released guide's own fill.sh prints them over the translation 4455e9bc7b6ec8e3… (all of the seat's roots in one cut). By AI agents, Wed Nov 11 2026. No macro, syntax, notation, axiom, sorry.
-/
import Derived.Test.YtfcphijidcfboaaChecked
import GoSem.Claim
import GoSem.ClaimJoined
import GoSem.ClaimMapViews
import Derived.JoinedTies
import Derived.KernelRfl
namespace Go.Proofs.Ytfcphijidcfboaa
/- THE CELL 'sum', in the pinned program and in every row, IS THE sha256 OF THE DUMP (.gsa) THAT YtfcphijidcfboaaProg.lean LOADS. Nothing in Lean hashes anything: it is a label: what it is worth is what the hold of that sum in a sandbox is worth. -/
noncomputable def Try.pinned : Pinned := { name := "ytfcphijidcfboaa", sum := "4455e9bc7b6ec8e36baa8bd77b8831f7a0b2f9fca1c3eeaa94c426d9018fc3b0", checked := Try.checked }
namespace Rows
def none {H : Type} : Left H := { results := [], args := [] }

/-- 'touchstonetop.WholeElement': WHATEVER THE INPUT: true; the input reads as it did. -/
def wholeElementSpec : ChangeSpec := { name := "wholeElement", fn := fun _ => fun
  | [d1, d2] => { results := [.lit (.bool true)], args := [d1, d2] }
  | _ => none }
def wholeElementRow : OpenClaim := { program := "ytfcphijidcfboaa", sum := "4455e9bc7b6ec8e36baa8bd77b8831f7a0b2f9fca1c3eeaa94c426d9018fc3b0", func := "touchstone/touchstonetop.WholeElement", spec := "wholeElement", unfollowed := true, recurses := true, apart := false }
def WholeElementSaid : Prop := wholeElementRow.holds Try.pinned (OpenSpec.ofChange wholeElementSpec)

/-- ITS FALSE NEIGHBOUR: 'it returns false'. Refute it at one input. -/
def wholeElementWrong : ChangeSpec := { name := "wholeElement", fn := fun _ => fun
  | [d1, d2] => { results := [.lit (.bool false)], args := [d1, d2] }
  | _ => none }
def WholeElementWrongFalsely : Prop := wholeElementRow.holds Try.pinned (OpenSpec.ofChange wholeElementWrong)

/-- 'touchstonelaw16.ElemNarrows': WHATEVER THE INPUT: true; the input reads as it did. -/
def elemNarrowsSpec : ChangeSpec := { name := "elemNarrows", fn := fun _ => fun
  | [d1, d2] => { results := [.lit (.bool true)], args := [d1, d2] }
  | _ => none }
def elemNarrowsRow : OpenClaim := { program := "ytfcphijidcfboaa", sum := "4455e9bc7b6ec8e36baa8bd77b8831f7a0b2f9fca1c3eeaa94c426d9018fc3b0", func := "touchstone/touchstonelaw16.ElemNarrows", spec := "elemNarrows", unfollowed := true, recurses := true, apart := false }
def ElemNarrowsSaid : Prop := elemNarrowsRow.holds Try.pinned (OpenSpec.ofChange elemNarrowsSpec)

/-- ITS FALSE NEIGHBOUR: 'it returns false'. Refute it at one input. -/
def elemNarrowsWrong : ChangeSpec := { name := "elemNarrows", fn := fun _ => fun
  | [d1, d2] => { results := [.lit (.bool false)], args := [d1, d2] }
  | _ => none }
def ElemNarrowsWrongFalsely : Prop := elemNarrowsRow.holds Try.pinned (OpenSpec.ofChange elemNarrowsWrong)

/-- 'touchstonelaw16.ElemKeeps': WHATEVER THE INPUT: true; the input reads as it did. -/
def elemKeepsSpec : ChangeSpec := { name := "elemKeeps", fn := fun _ => fun
  | [d1, d2] => { results := [.lit (.bool true)], args := [d1, d2] }
  | _ => none }
def elemKeepsRow : OpenClaim := { program := "ytfcphijidcfboaa", sum := "4455e9bc7b6ec8e36baa8bd77b8831f7a0b2f9fca1c3eeaa94c426d9018fc3b0", func := "touchstone/touchstonelaw16.ElemKeeps", spec := "elemKeeps", unfollowed := true, recurses := true, apart := false }
def ElemKeepsSaid : Prop := elemKeepsRow.holds Try.pinned (OpenSpec.ofChange elemKeepsSpec)

/-- ITS FALSE NEIGHBOUR: 'it returns false'. Refute it at one input. -/
def elemKeepsWrong : ChangeSpec := { name := "elemKeeps", fn := fun _ => fun
  | [d1, d2] => { results := [.lit (.bool false)], args := [d1, d2] }
  | _ => none }
def ElemKeepsWrongFalsely : Prop := elemKeepsRow.holds Try.pinned (OpenSpec.ofChange elemKeepsWrong)

/-- 'touchstonelaw16.ElemOrder': WHATEVER THE INPUT: true; the input reads as it did. -/
def elemOrderSpec : ChangeSpec := { name := "elemOrder", fn := fun _ => fun
  | [d1, d2, d3] => { results := [.lit (.bool true)], args := [d1, d2, d3] }
  | _ => none }
def elemOrderRow : OpenClaim := { program := "ytfcphijidcfboaa", sum := "4455e9bc7b6ec8e36baa8bd77b8831f7a0b2f9fca1c3eeaa94c426d9018fc3b0", func := "touchstone/touchstonelaw16.ElemOrder", spec := "elemOrder", unfollowed := true, recurses := true, apart := false }
def ElemOrderSaid : Prop := elemOrderRow.holds Try.pinned (OpenSpec.ofChange elemOrderSpec)

/-- ITS FALSE NEIGHBOUR: 'it returns false'. Refute it at one input. -/
def elemOrderWrong : ChangeSpec := { name := "elemOrder", fn := fun _ => fun
  | [d1, d2, d3] => { results := [.lit (.bool false)], args := [d1, d2, d3] }
  | _ => none }
def ElemOrderWrongFalsely : Prop := elemOrderRow.holds Try.pinned (OpenSpec.ofChange elemOrderWrong)

/-- 'touchstonelaw16.ElemOther': WHATEVER THE INPUT: true; the input reads as it did. -/
def elemOtherSpec : ChangeSpec := { name := "elemOther", fn := fun _ => fun
  | [d1, d2] => { results := [.lit (.bool true)], args := [d1, d2] }
  | _ => none }
def elemOtherRow : OpenClaim := { program := "ytfcphijidcfboaa", sum := "4455e9bc7b6ec8e36baa8bd77b8831f7a0b2f9fca1c3eeaa94c426d9018fc3b0", func := "touchstone/touchstonelaw16.ElemOther", spec := "elemOther", unfollowed := true, recurses := true, apart := false }
def ElemOtherSaid : Prop := elemOtherRow.holds Try.pinned (OpenSpec.ofChange elemOtherSpec)

/-- ITS FALSE NEIGHBOUR: 'it returns false'. Refute it at one input. -/
def elemOtherWrong : ChangeSpec := { name := "elemOther", fn := fun _ => fun
  | [d1, d2] => { results := [.lit (.bool false)], args := [d1, d2] }
  | _ => none }
def ElemOtherWrongFalsely : Prop := elemOtherRow.holds Try.pinned (OpenSpec.ofChange elemOtherWrong)

/-- 'touchstonelaw11.SenseHolds': WHATEVER THE INPUT: true; the input reads as it did. -/
def senseHoldsSpec : ChangeSpec := { name := "senseHolds", fn := fun _ => fun
  | [d1, d2] => { results := [.lit (.bool true)], args := [d1, d2] }
  | _ => none }
def senseHoldsRow : OpenClaim := { program := "ytfcphijidcfboaa", sum := "4455e9bc7b6ec8e36baa8bd77b8831f7a0b2f9fca1c3eeaa94c426d9018fc3b0", func := "touchstone/touchstonelaw11.SenseHolds", spec := "senseHolds", unfollowed := true, recurses := true, apart := false }
def SenseHoldsSaid : Prop := senseHoldsRow.holds Try.pinned (OpenSpec.ofChange senseHoldsSpec)

/-- ITS FALSE NEIGHBOUR: 'it returns false'. Refute it at one input. -/
def senseHoldsWrong : ChangeSpec := { name := "senseHolds", fn := fun _ => fun
  | [d1, d2] => { results := [.lit (.bool false)], args := [d1, d2] }
  | _ => none }
def SenseHoldsWrongFalsely : Prop := senseHoldsRow.holds Try.pinned (OpenSpec.ofChange senseHoldsWrong)

/-- 'touchstonelaw11.SenseAll': WHATEVER THE INPUT: true; the input reads as it did. -/
def senseAllSpec : ChangeSpec := { name := "senseAll", fn := fun _ => fun
  | [d1, d2, d3] => { results := [.lit (.bool true)], args := [d1, d2, d3] }
  | _ => none }
def senseAllRow : OpenClaim := { program := "ytfcphijidcfboaa", sum := "4455e9bc7b6ec8e36baa8bd77b8831f7a0b2f9fca1c3eeaa94c426d9018fc3b0", func := "touchstone/touchstonelaw11.SenseAll", spec := "senseAll", unfollowed := true, recurses := true, apart := false }
def SenseAllSaid : Prop := senseAllRow.holds Try.pinned (OpenSpec.ofChange senseAllSpec)

/-- ITS FALSE NEIGHBOUR: 'it returns false'. Refute it at one input. -/
def senseAllWrong : ChangeSpec := { name := "senseAll", fn := fun _ => fun
  | [d1, d2, d3] => { results := [.lit (.bool false)], args := [d1, d2, d3] }
  | _ => none }
def SenseAllWrongFalsely : Prop := senseAllRow.holds Try.pinned (OpenSpec.ofChange senseAllWrong)

/-- 'touchstonelaw11.SenseKin': WHATEVER THE INPUT: true; the input reads as it did. -/
def senseKinSpec : ChangeSpec := { name := "senseKin", fn := fun _ => fun
  | [d1, d2] => { results := [.lit (.bool true)], args := [d1, d2] }
  | _ => none }
def senseKinRow : OpenClaim := { program := "ytfcphijidcfboaa", sum := "4455e9bc7b6ec8e36baa8bd77b8831f7a0b2f9fca1c3eeaa94c426d9018fc3b0", func := "touchstone/touchstonelaw11.SenseKin", spec := "senseKin", unfollowed := true, recurses := true, apart := false }
def SenseKinSaid : Prop := senseKinRow.holds Try.pinned (OpenSpec.ofChange senseKinSpec)

/-- ITS FALSE NEIGHBOUR: 'it returns false'. Refute it at one input. -/
def senseKinWrong : ChangeSpec := { name := "senseKin", fn := fun _ => fun
  | [d1, d2] => { results := [.lit (.bool false)], args := [d1, d2] }
  | _ => none }
def SenseKinWrongFalsely : Prop := senseKinRow.holds Try.pinned (OpenSpec.ofChange senseKinWrong)

/-- 'touchstonelaw11.SenseTurned': WHATEVER THE INPUT: true; the input reads as it did. -/
def senseTurnedSpec : ChangeSpec := { name := "senseTurned", fn := fun _ => fun
  | [d1, d2, d3] => { results := [.lit (.bool true)], args := [d1, d2, d3] }
  | _ => none }
def senseTurnedRow : OpenClaim := { program := "ytfcphijidcfboaa", sum := "4455e9bc7b6ec8e36baa8bd77b8831f7a0b2f9fca1c3eeaa94c426d9018fc3b0", func := "touchstone/touchstonelaw11.SenseTurned", spec := "senseTurned", unfollowed := true, recurses := true, apart := false }
def SenseTurnedSaid : Prop := senseTurnedRow.holds Try.pinned (OpenSpec.ofChange senseTurnedSpec)

/-- ITS FALSE NEIGHBOUR: 'it returns false'. Refute it at one input. -/
def senseTurnedWrong : ChangeSpec := { name := "senseTurned", fn := fun _ => fun
  | [d1, d2, d3] => { results := [.lit (.bool false)], args := [d1, d2, d3] }
  | _ => none }
def SenseTurnedWrongFalsely : Prop := senseTurnedRow.holds Try.pinned (OpenSpec.ofChange senseTurnedWrong)

/-- 'touchstonelaw11.SenseMoved': WHATEVER THE INPUT: true; the input reads as it did. -/
def senseMovedSpec : ChangeSpec := { name := "senseMoved", fn := fun _ => fun
  | [d1, d2, d3] => { results := [.lit (.bool true)], args := [d1, d2, d3] }
  | _ => none }
def senseMovedRow : OpenClaim := { program := "ytfcphijidcfboaa", sum := "4455e9bc7b6ec8e36baa8bd77b8831f7a0b2f9fca1c3eeaa94c426d9018fc3b0", func := "touchstone/touchstonelaw11.SenseMoved", spec := "senseMoved", unfollowed := true, recurses := true, apart := false }
def SenseMovedSaid : Prop := senseMovedRow.holds Try.pinned (OpenSpec.ofChange senseMovedSpec)

/-- ITS FALSE NEIGHBOUR: 'it returns false'. Refute it at one input. -/
def senseMovedWrong : ChangeSpec := { name := "senseMoved", fn := fun _ => fun
  | [d1, d2, d3] => { results := [.lit (.bool false)], args := [d1, d2, d3] }
  | _ => none }
def SenseMovedWrongFalsely : Prop := senseMovedRow.holds Try.pinned (OpenSpec.ofChange senseMovedWrong)

/-- 'touchstonelaw11.SenseFew': WHATEVER THE INPUT: true; the input reads as it did. -/
def senseFewSpec : ChangeSpec := { name := "senseFew", fn := fun _ => fun
  | [d1, d2, d3] => { results := [.lit (.bool true)], args := [d1, d2, d3] }
  | _ => none }
def senseFewRow : OpenClaim := { program := "ytfcphijidcfboaa", sum := "4455e9bc7b6ec8e36baa8bd77b8831f7a0b2f9fca1c3eeaa94c426d9018fc3b0", func := "touchstone/touchstonelaw11.SenseFew", spec := "senseFew", unfollowed := true, recurses := true, apart := false }
def SenseFewSaid : Prop := senseFewRow.holds Try.pinned (OpenSpec.ofChange senseFewSpec)

/-- ITS FALSE NEIGHBOUR: 'it returns false'. Refute it at one input. -/
def senseFewWrong : ChangeSpec := { name := "senseFew", fn := fun _ => fun
  | [d1, d2, d3] => { results := [.lit (.bool false)], args := [d1, d2, d3] }
  | _ => none }
def SenseFewWrongFalsely : Prop := senseFewRow.holds Try.pinned (OpenSpec.ofChange senseFewWrong)

/-- 'touchstonelaw11.SenseOrder': WHATEVER THE INPUT: true; the input reads as it did. -/
def senseOrderSpec : ChangeSpec := { name := "senseOrder", fn := fun _ => fun
  | [d1, d2] => { results := [.lit (.bool true)], args := [d1, d2] }
  | _ => none }
def senseOrderRow : OpenClaim := { program := "ytfcphijidcfboaa", sum := "4455e9bc7b6ec8e36baa8bd77b8831f7a0b2f9fca1c3eeaa94c426d9018fc3b0", func := "touchstone/touchstonelaw11.SenseOrder", spec := "senseOrder", unfollowed := true, recurses := true, apart := false }
def SenseOrderSaid : Prop := senseOrderRow.holds Try.pinned (OpenSpec.ofChange senseOrderSpec)

/-- ITS FALSE NEIGHBOUR: 'it returns false'. Refute it at one input. -/
def senseOrderWrong : ChangeSpec := { name := "senseOrder", fn := fun _ => fun
  | [d1, d2] => { results := [.lit (.bool false)], args := [d1, d2] }
  | _ => none }
def SenseOrderWrongFalsely : Prop := senseOrderRow.holds Try.pinned (OpenSpec.ofChange senseOrderWrong)

/- THE SECOND FORM. 'bulk': how many values and letters a reading holds, each counted each time it is reached (what is shared counts as often as it is met; a slice's spare places count too). A statement '..UptoSaid' is the law's where the arguments, and the package variables that the reading takes, are together of bulk at most 1048576: NARROWER than '..Said'. Prove '..Said' where nothing that the law and all that it calls make is longer than what came in: it says more and counts as full. Else prove '..UptoSaid'. A law counts once. -/
mutual
def uptoBulk {H : Type} : DataW H → Nat
  | .lit (.string bytes) => bytes.length + 1
  | .lit _ => 1
  | .nil => 1
  | .ptr d => uptoBulk d + 1
  | .slice elems spare => uptoBulkAll elems + uptoBulkAll spare + 1
  | .agg parts => uptoBulkAll parts + 1
  | .iface _ d => uptoBulk d + 1
  | .map entries => uptoBulkEntries entries + 1
  | .held _ => 1
def uptoBulkAll {H : Type} : List (DataW H) → Nat
  | [] => 0
  | d :: r => uptoBulk d + uptoBulkAll r
def uptoBulkEntries {H : Type} : List (Lit × DataW H) → Nat
  | [] => 0
  | x :: r => uptoBulkEntry x + uptoBulkEntries r
def uptoBulkEntry {H : Type} : Lit × DataW H → Nat
  | (.string bytes, d) => bytes.length + uptoBulk d + 1
  | (_, d) => uptoBulk d + 1
 end
def uptoSmall : (H : Type) → List (DataW H) → Bool := fun _ ds => decide (uptoBulkAll ds ≤ 1048576)
def OpenSpec.upto (s : _root_.Go.ChangeSpec) : _root_.Go.OpenSpec := { _root_.Go.OpenSpec.ofChange s with cond := some uptoSmall }

/-- 'touchstonetop.WholeElement', WHERE WHAT IT READS IS OF BULK AT MOST 1048576: true; the input reads as it did. -/
def wholeElementUptoRow : OpenClaim := { program := "ytfcphijidcfboaa", sum := "4455e9bc7b6ec8e36baa8bd77b8831f7a0b2f9fca1c3eeaa94c426d9018fc3b0", func := "touchstone/touchstonetop.WholeElement", spec := "wholeElement", unfollowed := true, recurses := true, apart := false, narrowed := true }
def WholeElementUptoSaid : Prop := wholeElementUptoRow.holds Try.pinned (OpenSpec.upto wholeElementSpec)

/-- 'touchstonelaw16.ElemNarrows', WHERE WHAT IT READS IS OF BULK AT MOST 1048576: true; the input reads as it did. -/
def elemNarrowsUptoRow : OpenClaim := { program := "ytfcphijidcfboaa", sum := "4455e9bc7b6ec8e36baa8bd77b8831f7a0b2f9fca1c3eeaa94c426d9018fc3b0", func := "touchstone/touchstonelaw16.ElemNarrows", spec := "elemNarrows", unfollowed := true, recurses := true, apart := false, narrowed := true }
def ElemNarrowsUptoSaid : Prop := elemNarrowsUptoRow.holds Try.pinned (OpenSpec.upto elemNarrowsSpec)

/-- 'touchstonelaw16.ElemKeeps', WHERE WHAT IT READS IS OF BULK AT MOST 1048576: true; the input reads as it did. -/
def elemKeepsUptoRow : OpenClaim := { program := "ytfcphijidcfboaa", sum := "4455e9bc7b6ec8e36baa8bd77b8831f7a0b2f9fca1c3eeaa94c426d9018fc3b0", func := "touchstone/touchstonelaw16.ElemKeeps", spec := "elemKeeps", unfollowed := true, recurses := true, apart := false, narrowed := true }
def ElemKeepsUptoSaid : Prop := elemKeepsUptoRow.holds Try.pinned (OpenSpec.upto elemKeepsSpec)

/-- 'touchstonelaw16.ElemOrder', WHERE WHAT IT READS IS OF BULK AT MOST 1048576: true; the input reads as it did. -/
def elemOrderUptoRow : OpenClaim := { program := "ytfcphijidcfboaa", sum := "4455e9bc7b6ec8e36baa8bd77b8831f7a0b2f9fca1c3eeaa94c426d9018fc3b0", func := "touchstone/touchstonelaw16.ElemOrder", spec := "elemOrder", unfollowed := true, recurses := true, apart := false, narrowed := true }
def ElemOrderUptoSaid : Prop := elemOrderUptoRow.holds Try.pinned (OpenSpec.upto elemOrderSpec)

/-- 'touchstonelaw16.ElemOther', WHERE WHAT IT READS IS OF BULK AT MOST 1048576: true; the input reads as it did. -/
def elemOtherUptoRow : OpenClaim := { program := "ytfcphijidcfboaa", sum := "4455e9bc7b6ec8e36baa8bd77b8831f7a0b2f9fca1c3eeaa94c426d9018fc3b0", func := "touchstone/touchstonelaw16.ElemOther", spec := "elemOther", unfollowed := true, recurses := true, apart := false, narrowed := true }
def ElemOtherUptoSaid : Prop := elemOtherUptoRow.holds Try.pinned (OpenSpec.upto elemOtherSpec)

/-- 'touchstonelaw11.SenseHolds', WHERE WHAT IT READS IS OF BULK AT MOST 1048576: true; the input reads as it did. -/
def senseHoldsUptoRow : OpenClaim := { program := "ytfcphijidcfboaa", sum := "4455e9bc7b6ec8e36baa8bd77b8831f7a0b2f9fca1c3eeaa94c426d9018fc3b0", func := "touchstone/touchstonelaw11.SenseHolds", spec := "senseHolds", unfollowed := true, recurses := true, apart := false, narrowed := true }
def SenseHoldsUptoSaid : Prop := senseHoldsUptoRow.holds Try.pinned (OpenSpec.upto senseHoldsSpec)

/-- 'touchstonelaw11.SenseAll', WHERE WHAT IT READS IS OF BULK AT MOST 1048576: true; the input reads as it did. -/
def senseAllUptoRow : OpenClaim := { program := "ytfcphijidcfboaa", sum := "4455e9bc7b6ec8e36baa8bd77b8831f7a0b2f9fca1c3eeaa94c426d9018fc3b0", func := "touchstone/touchstonelaw11.SenseAll", spec := "senseAll", unfollowed := true, recurses := true, apart := false, narrowed := true }
def SenseAllUptoSaid : Prop := senseAllUptoRow.holds Try.pinned (OpenSpec.upto senseAllSpec)

/-- 'touchstonelaw11.SenseKin', WHERE WHAT IT READS IS OF BULK AT MOST 1048576: true; the input reads as it did. -/
def senseKinUptoRow : OpenClaim := { program := "ytfcphijidcfboaa", sum := "4455e9bc7b6ec8e36baa8bd77b8831f7a0b2f9fca1c3eeaa94c426d9018fc3b0", func := "touchstone/touchstonelaw11.SenseKin", spec := "senseKin", unfollowed := true, recurses := true, apart := false, narrowed := true }
def SenseKinUptoSaid : Prop := senseKinUptoRow.holds Try.pinned (OpenSpec.upto senseKinSpec)

/-- 'touchstonelaw11.SenseTurned', WHERE WHAT IT READS IS OF BULK AT MOST 1048576: true; the input reads as it did. -/
def senseTurnedUptoRow : OpenClaim := { program := "ytfcphijidcfboaa", sum := "4455e9bc7b6ec8e36baa8bd77b8831f7a0b2f9fca1c3eeaa94c426d9018fc3b0", func := "touchstone/touchstonelaw11.SenseTurned", spec := "senseTurned", unfollowed := true, recurses := true, apart := false, narrowed := true }
def SenseTurnedUptoSaid : Prop := senseTurnedUptoRow.holds Try.pinned (OpenSpec.upto senseTurnedSpec)

/-- 'touchstonelaw11.SenseMoved', WHERE WHAT IT READS IS OF BULK AT MOST 1048576: true; the input reads as it did. -/
def senseMovedUptoRow : OpenClaim := { program := "ytfcphijidcfboaa", sum := "4455e9bc7b6ec8e36baa8bd77b8831f7a0b2f9fca1c3eeaa94c426d9018fc3b0", func := "touchstone/touchstonelaw11.SenseMoved", spec := "senseMoved", unfollowed := true, recurses := true, apart := false, narrowed := true }
def SenseMovedUptoSaid : Prop := senseMovedUptoRow.holds Try.pinned (OpenSpec.upto senseMovedSpec)

/-- 'touchstonelaw11.SenseFew', WHERE WHAT IT READS IS OF BULK AT MOST 1048576: true; the input reads as it did. -/
def senseFewUptoRow : OpenClaim := { program := "ytfcphijidcfboaa", sum := "4455e9bc7b6ec8e36baa8bd77b8831f7a0b2f9fca1c3eeaa94c426d9018fc3b0", func := "touchstone/touchstonelaw11.SenseFew", spec := "senseFew", unfollowed := true, recurses := true, apart := false, narrowed := true }
def SenseFewUptoSaid : Prop := senseFewUptoRow.holds Try.pinned (OpenSpec.upto senseFewSpec)

/-- 'touchstonelaw11.SenseOrder', WHERE WHAT IT READS IS OF BULK AT MOST 1048576: true; the input reads as it did. -/
def senseOrderUptoRow : OpenClaim := { program := "ytfcphijidcfboaa", sum := "4455e9bc7b6ec8e36baa8bd77b8831f7a0b2f9fca1c3eeaa94c426d9018fc3b0", func := "touchstone/touchstonelaw11.SenseOrder", spec := "senseOrder", unfollowed := true, recurses := true, apart := false, narrowed := true }
def SenseOrderUptoSaid : Prop := senseOrderUptoRow.holds Try.pinned (OpenSpec.upto senseOrderSpec)

end Rows
end Go.Proofs.Ytfcphijidcfboaa
