/-
  No cell of these rows narrows 'for every input' (looked for: loops, veiled, ifaces, maps, wideKeys, modest, calm, conditions, laid).
  DERIVED. THE GIVEN ROWS OF THIS SEAT. 12 by the template 'for every input the law returns true; each argument reads behind the call as it read before'; 0 by the template 'total and deterministic' (their statements: YtonkcemcledhiaaTotals.lean).
  GIVEN WITH THE SEED: the statements are not yours to turn. If you find one false, say at which input.
  Laid BY PROGRAM, IN A SANDBOX (cutbox-rows.mjs): the forced cells as the released guide's own fill.sh prints them over the translation 30c6ee5fa753a44f… (all of the seat's roots in one cut). By AI agents, Wed Nov 11 2026. No macro, syntax, notation, axiom, sorry.
-/
import Derived.Test.YtonkcemcledhiaaChecked
import GoSem.Claim
import GoSem.ClaimJoined
import GoSem.ClaimMapViews
import Derived.JoinedTies
import Derived.KernelRfl
namespace Go.Proofs.Ytonkcemcledhiaa
/- THE CELL 'sum', in the pinned program and in every row, IS THE sha256 OF THE DUMP (.gsa) THAT YtonkcemcledhiaaProg.lean LOADS. Nothing in Lean hashes anything: it is a label: what it is worth is what the hold of that sum in a sandbox is worth. -/
noncomputable def Try.pinned : Pinned := { name := "ytonkcemcledhiaa", sum := "30c6ee5fa753a44fdf709a83c76834470688fe2cf030cb5f0277854a9fefe8e2", checked := Try.checked }
namespace Rows
def none {H : Type} : Left H := { results := [], args := [] }

/-- 'touchstonelaw15.LogicOther': WHATEVER THE INPUT: true; the input reads as it did. -/
def logicOtherSpec : ChangeSpec := { name := "logicOther", fn := fun _ => fun
  | [d1, d2] => { results := [.lit (.bool true)], args := [d1, d2] }
  | _ => none }
def logicOtherRow : OpenClaim := { program := "ytonkcemcledhiaa", sum := "30c6ee5fa753a44fdf709a83c76834470688fe2cf030cb5f0277854a9fefe8e2", func := "touchstone/touchstonelaw15.LogicOther", spec := "logicOther", unfollowed := true, recurses := true, apart := false }
def LogicOtherSaid : Prop := logicOtherRow.holds Try.pinned (OpenSpec.ofChange logicOtherSpec)

/-- ITS FALSE NEIGHBOUR: 'it returns false'. Refute it at one input. -/
def logicOtherWrong : ChangeSpec := { name := "logicOther", fn := fun _ => fun
  | [d1, d2] => { results := [.lit (.bool false)], args := [d1, d2] }
  | _ => none }
def LogicOtherWrongFalsely : Prop := logicOtherRow.holds Try.pinned (OpenSpec.ofChange logicOtherWrong)

/-- 'touchstonelaw12.LinearOther': WHATEVER THE INPUT: true; the input reads as it did. -/
def linearOtherSpec : ChangeSpec := { name := "linearOther", fn := fun _ => fun
  | [d1, d2] => { results := [.lit (.bool true)], args := [d1, d2] }
  | _ => none }
def linearOtherRow : OpenClaim := { program := "ytonkcemcledhiaa", sum := "30c6ee5fa753a44fdf709a83c76834470688fe2cf030cb5f0277854a9fefe8e2", func := "touchstone/touchstonelaw12.LinearOther", spec := "linearOther", unfollowed := true, recurses := true, apart := false }
def LinearOtherSaid : Prop := linearOtherRow.holds Try.pinned (OpenSpec.ofChange linearOtherSpec)

/-- ITS FALSE NEIGHBOUR: 'it returns false'. Refute it at one input. -/
def linearOtherWrong : ChangeSpec := { name := "linearOther", fn := fun _ => fun
  | [d1, d2] => { results := [.lit (.bool false)], args := [d1, d2] }
  | _ => none }
def LinearOtherWrongFalsely : Prop := linearOtherRow.holds Try.pinned (OpenSpec.ofChange linearOtherWrong)

/-- 'touchstonelaw13.ReifyOther': WHATEVER THE INPUT: true; the input reads as it did. -/
def reifyOtherSpec : ChangeSpec := { name := "reifyOther", fn := fun _ => fun
  | [d1, d2] => { results := [.lit (.bool true)], args := [d1, d2] }
  | _ => none }
def reifyOtherRow : OpenClaim := { program := "ytonkcemcledhiaa", sum := "30c6ee5fa753a44fdf709a83c76834470688fe2cf030cb5f0277854a9fefe8e2", func := "touchstone/touchstonelaw13.ReifyOther", spec := "reifyOther", unfollowed := true, recurses := true, apart := false }
def ReifyOtherSaid : Prop := reifyOtherRow.holds Try.pinned (OpenSpec.ofChange reifyOtherSpec)

/-- ITS FALSE NEIGHBOUR: 'it returns false'. Refute it at one input. -/
def reifyOtherWrong : ChangeSpec := { name := "reifyOther", fn := fun _ => fun
  | [d1, d2] => { results := [.lit (.bool false)], args := [d1, d2] }
  | _ => none }
def ReifyOtherWrongFalsely : Prop := reifyOtherRow.holds Try.pinned (OpenSpec.ofChange reifyOtherWrong)

/-- 'touchstonelaw14.ArithOther': WHATEVER THE INPUT: true; the input reads as it did. -/
def arithOtherSpec : ChangeSpec := { name := "arithOther", fn := fun _ => fun
  | [d1, d2] => { results := [.lit (.bool true)], args := [d1, d2] }
  | _ => none }
def arithOtherRow : OpenClaim := { program := "ytonkcemcledhiaa", sum := "30c6ee5fa753a44fdf709a83c76834470688fe2cf030cb5f0277854a9fefe8e2", func := "touchstone/touchstonelaw14.ArithOther", spec := "arithOther", unfollowed := true, recurses := true, apart := false }
def ArithOtherSaid : Prop := arithOtherRow.holds Try.pinned (OpenSpec.ofChange arithOtherSpec)

/-- ITS FALSE NEIGHBOUR: 'it returns false'. Refute it at one input. -/
def arithOtherWrong : ChangeSpec := { name := "arithOther", fn := fun _ => fun
  | [d1, d2] => { results := [.lit (.bool false)], args := [d1, d2] }
  | _ => none }
def ArithOtherWrongFalsely : Prop := arithOtherRow.holds Try.pinned (OpenSpec.ofChange arithOtherWrong)

/-- 'touchstonelaw17.HallNarrows': WHATEVER THE INPUT: true; the input reads as it did. -/
def hallNarrowsSpec : ChangeSpec := { name := "hallNarrows", fn := fun _ => fun
  | [d1, d2] => { results := [.lit (.bool true)], args := [d1, d2] }
  | _ => none }
def hallNarrowsRow : OpenClaim := { program := "ytonkcemcledhiaa", sum := "30c6ee5fa753a44fdf709a83c76834470688fe2cf030cb5f0277854a9fefe8e2", func := "touchstone/touchstonelaw17.HallNarrows", spec := "hallNarrows", unfollowed := true, recurses := true, apart := false }
def HallNarrowsSaid : Prop := hallNarrowsRow.holds Try.pinned (OpenSpec.ofChange hallNarrowsSpec)

/-- ITS FALSE NEIGHBOUR: 'it returns false'. Refute it at one input. -/
def hallNarrowsWrong : ChangeSpec := { name := "hallNarrows", fn := fun _ => fun
  | [d1, d2] => { results := [.lit (.bool false)], args := [d1, d2] }
  | _ => none }
def HallNarrowsWrongFalsely : Prop := hallNarrowsRow.holds Try.pinned (OpenSpec.ofChange hallNarrowsWrong)

/-- 'touchstonelaw17.HallKeeps': WHATEVER THE INPUT: true; the input reads as it did. -/
def hallKeepsSpec : ChangeSpec := { name := "hallKeeps", fn := fun _ => fun
  | [d1, d2] => { results := [.lit (.bool true)], args := [d1, d2] }
  | _ => none }
def hallKeepsRow : OpenClaim := { program := "ytonkcemcledhiaa", sum := "30c6ee5fa753a44fdf709a83c76834470688fe2cf030cb5f0277854a9fefe8e2", func := "touchstone/touchstonelaw17.HallKeeps", spec := "hallKeeps", unfollowed := true, recurses := true, apart := false }
def HallKeepsSaid : Prop := hallKeepsRow.holds Try.pinned (OpenSpec.ofChange hallKeepsSpec)

/-- ITS FALSE NEIGHBOUR: 'it returns false'. Refute it at one input. -/
def hallKeepsWrong : ChangeSpec := { name := "hallKeeps", fn := fun _ => fun
  | [d1, d2] => { results := [.lit (.bool false)], args := [d1, d2] }
  | _ => none }
def HallKeepsWrongFalsely : Prop := hallKeepsRow.holds Try.pinned (OpenSpec.ofChange hallKeepsWrong)

/-- 'touchstonelaw17.HallOrder': WHATEVER THE INPUT: true; the input reads as it did. -/
def hallOrderSpec : ChangeSpec := { name := "hallOrder", fn := fun _ => fun
  | [d1, d2, d3] => { results := [.lit (.bool true)], args := [d1, d2, d3] }
  | _ => none }
def hallOrderRow : OpenClaim := { program := "ytonkcemcledhiaa", sum := "30c6ee5fa753a44fdf709a83c76834470688fe2cf030cb5f0277854a9fefe8e2", func := "touchstone/touchstonelaw17.HallOrder", spec := "hallOrder", unfollowed := true, recurses := true, apart := false }
def HallOrderSaid : Prop := hallOrderRow.holds Try.pinned (OpenSpec.ofChange hallOrderSpec)

/-- ITS FALSE NEIGHBOUR: 'it returns false'. Refute it at one input. -/
def hallOrderWrong : ChangeSpec := { name := "hallOrder", fn := fun _ => fun
  | [d1, d2, d3] => { results := [.lit (.bool false)], args := [d1, d2, d3] }
  | _ => none }
def HallOrderWrongFalsely : Prop := hallOrderRow.holds Try.pinned (OpenSpec.ofChange hallOrderWrong)

/-- 'touchstonelaw17.HallRooms': WHATEVER THE INPUT: true; the input reads as it did. -/
def hallRoomsSpec : ChangeSpec := { name := "hallRooms", fn := fun _ => fun
  | [d] => { results := [.lit (.bool true)], args := [d] }
  | _ => none }
def hallRoomsRow : OpenClaim := { program := "ytonkcemcledhiaa", sum := "30c6ee5fa753a44fdf709a83c76834470688fe2cf030cb5f0277854a9fefe8e2", func := "touchstone/touchstonelaw17.HallRooms", spec := "hallRooms", unfollowed := true, recurses := true, apart := false }
def HallRoomsSaid : Prop := hallRoomsRow.holds Try.pinned (OpenSpec.ofChange hallRoomsSpec)

/-- ITS FALSE NEIGHBOUR: 'it returns false'. Refute it at one input. -/
def hallRoomsWrong : ChangeSpec := { name := "hallRooms", fn := fun _ => fun
  | [d] => { results := [.lit (.bool false)], args := [d] }
  | _ => none }
def HallRoomsWrongFalsely : Prop := hallRoomsRow.holds Try.pinned (OpenSpec.ofChange hallRoomsWrong)

/-- 'touchstonelaw17.HallCounts': WHATEVER THE INPUT: true; the input reads as it did. -/
def hallCountsSpec : ChangeSpec := { name := "hallCounts", fn := fun _ => fun
  | [d] => { results := [.lit (.bool true)], args := [d] }
  | _ => none }
def hallCountsRow : OpenClaim := { program := "ytonkcemcledhiaa", sum := "30c6ee5fa753a44fdf709a83c76834470688fe2cf030cb5f0277854a9fefe8e2", func := "touchstone/touchstonelaw17.HallCounts", spec := "hallCounts", unfollowed := true, recurses := true, apart := false }
def HallCountsSaid : Prop := hallCountsRow.holds Try.pinned (OpenSpec.ofChange hallCountsSpec)

/-- ITS FALSE NEIGHBOUR: 'it returns false'. Refute it at one input. -/
def hallCountsWrong : ChangeSpec := { name := "hallCounts", fn := fun _ => fun
  | [d] => { results := [.lit (.bool false)], args := [d] }
  | _ => none }
def HallCountsWrongFalsely : Prop := hallCountsRow.holds Try.pinned (OpenSpec.ofChange hallCountsWrong)

/-- 'touchstonelaw17.HallOther': WHATEVER THE INPUT: true; the input reads as it did. -/
def hallOtherSpec : ChangeSpec := { name := "hallOther", fn := fun _ => fun
  | [d1, d2] => { results := [.lit (.bool true)], args := [d1, d2] }
  | _ => none }
def hallOtherRow : OpenClaim := { program := "ytonkcemcledhiaa", sum := "30c6ee5fa753a44fdf709a83c76834470688fe2cf030cb5f0277854a9fefe8e2", func := "touchstone/touchstonelaw17.HallOther", spec := "hallOther", unfollowed := true, recurses := true, apart := false }
def HallOtherSaid : Prop := hallOtherRow.holds Try.pinned (OpenSpec.ofChange hallOtherSpec)

/-- ITS FALSE NEIGHBOUR: 'it returns false'. Refute it at one input. -/
def hallOtherWrong : ChangeSpec := { name := "hallOther", fn := fun _ => fun
  | [d1, d2] => { results := [.lit (.bool false)], args := [d1, d2] }
  | _ => none }
def HallOtherWrongFalsely : Prop := hallOtherRow.holds Try.pinned (OpenSpec.ofChange hallOtherWrong)

/-- 'touchstonelaw17.HallFewer': WHATEVER THE INPUT: true; the input reads as it did. -/
def hallFewerSpec : ChangeSpec := { name := "hallFewer", fn := fun _ => fun
  | [d1, d2] => { results := [.lit (.bool true)], args := [d1, d2] }
  | _ => none }
def hallFewerRow : OpenClaim := { program := "ytonkcemcledhiaa", sum := "30c6ee5fa753a44fdf709a83c76834470688fe2cf030cb5f0277854a9fefe8e2", func := "touchstone/touchstonelaw17.HallFewer", spec := "hallFewer", unfollowed := true, recurses := true, apart := false }
def HallFewerSaid : Prop := hallFewerRow.holds Try.pinned (OpenSpec.ofChange hallFewerSpec)

/-- ITS FALSE NEIGHBOUR: 'it returns false'. Refute it at one input. -/
def hallFewerWrong : ChangeSpec := { name := "hallFewer", fn := fun _ => fun
  | [d1, d2] => { results := [.lit (.bool false)], args := [d1, d2] }
  | _ => none }
def HallFewerWrongFalsely : Prop := hallFewerRow.holds Try.pinned (OpenSpec.ofChange hallFewerWrong)

/-- 'touchstonetop.WholeUnlike': WHATEVER THE INPUT: true; the input reads as it did. -/
def wholeUnlikeSpec : ChangeSpec := { name := "wholeUnlike", fn := fun _ => fun
  | [d1, d2, d3] => { results := [.lit (.bool true)], args := [d1, d2, d3] }
  | _ => none }
def wholeUnlikeRow : OpenClaim := { program := "ytonkcemcledhiaa", sum := "30c6ee5fa753a44fdf709a83c76834470688fe2cf030cb5f0277854a9fefe8e2", func := "touchstone/touchstonetop.WholeUnlike", spec := "wholeUnlike", unfollowed := true, recurses := true, apart := false }
def WholeUnlikeSaid : Prop := wholeUnlikeRow.holds Try.pinned (OpenSpec.ofChange wholeUnlikeSpec)

/-- ITS FALSE NEIGHBOUR: 'it returns false'. Refute it at one input. -/
def wholeUnlikeWrong : ChangeSpec := { name := "wholeUnlike", fn := fun _ => fun
  | [d1, d2, d3] => { results := [.lit (.bool false)], args := [d1, d2, d3] }
  | _ => none }
def WholeUnlikeWrongFalsely : Prop := wholeUnlikeRow.holds Try.pinned (OpenSpec.ofChange wholeUnlikeWrong)

/- THE SECOND FORM. 'bulk': how many values and letters a reading holds, each counted each time it is reached (what is shared counts as often as it is met; a slice's spare places count too). A statement '..UptoSaid' is the law's where the arguments, and the package variables that the reading takes, are together of bulk at most 1048576: NARROWER than '..Said'. Prove '..Said' where nothing that the law and all that it calls make is longer than what came in: it says more and counts as full. Else prove '..UptoSaid'. A law counts once. -/
mutual
def uptoBulk {H : Type} : DataW H → Nat
  | .lit (.string bytes) => bytes.length + 1
  | .lit _ => 1
  | .nil => 1
  | .ptr d => uptoBulk d + 1
  | .slice elems spare => uptoBulkAll elems + uptoBulkAll spare + 1
  | .agg parts => uptoBulkAll parts + 1
  | .iface _ d => uptoBulk d + 1
  | .map entries => uptoBulkEntries entries + 1
  | .held _ => 1
def uptoBulkAll {H : Type} : List (DataW H) → Nat
  | [] => 0
  | d :: r => uptoBulk d + uptoBulkAll r
def uptoBulkEntries {H : Type} : List (Lit × DataW H) → Nat
  | [] => 0
  | x :: r => uptoBulkEntry x + uptoBulkEntries r
def uptoBulkEntry {H : Type} : Lit × DataW H → Nat
  | (.string bytes, d) => bytes.length + uptoBulk d + 1
  | (_, d) => uptoBulk d + 1
 end
def uptoSmall : (H : Type) → List (DataW H) → Bool := fun _ ds => decide (uptoBulkAll ds ≤ 1048576)
def OpenSpec.upto (s : _root_.Go.ChangeSpec) : _root_.Go.OpenSpec := { _root_.Go.OpenSpec.ofChange s with cond := some uptoSmall }

/-- 'touchstonelaw15.LogicOther', WHERE WHAT IT READS IS OF BULK AT MOST 1048576: true; the input reads as it did. -/
def logicOtherUptoRow : OpenClaim := { program := "ytonkcemcledhiaa", sum := "30c6ee5fa753a44fdf709a83c76834470688fe2cf030cb5f0277854a9fefe8e2", func := "touchstone/touchstonelaw15.LogicOther", spec := "logicOther", unfollowed := true, recurses := true, apart := false, narrowed := true }
def LogicOtherUptoSaid : Prop := logicOtherUptoRow.holds Try.pinned (OpenSpec.upto logicOtherSpec)

/-- 'touchstonelaw12.LinearOther', WHERE WHAT IT READS IS OF BULK AT MOST 1048576: true; the input reads as it did. -/
def linearOtherUptoRow : OpenClaim := { program := "ytonkcemcledhiaa", sum := "30c6ee5fa753a44fdf709a83c76834470688fe2cf030cb5f0277854a9fefe8e2", func := "touchstone/touchstonelaw12.LinearOther", spec := "linearOther", unfollowed := true, recurses := true, apart := false, narrowed := true }
def LinearOtherUptoSaid : Prop := linearOtherUptoRow.holds Try.pinned (OpenSpec.upto linearOtherSpec)

/-- 'touchstonelaw13.ReifyOther', WHERE WHAT IT READS IS OF BULK AT MOST 1048576: true; the input reads as it did. -/
def reifyOtherUptoRow : OpenClaim := { program := "ytonkcemcledhiaa", sum := "30c6ee5fa753a44fdf709a83c76834470688fe2cf030cb5f0277854a9fefe8e2", func := "touchstone/touchstonelaw13.ReifyOther", spec := "reifyOther", unfollowed := true, recurses := true, apart := false, narrowed := true }
def ReifyOtherUptoSaid : Prop := reifyOtherUptoRow.holds Try.pinned (OpenSpec.upto reifyOtherSpec)

/-- 'touchstonelaw14.ArithOther', WHERE WHAT IT READS IS OF BULK AT MOST 1048576: true; the input reads as it did. -/
def arithOtherUptoRow : OpenClaim := { program := "ytonkcemcledhiaa", sum := "30c6ee5fa753a44fdf709a83c76834470688fe2cf030cb5f0277854a9fefe8e2", func := "touchstone/touchstonelaw14.ArithOther", spec := "arithOther", unfollowed := true, recurses := true, apart := false, narrowed := true }
def ArithOtherUptoSaid : Prop := arithOtherUptoRow.holds Try.pinned (OpenSpec.upto arithOtherSpec)

/-- 'touchstonelaw17.HallNarrows', WHERE WHAT IT READS IS OF BULK AT MOST 1048576: true; the input reads as it did. -/
def hallNarrowsUptoRow : OpenClaim := { program := "ytonkcemcledhiaa", sum := "30c6ee5fa753a44fdf709a83c76834470688fe2cf030cb5f0277854a9fefe8e2", func := "touchstone/touchstonelaw17.HallNarrows", spec := "hallNarrows", unfollowed := true, recurses := true, apart := false, narrowed := true }
def HallNarrowsUptoSaid : Prop := hallNarrowsUptoRow.holds Try.pinned (OpenSpec.upto hallNarrowsSpec)

/-- 'touchstonelaw17.HallKeeps', WHERE WHAT IT READS IS OF BULK AT MOST 1048576: true; the input reads as it did. -/
def hallKeepsUptoRow : OpenClaim := { program := "ytonkcemcledhiaa", sum := "30c6ee5fa753a44fdf709a83c76834470688fe2cf030cb5f0277854a9fefe8e2", func := "touchstone/touchstonelaw17.HallKeeps", spec := "hallKeeps", unfollowed := true, recurses := true, apart := false, narrowed := true }
def HallKeepsUptoSaid : Prop := hallKeepsUptoRow.holds Try.pinned (OpenSpec.upto hallKeepsSpec)

/-- 'touchstonelaw17.HallOrder', WHERE WHAT IT READS IS OF BULK AT MOST 1048576: true; the input reads as it did. -/
def hallOrderUptoRow : OpenClaim := { program := "ytonkcemcledhiaa", sum := "30c6ee5fa753a44fdf709a83c76834470688fe2cf030cb5f0277854a9fefe8e2", func := "touchstone/touchstonelaw17.HallOrder", spec := "hallOrder", unfollowed := true, recurses := true, apart := false, narrowed := true }
def HallOrderUptoSaid : Prop := hallOrderUptoRow.holds Try.pinned (OpenSpec.upto hallOrderSpec)

/-- 'touchstonelaw17.HallRooms', WHERE WHAT IT READS IS OF BULK AT MOST 1048576: true; the input reads as it did. -/
def hallRoomsUptoRow : OpenClaim := { program := "ytonkcemcledhiaa", sum := "30c6ee5fa753a44fdf709a83c76834470688fe2cf030cb5f0277854a9fefe8e2", func := "touchstone/touchstonelaw17.HallRooms", spec := "hallRooms", unfollowed := true, recurses := true, apart := false, narrowed := true }
def HallRoomsUptoSaid : Prop := hallRoomsUptoRow.holds Try.pinned (OpenSpec.upto hallRoomsSpec)

/-- 'touchstonelaw17.HallCounts', WHERE WHAT IT READS IS OF BULK AT MOST 1048576: true; the input reads as it did. -/
def hallCountsUptoRow : OpenClaim := { program := "ytonkcemcledhiaa", sum := "30c6ee5fa753a44fdf709a83c76834470688fe2cf030cb5f0277854a9fefe8e2", func := "touchstone/touchstonelaw17.HallCounts", spec := "hallCounts", unfollowed := true, recurses := true, apart := false, narrowed := true }
def HallCountsUptoSaid : Prop := hallCountsUptoRow.holds Try.pinned (OpenSpec.upto hallCountsSpec)

/-- 'touchstonelaw17.HallOther', WHERE WHAT IT READS IS OF BULK AT MOST 1048576: true; the input reads as it did. -/
def hallOtherUptoRow : OpenClaim := { program := "ytonkcemcledhiaa", sum := "30c6ee5fa753a44fdf709a83c76834470688fe2cf030cb5f0277854a9fefe8e2", func := "touchstone/touchstonelaw17.HallOther", spec := "hallOther", unfollowed := true, recurses := true, apart := false, narrowed := true }
def HallOtherUptoSaid : Prop := hallOtherUptoRow.holds Try.pinned (OpenSpec.upto hallOtherSpec)

/-- 'touchstonelaw17.HallFewer', WHERE WHAT IT READS IS OF BULK AT MOST 1048576: true; the input reads as it did. -/
def hallFewerUptoRow : OpenClaim := { program := "ytonkcemcledhiaa", sum := "30c6ee5fa753a44fdf709a83c76834470688fe2cf030cb5f0277854a9fefe8e2", func := "touchstone/touchstonelaw17.HallFewer", spec := "hallFewer", unfollowed := true, recurses := true, apart := false, narrowed := true }
def HallFewerUptoSaid : Prop := hallFewerUptoRow.holds Try.pinned (OpenSpec.upto hallFewerSpec)

/-- 'touchstonetop.WholeUnlike', WHERE WHAT IT READS IS OF BULK AT MOST 1048576: true; the input reads as it did. -/
def wholeUnlikeUptoRow : OpenClaim := { program := "ytonkcemcledhiaa", sum := "30c6ee5fa753a44fdf709a83c76834470688fe2cf030cb5f0277854a9fefe8e2", func := "touchstone/touchstonetop.WholeUnlike", spec := "wholeUnlike", unfollowed := true, recurses := true, apart := false, narrowed := true }
def WholeUnlikeUptoSaid : Prop := wholeUnlikeUptoRow.holds Try.pinned (OpenSpec.upto wholeUnlikeSpec)

end Rows
end Go.Proofs.Ytonkcemcledhiaa
