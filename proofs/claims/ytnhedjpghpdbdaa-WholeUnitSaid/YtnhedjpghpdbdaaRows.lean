/-
  No cell of these rows narrows 'for every input' (looked for: loops, veiled, ifaces, maps, wideKeys, modest, calm, conditions, laid).
  DERIVED. THE GIVEN ROWS OF THIS SEAT. 9 by the template 'for every input the law returns true; each argument reads behind the call as it read before'; 0 by the template 'total and deterministic' (their statements: YtnhedjpghpdbdaaTotals.lean).
  GIVEN WITH THE SEED: the statements are not yours to turn. If you find one false, say at which input.
  Laid BY PROGRAM, IN A SANDBOX (cutbox-rows.mjs): the forced cells as the released guide's own fill.sh prints them over the translation df3264cda80a3754… (all of the seat's roots in one cut). By AI agents, Wed Nov 11 2026. No macro, syntax, notation, axiom, sorry.
-/
import Derived.Test.YtnhedjpghpdbdaaChecked
import GoSem.Claim
import GoSem.ClaimJoined
import GoSem.ClaimMapViews
import Derived.JoinedTies
import Derived.KernelRfl
namespace Go.Proofs.Ytnhedjpghpdbdaa
/- THE CELL 'sum', in the pinned program and in every row, IS THE sha256 OF THE DUMP (.gsa) THAT YtnhedjpghpdbdaaProg.lean LOADS. Nothing in Lean hashes anything: it is a label: what it is worth is what the hold of that sum in a sandbox is worth. -/
noncomputable def Try.pinned : Pinned := { name := "ytnhedjpghpdbdaa", sum := "df3264cda80a37542fcdff87e729cec408190aa67711976d0eace5cc984a0524", checked := Try.checked }
namespace Rows
def none {H : Type} : Left H := { results := [], args := [] }

/-- 'touchstonetop.WholeUnit': WHATEVER THE INPUT: true; the input reads as it did. -/
def wholeUnitSpec : ChangeSpec := { name := "wholeUnit", fn := fun _ => fun
  | [d1, d2] => { results := [.lit (.bool true)], args := [d1, d2] }
  | _ => none }
def wholeUnitRow : OpenClaim := { program := "ytnhedjpghpdbdaa", sum := "df3264cda80a37542fcdff87e729cec408190aa67711976d0eace5cc984a0524", func := "touchstone/touchstonetop.WholeUnit", spec := "wholeUnit", unfollowed := true, recurses := true, apart := false }
def WholeUnitSaid : Prop := wholeUnitRow.holds Try.pinned (OpenSpec.ofChange wholeUnitSpec)

/-- ITS FALSE NEIGHBOUR: 'it returns false'. Refute it at one input. -/
def wholeUnitWrong : ChangeSpec := { name := "wholeUnit", fn := fun _ => fun
  | [d1, d2] => { results := [.lit (.bool false)], args := [d1, d2] }
  | _ => none }
def WholeUnitWrongFalsely : Prop := wholeUnitRow.holds Try.pinned (OpenSpec.ofChange wholeUnitWrong)

/-- 'touchstonetop.WholeElement': WHATEVER THE INPUT: true; the input reads as it did. -/
def wholeElementSpec : ChangeSpec := { name := "wholeElement", fn := fun _ => fun
  | [d1, d2] => { results := [.lit (.bool true)], args := [d1, d2] }
  | _ => none }
def wholeElementRow : OpenClaim := { program := "ytnhedjpghpdbdaa", sum := "df3264cda80a37542fcdff87e729cec408190aa67711976d0eace5cc984a0524", func := "touchstone/touchstonetop.WholeElement", spec := "wholeElement", unfollowed := true, recurses := true, apart := false }
def WholeElementSaid : Prop := wholeElementRow.holds Try.pinned (OpenSpec.ofChange wholeElementSpec)

/-- ITS FALSE NEIGHBOUR: 'it returns false'. Refute it at one input. -/
def wholeElementWrong : ChangeSpec := { name := "wholeElement", fn := fun _ => fun
  | [d1, d2] => { results := [.lit (.bool false)], args := [d1, d2] }
  | _ => none }
def WholeElementWrongFalsely : Prop := wholeElementRow.holds Try.pinned (OpenSpec.ofChange wholeElementWrong)

/-- 'touchstonelaw18.TasksNarrows': WHATEVER THE INPUT: true; the input reads as it did. -/
def tasksNarrowsSpec : ChangeSpec := { name := "tasksNarrows", fn := fun _ => fun
  | [d1, d2] => { results := [.lit (.bool true)], args := [d1, d2] }
  | _ => none }
def tasksNarrowsRow : OpenClaim := { program := "ytnhedjpghpdbdaa", sum := "df3264cda80a37542fcdff87e729cec408190aa67711976d0eace5cc984a0524", func := "touchstone/touchstonelaw18.TasksNarrows", spec := "tasksNarrows", unfollowed := true, recurses := true, apart := false }
def TasksNarrowsSaid : Prop := tasksNarrowsRow.holds Try.pinned (OpenSpec.ofChange tasksNarrowsSpec)

/-- ITS FALSE NEIGHBOUR: 'it returns false'. Refute it at one input. -/
def tasksNarrowsWrong : ChangeSpec := { name := "tasksNarrows", fn := fun _ => fun
  | [d1, d2] => { results := [.lit (.bool false)], args := [d1, d2] }
  | _ => none }
def TasksNarrowsWrongFalsely : Prop := tasksNarrowsRow.holds Try.pinned (OpenSpec.ofChange tasksNarrowsWrong)

/-- 'touchstonelaw18.TasksKeeps': WHATEVER THE INPUT: true; the input reads as it did. -/
def tasksKeepsSpec : ChangeSpec := { name := "tasksKeeps", fn := fun _ => fun
  | [d1, d2] => { results := [.lit (.bool true)], args := [d1, d2] }
  | _ => none }
def tasksKeepsRow : OpenClaim := { program := "ytnhedjpghpdbdaa", sum := "df3264cda80a37542fcdff87e729cec408190aa67711976d0eace5cc984a0524", func := "touchstone/touchstonelaw18.TasksKeeps", spec := "tasksKeeps", unfollowed := true, recurses := true, apart := false }
def TasksKeepsSaid : Prop := tasksKeepsRow.holds Try.pinned (OpenSpec.ofChange tasksKeepsSpec)

/-- ITS FALSE NEIGHBOUR: 'it returns false'. Refute it at one input. -/
def tasksKeepsWrong : ChangeSpec := { name := "tasksKeeps", fn := fun _ => fun
  | [d1, d2] => { results := [.lit (.bool false)], args := [d1, d2] }
  | _ => none }
def TasksKeepsWrongFalsely : Prop := tasksKeepsRow.holds Try.pinned (OpenSpec.ofChange tasksKeepsWrong)

/-- 'touchstonelaw18.TasksOrder': WHATEVER THE INPUT: true; the input reads as it did. -/
def tasksOrderSpec : ChangeSpec := { name := "tasksOrder", fn := fun _ => fun
  | [d1, d2, d3] => { results := [.lit (.bool true)], args := [d1, d2, d3] }
  | _ => none }
def tasksOrderRow : OpenClaim := { program := "ytnhedjpghpdbdaa", sum := "df3264cda80a37542fcdff87e729cec408190aa67711976d0eace5cc984a0524", func := "touchstone/touchstonelaw18.TasksOrder", spec := "tasksOrder", unfollowed := true, recurses := true, apart := false }
def TasksOrderSaid : Prop := tasksOrderRow.holds Try.pinned (OpenSpec.ofChange tasksOrderSpec)

/-- ITS FALSE NEIGHBOUR: 'it returns false'. Refute it at one input. -/
def tasksOrderWrong : ChangeSpec := { name := "tasksOrder", fn := fun _ => fun
  | [d1, d2, d3] => { results := [.lit (.bool false)], args := [d1, d2, d3] }
  | _ => none }
def TasksOrderWrongFalsely : Prop := tasksOrderRow.holds Try.pinned (OpenSpec.ofChange tasksOrderWrong)

/-- 'touchstonelaw18.TasksLoads': WHATEVER THE INPUT: true; the input reads as it did. -/
def tasksLoadsSpec : ChangeSpec := { name := "tasksLoads", fn := fun _ => fun
  | [d1, d2, d3] => { results := [.lit (.bool true)], args := [d1, d2, d3] }
  | _ => none }
def tasksLoadsRow : OpenClaim := { program := "ytnhedjpghpdbdaa", sum := "df3264cda80a37542fcdff87e729cec408190aa67711976d0eace5cc984a0524", func := "touchstone/touchstonelaw18.TasksLoads", spec := "tasksLoads", unfollowed := true, recurses := true, apart := false }
def TasksLoadsSaid : Prop := tasksLoadsRow.holds Try.pinned (OpenSpec.ofChange tasksLoadsSpec)

/-- ITS FALSE NEIGHBOUR: 'it returns false'. Refute it at one input. -/
def tasksLoadsWrong : ChangeSpec := { name := "tasksLoads", fn := fun _ => fun
  | [d1, d2, d3] => { results := [.lit (.bool false)], args := [d1, d2, d3] }
  | _ => none }
def TasksLoadsWrongFalsely : Prop := tasksLoadsRow.holds Try.pinned (OpenSpec.ofChange tasksLoadsWrong)

/-- 'touchstonelaw18.TasksDecide': WHATEVER THE INPUT: true; the input reads as it did. -/
def tasksDecideSpec : ChangeSpec := { name := "tasksDecide", fn := fun _ => fun
  | [d1, d2] => { results := [.lit (.bool true)], args := [d1, d2] }
  | _ => none }
def tasksDecideRow : OpenClaim := { program := "ytnhedjpghpdbdaa", sum := "df3264cda80a37542fcdff87e729cec408190aa67711976d0eace5cc984a0524", func := "touchstone/touchstonelaw18.TasksDecide", spec := "tasksDecide", unfollowed := true, recurses := true, apart := false }
def TasksDecideSaid : Prop := tasksDecideRow.holds Try.pinned (OpenSpec.ofChange tasksDecideSpec)

/-- ITS FALSE NEIGHBOUR: 'it returns false'. Refute it at one input. -/
def tasksDecideWrong : ChangeSpec := { name := "tasksDecide", fn := fun _ => fun
  | [d1, d2] => { results := [.lit (.bool false)], args := [d1, d2] }
  | _ => none }
def TasksDecideWrongFalsely : Prop := tasksDecideRow.holds Try.pinned (OpenSpec.ofChange tasksDecideWrong)

/-- 'touchstonelaw18.TasksOther': WHATEVER THE INPUT: true; the input reads as it did. -/
def tasksOtherSpec : ChangeSpec := { name := "tasksOther", fn := fun _ => fun
  | [d1, d2] => { results := [.lit (.bool true)], args := [d1, d2] }
  | _ => none }
def tasksOtherRow : OpenClaim := { program := "ytnhedjpghpdbdaa", sum := "df3264cda80a37542fcdff87e729cec408190aa67711976d0eace5cc984a0524", func := "touchstone/touchstonelaw18.TasksOther", spec := "tasksOther", unfollowed := true, recurses := true, apart := false }
def TasksOtherSaid : Prop := tasksOtherRow.holds Try.pinned (OpenSpec.ofChange tasksOtherSpec)

/-- ITS FALSE NEIGHBOUR: 'it returns false'. Refute it at one input. -/
def tasksOtherWrong : ChangeSpec := { name := "tasksOther", fn := fun _ => fun
  | [d1, d2] => { results := [.lit (.bool false)], args := [d1, d2] }
  | _ => none }
def TasksOtherWrongFalsely : Prop := tasksOtherRow.holds Try.pinned (OpenSpec.ofChange tasksOtherWrong)

/-- 'touchstonelaw18.TasksRoom': WHATEVER THE INPUT: true; the input reads as it did. -/
def tasksRoomSpec : ChangeSpec := { name := "tasksRoom", fn := fun _ => fun
  | [d1, d2, d3] => { results := [.lit (.bool true)], args := [d1, d2, d3] }
  | _ => none }
def tasksRoomRow : OpenClaim := { program := "ytnhedjpghpdbdaa", sum := "df3264cda80a37542fcdff87e729cec408190aa67711976d0eace5cc984a0524", func := "touchstone/touchstonelaw18.TasksRoom", spec := "tasksRoom", unfollowed := true, recurses := true, apart := false }
def TasksRoomSaid : Prop := tasksRoomRow.holds Try.pinned (OpenSpec.ofChange tasksRoomSpec)

/-- ITS FALSE NEIGHBOUR: 'it returns false'. Refute it at one input. -/
def tasksRoomWrong : ChangeSpec := { name := "tasksRoom", fn := fun _ => fun
  | [d1, d2, d3] => { results := [.lit (.bool false)], args := [d1, d2, d3] }
  | _ => none }
def TasksRoomWrongFalsely : Prop := tasksRoomRow.holds Try.pinned (OpenSpec.ofChange tasksRoomWrong)

/- THE SECOND FORM. 'bulk': how many values and letters a reading holds, each counted each time it is reached (what is shared counts as often as it is met; a slice's spare places count too). A statement '..UptoSaid' is the law's where the arguments, and the package variables that the reading takes, are together of bulk at most 1048576: NARROWER than '..Said'. Prove '..Said' where nothing that the law and all that it calls make is longer than what came in: it says more and counts as full. Else prove '..UptoSaid'. A law counts once. -/
mutual
def uptoBulk {H : Type} : DataW H → Nat
  | .lit (.string bytes) => bytes.length + 1
  | .lit _ => 1
  | .nil => 1
  | .ptr d => uptoBulk d + 1
  | .slice elems spare => uptoBulkAll elems + uptoBulkAll spare + 1
  | .agg parts => uptoBulkAll parts + 1
  | .iface _ d => uptoBulk d + 1
  | .map entries => uptoBulkEntries entries + 1
  | .held _ => 1
def uptoBulkAll {H : Type} : List (DataW H) → Nat
  | [] => 0
  | d :: r => uptoBulk d + uptoBulkAll r
def uptoBulkEntries {H : Type} : List (Lit × DataW H) → Nat
  | [] => 0
  | x :: r => uptoBulkEntry x + uptoBulkEntries r
def uptoBulkEntry {H : Type} : Lit × DataW H → Nat
  | (.string bytes, d) => bytes.length + uptoBulk d + 1
  | (_, d) => uptoBulk d + 1
 end
def uptoSmall : (H : Type) → List (DataW H) → Bool := fun _ ds => decide (uptoBulkAll ds ≤ 1048576)
def OpenSpec.upto (s : _root_.Go.ChangeSpec) : _root_.Go.OpenSpec := { _root_.Go.OpenSpec.ofChange s with cond := some uptoSmall }

/-- 'touchstonetop.WholeUnit', WHERE WHAT IT READS IS OF BULK AT MOST 1048576: true; the input reads as it did. -/
def wholeUnitUptoRow : OpenClaim := { program := "ytnhedjpghpdbdaa", sum := "df3264cda80a37542fcdff87e729cec408190aa67711976d0eace5cc984a0524", func := "touchstone/touchstonetop.WholeUnit", spec := "wholeUnit", unfollowed := true, recurses := true, apart := false, narrowed := true }
def WholeUnitUptoSaid : Prop := wholeUnitUptoRow.holds Try.pinned (OpenSpec.upto wholeUnitSpec)

/-- 'touchstonetop.WholeElement', WHERE WHAT IT READS IS OF BULK AT MOST 1048576: true; the input reads as it did. -/
def wholeElementUptoRow : OpenClaim := { program := "ytnhedjpghpdbdaa", sum := "df3264cda80a37542fcdff87e729cec408190aa67711976d0eace5cc984a0524", func := "touchstone/touchstonetop.WholeElement", spec := "wholeElement", unfollowed := true, recurses := true, apart := false, narrowed := true }
def WholeElementUptoSaid : Prop := wholeElementUptoRow.holds Try.pinned (OpenSpec.upto wholeElementSpec)

/-- 'touchstonelaw18.TasksNarrows', WHERE WHAT IT READS IS OF BULK AT MOST 1048576: true; the input reads as it did. -/
def tasksNarrowsUptoRow : OpenClaim := { program := "ytnhedjpghpdbdaa", sum := "df3264cda80a37542fcdff87e729cec408190aa67711976d0eace5cc984a0524", func := "touchstone/touchstonelaw18.TasksNarrows", spec := "tasksNarrows", unfollowed := true, recurses := true, apart := false, narrowed := true }
def TasksNarrowsUptoSaid : Prop := tasksNarrowsUptoRow.holds Try.pinned (OpenSpec.upto tasksNarrowsSpec)

/-- 'touchstonelaw18.TasksKeeps', WHERE WHAT IT READS IS OF BULK AT MOST 1048576: true; the input reads as it did. -/
def tasksKeepsUptoRow : OpenClaim := { program := "ytnhedjpghpdbdaa", sum := "df3264cda80a37542fcdff87e729cec408190aa67711976d0eace5cc984a0524", func := "touchstone/touchstonelaw18.TasksKeeps", spec := "tasksKeeps", unfollowed := true, recurses := true, apart := false, narrowed := true }
def TasksKeepsUptoSaid : Prop := tasksKeepsUptoRow.holds Try.pinned (OpenSpec.upto tasksKeepsSpec)

/-- 'touchstonelaw18.TasksOrder', WHERE WHAT IT READS IS OF BULK AT MOST 1048576: true; the input reads as it did. -/
def tasksOrderUptoRow : OpenClaim := { program := "ytnhedjpghpdbdaa", sum := "df3264cda80a37542fcdff87e729cec408190aa67711976d0eace5cc984a0524", func := "touchstone/touchstonelaw18.TasksOrder", spec := "tasksOrder", unfollowed := true, recurses := true, apart := false, narrowed := true }
def TasksOrderUptoSaid : Prop := tasksOrderUptoRow.holds Try.pinned (OpenSpec.upto tasksOrderSpec)

/-- 'touchstonelaw18.TasksLoads', WHERE WHAT IT READS IS OF BULK AT MOST 1048576: true; the input reads as it did. -/
def tasksLoadsUptoRow : OpenClaim := { program := "ytnhedjpghpdbdaa", sum := "df3264cda80a37542fcdff87e729cec408190aa67711976d0eace5cc984a0524", func := "touchstone/touchstonelaw18.TasksLoads", spec := "tasksLoads", unfollowed := true, recurses := true, apart := false, narrowed := true }
def TasksLoadsUptoSaid : Prop := tasksLoadsUptoRow.holds Try.pinned (OpenSpec.upto tasksLoadsSpec)

/-- 'touchstonelaw18.TasksDecide', WHERE WHAT IT READS IS OF BULK AT MOST 1048576: true; the input reads as it did. -/
def tasksDecideUptoRow : OpenClaim := { program := "ytnhedjpghpdbdaa", sum := "df3264cda80a37542fcdff87e729cec408190aa67711976d0eace5cc984a0524", func := "touchstone/touchstonelaw18.TasksDecide", spec := "tasksDecide", unfollowed := true, recurses := true, apart := false, narrowed := true }
def TasksDecideUptoSaid : Prop := tasksDecideUptoRow.holds Try.pinned (OpenSpec.upto tasksDecideSpec)

/-- 'touchstonelaw18.TasksOther', WHERE WHAT IT READS IS OF BULK AT MOST 1048576: true; the input reads as it did. -/
def tasksOtherUptoRow : OpenClaim := { program := "ytnhedjpghpdbdaa", sum := "df3264cda80a37542fcdff87e729cec408190aa67711976d0eace5cc984a0524", func := "touchstone/touchstonelaw18.TasksOther", spec := "tasksOther", unfollowed := true, recurses := true, apart := false, narrowed := true }
def TasksOtherUptoSaid : Prop := tasksOtherUptoRow.holds Try.pinned (OpenSpec.upto tasksOtherSpec)

/-- 'touchstonelaw18.TasksRoom', WHERE WHAT IT READS IS OF BULK AT MOST 1048576: true; the input reads as it did. -/
def tasksRoomUptoRow : OpenClaim := { program := "ytnhedjpghpdbdaa", sum := "df3264cda80a37542fcdff87e729cec408190aa67711976d0eace5cc984a0524", func := "touchstone/touchstonelaw18.TasksRoom", spec := "tasksRoom", unfollowed := true, recurses := true, apart := false, narrowed := true }
def TasksRoomUptoSaid : Prop := tasksRoomUptoRow.holds Try.pinned (OpenSpec.upto tasksRoomSpec)

end Rows
end Go.Proofs.Ytnhedjpghpdbdaa
