/-
  No cell of these rows narrows 'for every input' (looked for: loops, veiled, ifaces, maps, wideKeys, modest, calm, conditions, laid).
  DERIVED. THE GIVEN ROWS OF THIS SEAT. 4 by the template 'for every input the law returns true; each argument reads behind the call as it read before'; 0 by the template 'total and deterministic' (their statements: YtbmcjhjbifojnaaTotals.lean).
  GIVEN WITH THE SEED: the statements are not yours to turn. If you find one false, say at which input.
  Laid BY PROGRAM, IN A SANDBOX (cutbox-rows.mjs): the forced cells as the released guide's own fill.sh prints them over the translation c83d1681da1ee61a… (all of the seat's roots in one cut). By AI agents, Wed Nov 11 2026. No macro, syntax, notation, axiom, sorry.
-/
import Derived.Test.YtbmcjhjbifojnaaChecked
import GoSem.Claim
import GoSem.ClaimJoined
import GoSem.ClaimMapViews
import Derived.JoinedTies
import Derived.KernelRfl
namespace Go.Proofs.Ytbmcjhjbifojnaa
/- THE CELL 'sum', in the pinned program and in every row, IS THE sha256 OF THE DUMP (.gsa) THAT YtbmcjhjbifojnaaProg.lean LOADS. Nothing in Lean hashes anything: it is a label: what it is worth is what the hold of that sum in a sandbox is worth. -/
noncomputable def Try.pinned : Pinned := { name := "ytbmcjhjbifojnaa", sum := "c83d1681da1ee61a04b4b6e82058d60da6acb213e400004db2e2ee4df0a70fe0", checked := Try.checked }
namespace Rows
def none {H : Type} : Left H := { results := [], args := [] }

/-- 'touchstonelaw10.TrailActs': WHATEVER THE INPUT: true; the input reads as it did. -/
def trailActsSpec : ChangeSpec := { name := "trailActs", fn := fun _ => fun
  | [d1, d2] => { results := [.lit (.bool true)], args := [d1, d2] }
  | _ => none }
def trailActsRow : OpenClaim := { program := "ytbmcjhjbifojnaa", sum := "c83d1681da1ee61a04b4b6e82058d60da6acb213e400004db2e2ee4df0a70fe0", func := "touchstone/touchstonelaw10.TrailActs", spec := "trailActs", recurses := true, apart := false }
def TrailActsSaid : Prop := trailActsRow.holds Try.pinned (OpenSpec.ofChange trailActsSpec)

/-- ITS FALSE NEIGHBOUR: 'it returns false'. Refute it at one input. -/
def trailActsWrong : ChangeSpec := { name := "trailActs", fn := fun _ => fun
  | [d1, d2] => { results := [.lit (.bool false)], args := [d1, d2] }
  | _ => none }
def TrailActsWrongFalsely : Prop := trailActsRow.holds Try.pinned (OpenSpec.ofChange trailActsWrong)

/-- 'touchstonelaw10.TrailBack': WHATEVER THE INPUT: true; the input reads as it did. -/
def trailBackSpec : ChangeSpec := { name := "trailBack", fn := fun _ => fun
  | [d1, d2, d3] => { results := [.lit (.bool true)], args := [d1, d2, d3] }
  | _ => none }
def trailBackRow : OpenClaim := { program := "ytbmcjhjbifojnaa", sum := "c83d1681da1ee61a04b4b6e82058d60da6acb213e400004db2e2ee4df0a70fe0", func := "touchstone/touchstonelaw10.TrailBack", spec := "trailBack", recurses := true, apart := false }
def TrailBackSaid : Prop := trailBackRow.holds Try.pinned (OpenSpec.ofChange trailBackSpec)

/-- ITS FALSE NEIGHBOUR: 'it returns false'. Refute it at one input. -/
def trailBackWrong : ChangeSpec := { name := "trailBack", fn := fun _ => fun
  | [d1, d2, d3] => { results := [.lit (.bool false)], args := [d1, d2, d3] }
  | _ => none }
def TrailBackWrongFalsely : Prop := trailBackRow.holds Try.pinned (OpenSpec.ofChange trailBackWrong)

/-- 'touchstonelaw10.TrailLess': WHATEVER THE INPUT: true; the input reads as it did. -/
def trailLessSpec : ChangeSpec := { name := "trailLess", fn := fun _ => fun
  | [d1, d2] => { results := [.lit (.bool true)], args := [d1, d2] }
  | _ => none }
def trailLessRow : OpenClaim := { program := "ytbmcjhjbifojnaa", sum := "c83d1681da1ee61a04b4b6e82058d60da6acb213e400004db2e2ee4df0a70fe0", func := "touchstone/touchstonelaw10.TrailLess", spec := "trailLess", recurses := true, apart := false }
def TrailLessSaid : Prop := trailLessRow.holds Try.pinned (OpenSpec.ofChange trailLessSpec)

/-- ITS FALSE NEIGHBOUR: 'it returns false'. Refute it at one input. -/
def trailLessWrong : ChangeSpec := { name := "trailLess", fn := fun _ => fun
  | [d1, d2] => { results := [.lit (.bool false)], args := [d1, d2] }
  | _ => none }
def TrailLessWrongFalsely : Prop := trailLessRow.holds Try.pinned (OpenSpec.ofChange trailLessWrong)

/-- 'touchstonelaw10.TrailNobody': WHATEVER THE INPUT: true; the input reads as it did. -/
def trailNobodySpec : ChangeSpec := { name := "trailNobody", fn := fun _ => fun
  | [d] => { results := [.lit (.bool true)], args := [d] }
  | _ => none }
def trailNobodyRow : OpenClaim := { program := "ytbmcjhjbifojnaa", sum := "c83d1681da1ee61a04b4b6e82058d60da6acb213e400004db2e2ee4df0a70fe0", func := "touchstone/touchstonelaw10.TrailNobody", spec := "trailNobody", recurses := true, apart := false }
def TrailNobodySaid : Prop := trailNobodyRow.holds Try.pinned (OpenSpec.ofChange trailNobodySpec)

/-- ITS FALSE NEIGHBOUR: 'it returns false'. Refute it at one input. -/
def trailNobodyWrong : ChangeSpec := { name := "trailNobody", fn := fun _ => fun
  | [d] => { results := [.lit (.bool false)], args := [d] }
  | _ => none }
def TrailNobodyWrongFalsely : Prop := trailNobodyRow.holds Try.pinned (OpenSpec.ofChange trailNobodyWrong)

/- THE SECOND FORM. 'bulk': how many values and letters a reading holds, each counted each time it is reached (what is shared counts as often as it is met; a slice's spare places count too). A statement '..UptoSaid' is the law's where the arguments, and the package variables that the reading takes, are together of bulk at most 1048576: NARROWER than '..Said'. Prove '..Said' where nothing that the law and all that it calls make is longer than what came in: it says more and counts as full. Else prove '..UptoSaid'. A law counts once. -/
mutual
def uptoBulk {H : Type} : DataW H → Nat
  | .lit (.string bytes) => bytes.length + 1
  | .lit _ => 1
  | .nil => 1
  | .ptr d => uptoBulk d + 1
  | .slice elems spare => uptoBulkAll elems + uptoBulkAll spare + 1
  | .agg parts => uptoBulkAll parts + 1
  | .iface _ d => uptoBulk d + 1
  | .map entries => uptoBulkEntries entries + 1
  | .held _ => 1
def uptoBulkAll {H : Type} : List (DataW H) → Nat
  | [] => 0
  | d :: r => uptoBulk d + uptoBulkAll r
def uptoBulkEntries {H : Type} : List (Lit × DataW H) → Nat
  | [] => 0
  | x :: r => uptoBulkEntry x + uptoBulkEntries r
def uptoBulkEntry {H : Type} : Lit × DataW H → Nat
  | (.string bytes, d) => bytes.length + uptoBulk d + 1
  | (_, d) => uptoBulk d + 1
 end
def uptoSmall : (H : Type) → List (DataW H) → Bool := fun _ ds => decide (uptoBulkAll ds ≤ 1048576)
def OpenSpec.upto (s : _root_.Go.ChangeSpec) : _root_.Go.OpenSpec := { _root_.Go.OpenSpec.ofChange s with cond := some uptoSmall }

/-- 'touchstonelaw10.TrailActs', WHERE WHAT IT READS IS OF BULK AT MOST 1048576: true; the input reads as it did. -/
def trailActsUptoRow : OpenClaim := { program := "ytbmcjhjbifojnaa", sum := "c83d1681da1ee61a04b4b6e82058d60da6acb213e400004db2e2ee4df0a70fe0", func := "touchstone/touchstonelaw10.TrailActs", spec := "trailActs", recurses := true, apart := false, narrowed := true }
def TrailActsUptoSaid : Prop := trailActsUptoRow.holds Try.pinned (OpenSpec.upto trailActsSpec)

/-- 'touchstonelaw10.TrailBack', WHERE WHAT IT READS IS OF BULK AT MOST 1048576: true; the input reads as it did. -/
def trailBackUptoRow : OpenClaim := { program := "ytbmcjhjbifojnaa", sum := "c83d1681da1ee61a04b4b6e82058d60da6acb213e400004db2e2ee4df0a70fe0", func := "touchstone/touchstonelaw10.TrailBack", spec := "trailBack", recurses := true, apart := false, narrowed := true }
def TrailBackUptoSaid : Prop := trailBackUptoRow.holds Try.pinned (OpenSpec.upto trailBackSpec)

/-- 'touchstonelaw10.TrailLess', WHERE WHAT IT READS IS OF BULK AT MOST 1048576: true; the input reads as it did. -/
def trailLessUptoRow : OpenClaim := { program := "ytbmcjhjbifojnaa", sum := "c83d1681da1ee61a04b4b6e82058d60da6acb213e400004db2e2ee4df0a70fe0", func := "touchstone/touchstonelaw10.TrailLess", spec := "trailLess", recurses := true, apart := false, narrowed := true }
def TrailLessUptoSaid : Prop := trailLessUptoRow.holds Try.pinned (OpenSpec.upto trailLessSpec)

/-- 'touchstonelaw10.TrailNobody', WHERE WHAT IT READS IS OF BULK AT MOST 1048576: true; the input reads as it did. -/
def trailNobodyUptoRow : OpenClaim := { program := "ytbmcjhjbifojnaa", sum := "c83d1681da1ee61a04b4b6e82058d60da6acb213e400004db2e2ee4df0a70fe0", func := "touchstone/touchstonelaw10.TrailNobody", spec := "trailNobody", recurses := true, apart := false, narrowed := true }
def TrailNobodyUptoSaid : Prop := trailNobodyUptoRow.holds Try.pinned (OpenSpec.upto trailNobodySpec)

end Rows
end Go.Proofs.Ytbmcjhjbifojnaa
