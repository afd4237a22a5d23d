/-
  No cell of these rows narrows 'for every input' (looked for: loops, veiled, ifaces, maps, wideKeys, modest, calm, conditions, laid).
  DERIVED. THE GIVEN ROWS OF THIS SEAT. 11 by the template 'for every input the law returns true; each argument reads behind the call as it read before'; 0 by the template 'total and deterministic' (their statements: YtjdlfmcnjpiaoaaTotals.lean).
  GIVEN WITH THE SEED: the statements are not yours to turn. If you find one false, say at which input.
  Laid BY PROGRAM, IN A SANDBOX (cutbox-rows.mjs): the forced cells as the released guide's own fill.sh prints them over the translation 86563ba4a18f9430… (all of the seat's roots in one cut). By AI agents, Wed Nov 11 2026. No macro, syntax, notation, axiom, sorry.
-/
import Derived.Test.YtjdlfmcnjpiaoaaChecked
import GoSem.Claim
import GoSem.ClaimJoined
import GoSem.ClaimMapViews
import Derived.JoinedTies
import Derived.KernelRfl
namespace Go.Proofs.Ytjdlfmcnjpiaoaa
/- THE CELL 'sum', in the pinned program and in every row, IS THE sha256 OF THE DUMP (.gsa) THAT YtjdlfmcnjpiaoaaProg.lean LOADS. Nothing in Lean hashes anything: it is a label: what it is worth is what the hold of that sum in a sandbox is worth. -/
noncomputable def Try.pinned : Pinned := { name := "ytjdlfmcnjpiaoaa", sum := "86563ba4a18f943012cc5a8df554c1dff98f8ec629f004f161497dd06bd66804", checked := Try.checked }
namespace Rows
def none {H : Type} : Left H := { results := [], args := [] }

/-- 'touchstonelaw09.SetMakes': WHATEVER THE INPUT: true; the input reads as it did. -/
def setMakesSpec : ChangeSpec := { name := "setMakes", fn := fun _ => fun
  | [d] => { results := [.lit (.bool true)], args := [d] }
  | _ => none }
def setMakesRow : OpenClaim := { program := "ytjdlfmcnjpiaoaa", sum := "86563ba4a18f943012cc5a8df554c1dff98f8ec629f004f161497dd06bd66804", func := "touchstone/touchstonelaw09.SetMakes", spec := "setMakes", unfollowed := true, recurses := true, apart := false }
def SetMakesSaid : Prop := setMakesRow.holds Try.pinned (OpenSpec.ofChange setMakesSpec)

/-- ITS FALSE NEIGHBOUR: 'it returns false'. Refute it at one input. -/
def setMakesWrong : ChangeSpec := { name := "setMakes", fn := fun _ => fun
  | [d] => { results := [.lit (.bool false)], args := [d] }
  | _ => none }
def SetMakesWrongFalsely : Prop := setMakesRow.holds Try.pinned (OpenSpec.ofChange setMakesWrong)

/-- 'touchstonelaw09.SetCounts': WHATEVER THE INPUT: true; the input reads as it did. -/
def setCountsSpec : ChangeSpec := { name := "setCounts", fn := fun _ => fun
  | [d] => { results := [.lit (.bool true)], args := [d] }
  | _ => none }
def setCountsRow : OpenClaim := { program := "ytjdlfmcnjpiaoaa", sum := "86563ba4a18f943012cc5a8df554c1dff98f8ec629f004f161497dd06bd66804", func := "touchstone/touchstonelaw09.SetCounts", spec := "setCounts", unfollowed := true, recurses := true, apart := false }
def SetCountsSaid : Prop := setCountsRow.holds Try.pinned (OpenSpec.ofChange setCountsSpec)

/-- ITS FALSE NEIGHBOUR: 'it returns false'. Refute it at one input. -/
def setCountsWrong : ChangeSpec := { name := "setCounts", fn := fun _ => fun
  | [d] => { results := [.lit (.bool false)], args := [d] }
  | _ => none }
def SetCountsWrongFalsely : Prop := setCountsRow.holds Try.pinned (OpenSpec.ofChange setCountsWrong)

/-- 'touchstonelaw09.SetAsks': WHATEVER THE INPUT: true; the input reads as it did. -/
def setAsksSpec : ChangeSpec := { name := "setAsks", fn := fun _ => fun
  | [d1, d2] => { results := [.lit (.bool true)], args := [d1, d2] }
  | _ => none }
def setAsksRow : OpenClaim := { program := "ytjdlfmcnjpiaoaa", sum := "86563ba4a18f943012cc5a8df554c1dff98f8ec629f004f161497dd06bd66804", func := "touchstone/touchstonelaw09.SetAsks", spec := "setAsks", unfollowed := true, recurses := true, apart := false }
def SetAsksSaid : Prop := setAsksRow.holds Try.pinned (OpenSpec.ofChange setAsksSpec)

/-- ITS FALSE NEIGHBOUR: 'it returns false'. Refute it at one input. -/
def setAsksWrong : ChangeSpec := { name := "setAsks", fn := fun _ => fun
  | [d1, d2] => { results := [.lit (.bool false)], args := [d1, d2] }
  | _ => none }
def SetAsksWrongFalsely : Prop := setAsksRow.holds Try.pinned (OpenSpec.ofChange setAsksWrong)

/-- 'touchstonelaw09.SetLaws': WHATEVER THE INPUT: true; the input reads as it did. -/
def setLawsSpec : ChangeSpec := { name := "setLaws", fn := fun _ => fun
  | [d1, d2, d3] => { results := [.lit (.bool true)], args := [d1, d2, d3] }
  | _ => none }
def setLawsRow : OpenClaim := { program := "ytjdlfmcnjpiaoaa", sum := "86563ba4a18f943012cc5a8df554c1dff98f8ec629f004f161497dd06bd66804", func := "touchstone/touchstonelaw09.SetLaws", spec := "setLaws", unfollowed := true, recurses := true, apart := false }
def SetLawsSaid : Prop := setLawsRow.holds Try.pinned (OpenSpec.ofChange setLawsSpec)

/-- ITS FALSE NEIGHBOUR: 'it returns false'. Refute it at one input. -/
def setLawsWrong : ChangeSpec := { name := "setLaws", fn := fun _ => fun
  | [d1, d2, d3] => { results := [.lit (.bool false)], args := [d1, d2, d3] }
  | _ => none }
def SetLawsWrongFalsely : Prop := setLawsRow.holds Try.pinned (OpenSpec.ofChange setLawsWrong)

/-- 'touchstonelaw09.SetValues': WHATEVER THE INPUT: true; the input reads as it did. -/
def setValuesSpec : ChangeSpec := { name := "setValues", fn := fun _ => fun
  | [d1, d2, d3] => { results := [.lit (.bool true)], args := [d1, d2, d3] }
  | _ => none }
def setValuesRow : OpenClaim := { program := "ytjdlfmcnjpiaoaa", sum := "86563ba4a18f943012cc5a8df554c1dff98f8ec629f004f161497dd06bd66804", func := "touchstone/touchstonelaw09.SetValues", spec := "setValues", unfollowed := true, recurses := true, apart := false }
def SetValuesSaid : Prop := setValuesRow.holds Try.pinned (OpenSpec.ofChange setValuesSpec)

/-- ITS FALSE NEIGHBOUR: 'it returns false'. Refute it at one input. -/
def setValuesWrong : ChangeSpec := { name := "setValues", fn := fun _ => fun
  | [d1, d2, d3] => { results := [.lit (.bool false)], args := [d1, d2, d3] }
  | _ => none }
def SetValuesWrongFalsely : Prop := setValuesRow.holds Try.pinned (OpenSpec.ofChange setValuesWrong)

/-- 'touchstonelaw10.TrailActs': WHATEVER THE INPUT: true; the input reads as it did. -/
def trailActsSpec : ChangeSpec := { name := "trailActs", fn := fun _ => fun
  | [d1, d2] => { results := [.lit (.bool true)], args := [d1, d2] }
  | _ => none }
def trailActsRow : OpenClaim := { program := "ytjdlfmcnjpiaoaa", sum := "86563ba4a18f943012cc5a8df554c1dff98f8ec629f004f161497dd06bd66804", func := "touchstone/touchstonelaw10.TrailActs", spec := "trailActs", recurses := true, apart := false }
def TrailActsSaid : Prop := trailActsRow.holds Try.pinned (OpenSpec.ofChange trailActsSpec)

/-- ITS FALSE NEIGHBOUR: 'it returns false'. Refute it at one input. -/
def trailActsWrong : ChangeSpec := { name := "trailActs", fn := fun _ => fun
  | [d1, d2] => { results := [.lit (.bool false)], args := [d1, d2] }
  | _ => none }
def TrailActsWrongFalsely : Prop := trailActsRow.holds Try.pinned (OpenSpec.ofChange trailActsWrong)

/-- 'touchstonelaw10.TrailBack': WHATEVER THE INPUT: true; the input reads as it did. -/
def trailBackSpec : ChangeSpec := { name := "trailBack", fn := fun _ => fun
  | [d1, d2, d3] => { results := [.lit (.bool true)], args := [d1, d2, d3] }
  | _ => none }
def trailBackRow : OpenClaim := { program := "ytjdlfmcnjpiaoaa", sum := "86563ba4a18f943012cc5a8df554c1dff98f8ec629f004f161497dd06bd66804", func := "touchstone/touchstonelaw10.TrailBack", spec := "trailBack", recurses := true, apart := false }
def TrailBackSaid : Prop := trailBackRow.holds Try.pinned (OpenSpec.ofChange trailBackSpec)

/-- ITS FALSE NEIGHBOUR: 'it returns false'. Refute it at one input. -/
def trailBackWrong : ChangeSpec := { name := "trailBack", fn := fun _ => fun
  | [d1, d2, d3] => { results := [.lit (.bool false)], args := [d1, d2, d3] }
  | _ => none }
def TrailBackWrongFalsely : Prop := trailBackRow.holds Try.pinned (OpenSpec.ofChange trailBackWrong)

/-- 'touchstonelaw10.TrailLess': WHATEVER THE INPUT: true; the input reads as it did. -/
def trailLessSpec : ChangeSpec := { name := "trailLess", fn := fun _ => fun
  | [d1, d2] => { results := [.lit (.bool true)], args := [d1, d2] }
  | _ => none }
def trailLessRow : OpenClaim := { program := "ytjdlfmcnjpiaoaa", sum := "86563ba4a18f943012cc5a8df554c1dff98f8ec629f004f161497dd06bd66804", func := "touchstone/touchstonelaw10.TrailLess", spec := "trailLess", recurses := true, apart := false }
def TrailLessSaid : Prop := trailLessRow.holds Try.pinned (OpenSpec.ofChange trailLessSpec)

/-- ITS FALSE NEIGHBOUR: 'it returns false'. Refute it at one input. -/
def trailLessWrong : ChangeSpec := { name := "trailLess", fn := fun _ => fun
  | [d1, d2] => { results := [.lit (.bool false)], args := [d1, d2] }
  | _ => none }
def TrailLessWrongFalsely : Prop := trailLessRow.holds Try.pinned (OpenSpec.ofChange trailLessWrong)

/-- 'touchstonelaw10.TrailNobody': WHATEVER THE INPUT: true; the input reads as it did. -/
def trailNobodySpec : ChangeSpec := { name := "trailNobody", fn := fun _ => fun
  | [d] => { results := [.lit (.bool true)], args := [d] }
  | _ => none }
def trailNobodyRow : OpenClaim := { program := "ytjdlfmcnjpiaoaa", sum := "86563ba4a18f943012cc5a8df554c1dff98f8ec629f004f161497dd06bd66804", func := "touchstone/touchstonelaw10.TrailNobody", spec := "trailNobody", recurses := true, apart := false }
def TrailNobodySaid : Prop := trailNobodyRow.holds Try.pinned (OpenSpec.ofChange trailNobodySpec)

/-- ITS FALSE NEIGHBOUR: 'it returns false'. Refute it at one input. -/
def trailNobodyWrong : ChangeSpec := { name := "trailNobody", fn := fun _ => fun
  | [d] => { results := [.lit (.bool false)], args := [d] }
  | _ => none }
def TrailNobodyWrongFalsely : Prop := trailNobodyRow.holds Try.pinned (OpenSpec.ofChange trailNobodyWrong)

/-- 'touchstonelaw09.SetSizes': WHATEVER THE INPUT: true; the input reads as it did. -/
def setSizesSpec : ChangeSpec := { name := "setSizes", fn := fun _ => fun
  | [d1, d2] => { results := [.lit (.bool true)], args := [d1, d2] }
  | _ => none }
def setSizesRow : OpenClaim := { program := "ytjdlfmcnjpiaoaa", sum := "86563ba4a18f943012cc5a8df554c1dff98f8ec629f004f161497dd06bd66804", func := "touchstone/touchstonelaw09.SetSizes", spec := "setSizes", unfollowed := true, recurses := true, apart := false }
def SetSizesSaid : Prop := setSizesRow.holds Try.pinned (OpenSpec.ofChange setSizesSpec)

/-- ITS FALSE NEIGHBOUR: 'it returns false'. Refute it at one input. -/
def setSizesWrong : ChangeSpec := { name := "setSizes", fn := fun _ => fun
  | [d1, d2] => { results := [.lit (.bool false)], args := [d1, d2] }
  | _ => none }
def SetSizesWrongFalsely : Prop := setSizesRow.holds Try.pinned (OpenSpec.ofChange setSizesWrong)

/-- 'touchstonelaw09.SetCuts': WHATEVER THE INPUT: true; the input reads as it did. -/
def setCutsSpec : ChangeSpec := { name := "setCuts", fn := fun _ => fun
  | [d1, d2, d3] => { results := [.lit (.bool true)], args := [d1, d2, d3] }
  | _ => none }
def setCutsRow : OpenClaim := { program := "ytjdlfmcnjpiaoaa", sum := "86563ba4a18f943012cc5a8df554c1dff98f8ec629f004f161497dd06bd66804", func := "touchstone/touchstonelaw09.SetCuts", spec := "setCuts", unfollowed := true, recurses := true, apart := false }
def SetCutsSaid : Prop := setCutsRow.holds Try.pinned (OpenSpec.ofChange setCutsSpec)

/-- ITS FALSE NEIGHBOUR: 'it returns false'. Refute it at one input. -/
def setCutsWrong : ChangeSpec := { name := "setCuts", fn := fun _ => fun
  | [d1, d2, d3] => { results := [.lit (.bool false)], args := [d1, d2, d3] }
  | _ => none }
def SetCutsWrongFalsely : Prop := setCutsRow.holds Try.pinned (OpenSpec.ofChange setCutsWrong)

/- THE SECOND FORM. 'bulk': how many values and letters a reading holds, each counted each time it is reached (what is shared counts as often as it is met; a slice's spare places count too). A statement '..UptoSaid' is the law's where the arguments, and the package variables that the reading takes, are together of bulk at most 1048576: NARROWER than '..Said'. Prove '..Said' where nothing that the law and all that it calls make is longer than what came in: it says more and counts as full. Else prove '..UptoSaid'. A law counts once. -/
mutual
def uptoBulk {H : Type} : DataW H → Nat
  | .lit (.string bytes) => bytes.length + 1
  | .lit _ => 1
  | .nil => 1
  | .ptr d => uptoBulk d + 1
  | .slice elems spare => uptoBulkAll elems + uptoBulkAll spare + 1
  | .agg parts => uptoBulkAll parts + 1
  | .iface _ d => uptoBulk d + 1
  | .map entries => uptoBulkEntries entries + 1
  | .held _ => 1
def uptoBulkAll {H : Type} : List (DataW H) → Nat
  | [] => 0
  | d :: r => uptoBulk d + uptoBulkAll r
def uptoBulkEntries {H : Type} : List (Lit × DataW H) → Nat
  | [] => 0
  | x :: r => uptoBulkEntry x + uptoBulkEntries r
def uptoBulkEntry {H : Type} : Lit × DataW H → Nat
  | (.string bytes, d) => bytes.length + uptoBulk d + 1
  | (_, d) => uptoBulk d + 1
 end
def uptoSmall : (H : Type) → List (DataW H) → Bool := fun _ ds => decide (uptoBulkAll ds ≤ 1048576)
def OpenSpec.upto (s : _root_.Go.ChangeSpec) : _root_.Go.OpenSpec := { _root_.Go.OpenSpec.ofChange s with cond := some uptoSmall }

/-- 'touchstonelaw09.SetMakes', WHERE WHAT IT READS IS OF BULK AT MOST 1048576: true; the input reads as it did. -/
def setMakesUptoRow : OpenClaim := { program := "ytjdlfmcnjpiaoaa", sum := "86563ba4a18f943012cc5a8df554c1dff98f8ec629f004f161497dd06bd66804", func := "touchstone/touchstonelaw09.SetMakes", spec := "setMakes", unfollowed := true, recurses := true, apart := false, narrowed := true }
def SetMakesUptoSaid : Prop := setMakesUptoRow.holds Try.pinned (OpenSpec.upto setMakesSpec)

/-- 'touchstonelaw09.SetCounts', WHERE WHAT IT READS IS OF BULK AT MOST 1048576: true; the input reads as it did. -/
def setCountsUptoRow : OpenClaim := { program := "ytjdlfmcnjpiaoaa", sum := "86563ba4a18f943012cc5a8df554c1dff98f8ec629f004f161497dd06bd66804", func := "touchstone/touchstonelaw09.SetCounts", spec := "setCounts", unfollowed := true, recurses := true, apart := false, narrowed := true }
def SetCountsUptoSaid : Prop := setCountsUptoRow.holds Try.pinned (OpenSpec.upto setCountsSpec)

/-- 'touchstonelaw09.SetAsks', WHERE WHAT IT READS IS OF BULK AT MOST 1048576: true; the input reads as it did. -/
def setAsksUptoRow : OpenClaim := { program := "ytjdlfmcnjpiaoaa", sum := "86563ba4a18f943012cc5a8df554c1dff98f8ec629f004f161497dd06bd66804", func := "touchstone/touchstonelaw09.SetAsks", spec := "setAsks", unfollowed := true, recurses := true, apart := false, narrowed := true }
def SetAsksUptoSaid : Prop := setAsksUptoRow.holds Try.pinned (OpenSpec.upto setAsksSpec)

/-- 'touchstonelaw09.SetLaws', WHERE WHAT IT READS IS OF BULK AT MOST 1048576: true; the input reads as it did. -/
def setLawsUptoRow : OpenClaim := { program := "ytjdlfmcnjpiaoaa", sum := "86563ba4a18f943012cc5a8df554c1dff98f8ec629f004f161497dd06bd66804", func := "touchstone/touchstonelaw09.SetLaws", spec := "setLaws", unfollowed := true, recurses := true, apart := false, narrowed := true }
def SetLawsUptoSaid : Prop := setLawsUptoRow.holds Try.pinned (OpenSpec.upto setLawsSpec)

/-- 'touchstonelaw09.SetValues', WHERE WHAT IT READS IS OF BULK AT MOST 1048576: true; the input reads as it did. -/
def setValuesUptoRow : OpenClaim := { program := "ytjdlfmcnjpiaoaa", sum := "86563ba4a18f943012cc5a8df554c1dff98f8ec629f004f161497dd06bd66804", func := "touchstone/touchstonelaw09.SetValues", spec := "setValues", unfollowed := true, recurses := true, apart := false, narrowed := true }
def SetValuesUptoSaid : Prop := setValuesUptoRow.holds Try.pinned (OpenSpec.upto setValuesSpec)

/-- 'touchstonelaw10.TrailActs', WHERE WHAT IT READS IS OF BULK AT MOST 1048576: true; the input reads as it did. -/
def trailActsUptoRow : OpenClaim := { program := "ytjdlfmcnjpiaoaa", sum := "86563ba4a18f943012cc5a8df554c1dff98f8ec629f004f161497dd06bd66804", func := "touchstone/touchstonelaw10.TrailActs", spec := "trailActs", recurses := true, apart := false, narrowed := true }
def TrailActsUptoSaid : Prop := trailActsUptoRow.holds Try.pinned (OpenSpec.upto trailActsSpec)

/-- 'touchstonelaw10.TrailBack', WHERE WHAT IT READS IS OF BULK AT MOST 1048576: true; the input reads as it did. -/
def trailBackUptoRow : OpenClaim := { program := "ytjdlfmcnjpiaoaa", sum := "86563ba4a18f943012cc5a8df554c1dff98f8ec629f004f161497dd06bd66804", func := "touchstone/touchstonelaw10.TrailBack", spec := "trailBack", recurses := true, apart := false, narrowed := true }
def TrailBackUptoSaid : Prop := trailBackUptoRow.holds Try.pinned (OpenSpec.upto trailBackSpec)

/-- 'touchstonelaw10.TrailLess', WHERE WHAT IT READS IS OF BULK AT MOST 1048576: true; the input reads as it did. -/
def trailLessUptoRow : OpenClaim := { program := "ytjdlfmcnjpiaoaa", sum := "86563ba4a18f943012cc5a8df554c1dff98f8ec629f004f161497dd06bd66804", func := "touchstone/touchstonelaw10.TrailLess", spec := "trailLess", recurses := true, apart := false, narrowed := true }
def TrailLessUptoSaid : Prop := trailLessUptoRow.holds Try.pinned (OpenSpec.upto trailLessSpec)

/-- 'touchstonelaw10.TrailNobody', WHERE WHAT IT READS IS OF BULK AT MOST 1048576: true; the input reads as it did. -/
def trailNobodyUptoRow : OpenClaim := { program := "ytjdlfmcnjpiaoaa", sum := "86563ba4a18f943012cc5a8df554c1dff98f8ec629f004f161497dd06bd66804", func := "touchstone/touchstonelaw10.TrailNobody", spec := "trailNobody", recurses := true, apart := false, narrowed := true }
def TrailNobodyUptoSaid : Prop := trailNobodyUptoRow.holds Try.pinned (OpenSpec.upto trailNobodySpec)

/-- 'touchstonelaw09.SetSizes', WHERE WHAT IT READS IS OF BULK AT MOST 1048576: true; the input reads as it did. -/
def setSizesUptoRow : OpenClaim := { program := "ytjdlfmcnjpiaoaa", sum := "86563ba4a18f943012cc5a8df554c1dff98f8ec629f004f161497dd06bd66804", func := "touchstone/touchstonelaw09.SetSizes", spec := "setSizes", unfollowed := true, recurses := true, apart := false, narrowed := true }
def SetSizesUptoSaid : Prop := setSizesUptoRow.holds Try.pinned (OpenSpec.upto setSizesSpec)

/-- 'touchstonelaw09.SetCuts', WHERE WHAT IT READS IS OF BULK AT MOST 1048576: true; the input reads as it did. -/
def setCutsUptoRow : OpenClaim := { program := "ytjdlfmcnjpiaoaa", sum := "86563ba4a18f943012cc5a8df554c1dff98f8ec629f004f161497dd06bd66804", func := "touchstone/touchstonelaw09.SetCuts", spec := "setCuts", unfollowed := true, recurses := true, apart := false, narrowed := true }
def SetCutsUptoSaid : Prop := setCutsUptoRow.holds Try.pinned (OpenSpec.upto setCutsSpec)

end Rows
end Go.Proofs.Ytjdlfmcnjpiaoaa
