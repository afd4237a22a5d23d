/-
  DERIVED. GIVEN WITH THE SEED: THE CARDS: each row of YtcmphhedaefcgaaGreatDoorRows.lean that lists a variable, with what it lists TIED to the program's text (the seventh form; the later family's looks); each row that meets fmt, with fmt's text TOLD by the authors' own Lean function (tested against real Go, not proved from fmt's source: count such statements apart). THE CARD IS WHAT COUNTS. Prove the row's statement (the work); the ties are given (YtcmphhedaefcgaaGreatDoorTie.lean); close each card by the builder's one call (the guide's Derived/Test/ToyasCard.lean, 'card_holds'). Laid BY PROGRAM, IN A SANDBOX (cutbox-door.mjs). By AI agents, Wed Nov 11 2026. No macro, syntax, notation, axiom, sorry.
-/
import Derived.Test.YtcmphhedaefcgaaGreatDoorRows
import GoSem.ClaimSeven
namespace Go.Proofs.YtcmphhedaefcgaaGreatDoor
namespace Rows

/-- THE TIED CARD OF 'touchstonetop.WholeShown'. -/
def wholeShownCard : Claim7 := { stood := { row := wholeShownRow, standIns := [], harness := (true, "8f49aef2fdd3f64e898af306a0e07647421247f5374b893db3d75c5141e2bba3"), looks := true }, kinds := [], alts := [], laidByText := true, laidKinds := [.data, .data, .data, .sentinel, .sentinel], laidTests := true, laidLooks := .later }
def WholeShownCardSaid : Prop := Claim7.holds Tryz.pinned (.plain (OpenSpec.ofChange wholeShownSpec)) wholeShownCard

/-- THE SECOND FORM's CARD OF 'touchstonetop.WholeShown'. -/
def wholeShownUptoCard : Claim7 := { stood := { row := wholeShownUptoRow, standIns := [], harness := (true, "8f49aef2fdd3f64e898af306a0e07647421247f5374b893db3d75c5141e2bba3"), looks := true }, kinds := [], alts := [], laidByText := true, laidKinds := [.data, .data, .data, .sentinel, .sentinel], laidTests := true, laidLooks := .later }
def WholeShownUptoCardSaid : Prop := Claim7.holds Tryz.pinned (.plain (OpenSpec.upto wholeShownSpec)) wholeShownUptoCard
end Rows
end Go.Proofs.YtcmphhedaefcgaaGreatDoor
