/-
  No cell of these rows narrows 'for every input' (looked for: loops, veiled, ifaces, maps, wideKeys, modest, calm, conditions, laid).
  DERIVED. THE GIVEN ROWS OF THIS SEAT. 7 by the template 'for every input the law returns true; each argument reads behind the call as it read before'; 0 by the template 'total and deterministic' (their statements: YtglhhhfcaljkdaaTotals.lean).
  GIVEN WITH THE SEED: the statements are not yours to turn. If you find one false, say at which input.
  Laid BY PROGRAM, IN A SANDBOX (cutbox-rows.mjs): the forced cells as the released guide's own fill.sh prints them over the translation 0f005ab4dec94886… (all of the seat's roots in one cut). By AI agents, Wed Nov 11 2026. No macro, syntax, notation, axiom, sorry.
-/
import Derived.Test.YtglhhhfcaljkdaaChecked
import GoSem.Claim
import GoSem.ClaimJoined
import GoSem.ClaimMapViews
import Derived.JoinedTies
import Derived.KernelRfl
namespace Go.Proofs.Ytglhhhfcaljkdaa
/- THE CELL 'sum', in the pinned program and in every row, IS THE sha256 OF THE DUMP (.gsa) THAT YtglhhhfcaljkdaaProg.lean LOADS. Nothing in Lean hashes anything: it is a label: what it is worth is what the hold of that sum in a sandbox is worth. -/
noncomputable def Try.pinned : Pinned := { name := "ytglhhhfcaljkdaa", sum := "0f005ab4dec9488649b42527b43d558b2d428763230e9f0959860703421720bc", checked := Try.checked }
namespace Rows
def none {H : Type} : Left H := { results := [], args := [] }

/-- 'touchstonelaw01.CheckMuls': WHATEVER THE INPUT: true; the input reads as it did. -/
def checkMulsSpec : ChangeSpec := { name := "checkMuls", fn := fun _ => fun
  | [d1, d2] => { results := [.lit (.bool true)], args := [d1, d2] }
  | _ => none }
def checkMulsRow : OpenClaim := { program := "ytglhhhfcaljkdaa", sum := "0f005ab4dec9488649b42527b43d558b2d428763230e9f0959860703421720bc", func := "touchstone/touchstonelaw01.CheckMuls", spec := "checkMuls", apart := false }
def CheckMulsSaid : Prop := checkMulsRow.holds Try.pinned (OpenSpec.ofChange checkMulsSpec)

/-- ITS FALSE NEIGHBOUR: 'it returns false'. Refute it at one input. -/
def checkMulsWrong : ChangeSpec := { name := "checkMuls", fn := fun _ => fun
  | [d1, d2] => { results := [.lit (.bool false)], args := [d1, d2] }
  | _ => none }
def CheckMulsWrongFalsely : Prop := checkMulsRow.holds Try.pinned (OpenSpec.ofChange checkMulsWrong)

/-- 'touchstonelaw01.CheckDivs': WHATEVER THE INPUT: true; the input reads as it did. -/
def checkDivsSpec : ChangeSpec := { name := "checkDivs", fn := fun _ => fun
  | [d1, d2] => { results := [.lit (.bool true)], args := [d1, d2] }
  | _ => none }
def checkDivsRow : OpenClaim := { program := "ytglhhhfcaljkdaa", sum := "0f005ab4dec9488649b42527b43d558b2d428763230e9f0959860703421720bc", func := "touchstone/touchstonelaw01.CheckDivs", spec := "checkDivs", apart := false }
def CheckDivsSaid : Prop := checkDivsRow.holds Try.pinned (OpenSpec.ofChange checkDivsSpec)

/-- ITS FALSE NEIGHBOUR: 'it returns false'. Refute it at one input. -/
def checkDivsWrong : ChangeSpec := { name := "checkDivs", fn := fun _ => fun
  | [d1, d2] => { results := [.lit (.bool false)], args := [d1, d2] }
  | _ => none }
def CheckDivsWrongFalsely : Prop := checkDivsRow.holds Try.pinned (OpenSpec.ofChange checkDivsWrong)

/-- 'touchstonelaw01.CheckDots': WHATEVER THE INPUT: true; the input reads as it did. -/
def checkDotsSpec : ChangeSpec := { name := "checkDots", fn := fun _ => fun
  | [d1, d2] => { results := [.lit (.bool true)], args := [d1, d2] }
  | _ => none }
def checkDotsRow : OpenClaim := { program := "ytglhhhfcaljkdaa", sum := "0f005ab4dec9488649b42527b43d558b2d428763230e9f0959860703421720bc", func := "touchstone/touchstonelaw01.CheckDots", spec := "checkDots", apart := false }
def CheckDotsSaid : Prop := checkDotsRow.holds Try.pinned (OpenSpec.ofChange checkDotsSpec)

/-- ITS FALSE NEIGHBOUR: 'it returns false'. Refute it at one input. -/
def checkDotsWrong : ChangeSpec := { name := "checkDots", fn := fun _ => fun
  | [d1, d2] => { results := [.lit (.bool false)], args := [d1, d2] }
  | _ => none }
def CheckDotsWrongFalsely : Prop := checkDotsRow.holds Try.pinned (OpenSpec.ofChange checkDotsWrong)

/-- 'touchstonelaw01.CheckRests': WHATEVER THE INPUT: true; the input reads as it did. -/
def checkRestsSpec : ChangeSpec := { name := "checkRests", fn := fun _ => fun
  | [d1, d2] => { results := [.lit (.bool true)], args := [d1, d2] }
  | _ => none }
def checkRestsRow : OpenClaim := { program := "ytglhhhfcaljkdaa", sum := "0f005ab4dec9488649b42527b43d558b2d428763230e9f0959860703421720bc", func := "touchstone/touchstonelaw01.CheckRests", spec := "checkRests", apart := false }
def CheckRestsSaid : Prop := checkRestsRow.holds Try.pinned (OpenSpec.ofChange checkRestsSpec)

/-- ITS FALSE NEIGHBOUR: 'it returns false'. Refute it at one input. -/
def checkRestsWrong : ChangeSpec := { name := "checkRests", fn := fun _ => fun
  | [d1, d2] => { results := [.lit (.bool false)], args := [d1, d2] }
  | _ => none }
def CheckRestsWrongFalsely : Prop := checkRestsRow.holds Try.pinned (OpenSpec.ofChange checkRestsWrong)

/-- 'touchstonelaw01.CheckSpread': WHATEVER THE INPUT: true; the input reads as it did. -/
def checkSpreadSpec : ChangeSpec := { name := "checkSpread", fn := fun _ => fun
  | [d1, d2, d3] => { results := [.lit (.bool true)], args := [d1, d2, d3] }
  | _ => none }
def checkSpreadRow : OpenClaim := { program := "ytglhhhfcaljkdaa", sum := "0f005ab4dec9488649b42527b43d558b2d428763230e9f0959860703421720bc", func := "touchstone/touchstonelaw01.CheckSpread", spec := "checkSpread", apart := false }
def CheckSpreadSaid : Prop := checkSpreadRow.holds Try.pinned (OpenSpec.ofChange checkSpreadSpec)

/-- ITS FALSE NEIGHBOUR: 'it returns false'. Refute it at one input. -/
def checkSpreadWrong : ChangeSpec := { name := "checkSpread", fn := fun _ => fun
  | [d1, d2, d3] => { results := [.lit (.bool false)], args := [d1, d2, d3] }
  | _ => none }
def CheckSpreadWrongFalsely : Prop := checkSpreadRow.holds Try.pinned (OpenSpec.ofChange checkSpreadWrong)

/-- 'touchstonelaw01.CheckSums': WHATEVER THE INPUT: true; the input reads as it did. -/
def checkSumsSpec : ChangeSpec := { name := "checkSums", fn := fun _ => fun
  | [d1, d2] => { results := [.lit (.bool true)], args := [d1, d2] }
  | _ => none }
def checkSumsRow : OpenClaim := { program := "ytglhhhfcaljkdaa", sum := "0f005ab4dec9488649b42527b43d558b2d428763230e9f0959860703421720bc", func := "touchstone/touchstonelaw01.CheckSums", spec := "checkSums", apart := false }
def CheckSumsSaid : Prop := checkSumsRow.holds Try.pinned (OpenSpec.ofChange checkSumsSpec)

/-- ITS FALSE NEIGHBOUR: 'it returns false'. Refute it at one input. -/
def checkSumsWrong : ChangeSpec := { name := "checkSums", fn := fun _ => fun
  | [d1, d2] => { results := [.lit (.bool false)], args := [d1, d2] }
  | _ => none }
def CheckSumsWrongFalsely : Prop := checkSumsRow.holds Try.pinned (OpenSpec.ofChange checkSumsWrong)

/-- 'touchstonelaw01.CheckOrder': WHATEVER THE INPUT: true; the input reads as it did. -/
def checkOrderSpec : ChangeSpec := { name := "checkOrder", fn := fun _ => fun
  | [d1, d2] => { results := [.lit (.bool true)], args := [d1, d2] }
  | _ => none }
def checkOrderRow : OpenClaim := { program := "ytglhhhfcaljkdaa", sum := "0f005ab4dec9488649b42527b43d558b2d428763230e9f0959860703421720bc", func := "touchstone/touchstonelaw01.CheckOrder", spec := "checkOrder", apart := false }
def CheckOrderSaid : Prop := checkOrderRow.holds Try.pinned (OpenSpec.ofChange checkOrderSpec)

/-- ITS FALSE NEIGHBOUR: 'it returns false'. Refute it at one input. -/
def checkOrderWrong : ChangeSpec := { name := "checkOrder", fn := fun _ => fun
  | [d1, d2] => { results := [.lit (.bool false)], args := [d1, d2] }
  | _ => none }
def CheckOrderWrongFalsely : Prop := checkOrderRow.holds Try.pinned (OpenSpec.ofChange checkOrderWrong)

/- THE SECOND FORM. 'bulk': how many values and letters a reading holds, each counted each time it is reached (what is shared counts as often as it is met; a slice's spare places count too). A statement '..UptoSaid' is the law's where the arguments, and the package variables that the reading takes, are together of bulk at most 1048576: NARROWER than '..Said'. Prove '..Said' where nothing that the law and all that it calls make is longer than what came in: it says more and counts as full. Else prove '..UptoSaid'. A law counts once. -/
mutual
def uptoBulk {H : Type} : DataW H → Nat
  | .lit (.string bytes) => bytes.length + 1
  | .lit _ => 1
  | .nil => 1
  | .ptr d => uptoBulk d + 1
  | .slice elems spare => uptoBulkAll elems + uptoBulkAll spare + 1
  | .agg parts => uptoBulkAll parts + 1
  | .iface _ d => uptoBulk d + 1
  | .map entries => uptoBulkEntries entries + 1
  | .held _ => 1
def uptoBulkAll {H : Type} : List (DataW H) → Nat
  | [] => 0
  | d :: r => uptoBulk d + uptoBulkAll r
def uptoBulkEntries {H : Type} : List (Lit × DataW H) → Nat
  | [] => 0
  | x :: r => uptoBulkEntry x + uptoBulkEntries r
def uptoBulkEntry {H : Type} : Lit × DataW H → Nat
  | (.string bytes, d) => bytes.length + uptoBulk d + 1
  | (_, d) => uptoBulk d + 1
 end
def uptoSmall : (H : Type) → List (DataW H) → Bool := fun _ ds => decide (uptoBulkAll ds ≤ 1048576)
def OpenSpec.upto (s : _root_.Go.ChangeSpec) : _root_.Go.OpenSpec := { _root_.Go.OpenSpec.ofChange s with cond := some uptoSmall }

/-- 'touchstonelaw01.CheckMuls', WHERE WHAT IT READS IS OF BULK AT MOST 1048576: true; the input reads as it did. -/
def checkMulsUptoRow : OpenClaim := { program := "ytglhhhfcaljkdaa", sum := "0f005ab4dec9488649b42527b43d558b2d428763230e9f0959860703421720bc", func := "touchstone/touchstonelaw01.CheckMuls", spec := "checkMuls", apart := false, narrowed := true }
def CheckMulsUptoSaid : Prop := checkMulsUptoRow.holds Try.pinned (OpenSpec.upto checkMulsSpec)

/-- 'touchstonelaw01.CheckDivs', WHERE WHAT IT READS IS OF BULK AT MOST 1048576: true; the input reads as it did. -/
def checkDivsUptoRow : OpenClaim := { program := "ytglhhhfcaljkdaa", sum := "0f005ab4dec9488649b42527b43d558b2d428763230e9f0959860703421720bc", func := "touchstone/touchstonelaw01.CheckDivs", spec := "checkDivs", apart := false, narrowed := true }
def CheckDivsUptoSaid : Prop := checkDivsUptoRow.holds Try.pinned (OpenSpec.upto checkDivsSpec)

/-- 'touchstonelaw01.CheckDots', WHERE WHAT IT READS IS OF BULK AT MOST 1048576: true; the input reads as it did. -/
def checkDotsUptoRow : OpenClaim := { program := "ytglhhhfcaljkdaa", sum := "0f005ab4dec9488649b42527b43d558b2d428763230e9f0959860703421720bc", func := "touchstone/touchstonelaw01.CheckDots", spec := "checkDots", apart := false, narrowed := true }
def CheckDotsUptoSaid : Prop := checkDotsUptoRow.holds Try.pinned (OpenSpec.upto checkDotsSpec)

/-- 'touchstonelaw01.CheckRests', WHERE WHAT IT READS IS OF BULK AT MOST 1048576: true; the input reads as it did. -/
def checkRestsUptoRow : OpenClaim := { program := "ytglhhhfcaljkdaa", sum := "0f005ab4dec9488649b42527b43d558b2d428763230e9f0959860703421720bc", func := "touchstone/touchstonelaw01.CheckRests", spec := "checkRests", apart := false, narrowed := true }
def CheckRestsUptoSaid : Prop := checkRestsUptoRow.holds Try.pinned (OpenSpec.upto checkRestsSpec)

/-- 'touchstonelaw01.CheckSpread', WHERE WHAT IT READS IS OF BULK AT MOST 1048576: true; the input reads as it did. -/
def checkSpreadUptoRow : OpenClaim := { program := "ytglhhhfcaljkdaa", sum := "0f005ab4dec9488649b42527b43d558b2d428763230e9f0959860703421720bc", func := "touchstone/touchstonelaw01.CheckSpread", spec := "checkSpread", apart := false, narrowed := true }
def CheckSpreadUptoSaid : Prop := checkSpreadUptoRow.holds Try.pinned (OpenSpec.upto checkSpreadSpec)

/-- 'touchstonelaw01.CheckSums', WHERE WHAT IT READS IS OF BULK AT MOST 1048576: true; the input reads as it did. -/
def checkSumsUptoRow : OpenClaim := { program := "ytglhhhfcaljkdaa", sum := "0f005ab4dec9488649b42527b43d558b2d428763230e9f0959860703421720bc", func := "touchstone/touchstonelaw01.CheckSums", spec := "checkSums", apart := false, narrowed := true }
def CheckSumsUptoSaid : Prop := checkSumsUptoRow.holds Try.pinned (OpenSpec.upto checkSumsSpec)

/-- 'touchstonelaw01.CheckOrder', WHERE WHAT IT READS IS OF BULK AT MOST 1048576: true; the input reads as it did. -/
def checkOrderUptoRow : OpenClaim := { program := "ytglhhhfcaljkdaa", sum := "0f005ab4dec9488649b42527b43d558b2d428763230e9f0959860703421720bc", func := "touchstone/touchstonelaw01.CheckOrder", spec := "checkOrder", apart := false, narrowed := true }
def CheckOrderUptoSaid : Prop := checkOrderUptoRow.holds Try.pinned (OpenSpec.upto checkOrderSpec)

end Rows
end Go.Proofs.Ytglhhhfcaljkdaa
