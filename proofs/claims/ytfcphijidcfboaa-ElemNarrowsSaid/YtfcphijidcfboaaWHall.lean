/- What the functions of package hall compute: within, count, Room. -/
import Derived.Test.YtfcphijidcfboaaPlMod
import Derived.Test.YtfcphijidcfboaaGSet
import Derived.Test.YtfcphijidcfboaaGMod
import Derived.Test.YtfcphijidcfboaaCHall
namespace Go.Proofs.Ytfcphijidcfboaa
open Av
attribute [local irreducible] awp awpOpers
set_option linter.unusedSimpArgs false
set_option linter.unusedVariables false
set_option maxRecDepth 100000
set_option maxHeartbeats 4000000
/-- how many ranges lie within a stretch -/
def inS (lo hi : Int) (r : Rg) : Bool := decide (lo ≤ r.1) && decide (r.2 ≤ hi)
def cntR (l : List Rg) (lo hi : Int) : Nat := (l.filter (inS lo hi)).length
theorem cntR_snoc {l : List Rg} {k : Nat} {r : Rg} (h : l[k]? = some r) (lo hi : Int) : cntR (l.take (k + 1)) lo hi = cntR (l.take k) lo hi + if inS lo hi r = true then 1 else 0 := by
  unfold cntR
  rw [← take_snoc h, List.filter_append, List.length_append]
  by_cases hy : inS lo hi r = true <;> simp [hy]
theorem cntR_le (l : List Rg) (lo hi : Int) : cntR l lo hi ≤ l.length := List.length_filter_le _ _
def okRg (r : Rg) : Bool := decide (r.1 ≤ r.2) && withinB r.1 && withinB r.2
def pairOk (l : List Rg) (p q : Rg) : Bool := !(decide (0 < cntR l p.1 q.2) && decide (q.2 - p.1 + 1 < cntR l p.1 q.2))
def roomB (l : List Rg) : Bool := decide (l.length ≤ 32) && l.all okRg && l.all fun p => l.all (pairOk l p)
theorem okRg_facts {r : Rg} (h : okRg r = true) : r.1 ≤ r.2 ∧ -1048576 ≤ r.1 ∧ r.2 ≤ 1048576 := by
  simp only [okRg, withinB, Bool.and_eq_true, decide_eq_true_eq] at h; omega
end Go.Proofs.Ytfcphijidcfboaa
