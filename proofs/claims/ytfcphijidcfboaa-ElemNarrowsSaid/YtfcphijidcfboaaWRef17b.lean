/- What the reference computes for unlike values: with, ends, Narrow. -/
import Derived.Test.YtfcphijidcfboaaWRef17
import Derived.Test.YtfcphijidcfboaaGRef08
import Derived.Test.YtfcphijidcfboaaGRef12
import Derived.Test.YtfcphijidcfboaaWRef12k
import Derived.Test.YtfcphijidcfboaaGRef09
import Derived.Test.YtfcphijidcfboaaCRef17N
namespace Go.Proofs.Ytfcphijidcfboaa
open Av
attribute [local irreducible] awp awpOpers
set_option linter.unusedSimpArgs false
set_option linter.unusedVariables false
set_option maxRecDepth 100000
set_option maxHeartbeats 4000000
theorem upR_step {l : List Rg} {k : Nat} {hi lo : Int} (h1 : lo < hi) (h2 : rroomB (l.set k (lo, lo)) = false) : upR l k hi (hi - lo).toNat lo = upR l k hi (hi - (lo + 1)).toNat (lo + 1) := by
  obtain ⟨n, hn⟩ : ∃ n, (hi - lo).toNat = n + 1 := ⟨(hi - lo).toNat - 1, by omega⟩
  have e : (hi - (lo + 1)).toNat = n := by omega
  rw [hn, e]
  conv => lhs; unfold upR
  rw [if_pos ⟨h1, h2⟩]
theorem upR_stop {l : List Rg} {k : Nat} {hi lo : Int} (h : ¬ (lo < hi ∧ rroomB (l.set k (lo, lo)) = false)) (n : Nat) : upR l k hi n lo = lo := by
  cases n with
  | zero => rfl
  | succ n => unfold upR; rw [if_neg h]
theorem dnR_step {l : List Rg} {k : Nat} {hi lo : Int} (h1 : lo < hi) (h2 : rroomB (l.set k (hi, hi)) = false) : dnR l k lo (hi - lo).toNat hi = dnR l k lo (hi - 1 - lo).toNat (hi - 1) := by
  obtain ⟨n, hn⟩ : ∃ n, (hi - lo).toNat = n + 1 := ⟨(hi - lo).toNat - 1, by omega⟩
  have e : (hi - 1 - lo).toNat = n := by omega
  rw [hn, e]
  conv => lhs; unfold dnR
  rw [if_pos ⟨h1, h2⟩]
theorem dnR_stop {l : List Rg} {k : Nat} {hi lo : Int} (h : ¬ (lo < hi ∧ rroomB (l.set k (hi, hi)) = false)) (n : Nat) : dnR l k lo n hi = hi := by
  cases n with
  | zero => rfl
  | succ n => unfold dnR; rw [if_neg h]
theorem set_rg2 (l : List Rg) (i : Nat) (x y : Int) : (l.map eRg).set i (.agg [.int .i64 x, .int .i64 y]) = (l.set i (x, y)).map eRg := by rw [List.map_set]; rfl
theorem ref12_Done (D : List (List Rg)) (hD : D.length ≤ 1000000000000) : Ctr Try.prog 47 [eDoms D] [] (.tuple [eDoms (tell (D, wholeB D)).1, .int .i64 (tell (D, wholeB D)).2]) [] := by
  refine call_pure Try.func47 Try.call47 e_ref12_Done ?_
  simp +contextual -implicitDefEqProofs (maxSteps := 1000000) only [c_ref12_Done, eDoms, sm, sn, sxx, seval]
  refine callA_rule (ref12_Empty D hD) (wkL_refl _) rfl ?_
  cases hw : wholeB D
  · simp +contextual -implicitDefEqProofs (maxSteps := 1000000) only [sm, sn, sxx, seval, tell, Bool.not_false]
  · simp +contextual -implicitDefEqProofs (maxSteps := 1000000) only [sm, sn, sxx, seval, tell, Bool.not_true]
theorem rhallN_len (l : List Rg) (D : List (List Rg)) (X : List Int) : ∀ k, (rhallN l D X k).length = D.length
  | 0 => rfl
  | k + 1 => by unfold rhallN; rw [List.length_set]; exact rhallN_len l D X k
theorem rhallN_rows {l : List Rg} {D : List (List Rg)} {X : List Int} {n : Nat} (h : ∀ d ∈ D, d.length ≤ n) : ∀ k, ∀ d ∈ rhallN l D X k, d.length ≤ n
  | 0 => h
  | k + 1 => fun d hd => by
    unfold rhallN at hd
    rcases List.mem_or_eq_of_mem_set hd with h1 | rfl
    · exact rhallN_rows h k d h1
    · have ih := rhallN_rows (l := l) (X := X) h k
      refine Nat.le_trans (rcutS_length _ _ _) ?_
      unfold rowOf
      cases hr : (rhallN l D X k)[(xat X k).toNat]? with
      | none => simp
      | some r => exact ih r (List.mem_of_getElem? hr)
end Go.Proofs.Ytfcphijidcfboaa
