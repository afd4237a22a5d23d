/- What Floor, Ceil of package touchstoneref01 and Keep, KeepIs, KeepNot, Empty of package touchstoneref12 compute. -/
import Derived.Test.YtfcphijidcfboaaPlArithK
import Derived.Test.YtfcphijidcfboaaGLinLaw
import Derived.Test.YtfcphijidcfboaaPlArith
import Derived.Test.YtfcphijidcfboaaCRef01
import Derived.Test.YtfcphijidcfboaaCRef12k
namespace Go.Proofs.Ytfcphijidcfboaa
open Av
attribute [local irreducible] awp awpOpers
set_option linter.unusedSimpArgs false
set_option linter.unusedVariables false
set_option maxRecDepth 100000
set_option maxHeartbeats 4000000
theorem flr_pos {a b : Int} (ha : 0 ≤ a) (hb : 0 < b) : flr a b = a.tdiv b := by
  have h1 : ¬ a < 0 := by omega
  have h2 : ¬ b < 0 := by omega
  unfold flr
  rw [if_neg (by simp [h1, h2])]
theorem ref12_Empty (D : List (List Rg)) (hD : D.length ≤ 1000000000000) : Ctr Try.prog 79 [eDoms D] [] (.bool (!wholeB D)) [] := by
  refine call_pure Try.func79 Try.call79 e_ref12_Empty ?_
  simp +contextual -implicitDefEqProofs (maxSteps := 1000000) only [c_ref12_Empty, eDoms, sm, sn, sxx, seval]
  refine loop_rule (fun k : Nat => k ≤ D.length ∧ ∀ (j : Nat) x, j < k → D[j]? = some x → (fun r : List Rg => !decide (r.length = 0)) x = true) (fun k => tm 16 [(0, .list 1 (D.map eRgs)), (3, .int .i64 k)]) (fun _ => []) (fun k => D.length - k) 0 ⟨by omega, by omega⟩ ⟨[], by decide, rfl, ?_, ?_⟩ ?_
  · simp +contextual -implicitDefEqProofs (maxSteps := 1000000) only [sm, sn, sxx, seval]
  · simp +contextual -implicitDefEqProofs (maxSteps := 1000000) only [sm, sn, sxx, seval, Int.natCast_zero]
  · rintro k ⟨hk, hok⟩
    by_cases hlt : k < D.length
    · obtain ⟨x, hx⟩ : ∃ r, D[k]? = some r := ⟨_, List.getElem?_eq_getElem hlt⟩
      have hlt' : (k : Int) < (D.length : Int) := by omega
      have e2 : IntKind.i64.wrap ((k : Int) + 1) = ((k + 1 : Nat) : Int) := by rw [wrap_i64] <;> omega
      by_cases h0 : x.length = 0
      · have h0' : ((x.length : Int) = 0) = True := by simp only [eq_iff_iff, iff_true]; omega
        have hno : wholeB D = false := by
          unfold wholeB
          rw [List.any_eq_true.2 ⟨x, List.mem_of_getElem? hx, by simp [h0]⟩]; rfl
        rw [hno]
        simp +contextual -implicitDefEqProofs (maxSteps := 1000000) only [sm, sn, sxx, seval, hlt', hx, h0', eRgs]
      · have h0' : ((x.length : Int) = 0) = False := by simp only [eq_iff_iff, iff_false]; omega
        simp +contextual -implicitDefEqProofs (maxSteps := 1000000) only [sm, sn, sxx, seval, hlt', hx, h0', eRgs, e2]
        refine ⟨k + 1, ⟨by omega, ?_⟩, by omega, [], by decide, rfl, ?_, ?_⟩
        · intro j y hj hy
          rcases Nat.lt_succ_iff_lt_or_eq.1 hj with h | rfl
          · exact hok j y h hy
          · rw [hx] at hy; injection hy with hy; subst hy; simp [h0]
        · simp +contextual -implicitDefEqProofs (maxSteps := 1000000) only [sm, sn, sxx, seval]
        · simp +contextual -implicitDefEqProofs (maxSteps := 1000000) only [sm, sn, sxx, seval]
    · have : k = D.length := by omega
      subst this
      have hall := listall_yes hok
      have hyes : wholeB D = true := by
        unfold wholeB
        rw [Bool.not_eq_true', List.any_eq_false]
        intro r hr
        have := List.all_eq_true.1 hall r hr
        simpa using this
      rw [hyes]
      simp +contextual -implicitDefEqProofs (maxSteps := 1000000) only [sm, sn, sxx, seval, Int.lt_irrefl]
/-- what Keep leaves -/
def keepS (D : List (List Rg)) (T : List Tm) (n : Int) : List (List Rg) × Bool :=
  if n - (spanK D T T.length).1 < 0 then ([], false) else (mostK D T (n - (spanK D T T.length).1) T.length, wholeB (mostK D T (n - (spanK D T T.length).1) T.length))
theorem tell_keep (D : List (List Rg)) (T : List Tm) (n : Int) : tell (keepS D T n) = tell (mostS D T n) := by
  unfold keepS mostS
  split <;> rfl
theorem keep_true {D E : List (List Rg)} {T : List Tm} {n : Int} (h : keepS D T n = (E, true)) : mostS D T n = (E, true) := by
  unfold keepS at h
  unfold mostS
  split at h
  · cases h
  · rename_i hn; rw [if_neg hn]; exact h
def keepIsS (D : List (List Rg)) (T : List Tm) (n : Int) : List (List Rg) × Bool := match keepS D T n with
  | (_, false) => ([], false)
  | (E, true) => keepS E (opp T) (-n)
theorem tell_keepIs (D : List (List Rg)) (T : List Tm) (n : Int) : tell (keepIsS D T n) = tell (isS D T n) := by
  unfold keepIsS isS keepS mostS
  by_cases hn : n - (spanK D T T.length).1 < 0
  · rw [if_pos hn, if_pos hn]; rfl
  · rw [if_neg hn, if_neg hn]
    cases wholeB (mostK D T (n - (spanK D T T.length).1) T.length)
    · rfl
    · simp only
      split <;> rfl
end Go.Proofs.Ytfcphijidcfboaa
