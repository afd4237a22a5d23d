/- SenseFew. -/
import Derived.Test.YtfcphijidcfboaaWLaw11
import Derived.Test.YtfcphijidcfboaaWSenseU
namespace Go.Proofs.Ytfcphijidcfboaa
open Av
attribute [local irreducible] awp awpOpers
set_option linter.unusedSimpArgs false
set_option linter.unusedVariables false
set_option maxRecDepth 100000
set_option maxHeartbeats 4000000
theorem law_SenseFew (c : Con) (a l : List Int) (hl : l.length = 2) : Ctr Try.prog 13 [eCon c, eIs a, .agg (l.map eI)] [] (.bool true) [] := by
  obtain ⟨p, v, rfl⟩ : ∃ p v, l = [p, v] := by
    match l, hl with
    | [p, v], _ => exact ⟨p, v, rfl⟩
  refine call_pure Try.func13 Try.call13 e_law11_SenseFew ?_
  have hcon : ∃ K X A G, c = (K, X, A, G) := ⟨c.1, c.2.1, c.2.2.1, c.2.2.2, rfl⟩
  obtain ⟨K, X, A, C, rfl⟩ := hcon
  simp +contextual -implicitDefEqProofs (maxSteps := 1000000) only [c_law11_SenseFew, eCon, eIs, eI, sm, sn, sxx, seval]
  refine callA_rule law11_alive (wkL_refl _) rfl ?_
  simp +contextual -implicitDefEqProofs (maxSteps := 1000000) only [sm, sn, sxx, seval, eCon, eIs]
  refine callA_rule (law11_Fits (K, X, A, C) a) (by simp +contextual -implicitDefEqProofs (maxSteps := 1000000) only [sm, sn, sxx, seval, eCon, eIs]) rfl ?_
  cases hFt : fits11 (K, X, A, C) a
  · simp +contextual -implicitDefEqProofs (maxSteps := 1000000) only [sm, sn, sxx, seval]
  obtain ⟨s1, s2, s3⟩ := fits11_facts hFt
  simp only at s1 s2
  by_cases p0 : p < 0
  · simp +contextual -implicitDefEqProofs (maxSteps := 1000000) only [sm, sn, sxx, seval, p0]
  by_cases p1 : (a.length : Int) ≤ p
  · simp +contextual -implicitDefEqProofs (maxSteps := 1000000) only [sm, sn, sxx, seval, p0, p1]
  simp +contextual -implicitDefEqProofs (maxSteps := 1000000) only [sm, sn, sxx, seval, p0, p1, eCon, eIs]
  refine loop_rule (fun k : Nat => k ≤ X.length ∧ ∀ (j : Nat) x, j < k → X[j]? = some x → (fun x => !decide (x = p)) x = true) (fun k => tm 56 [(1, .list 1 (a.map eI)), (3, .ptr 4 0 0 0), (7, .int .i64 p), (8, .int .i64 v), (33, .list 1 (X.map eI)), (34, .int .i64 X.length), (35, .int .i64 k)]) (fun k => [some (4, [.agg [.int .i64 K, .list 1 (X.map eI), .list 1 (A.map eI), .int .i64 C]])]) (fun k => X.length - k) 0 ⟨by omega, by omega⟩ ⟨[0], by decide, rfl, ?_, ?_⟩ ?_
  · simp +contextual -implicitDefEqProofs (maxSteps := 1000000) only [sm, sn, sxx, seval]
  · simp +contextual -implicitDefEqProofs (maxSteps := 1000000) only [sm, sn, sxx, seval, Int.natCast_zero]
  · rintro k ⟨hk, hok⟩
    by_cases hlt : k < X.length
    · obtain ⟨x, hx⟩ : ∃ r, X[k]? = some r := ⟨_, List.getElem?_eq_getElem hlt⟩
      have hlt' : (k : Int) < (X.length : Int) := by omega
      have e2 : IntKind.i64.wrap ((k : Int) + 1) = ((k + 1 : Nat) : Int) := by rw [wrap_i64] <;> omega
      by_cases hxp : x = p
      · simp +contextual -implicitDefEqProofs (maxSteps := 1000000) only [sm, sn, sxx, seval, hlt', hx, hxp]
      · simp +contextual -implicitDefEqProofs (maxSteps := 1000000) only [sm, sn, sxx, seval, hlt', hx, hxp, e2]
        refine ⟨k + 1, ⟨by omega, ?_⟩, by omega, [0], by decide, rfl, ?_, ?_⟩
        · intro j y hj hy
          rcases Nat.lt_succ_iff_lt_or_eq.1 hj with h | rfl
          · first | exact hok j y h hy | simpa using hok j y h hy
          · rw [hx] at hy; injection hy with hy; subst hy; simp [hxp]
        · simp +contextual -implicitDefEqProofs (maxSteps := 1000000) only [sm, sn, sxx, seval]
        · simp +contextual -implicitDefEqProofs (maxSteps := 1000000) only [sm, sn, sxx, seval]
    · have hke : k = X.length := by omega
      subst hke
      have hall := listall_yes hok
      have hx : ∀ x ∈ X, x ≠ ((p.toNat : Nat) : Int) := fun x hx e => by
        have h0 := List.all_eq_true.1 hall x hx
        have e2 : x = p := by omega
        simp [e2] at h0
      obtain ⟨k1, k2⟩ := few_ask (c := (K, X, A, C)) (a := a) v hx
      simp only at k1 k2
      have hb : (askdB (K, X, A, C) (a.set p.toNat v) && holdsB (K, X, A, C) (valsOf X (a.set p.toNat v))) = (askdB (K, X, A, C) a && holdsB (K, X, A, C) (valsOf X a)) := by
        rw [k1]
        cases hq : askdB (K, X, A, C) a
        · rfl
        · rw [k2 hq]
      have h3 := sense_Holds (K, X, A, C) a (by simp only; omega) (by simp only; omega) (by omega)
      have h4 := sense_Holds (K, X, A, C) (a.set p.toNat v) (by simp only; omega) (by simp only; omega) (by rw [List.length_set]; omega)
      simp only at h3 h4
      rw [hb] at h4
      generalize (askdB (K, X, A, C) a && holdsB (K, X, A, C) (valsOf X a)) = hq at h3 h4
      have c1 : a.length * 8 ≤ 140737488355328 := by omega
      have c2 : a.length ≤ maxLen := by unfold maxLen; omega
      have p0' : 0 ≤ p := by omega
      have pn : p.toNat < a.length := by omega
      have hga := xat_get (X := a) (i := p.toNat) pn
      have hsl : (a.set p.toNat v).length = a.length := List.length_set
      have hst : List.take a.length ((a.set p.toNat v).map eI) = (a.set p.toNat v).map eI := by rw [← hsl]; exact take_map _ _
      have hse : (a.map eI).set p.toNat (.int .i64 v) = (a.set p.toNat v).map eI := by rw [List.map_set]; rfl
      simp +contextual -implicitDefEqProofs (maxSteps := 1000000) only [sm, sn, sxx, seval, Int.lt_irrefl, c1, c2, p0', pn, hga, hse, eCon, eIs]
      refine callV_rule h3 (by simp +contextual -implicitDefEqProofs (maxSteps := 1000000) only [sm, sn, sxx, seval, eCon, eIs]) rfl ?_
      simp +contextual -implicitDefEqProofs (maxSteps := 1000000) only [sm, sn, sxx, seval]
      refine callV_rule h4 (by simp +contextual -implicitDefEqProofs (maxSteps := 1000000) only [sm, sn, sxx, seval, eCon, eIs, hsl, hst]) rfl ?_
      cases hq <;> simp +contextual -implicitDefEqProofs (maxSteps := 1000000) only [sm, sn, sxx, seval, beq_tt, beq_ff]
end Go.Proofs.Ytfcphijidcfboaa
