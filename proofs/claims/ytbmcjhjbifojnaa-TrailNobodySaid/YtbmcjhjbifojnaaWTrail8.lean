/- What the laws of layer 10 share: New at domains of which no store may be made; an act out of a row. -/
import Derived.Test.YtbmcjhjbifojnaaWTrail7
import Derived.Test.YtbmcjhjbifojnaaTyW
namespace Go.Proofs.Ytbmcjhjbifojnaa
open Av
attribute [local irreducible] awp awpOpers
set_option linter.unusedSimpArgs false
set_option linter.unusedVariables false
set_option maxRecDepth 100000
set_option maxHeartbeats 4000000
theorem om_Act (o : Option Act10) : o.map eAct = match o with | some (k, x, r) => some (.agg [.int .u8 k, .int .i64 x, .list 2 (r.map eRg)]) | none => none := by cases o <;> rfl
theorem newB_iff (D : List (List Rg)) : newB D = true ↔ D.length ≤ 64 ∧ ∀ r ∈ D, r ≠ [] ∧ rightB r = true := by
  unfold newB
  rw [Bool.and_eq_true, List.all_eq_true, decide_eq_true_eq]
  constructor
  · rintro ⟨h1, h2⟩
    refine ⟨h2, fun r hr => ?_⟩
    have := h1 r hr
    rw [Bool.and_eq_true] at this
    refine ⟨?_, this.1⟩
    rintro rfl
    simp at this
  · rintro ⟨h1, h2⟩
    refine ⟨fun r hr => ?_, h1⟩
    obtain ⟨k1, k2⟩ := h2 r hr
    rw [k2, Bool.true_and]
    cases r with
    | nil => exact absurd rfl k1
    | cons a l => simp
theorem New_none (D : List (List Rg)) (hd : ∀ r ∈ D, r.length ≤ 1000000000000) (h : newB D = false) : Ctr Try.prog 9 [eDoms D] [] .nilp [] := by
  by_cases hl : D.length ≤ 64
  · refine New_no D hl hd ?_
    refine Classical.byContradiction fun hn => ?_
    have : newB D = true := (newB_iff D).2 ⟨hl, fun r hr => ⟨fun e => hn ⟨r, hr, .inl e⟩, by
      cases hb : rightB r with
      | true => rfl
      | false => exact absurd ⟨r, hr, .inr hb⟩ hn⟩⟩
    rw [this] at h; cases h
  · exact New_big D (by omega)
theorem get_len (x : Int) {d : List (List Rg)} (hd : ∀ r ∈ d, r.length ≤ 1048577) : (if 0 ≤ x then d.getD x.toNat [] else []).length ≤ 9223372036854775807 := by
  split
  · rw [List.getD_eq_getElem?_getD]
    cases hx : d[x.toNat]? with
    | none => simp
    | some r => have := hd r (List.mem_of_getElem? hx); simp; omega
  · simp
end Go.Proofs.Ytbmcjhjbifojnaa
