/- What the reference's store computes: Push, Pop, Changed. -/
import Derived.Test.YtbmcjhjbifojnaaWRef10
namespace Go.Proofs.Ytbmcjhjbifojnaa
open Av
attribute [local irreducible] awp awpOpers
set_option linter.unusedSimpArgs false
set_option linter.unusedVariables false
set_option maxRecDepth 100000
set_option maxHeartbeats 4000000
theorem ref10_Push_big (D : List (List Rg)) (W : List (List (List Rg))) (F : List Bool) (h : 512 ≤ W.length) : Ctr Try.prog 14 [eSt D W F] [] (.tuple [eSt D W F, .int .i64 3]) [] := by
  refine call_pure Try.func14 Try.call14 e_ref10_Push ?_
  have h' : (512 : Int) ≤ (W.length : Int) := by omega
  simp +contextual -implicitDefEqProofs (maxSteps := 1000000) only [c_ref10_Push, eSt_eq, sm, sn, sxx, smp, seval, h', ge_iff_le, flatL_Doms, flatL_Bo]
theorem ref10_Push (D : List (List Rg)) (W : List (List (List Rg))) (F : List Bool) (h : W.length < 512) : Ctr Try.prog 14 [eSt D W F] [] (.tuple [eSt D (W ++ [D]) F, .int .i64 0]) [] := by
  refine call_pure Try.func14 Try.call14 e_ref10_Push ?_
  have h' : ¬ (512 : Int) ≤ (W.length : Int) := by omega
  simp +contextual -implicitDefEqProofs (maxSteps := 1000000) only [c_ref10_Push, eSt_eq, sm, sn, sxx, smp, seval, h', ge_iff_le, flatL_Doms, flatL_Bo]
  refine loop_ruleV [(4, 1)] (fun k : Nat => k ≤ W.length) (fun k => tm 34 [(1, .ptr 3 0 0 0), (2, .ptr 3 1 0 0), (4, .sl 1 2 0 k), (5, .int .i64 k)]) (fun k => [some (3, [eSt D W F]), some (3, [.agg [.nils, .nils, .nils]]), some (1, (W.take k).map eDoms)]) (fun k => W.length - k) 0 (by simp +contextual -implicitDefEqProofs (maxSteps := 1000000) only [sm, sn, sxx, smp, seval]) (Nat.zero_le _) ⟨[0, 1, 2], by decide, rfl, ?_, ?_⟩ ?_
  · simp +contextual -implicitDefEqProofs (maxSteps := 1000000) only [sm, sn, sxx, smp, seval, eSt_eq, flatL_Doms, flatL_Bo]
  · simp +contextual -implicitDefEqProofs (maxSteps := 1000000) only [sm, sn, sxx, smp, seval, Int.natCast_zero, eSt_eq, flatL_Doms, flatL_Bo]
  · intro k hk
    have htl : (W.take k).length = k := by rw [List.length_take]; omega
    by_cases hlt : k < W.length
    · obtain ⟨E, hE⟩ : ∃ E, W[k]? = some E := ⟨_, List.getElem?_eq_getElem hlt⟩
      have hlt' : (k : Int) < (W.length : Int) := by omega
      have e2 : IntKind.i64.wrap ((k : Int) + 1) = ((k + 1 : Nat) : Int) := by rw [wrap_i64] <;> omega
      have htk : W.take k ++ [E] = W.take (k + 1) := by rw [List.take_add_one, hE]; rfl
      have c1 : (k + 1) * 24 ≤ 140737488355328 := by omega
      have c2 : k + 1 ≤ maxLen := by unfold maxLen; omega
      simp +contextual -implicitDefEqProofs (maxSteps := 1000000) only [sm, sn, sxx, smp, seval, hlt', eSt_eq, hlt, hE, om_Doms, htl, c1, c2, snoc_Doms, htk, e2]
      refine ⟨k + 1, by omega, by omega, [0, 1, 3], by decide, rfl, ?_, ?_⟩
      · simp +contextual -implicitDefEqProofs (maxSteps := 1000000) only [sm, sn, sxx, smp, seval, eSt_eq, flatL_Doms, flatL_Bo]
      · simp +contextual -implicitDefEqProofs (maxSteps := 1000000) only [sm, sn, sxx, smp, seval, eSt_eq]
    · have hkn : k = W.length := by omega
      subst hkn
      have c1 : (W.length + 1) * 24 ≤ 140737488355328 := by omega
      have c2 : W.length + 1 ≤ maxLen := by unfold maxLen; omega
      have ht2 : ((W ++ [D]).map eDoms).take (W.length + 1) = (W ++ [D]).map eDoms := List.take_of_length_le (by simp)
      simp +contextual -implicitDefEqProofs (maxSteps := 1000000) only [sm, sn, sxx, smp, seval, Int.lt_irrefl, eSt_eq, List.take_length, c1, c2, snoc_Doms, flatL_Doms, flatL_Bo, ht2, Nat.le_refl]
theorem ref10_Pop_none (D : List (List Rg)) (F : List Bool) : Ctr Try.prog 16 [eSt D [] F] [] (.tuple [eSt D [] F, .int .i64 11]) [] := by
  refine call_pure Try.func16 Try.call16 e_ref10_Pop ?_
  simp +contextual -implicitDefEqProofs (maxSteps := 1000000) only [c_ref10_Pop, eSt_eq, sm, sn, sxx, smp, seval, flatL_Doms, flatL_Bo, Int.natCast_zero]
theorem ref10_Pop (D : List (List Rg)) (W : List (List (List Rg))) (F : List Bool) (q : Nat) (E : List (List Rg)) (hq : W.length = q + 1) (hE : W[q]? = some E) (hb : W.length ≤ 1000000000000) (hEl : E.length ≤ 1000000000000) :
    Ctr Try.prog 16 [eSt D W F] [] (.tuple [eSt E (W.take q) (List.replicate E.length false), .int .i64 0]) [] := by
  refine call_pure Try.func16 Try.call16 e_ref10_Pop ?_
  have h0 : ¬ ((q + 1 : Nat) : Int) = 0 := by omega
  have e1 : IntKind.i64.wrap (((q + 1 : Nat) : Int) - 1) = (q : Int) := by rw [wrap_i64] <;> omega
  have q0 : (0 : Int) ≤ (q : Int) := by omega
  have q1 : q < W.length := by omega
  have q2 : q ≤ q + 1 := by omega
  have q3 : q ≤ W.length := by omega
  have ht : ((List.replicate E.length false).map eBo).take E.length = (List.replicate E.length false).map eBo := List.take_of_length_le (by simp)
  have htm : (W.map eDoms).take q = (W.take q).map eDoms := by rw [List.map_take]
  simp +contextual -implicitDefEqProofs (maxSteps := 1000000) only [c_ref10_Pop, eSt_eq, sm, sn, sxx, smp, seval, flatL_Doms, flatL_Bo, hq, h0, e1, q0, q1, q2, q3, hE, om_Doms, Nat.zero_le, Nat.sub_zero, htm]
  refine ⟨by omega, by omega, ?_⟩
  simp +contextual -implicitDefEqProofs (maxSteps := 1000000) only [sm, sn, sxx, smp, seval, rep_Bo, flatL_Bo, flatL_Doms, List.length_replicate, Nat.le_refl, ht]
def chgI : Nat → List Bool → List Int
  | _, [] => []
  | k, b :: l => match b with
    | true => (k : Int) :: chgI (k + 1) l
    | false => chgI (k + 1) l
theorem ref10_Changed (D : List (List Rg)) (W : List (List (List Rg))) (F : List Bool) (hF : F.length ≤ 1000000000000) (hD : D.length ≤ 1000000000000) :
    Ctr Try.prog 18 [eSt D W F] [] (.tuple [eSt D W (List.replicate D.length false), .list 1 ((chgI 0 F).map eI)]) [] := by
  refine call_pure Try.func18 Try.call18 e_ref10_Changed ?_
  simp +contextual -implicitDefEqProofs (maxSteps := 1000000) only [c_ref10_Changed, eSt_eq, sm, sn, sxx, smp, seval, flatL_Doms, flatL_Bo]
  refine loop_ruleV [(4, 1)] (fun b : Nat × List Int => b.1 ≤ F.length ∧ b.2.length ≤ b.1 ∧ b.2 ++ chgI b.1 (F.drop b.1) = chgI 0 F) (fun b => tm 29 [(1, .ptr 3 0 0 0), (2, .ptr 3 1 0 0), (4, .sl 1 2 0 b.2.length), (5, .int .i64 b.1)]) (fun b => [some (3, [eSt D W F]), some (3, [.agg [.nils, .nils, .nils]]), some (1, b.2.map eI)]) (fun b => F.length - b.1) (0, []) (by simp +contextual -implicitDefEqProofs (maxSteps := 1000000) only [sm, sn, sxx, smp, seval]) ⟨by simp, by simp, by simp⟩ ⟨[0, 1, 2], by decide, rfl, ?_, ?_⟩ ?_
  · simp +contextual -implicitDefEqProofs (maxSteps := 1000000) only [sm, sn, sxx, smp, seval, eSt_eq, flatL_Doms, flatL_Bo]
  · simp +contextual -implicitDefEqProofs (maxSteps := 1000000) only [sm, sn, sxx, smp, seval, Int.natCast_zero, eSt_eq, flatL_Doms, flatL_Bo]
  · rintro ⟨k, acc⟩ ⟨hk, hacc, hgo⟩
    simp only at hk hacc hgo
    by_cases hlt : k < F.length
    · obtain ⟨b, hb⟩ : ∃ b, F[k]? = some b := ⟨_, List.getElem?_eq_getElem hlt⟩
      have hd := drop_at hb
      have hlt' : (k : Int) < (F.length : Int) := by omega
      have e2 : IntKind.i64.wrap ((k : Int) + 1) = ((k + 1 : Nat) : Int) := by rw [wrap_i64] <;> omega
      have c1 : (acc.length + 1) * 8 ≤ 140737488355328 := by omega
      have c2 : acc.length + 1 ≤ maxLen := by unfold maxLen; omega
      rw [hd] at hgo
      cases b
      · simp +contextual -implicitDefEqProofs (maxSteps := 1000000) only [sm, sn, sxx, smp, seval, hlt', eSt_eq, hlt, hb, om_Bo, e2]
        refine ⟨(k + 1, acc), ⟨by (try dsimp only); omega, by (try dsimp only); omega, by simpa [chgI] using hgo⟩, by (try dsimp only); omega, [0, 1, 2], by decide, rfl, ?_, ?_⟩
        · simp +contextual -implicitDefEqProofs (maxSteps := 1000000) only [sm, sn, sxx, smp, seval, eSt_eq, flatL_Doms, flatL_Bo]
        · simp +contextual -implicitDefEqProofs (maxSteps := 1000000) only [sm, sn, sxx, smp, seval, eSt_eq]
      · simp +contextual -implicitDefEqProofs (maxSteps := 1000000) only [sm, sn, sxx, smp, seval, hlt', eSt_eq, hlt, hb, om_Bo, c1, c2, e2]
        refine ⟨(k + 1, acc ++ [(k : Int)]), ⟨by (try dsimp only); omega, by simp; omega, by simpa [chgI] using hgo⟩, by (try dsimp only); omega, [0, 1, 3], by decide, rfl, ?_, ?_⟩
        · simp +contextual -implicitDefEqProofs (maxSteps := 1000000) only [sm, sn, sxx, smp, seval, eSt_eq, flatL_Doms, flatL_Bo]
        · simp +contextual -implicitDefEqProofs (maxSteps := 1000000) only [sm, sn, sxx, smp, seval, eSt_eq]
    · have hkn : k = F.length := by omega
      subst hkn
      have hgo : acc = chgI 0 F := by rw [← hgo, List.drop_length]; simp [chgI]
      subst hgo
      have ht : ((List.replicate D.length false).map eBo).take D.length = (List.replicate D.length false).map eBo := List.take_of_length_le (by simp)
      have ht2 : ((chgI 0 F).map eI).take (chgI 0 F).length = (chgI 0 F).map eI := List.take_of_length_le (by simp)
      simp +contextual -implicitDefEqProofs (maxSteps := 1000000) only [sm, sn, sxx, smp, seval, Int.lt_irrefl, eSt_eq, flatL_Doms, flatL_Bo]
      refine ⟨by omega, by omega, ?_⟩
      simp +contextual -implicitDefEqProofs (maxSteps := 1000000) only [sm, sn, sxx, smp, seval, rep_Bo, flatL_Bo, flatL_Doms, List.length_replicate, Nat.le_refl, ht, ht2]
end Go.Proofs.Ytbmcjhjbifojnaa
