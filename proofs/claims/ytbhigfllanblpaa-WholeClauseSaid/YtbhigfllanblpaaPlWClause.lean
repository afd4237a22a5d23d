/- Plain law: an Or whose flag is set leaves what a Clause leaves. -/
import Derived.Test.YtbhigfllanblpaaPlLogic2
namespace Go.Proofs.Ytbhigfllanblpaa
open Av
attribute [local irreducible] awp awpOpers
set_option linter.unusedSimpArgs false
set_option linter.unusedVariables false
set_option linter.unusedSectionVars false
section
variable {D : List (List Rg)} {X : List Int} {f : Int}
theorem xat_app {i : Nat} (h : i < X.length) : xat (X ++ [f]) i = xat X i := by
  unfold xat
  rw [List.getElem?_append_left h]
theorem xat_end : xat (X ++ [f]) X.length = f := by
  unfold xat
  rw [List.getElem?_append_right (Nat.le_refl _)]
  simp
theorem or_clause {A : List Int} (hA : A.length = X.length) (h1 : ∀ i, i < X.length → xat A i = 1) (hT : Tri D X) (hf : lv (rowOf D f) = 1) : bothO D (X ++ [f]) 0 = clauseO D X A := by
  have hlen : (X ++ [f]).length - 1 = X.length := by simp
  have hat : ∀ i, i < X.length → atV D (X ++ [f]) i = atV D X i := fun i hi => by unfold atV; rw [xat_app hi]
  have hfl : atV D (X ++ [f]) X.length = 1 := by unfold atV; rw [xat_end]; exact hf
  have hso : ∀ v i, i < X.length → so D (X ++ [f]) v i = so D X v i := fun v i hi => by unfold so; rw [hat i hi]
  have c1 : cl (so D (X ++ [f]) (1 - 0)) X.length = cl (so D X 1) X.length := cl_congr fun i hi => hso 1 i hi
  have c0 : cl (so D (X ++ [f]) 0) X.length = cl (so D X 0) X.length := cl_congr fun i hi => hso 0 i hi
  have cn : cl (fun i => !so D (X ++ [f]) 0 i) X.length = cl (fun i => !so D X 0 i) X.length := cl_congr fun i hi => by rw [hso 0 i hi]
  have hset1 : setO D f 1 = some D := by unfold setO; rw [if_neg (by omega), if_pos hf]
  have hset0 : setO D f 0 = none := by unfold setO; rw [if_neg (by omega), if_neg (by omega)]
  have hfirst : firstO D (X ++ [f]) 0 = if 0 < (cl (so D X 1) X.length).1 then some D else if (cl (so D X 0) X.length).1 = (X.length : Int) then none else some D := by
    unfold firstO
    rw [hlen, c1, c0, xat_end]
    rw [show (1 - 0 : Int) = 1 from rfl, hset1, hset0]
  have hrest : restO D (X ++ [f]) 0 = if (cl (fun i => !so D X 0 i) X.length).1 = 0 then none else if (cl (fun i => !so D X 0 i) X.length).1 = 1 ∧ ¬ atV D (X ++ [f]) (cl (fun i => !so D X 0 i) X.length).2.toNat = 1 then setO D (xat (X ++ [f]) (cl (fun i => !so D X 0 i) X.length).2.toNat) 1 else some D := by
    unfold restO
    rw [hlen, hfl, if_neg (by decide), if_pos (by decide), cn]
    rfl
  have hcompl := cl_compl (so D X 0) X.length
  have hb := cl_bounds (fun i => !so D X 0 i) X.length
  rw [clause_eq]
  have hex : (∃ i, i < A.length ∧ atV D X i = (if 0 < xat A i then 1 else 0)) ↔ 0 < (cl (so D X 1) X.length).1 := by
    constructor
    · rintro ⟨i, hi, h⟩
      rw [hA] at hi
      rw [h1 i hi, if_pos (by omega)] at h
      exact cl_pos hi (by unfold so; simp [h])
    · intro h
      obtain ⟨j, hj, -, hp⟩ := cl_last _ h
      refine ⟨j, by omega, ?_⟩
      rw [h1 j hj, if_pos (by omega)]
      unfold so at hp
      simpa using hp
  unfold bothO
  rw [hfirst]
  by_cases k : 0 < (cl (so D X 1) X.length).1
  · rw [if_pos k, if_pos (hex.2 k)]
    show restO D (X ++ [f]) 0 = some D
    rw [hrest]
    obtain ⟨j, hj, -, hp⟩ := cl_last _ k
    have hp1 : atV D X j = 1 := by unfold so at hp; simpa using hp
    have hpn : (!so D X 0 j) = true := by unfold so; simp [hp1]
    have hpos := cl_pos (p := fun i => !so D X 0 i) hj hpn
    rw [if_neg (by omega)]
    by_cases k1 : (cl (fun i => !so D X 0 i) X.length).1 = 1
    · obtain ⟨j', hj', e, hp'⟩ := cl_last _ hpos
      have := cl_one _ k1 j j' hj hj' hpn hp'
      subst this
      rw [e, Int.toNat_natCast, hat j hj, if_neg (by rintro ⟨-, h⟩; exact h hp1)]
    · rw [if_neg (fun h => k1 h.1)]
  · rw [if_neg k, if_neg (fun h => k (hex.1 h))]
    have hno : ∀ i, i < X.length → ¬ atV D X i = 1 := fun i hi h => k (cl_pos hi (by unfold so; simp [h]))
    have hsame : cl (fun i => !so D X 0 i) X.length = cl (so D X 2) X.length := cl_congr fun i hi => by
      have := tri_lv (hT i hi)
      have h1 := hno i hi
      unfold so
      unfold atV at h1 ⊢
      rcases this with h | h | h
      · simp [h]
      · exact absurd h h1
      · simp [h]
    rw [hA]
    rw [hsame] at hrest hcompl hb
    by_cases k0 : (cl (so D X 2) X.length).1 = 0
    · rw [if_pos (by omega), if_pos k0]
    · rw [if_neg (by omega), if_neg k0]
      show restO D (X ++ [f]) 0 = _
      rw [hrest, if_neg k0]
      by_cases k1 : (cl (so D X 2) X.length).1 = 1
      · obtain ⟨j, hj, e, hp⟩ := cl_last (so D X 2) (n := X.length) (by omega)
        rw [if_pos k1, e, Int.toNat_natCast, hat j hj, xat_app hj, h1 j hj, if_pos ⟨k1, hno j hj⟩]
        rfl
      · rw [if_neg (fun h => k1 h.1), if_neg k1]
end
end Go.Proofs.Ytbhigfllanblpaa
