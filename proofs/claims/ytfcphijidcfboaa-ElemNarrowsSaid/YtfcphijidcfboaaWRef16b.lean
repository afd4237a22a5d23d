/- What Narrow of package touchstoneref16 computes. -/
import Derived.Test.YtfcphijidcfboaaWRef16
namespace Go.Proofs.Ytfcphijidcfboaa
open Av
attribute [local irreducible] awp awpOpers
set_option linter.unusedSimpArgs false
set_option linter.unusedVariables false
set_option maxRecDepth 100000
set_option maxHeartbeats 4000000
theorem ref16_Narrow (c : Con) (D : List (List Rg)) (hD : D.length ≤ 1000000000000) (hd : ∀ d ∈ D, d.length ≤ 1000000000000) (hc : conFits c) :
    Ctr Try.prog 21 [eCon c, eDoms D] [] (.tuple [eDoms (elemL c D).1, .int .i64 (elemL c D).2]) [] := by
  obtain ⟨K, X, A, C⟩ := c
  refine call_pure Try.func21 Try.call21 e_ref16_Narrow ?_
  simp +contextual -implicitDefEqProofs (maxSteps := 1000000) only [c_ref16_Narrow, eCon, eIs, eDoms, sm, sn, sxx, seval]
  refine callA_rule (ref12_Fit (K, X, A, C) D hD hd hc) (by simp +contextual -implicitDefEqProofs (maxSteps := 1000000) only [sm, sn, sxx, seval, eCon, eIs, eDoms]) rfl ?_
  cases hm : fitB (K, X, A, C) D
  · have hm : modB (D, [(K, X, A, C)], 0, 0) = false := hm
    have hres : elemL (K, X, A, C) D = ([], 2) := by
      unfold elemL
      rw [if_neg (by simp [hm])]
    rw [hres]
    simp +contextual -implicitDefEqProofs (maxSteps := 1000000) only [sm, sn, sxx, seval, eDoms]
  have hm : modB (D, [(K, X, A, C)], 0, 0) = true := hm
  by_cases hK : K = 16
  · subst hK
    have hres : elemL (16, X, A, C) D = finE (narE (xat X 0) (lastV0 X) ((chsA A).filter (keepC (rowOf D (xat X 0)) (rowOf D (lastV0 X)))) D) := by
      unfold elemL
      rw [if_pos hm]
      rfl
    have hrn : rnarE 16 X (chsA A) D = narE (xat X 0) (lastV0 X) ((chsA A).filter (keepC (rowOf D (xat X 0)) (rowOf D (lastV0 X)))) D := by
      unfold rnarE
      rw [if_neg (by simp)]
    rw [hres]
    obtain ⟨hX2, hAl, hX32, hi, hr, hdm, hAk⟩ := tab_facts hm
    obtain ⟨hLl, hLc, hLk, hLg⟩ := chsA_facts hAl hAk
    have hn := ref16_narrow 16 X A C D (chsA A) hD (by omega) hi hr hdm hLl hLc hLk hLg (by rw [chsA_len]; exact ref16_choices 16 X A C A.length (by omega) (by omega) (.inl ⟨rfl, rfl⟩))
      (fun k v row h => by
        have hk : k < A.length := by have := (List.getElem?_eq_some_iff.1 h).1; rwa [chsA_len] at this
        rw [chsA_get hk] at h
        injection h with h
        injection h with h1 h2
        subst h1; subst h2
        exact ⟨rfl, ref16_choiceT X A C D k hk (by omega)⟩) (fun h => absurd rfl h)
    rw [hrn] at hn
    have hEl := narE_len (xat X 0) (lastV0 X) ((chsA A).filter (keepC (rowOf D (xat X 0)) (rowOf D (lastV0 X)))) D
    generalize narE (xat X 0) (lastV0 X) ((chsA A).filter (keepC (rowOf D (xat X 0)) (rowOf D (lastV0 X)))) D = E at hn hEl ⊢
    simp +contextual -implicitDefEqProofs (maxSteps := 1000000) only [sm, sn, sxx, seval, eCon, eIs]
    refine callA_rule hn (by simp +contextual -implicitDefEqProofs (maxSteps := 1000000) only [sm, sn, sxx, seval, eCon, eIs, eDoms]) rfl ?_
    simp +contextual -implicitDefEqProofs (maxSteps := 1000000) only [sm, sn, sxx, seval, eDoms]
    refine callA_rule (ref12_Done E (by omega)) (by simp +contextual -implicitDefEqProofs (maxSteps := 1000000) only [sm, sn, sxx, seval, eDoms]) rfl ?_
    unfold finE
    simp +contextual -implicitDefEqProofs (maxSteps := 1000000) only [sm, sn, sxx, seval, eDoms]
  by_cases hK7 : K = 17
  · subst hK7
    have hres : elemL (17, X, A, C) D = finE (choE X (xat X 0) (lastV0 X) (narE (xat X 0) (lastV0 X) ((chsX D ((X.take (X.length - 1)).drop 1)).filter (keepC (rowOf D (xat X 0)) (rowOf D (lastV0 X)))) D)) := by
      unfold elemL
      rw [if_pos hm]
      rfl
    obtain ⟨hX3, hA0, hX32, hI, hi, hr, hdm⟩ := var_facts hm
    obtain ⟨hLl, hLc, hLk, hLg⟩ := chsX_facts hX3 hX32 hI hdm
    have hvo := var_one (p := keepC (rowOf D (xat X 0)) (rowOf D (lastV0 X))) hX3 hX32 hI hi hr hdm
    have hml := mid_len hX3
    have hn := ref16_narrow 17 X A C D (chsX D ((X.take (X.length - 1)).drop 1)) hD (by omega) hi hr hdm hLl hLc hLk hLg (ref16_choices 17 X A C _ (by omega) (by omega) (.inr ⟨by decide, by rw [chsX_len, hml]; omega⟩))
      (fun k v row h => by
        have hk : k < X.length - 2 := by have := (List.getElem?_eq_some_iff.1 h).1; rwa [chsX_len, hml] at this
        rw [chsX_get (by rw [hml]; exact hk), mid_at hk, Nat.add_comm 1 k] at h
        injection h with h
        injection h with h1 h2
        subst h1; subst h2
        exact ⟨rfl, ref16_choiceV 17 X A C D k (by decide) (by omega) (hI (k + 1) (by omega))⟩) (fun _ E hE => by subst hE; exact hvo)
    have hEl := narE_len (xat X 0) (lastV0 X) ((chsX D ((X.take (X.length - 1)).drop 1)).filter (keepC (rowOf D (xat X 0)) (rowOf D (lastV0 X)))) D
    have hEr := narE_right hi hr hdm (K := (chsX D ((X.take (X.length - 1)).drop 1)).filter (keepC (rowOf D (xat X 0)) (rowOf D (lastV0 X)))) (fun c h => hLk c (List.mem_filter.1 h).1) (fun c h => hLg c (List.mem_filter.1 h).1)
    have hrn : finE (rnarE 17 X (chsX D ((X.take (X.length - 1)).drop 1)) D) = elemL (17, X, A, C) D ∧ (rnarE 17 X (chsX D ((X.take (X.length - 1)).drop 1)) D).length = D.length := by
      rw [hres]
      unfold rnarE
      generalize narE (xat X 0) (lastV0 X) ((chsX D ((X.take (X.length - 1)).drop 1)).filter (keepC (rowOf D (xat X 0)) (rowOf D (lastV0 X)))) D = E at hEl hEr hvo ⊢
      split
      · exact ⟨rfl, by rw [choE_len, hEl]⟩
      · rename_i hw
        have hw : wholeB E = false := by
          cases hq : wholeB E
          · rfl
          · exact absurd ⟨hq, by decide⟩ hw
        have := cho_dead (X := X) (i := xat X 0) (r := lastV0 X) (E := E) (by omega) hEr (by omega) (fun a b => by have := (hvo a b).2; omega) hw
        refine ⟨?_, hEl⟩
        unfold finE
        rw [hw, this]
        rfl
    rw [← hrn.1]
    obtain ⟨-, hEl2⟩ := hrn
    generalize rnarE 17 X (chsX D ((X.take (X.length - 1)).drop 1)) D = E at hn hEl2 ⊢
    simp +contextual -implicitDefEqProofs (maxSteps := 1000000) only [sm, sn, sxx, seval, eCon, eIs]
    refine callA_rule hn (by simp +contextual -implicitDefEqProofs (maxSteps := 1000000) only [sm, sn, sxx, seval, eCon, eIs, eDoms]) rfl ?_
    simp +contextual -implicitDefEqProofs (maxSteps := 1000000) only [sm, sn, sxx, seval, eDoms]
    refine callA_rule (ref12_Done E (by omega)) (by simp +contextual -implicitDefEqProofs (maxSteps := 1000000) only [sm, sn, sxx, seval, eDoms]) rfl ?_
    unfold finE
    simp +contextual -implicitDefEqProofs (maxSteps := 1000000) only [sm, sn, sxx, seval, eDoms]
  have hres : elemL (K, X, A, C) D = ([], 10) := by
    unfold elemL
    rw [if_pos hm, if_neg hK, if_neg hK7]
  rw [hres]
  have k1 : (K = 16) = False := by simp [hK]
  have k2 : (K = 17) = False := by simp [hK7]
  simp +contextual -implicitDefEqProofs (maxSteps := 1000000) only [sm, sn, sxx, seval, eCon, eIs, eDoms, k1, k2]
theorem finE_size {E : List (List Rg)} (hd : ∀ d ∈ E, d.length ≤ 1000000000000) : (finE E).1.length ≤ E.length ∧ ∀ d ∈ (finE E).1, d.length ≤ 1000000000000 := by
  unfold finE
  cases wholeB E
  · exact ⟨by simp [tell], by simp [tell]⟩
  · exact ⟨Nat.le_refl _, hd⟩
theorem elem_small {c : Con} {D : List (List Rg)} (hD : D.length ≤ 1000000000000) (hd : ∀ d ∈ D, d.length ≤ 1000000000000) : (elemL c D).1.length ≤ 1000000000000 ∧ ∀ d ∈ (elemL c D).1, d.length ≤ 1000000000000 := by
  obtain ⟨K, X, A, C⟩ := c
  unfold elemL
  split
  · rename_i hm
    split
    · rename_i h; simp only at h; subst h
      obtain ⟨hX2, hAl, hX32, hi, hr, hdm, hAk⟩ := tab_facts hm
      obtain ⟨hLl, hLc, hLk, hLg⟩ := chsA_facts hAl hAk
      have hE := narE_right hi hr hdm (K := (chsA A).filter (keepC (rowOf D (xat X 0)) (rowOf D (lastV0 X)))) (fun c h => hLk c (List.mem_filter.1 h).1) (fun c h => hLg c (List.mem_filter.1 h).1)
      obtain ⟨g1, g2⟩ := finE_size (right_rows hE)
      rw [narE_len] at g1
      exact ⟨by simp only; omega, g2⟩
    · split
      · rename_i h; simp only at h; subst h
        obtain ⟨hX3, hA0, hX32, hI, hi, hr, hdm⟩ := var_facts hm
        obtain ⟨hLl, hLc, hLk, hLg⟩ := chsX_facts hX3 hX32 hI hdm
        have hE := narE_right hi hr hdm (K := (chsX D ((X.take (X.length - 1)).drop 1)).filter (keepC (rowOf D (xat X 0)) (rowOf D (lastV0 X)))) (fun c h => hLk c (List.mem_filter.1 h).1) (fun c h => hLg c (List.mem_filter.1 h).1)
        obtain ⟨g1, g2⟩ := finE_size (right_rows (choE_right (X := X) (i := xat X 0) (r := lastV0 X) hE))
        rw [choE_len, narE_len] at g1
        exact ⟨by simp only; omega, g2⟩
      · exact ⟨by simp, by simp⟩
  · exact ⟨by simp, by simp⟩
end Go.Proofs.Ytfcphijidcfboaa
