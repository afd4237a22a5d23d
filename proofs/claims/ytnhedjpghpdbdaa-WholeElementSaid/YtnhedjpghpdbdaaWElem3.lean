/- What elem.element.named, narrow, chosen compute. -/
import Derived.Test.YtnhedjpghpdbdaaWElem1
import Derived.Test.YtnhedjpghpdbdaaWElem2
import Derived.Test.YtnhedjpghpdbdaaWSetOf
import Derived.Test.YtnhedjpghpdbdaaWFrz
import Derived.Test.YtnhedjpghpdbdaaPlMod
namespace Go.Proofs.Ytnhedjpghpdbdaa
open Av
attribute [local irreducible] awp awpOpers
set_option linter.unusedSimpArgs false
set_option linter.unusedVariables false
set_option maxRecDepth 100000
set_option maxHeartbeats 4000000
theorem set_rowsE (D : List (List Rg)) (k : Nat) (r : List Rg) : (D.map eRgs).set k (.list 2 (r.map eRg)) = (D.set k r).map eRgs := by rw [List.map_set]; rfl
theorem set_OfO (l : List Rg) (hl : l.length ≤ 1000000000000) (hg : ∀ r ∈ l, r.1 ≤ r.2 ∧ InR r) : Ctr Try.prog 80 [.sl 2 0 0 l.length] [some (2, l.map eRg)] (.tuple [eRgs (mergeS (sortV l)), .int .i64 0]) [none] := by
  have t1 : List.take l.length (l.map eRg) = l.map eRg := take_map _ _
  refine ctr_frz [] [0] (ctr_more (bs := [none]) (set_Of l hl hg) rfl rfl) rfl ?_ ?_
  · intro k hk
    have : k = 0 := by simp at hk; omega
    subst this; simp
  · intro j v v' hv hv'
    have hj : j = 0 := by
      rcases Nat.lt_or_ge j 1 with h | h
      · omega
      · rw [List.getElem?_eq_none (by simpa using h)] at hv; cases hv
    subst hj
    injection hv with hv; injection hv' with hv'; subst hv; subst hv'
    right
    simp +contextual -implicitDefEqProofs (maxSteps := 1000000) only [sm, sn, sxx, seval, eRgs, killL, t1]
theorem elem_named (i r : Int) (L : List Ch) (D : List (List Rg)) (hi : 0 ≤ i ∧ i < D.length) (hr : 0 ≤ r ∧ r < D.length) (hd : ∀ d ∈ D, d.length ≤ 2000000) (hc : ∀ c ∈ L, c.2.length ≤ 2000000) (hL : L.length ≤ 1000000000000) :
    Ctr Try.prog 79 [.ptr 4 0 0 0] (elB i r L D) (.tuple []) (elB i r (L.filter (keepC (rowOf D i) (rowOf D r))) D) := by
  refine call_box Try.func79 Try.call79 e_elem_element_named ?_
  have hdel := delete_chs L i r D hi hr hd hc hL
  generalize L.filter (keepC (rowOf D i) (rowOf D r)) = K at hdel ⊢
  simp +contextual -implicitDefEqProofs (maxSteps := 1000000) only [c_elem_element_named, sm, sn, sxx, seval, elB_eq]
  refine callM_rule [3, 0, 1, 2] hdel (by decide) ?_ ?_ ?_ ?_ ?_ ?_
  · simp +contextual -implicitDefEqProofs (maxSteps := 1000000) only [sm, sn, sxx, seval, eCh_flat]
  · simp +contextual -implicitDefEqProofs (maxSteps := 1000000) only [sm, sn, sxx, seval]
    try rfl
  · simp +contextual -implicitDefEqProofs (maxSteps := 1000000) only [sm, sn, sxx, seval]
    try rfl
  · simp +contextual -implicitDefEqProofs (maxSteps := 1000000) only [sm, sn, sxx, seval]
  · simp +contextual -implicitDefEqProofs (maxSteps := 1000000) only [sm, sn, sxx, seval, eCh_flat]
  simp +contextual -implicitDefEqProofs (maxSteps := 1000000) only [sm, sn, sxx, seval, eCh_flat]
  refine ⟨[], [0, 1, 2], by decide, ?_⟩
  simp +contextual -implicitDefEqProofs (maxSteps := 1000000) only [sm, sn, sxx, seval, eCh_flat, elB_eq]
  try rfl
def idxE (K : List Ch) : List Rg := mergeS (sortV (K.map fun c => (c.1, c.1)))
def allE (K : List Ch) : List Rg := mergeS (sortV (K.flatMap fun c => c.2))
def narE (i r : Int) (K : List Ch) (D : List (List Rg)) : List (List Rg) :=
  (D.set i.toNat (idxE K)).set r.toNat (meetS (rowOf (D.set i.toNat (idxE K)) r) (allE K))
theorem flat_le {K : List Ch} (h : ∀ c ∈ K, c.2.length ≤ 2000000) : ∀ k, ((K.take k).flatMap fun c => c.2).length ≤ 2000000 * k
  | 0 => by simp
  | k + 1 => by
    have ih := flat_le h k
    rw [List.take_add_one, List.flatMap_append, List.length_append]
    cases hk : K[k]? with
    | none =>
      have : ((none : Option Ch).toList.flatMap fun c => c.2).length = 0 := rfl
      omega
    | some c =>
      have := h c (List.mem_of_getElem? hk)
      have e : ((some c).toList.flatMap fun c => c.2) = c.2 := by simp
      rw [e]
      omega
theorem merge_len {l : List Rg} (hg : ∀ r ∈ l, r.1 ≤ r.2 ∧ InR r) : (mergeS (sortV l)).length ≤ l.length := by
  have h := (mrgK_in (l := sortV l) (fun r hr => (hg r ((sortV_perm l).mem_iff.1 hr)).2) (sortV l).length (Nat.le_refl _)).1
  rw [mrgK_full, (sortV_perm l).length_eq] at h
  exact h
theorem elem_narrow (i r : Int) (L : List Ch) (D : List (List Rg)) (hi : 0 ≤ i ∧ i < D.length) (hr : 0 ≤ r ∧ r < D.length) (hd : ∀ d ∈ D, d.length ≤ 2000000) (hc : ∀ c ∈ L, c.2.length ≤ 2000000) (hL : L.length ≤ 500)
    (hk : ∀ c ∈ L, -1048576 ≤ c.1 ∧ c.1 ≤ 1048576) (hg : ∀ c ∈ L, ∀ q ∈ c.2, q.1 ≤ q.2 ∧ InR q) :
    Ctr Try.prog 35 [.ptr 4 0 0 0] (elB i r L D) (.tuple []) (elB i r (L.filter (keepC (rowOf D i) (rowOf D r))) (narE i r (L.filter (keepC (rowOf D i) (rowOf D r))) D)) := by
  refine call_box Try.func35 Try.call35 e_elem_element_narrow ?_
  have hnm := elem_named i r L D hi hr (fun d h => by have := hd d h; omega) (fun c h => by have := hc c h; omega) (by omega)
  have hKl : (L.filter (keepC (rowOf D i) (rowOf D r))).length ≤ 500 := by have := List.length_filter_le (keepC (rowOf D i) (rowOf D r)) L; omega
  have hKm : ∀ c ∈ L.filter (keepC (rowOf D i) (rowOf D r)), c ∈ L := fun c h => (List.mem_filter.1 h).1
  generalize L.filter (keepC (rowOf D i) (rowOf D r)) = K at hnm hKl hKm ⊢
  have hc' : ∀ c ∈ K, c.2.length ≤ 2000000 := fun c h => hc c (hKm c h)
  have hIl : (K.map fun c => ((c.1, c.1) : Rg)).length = K.length := List.length_map _
  have hIg : ∀ q ∈ K.map (fun c => ((c.1, c.1) : Rg)), q.1 ≤ q.2 ∧ InR q := by
    intro q hq
    obtain ⟨c, hcm, rfl⟩ := List.mem_map.1 hq
    have := hk c (hKm c hcm)
    unfold InR
    simp only
    omega
  have hRg : ∀ q ∈ K.flatMap (fun c => c.2), q.1 ≤ q.2 ∧ InR q := by
    intro q hq
    obtain ⟨c, hcm, hqc⟩ := List.mem_flatMap.1 hq
    exact hg c (hKm c hcm) q hqc
  have hRl := flat_le hc' K.length
  rw [List.take_length] at hRl
  have hO1 := set_OfO (K.map fun c => ((c.1, c.1) : Rg)) (by omega) hIg
  have hO2 := set_OfO (K.flatMap fun c => c.2) (by omega) hRg
  have hIs : ∀ (k : Nat) c, K[k]? = some c → (K.map fun c => ((c.1, c.1) : Rg))[k]? = some (c.1, c.1) := fun k c h => by rw [List.getElem?_map, h]; rfl
  have hidl : ∀ (j : Nat), j ≤ K.length → ((K.take j).flatMap fun c => c.2).length ≤ 1000000000 := fun j hj => by have := flat_le hc' j; omega
  simp +contextual -implicitDefEqProofs (maxSteps := 1000000) only [c_elem_element_narrow, sm, sn, sxx, seval, elB_eq]
  rw [← elB_eq]
  refine callM_rule [0, 1, 2] hnm (by decide) ?_ ?_ ?_ ?_ ?_ ?_
  · simp +contextual -implicitDefEqProofs (maxSteps := 1000000) only [sm, sn, sxx, seval, eCh_flat, elB_eq]
  · simp +contextual -implicitDefEqProofs (maxSteps := 1000000) only [sm, sn, sxx, seval, elB_eq]
  · simp +contextual -implicitDefEqProofs (maxSteps := 1000000) only [sm, sn, sxx, seval, elB_eq]
  · simp +contextual -implicitDefEqProofs (maxSteps := 1000000) only [sm, sn, sxx, seval, elB_eq]
  · simp +contextual -implicitDefEqProofs (maxSteps := 1000000) only [sm, sn, sxx, seval, eCh_flat, elB_eq]
  simp +contextual -implicitDefEqProofs (maxSteps := 1000000) only [sm, sn, sxx, seval, eCh_flat, elB_eq]
  refine loop_ruleV [(2, 2), (3, 2)] (fun k : Nat => k ≤ K.length) (fun k => tm 72 [(0, .ptr 4 0 0 0), (2, .sl 2 3 0 k), (3, .sl 2 4 0 ((K.take k).flatMap fun c => c.2).length), (13, .sl 2 1 0 K.length), (14, .int .i64 K.length), (15, .int .i64 k)])
    (fun k => [some (4, [.agg [.int .i64 i, .int .i64 r, .sl 2 1 0 K.length, .sl 1 2 0 D.length]]), some (2, K.map eCh), some (1, D.map eRgs), some (2, ((K.map fun c => ((c.1, c.1) : Rg)).take k).map eRg), some (2, ((K.take k).flatMap fun c => c.2).map eRg)]) (fun k => K.length - k) 0 (by simp +contextual -implicitDefEqProofs (maxSteps := 1000000) only [sm, sn, sxx, seval]) (Nat.zero_le _) ⟨[0, 1, 2, 3, 4], by decide, rfl, ?_, ?_⟩ ?_
  · simp +contextual -implicitDefEqProofs (maxSteps := 1000000) only [sm, sn, sxx, seval, eCh_flat, List.flatMap_nil]
  · simp +contextual -implicitDefEqProofs (maxSteps := 1000000) only [sm, sn, sxx, seval, Int.natCast_zero, List.take_zero, List.flatMap_nil]
  intro k hk0
  have hl1 : ((K.map fun c => ((c.1, c.1) : Rg)).take k).length = k := by rw [List.length_take]; omega
  have hb1 := hidl k hk0
  by_cases hlt : k < K.length
  · have hlt' : (k : Int) < (K.length : Int) := by omega
    have e2 : IntKind.i64.wrap ((k : Int) + 1) = ((k + 1 : Nat) : Int) := by rw [wrap_i64] <;> omega
    obtain ⟨⟨kk, s⟩, hx⟩ : ∃ c, K[k]? = some c := ⟨_, List.getElem?_eq_getElem hlt⟩
    have hsl := hc' _ (List.mem_of_getElem? hx)
    simp only at hsl
    have hs1 := take_snoc (hIs k _ hx)
    have hs1' : ((K.map fun c => ((c.1, c.1) : Rg)).take k).map eRg ++ [AV.agg [.int .i64 kk, .int .i64 kk]] = ((K.map fun c => ((c.1, c.1) : Rg)).take (k + 1)).map eRg := by rw [← hs1, List.map_append]; rfl
    have hR2 : ((K.take (k + 1)).flatMap fun c => c.2) = ((K.take k).flatMap fun c => c.2) ++ s := by
      rw [List.take_add_one, hx, List.flatMap_append]; simp
    have c1 : (k + 1) * 16 ≤ 140737488355328 := by omega
    have c2 : k + 1 ≤ maxLen := by unfold maxLen; omega
    generalize ((K.take k).flatMap fun c => c.2) = R at hb1 hR2 ⊢
    have c3 : (R.length + s.length) * 16 ≤ 140737488355328 := by omega
    have c4 : R.length + s.length ≤ maxLen := by unfold maxLen; omega
    have hs2 : R.map eRg ++ s.map eRg = (((K.take (k + 1)).flatMap fun c => c.2)).map eRg := by rw [hR2, List.map_append]
    have hl2 : ((K.take (k + 1)).flatMap fun c => c.2).length = R.length + s.length := by rw [hR2, List.length_append]
    simp +contextual -implicitDefEqProofs (maxSteps := 1000000) only [sm, sn, sxx, seval, hlt', hlt, hx, Option.map_some, eCh, hl1, c1, c2, c3, c4, hs1', hs2, e2]
    refine ⟨k + 1, by omega, by omega, [0, 1, 2, 6, 7], by decide, rfl, ?_, ?_⟩
    · simp +contextual -implicitDefEqProofs (maxSteps := 1000000) only [sm, sn, sxx, seval, eCh_flat]
    · simp +contextual -implicitDefEqProofs (maxSteps := 1000000) only [sm, sn, sxx, seval, hl2]
  · have hkn : k = K.length := by omega
    subst hkn
    have hI0 := hi.1
    have hR0 := hr.1
    have hin : i.toNat < D.length := by omega
    have hrn : r.toNat < D.length := by omega
    have t1 : (K.map fun c => ((c.1, c.1) : Rg)).take K.length = K.map fun c => ((c.1, c.1) : Rg) := by rw [← hIl, List.take_length]
    rw [List.take_length, t1]
    unfold narE idxE allE
    generalize (K.map fun c => ((c.1, c.1) : Rg)) = I at hIl hO1 hIg ⊢
    rw [← hIl]
    generalize (K.flatMap fun c => c.2) = R at hO2 hRl hRg ⊢
    obtain ⟨di, hdi⟩ : ∃ d, D[i.toNat]? = some d := ⟨_, List.getElem?_eq_getElem hin⟩
    simp +contextual -implicitDefEqProofs (maxSteps := 1000000) only [sm, sn, sxx, seval, Int.lt_irrefl, hI0]
    refine callM_rule [3] hO1 (by decide) ?_ ?_ ?_ ?_ ?_ ?_
    · simp +contextual -implicitDefEqProofs (maxSteps := 1000000) only [sm, sn, sxx, seval]
    · simp +contextual -implicitDefEqProofs (maxSteps := 1000000) only [sm, sn, sxx, seval]
    · simp +contextual -implicitDefEqProofs (maxSteps := 1000000) only [sm, sn, sxx, seval]
    · simp +contextual -implicitDefEqProofs (maxSteps := 1000000) only [sm, sn, sxx, seval, eRgs]
    · simp +contextual -implicitDefEqProofs (maxSteps := 1000000) only [sm, sn, sxx, seval]
    have hs1 := set_rowsE D i.toNat (mergeS (sortV I))
    have hD1 : (D.set i.toNat (mergeS (sortV I))).length = D.length := List.length_set
    have hr1 := row_get (D := D.set i.toNat (mergeS (sortV I))) (x := r) (by rw [hD1]; exact hr)
    have hl1 : (rowOf (D.set i.toNat (mergeS (sortV I))) r).length ≤ 2000000 := by
      rw [row_set hi.1 hi.2 hr.1]
      split
      · have := merge_len hIg; omega
      · have := hd _ (row_mem hr); omega
    have hl2 : (mergeS (sortV R)).length ≤ 1000000000 := by have := merge_len hRg; omega
    generalize mergeS (sortV I) = J at hs1 hD1 hr1 hl1 ⊢
    generalize mergeS (sortV R) = U at hO2 hl2 ⊢
    have hs2 := set_rowsE (D.set i.toNat J) r.toNat (meetS (rowOf (D.set i.toNat J) r) U)
    have hD2 : ((D.set i.toNat J).set r.toNat (meetS (rowOf (D.set i.toNat J) r) U)).length = D.length := by rw [List.length_set, hD1]
    generalize hDD : D.set i.toNat J = D1 at hs1 hD1 hr1 hl1 hs2 hD2 ⊢
    generalize rowOf D1 r = w at hr1 hl1 hs2 hD2 ⊢
    have hm := set_Meet w U (by omega) (by omega)
    generalize meetS w U = V at hm hs2 hD2 ⊢
    generalize hDE : D1.set r.toNat V = D2 at hs2 hD2 ⊢
    have hrn1 : r.toNat < D1.length := by omega
    simp +contextual -implicitDefEqProofs (maxSteps := 1000000) only [sm, sn, sxx, seval, eRgs, hI0, hin, hdi, hs1]
    refine callM_rule [4] hO2 (by decide) ?_ ?_ ?_ ?_ ?_ ?_
    · simp +contextual -implicitDefEqProofs (maxSteps := 1000000) only [sm, sn, sxx, seval]
    · simp +contextual -implicitDefEqProofs (maxSteps := 1000000) only [sm, sn, sxx, seval]
    · simp +contextual -implicitDefEqProofs (maxSteps := 1000000) only [sm, sn, sxx, seval]
    · simp +contextual -implicitDefEqProofs (maxSteps := 1000000) only [sm, sn, sxx, seval, eRgs]
    · simp +contextual -implicitDefEqProofs (maxSteps := 1000000) only [sm, sn, sxx, seval]
    simp +contextual -implicitDefEqProofs (maxSteps := 1000000) only [sm, sn, sxx, seval, eRgs, hR0, hrn, hrn1, hr1, hD1]
    refine callA_rule hm (by simp +contextual -implicitDefEqProofs (maxSteps := 1000000) only [sm, sn, sxx, seval, eRgs]) rfl ?_
    simp +contextual -implicitDefEqProofs (maxSteps := 1000000) only [sm, sn, sxx, seval, eRgs, hR0, hrn, hrn1, hr1, hD1, hs2]
    refine ⟨[], [0, 1, 2], by decide, ?_⟩
    simp +contextual -implicitDefEqProofs (maxSteps := 1000000) only [sm, sn, sxx, seval, eCh_flat, elB_eq, hD2, hIl]
    try rfl
end Go.Proofs.Ytnhedjpghpdbdaa
