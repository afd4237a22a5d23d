/- What elem.element.named computes. -/
import Derived.Test.YtnhedjpghpdbdaaPlElem
import Derived.Test.YtnhedjpghpdbdaaGSet
import Derived.Test.YtnhedjpghpdbdaaWClos
import Derived.Test.YtnhedjpghpdbdaaCElem
import Derived.Test.YtnhedjpghpdbdaaCElemD
namespace Go.Proofs.Ytnhedjpghpdbdaa
open Av
attribute [local irreducible] awp awpOpers
set_option linter.unusedSimpArgs false
set_option linter.unusedVariables false
set_option maxRecDepth 100000
set_option maxHeartbeats 4000000
theorem elem_named_1 (c : Ch) (i r : Int) (Lx : List AV) (D : List (List Rg)) (hi : 0 ≤ i ∧ i < D.length) (hr : 0 ≤ r ∧ r < D.length) (hd : ∀ d ∈ D, d.length ≤ 2000000) (hc : c.2.length ≤ 2000000) :
    Ctr Try.prog 114 [eCh c, .rptr [.rptr [.int .i64 i, .int .i64 r, .list 2 Lx, .list 1 (D.map eRgs)]]] [] (.bool (!keepC (rowOf D i) (rowOf D r) c)) [] := by
  obtain ⟨k, s⟩ := c
  simp only at hc
  have hri := row_get hi
  have hrr := row_get hr
  have hli := hd _ (row_mem hi)
  have hlr := hd _ (row_mem hr)
  have i0 := hi.1
  have r0 := hr.1
  unfold keepC
  simp only
  generalize rowOf D i = ri at hri hli ⊢
  generalize rowOf D r = rr at hrr hlr ⊢
  refine call_pure Try.func114 Try.call114 e_elem_element_named_1 ?_
  simp +contextual -implicitDefEqProofs (maxSteps := 1000000) only [c_elem_element_named_1, eCh, sm, sn, sxx, seval, hri, i0]
  refine callA_rule (set_Has ri k (by omega)) (by simp +contextual -implicitDefEqProofs (maxSteps := 1000000) only [sm, sn, sxx, seval, eRgs]) rfl ?_
  cases hh : hasB ri k
  · simp +contextual -implicitDefEqProofs (maxSteps := 1000000) only [sm, sn, sxx, seval]
    try rfl
  · simp +contextual -implicitDefEqProofs (maxSteps := 1000000) only [sm, sn, sxx, seval, hrr, r0]
    refine callA_rule (set_Meet s rr (by omega) (by omega)) (by simp +contextual -implicitDefEqProofs (maxSteps := 1000000) only [sm, sn, sxx, seval, eRgs]) rfl ?_
    by_cases h0 : (meetS s rr).length = 0
    · have h0' : ((meetS s rr).length : Int) = 0 := by omega
      rw [decide_eq_true h0]
      simp +contextual -implicitDefEqProofs (maxSteps := 1000000) only [sm, sn, sxx, seval, eRgs, h0']
      try rfl
    · have h0' : ¬ ((meetS s rr).length : Int) = 0 := by omega
      rw [decide_eq_false h0]
      simp +contextual -implicitDefEqProofs (maxSteps := 1000000) only [sm, sn, sxx, seval, eRgs, h0']
      try rfl
theorem index_chs (l : List Ch) (hl : l.length ≤ 1000000000000) (g : Nat) (caps : List AV) (hcf : flatL caps = true) (p : Ch → Bool) (hg : ∀ c ∈ l, Ctr Try.prog g (eCh c :: caps) [] (.bool (p c)) []) :
    Ctr Try.prog 132 [.list 2 (l.map eCh), .fn (.func g) caps] [] (.int .i64 (idxV p l)) [] := by
  refine call_pure Try.func132 Try.call132 e_slices_IndexFunc_selem_choice_elem_choice ?_
  simp +contextual -implicitDefEqProofs (maxSteps := 1000000) only [c_slices_IndexFunc_selem_choice_elem_choice, sm, sn, sxx, seval]
  refine loop_rule (fun k : Nat => k ≤ l.length ∧ ∀ (j : Nat) x, j < k → l[j]? = some x → p x = false) (fun k => tm 19 [(0, .list 2 (l.map eCh)), (1, .fn (.func g) caps), (7, .int .i64 l.length), (8, .int .i64 k)]) (fun _ => []) (fun k => l.length - k) 0 ⟨by omega, by omega⟩ ⟨[], by decide, rfl, trivial, ?_⟩ ?_
  · simp +contextual -implicitDefEqProofs (maxSteps := 1000000) only [tm, sm, sn, sxx, seval, hcf]
    simp
    try exact ⟨caps_ok 0 hcf, caps_ren [] hcf⟩
  · rintro k ⟨hk, hok⟩
    by_cases hlt : k < l.length
    · obtain ⟨x, hx⟩ : ∃ r, l[k]? = some r := ⟨_, List.getElem?_eq_getElem hlt⟩
      have hlt' : (k : Int) < (l.length : Int) := by omega
      simp +contextual -implicitDefEqProofs (maxSteps := 1000000) only [sm, sn, sxx, seval, hlt', hx, hcf, Option.map_some, eCh]
      refine callA_ruleC (caps := caps) (args' := eCh x :: caps) (hg _ (List.mem_of_getElem? hx)) ?_ ?_ ?_
      · exact wkL_refl (eCh x :: caps)
      · rw [flatL_app, hcf]; rfl
      cases hp : p x
      · have e2 : IntKind.i64.wrap ((k : Int) + 1) = ((k + 1 : Nat) : Int) := by rw [wrap_i64] <;> omega
        simp +contextual -implicitDefEqProofs (maxSteps := 1000000) only [sm, sn, sxx, seval, e2]
        refine ⟨k + 1, ⟨by omega, ?_⟩, by omega, [], by decide, rfl, trivial, ?_⟩
        · intro j y hj hy
          rcases Nat.lt_succ_iff_lt_or_eq.1 hj with h | rfl
          · exact hok j y h hy
          · rw [hx] at hy; injection hy with hy; subst hy; exact hp
        · simp +contextual -implicitDefEqProofs (maxSteps := 1000000) only [tm, sm, sn, sxx, seval, hcf]
          try simp
          try exact ⟨caps_ok 0 hcf, caps_ren [] hcf⟩
      · simp +contextual -implicitDefEqProofs (maxSteps := 1000000) only [sm, sn, sxx, seval]
        exact idxV_some hx hp hok
    · have : k = l.length := by omega
      subst this
      simp +contextual -implicitDefEqProofs (maxSteps := 1000000) only [sm, sn, sxx, seval, Int.lt_irrefl]
      exact idxV_none (fun j x hj => hok j x (List.getElem?_eq_some_iff.1 hj).1 hj)
theorem delete_chs (L : List Ch) (i r : Int) (D : List (List Rg)) (hi : 0 ≤ i ∧ i < D.length) (hr : 0 ≤ r ∧ r < D.length) (hd : ∀ d ∈ D, d.length ≤ 2000000) (hc : ∀ c ∈ L, c.2.length ≤ 2000000) (hL : L.length ≤ 1000000000000) :
    Ctr Try.prog 113 [.sl 2 2 0 L.length, .fn (.func 114) [.ptr 1 0 0 0]] [some (1, [.ptr 4 1 0 0]), some (4, [.agg [.int .i64 i, .int .i64 r, .sl 2 2 0 L.length, .sl 1 3 0 D.length]]), some (2, L.map eCh), some (1, D.map eRgs)] (.sl 2 2 0 (L.filter (keepC (rowOf D i) (rowOf D r))).length) [some (1, [.ptr 4 1 0 0]), some (4, [.agg [.int .i64 i, .int .i64 r, .sl 2 2 0 L.length, .sl 1 3 0 D.length]]), some (2, (L.filter (keepC (rowOf D i) (rowOf D r))).map eCh), some (1, D.map eRgs)] := by
  refine call_box Try.func113 Try.call113 e_slices_DeleteFunc_selem_choice_elem_choice ?_
  have hg : ∀ (Lx : List AV) (c : Ch), c ∈ L → Ctr Try.prog 114 [eCh c, .rptr [.rptr [.int .i64 i, .int .i64 r, .list 2 Lx, .list 1 (D.map eRgs)]]] [] (.bool (!keepC (rowOf D i) (rowOf D r) c)) [] := fun Lx c h => elem_named_1 c i r Lx D hi hr hd (hc c h)
  generalize keepC (rowOf D i) (rowOf D r) = p at hg ⊢
  have hfl := eCh_flat L
  have hfd : flatL (D.map eRgs) = true := by
    have : ∀ D : List (List Rg), flatL (D.map eRgs) = true := by
      intro D
      induction D with
      | nil => rfl
      | cons a D ih => rw [List.map_cons]; simp only [flatL, ih, Bool.and_true]; rfl
    exact this D
  have hI := index_chs L hL 114 [.rptr [.rptr [.int .i64 i, .int .i64 r, .list 2 (L.map eCh), .list 1 (D.map eRgs)]]] rfl (fun c => !p c) (fun c h => hg (L.map eCh) c h)
  have ht1 : List.take L.length (L.map eCh) = L.map eCh := take_map _ _
  have ht2 : List.take D.length (D.map eRgs) = D.map eRgs := take_map _ _
  simp +contextual -implicitDefEqProofs (maxSteps := 1000000) only [c_slices_DeleteFunc_selem_choice_elem_choice, sm, sn, sxx, seval]
  refine callV_rule hI (by simp +contextual -implicitDefEqProofs (maxSteps := 1000000) only [sm, sn, sxx, seval, ht1, ht2, hfl, hfd]) rfl ?_
  by_cases hall : ∃ k : Nat, ∃ c : Ch, L[k]? = some c ∧ p c = false
  · obtain ⟨k0, ⟨c0, hk0, hp0⟩, hno⟩ := least_ofE hall
    have hno' : ∀ (j : Nat) c, j < k0 → L[j]? = some c → p c = true := fun j c hj h => by
      cases hq : p c
      · exact absurd ⟨c, h, hq⟩ (hno j hj)
      · rfl
    have hidx : idxV (fun c => !p c) L = (k0 : Int) := idxV_some hk0 (by simp [hp0]) fun j x hj hx => by simp [hno' j x hj hx]
    rw [hidx]
    have hk0l := (List.getElem?_eq_some_iff.1 hk0).1
    have e1 : IntKind.i64.wrap ((k0 : Int) + 1) = ((k0 + 1 : Nat) : Int) := by rw [wrap_i64] <;> omega
    have hne : ¬ (k0 : Int) = -1 := by omega
    have hke : kept p L k0 = L.take k0 := kept_all (by omega) hno'
    have hk1 : (kept p L (k0 + 1)).length = k0 := by rw [kept_no hk0 hp0, hke, List.length_take]; omega
    have hc1 : contC p L (k0 + 1) = L := by
      rw [cont_no hk0 hp0]
      unfold contC
      rw [hke, List.length_take, show min k0 L.length = k0 by omega, List.take_append_drop]
    clear hI
    simp +contextual -implicitDefEqProofs (maxSteps := 1000000) only [sm, sn, sxx, seval, hne, e1]
    refine loop_rule (fun j : Nat => k0 < j ∧ j ≤ L.length) (fun j => tm 42 [(0, .sl 2 2 0 L.length), (1, .fn (.func 114) [.ptr 1 0 0 0]), (5, .int .i64 (kept p L j).length), (6, .int .i64 j)])
      (fun j => [some (1, [.ptr 4 1 0 0]), some (4, [.agg [.int .i64 i, .int .i64 r, .sl 2 2 0 L.length, .sl 1 3 0 D.length]]), some (2, (contC p L j).map eCh), some (1, D.map eRgs)]) (fun j => L.length - j) (k0 + 1) ⟨by omega, by omega⟩ ⟨[0, 1, 2, 3], by decide, rfl, ?_, ?_⟩ ?_
    · simp +contextual -implicitDefEqProofs (maxSteps := 1000000) only [sm, sn, sxx, seval, hc1, eCh_flat]
    · simp +contextual -implicitDefEqProofs (maxSteps := 1000000) only [sm, sn, sxx, seval, hk1]
    rintro j ⟨hj0, hj⟩
    have hcl := cont_len p L j hj
    have hkl := kept_le p L j hj
    by_cases hlt : j < L.length
    · have hlt' : (j : Int) < (L.length : Int) := by omega
      have e2 : IntKind.i64.wrap ((j : Int) + 1) = ((j + 1 : Nat) : Int) := by rw [wrap_i64] <;> omega
      obtain ⟨⟨kk, s⟩, hx⟩ : ∃ c, L[j]? = some c := ⟨_, List.getElem?_eq_getElem hlt⟩
      have hcat := cont_at (p := p) hx
      have hgc := hg ((contC p L j).map eCh) (kk, s) (List.mem_of_getElem? hx)
      have ht3 : List.take L.length ((contC p L j).map eCh) = (contC p L j).map eCh := by rw [← hcl]; exact take_map _ _
      have hle3 : L.length ≤ (contC p L j).length := by omega
      have hne2 := cont_no (p := p) hx
      have hst2 := cont_set (p := p) hx
      have hkn2 := kept_no (p := p) hx
      have hky2 := kept_yes (p := p) hx
      generalize hCC : contC p L j = CC at hcl hcat hgc ht3 hle3 hne2 hst2 ⊢
      have hcf := eCh_flat CC
      simp +contextual -implicitDefEqProofs (maxSteps := 1000000) only [sm, sn, sxx, seval, hlt', hlt, hcat, hcl, Option.map_some, eCh]
      refine callV_ruleC hgc (by simp +contextual -implicitDefEqProofs (maxSteps := 1000000) only [sm, sn, sxx, seval, eCh, ht3, hle3, hcl, hcf, ht2, hfd]) rfl ?_
      cases hp : p (kk, s)
      · have hn2 := hne2 hp
        have hk2 := hkn2 hp
        simp +contextual -implicitDefEqProofs (maxSteps := 1000000) only [sm, sn, sxx, seval, e2]
        refine ⟨j + 1, ⟨by omega, by omega⟩, by omega, [0, 1, 2, 3], by decide, rfl, ?_, ?_⟩
        · simp +contextual -implicitDefEqProofs (maxSteps := 1000000) only [sm, sn, sxx, seval, hn2, eCh_flat]
        · simp +contextual -implicitDefEqProofs (maxSteps := 1000000) only [sm, sn, sxx, seval, hk2]
      · have hs2 := hst2 hp
        have hk2 := hky2 hp
        have hkl2 : (kept p L (j + 1)).length = (kept p L j).length + 1 := by rw [hk2]; simp
        have hs3 : (CC.map eCh).set (kept p L j).length (.agg [.int .i64 kk, .list 2 (s.map eRg)]) = (contC p L (j + 1)).map eCh := by rw [← hs2, List.map_set]; rfl
        generalize hii : (kept p L j).length = ii at hkl hkl2 hs3 ⊢
        have hi1 : ii < L.length := by omega
        have hi2 : ii < CC.length := by omega
        obtain ⟨⟨k9, s9⟩, h9⟩ : ∃ c, CC[ii]? = some c := ⟨_, List.getElem?_eq_getElem hi2⟩
        have e3 : IntKind.i64.wrap ((ii : Int) + 1) = ((ii + 1 : Nat) : Int) := by rw [wrap_i64] <;> omega
        simp +contextual -implicitDefEqProofs (maxSteps := 1000000) only [sm, sn, sxx, seval, e2, e3, hi1, hi2, h9, hcl, eCh, Option.map_some, hs3]
        refine ⟨j + 1, ⟨by omega, by omega⟩, by omega, [0, 1, 2, 3], by decide, rfl, ?_, ?_⟩
        · simp +contextual -implicitDefEqProofs (maxSteps := 1000000) only [sm, sn, sxx, seval, eCh_flat]
        · simp +contextual -implicitDefEqProofs (maxSteps := 1000000) only [sm, sn, sxx, seval, hkl2]
    · have hjn : j = L.length := by omega
      subst hjn
      have hct := cont_take p L L.length
      rw [kept_full] at hct hkl ⊢
      have ht5 : List.take (L.filter p).length ((contC p L L.length).map eCh) = (L.filter p).map eCh := by rw [← List.map_take, hct]
      have hle5 : (L.filter p).length ≤ (contC p L L.length).length := by omega
      generalize contC p L L.length = CC at hcl hct ht5 hle5 ⊢
      simp +contextual -implicitDefEqProofs (maxSteps := 1000000) only [sm, sn, sxx, seval, Int.lt_irrefl, hkl, hle5, ht5, hcl, Nat.zero_le]
      refine ⟨[], [0, 1, 2, 3], by decide, rfl, ?_, ?_⟩
      · simp +contextual -implicitDefEqProofs (maxSteps := 1000000) only [sm, sn, sxx, seval, eCh_flat]
      · try rfl
  · have hno : ∀ c ∈ L, p c = true := fun c hc => by
      obtain ⟨k, hk⟩ := List.getElem?_of_mem hc
      cases hq : p c
      · exact absurd ⟨k, c, hk, hq⟩ hall
      · rfl
    have hidx : idxV (fun c => !p c) L = -1 := idxV_none fun j x hj => by simp [hno x (List.mem_of_getElem? hj)]
    have hf : L.filter p = L := List.filter_eq_self.2 hno
    rw [hidx, hf]
    simp +contextual -implicitDefEqProofs (maxSteps := 1000000) only [sm, sn, sxx, seval]
    refine ⟨[], [0, 1, 2, 3], by decide, rfl, ?_, ?_⟩
    · simp +contextual -implicitDefEqProofs (maxSteps := 1000000) only [sm, sn, sxx, seval, eCh_flat]
    · try rfl
end Go.Proofs.Ytnhedjpghpdbdaa
