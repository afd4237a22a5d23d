/- What sense.All and Better compute. -/
import Derived.Test.YtfcphijidcfboaaWSense2
import Derived.Test.YtfcphijidcfboaaGSet
import Derived.Test.YtfcphijidcfboaaCSenseA
namespace Go.Proofs.Ytfcphijidcfboaa
open Av
attribute [local irreducible] awp awpOpers
set_option linter.unusedSimpArgs false
set_option linter.unusedVariables false
set_option maxRecDepth 100000
set_option maxHeartbeats 4000000
/-- a call of a closure with what it holds -/
theorem callA_ruleC {P : Program} {fid : FuncId} {caps args' args : List AV} {K : AV → Bx → Prop} {bx : Bx} {v : AV} (hc : Ctr P fid args' [] v []) (hw : wkL args' (args ++ caps)) (hf : flatL (args ++ caps) = true) (h : K v bx) : CallAK P (.fn (.func fid) caps) args K bx :=
  ⟨v, ⟨fid, caps, args', rfl, hc, hw, hf⟩, h⟩
theorem flatL_app : ∀ (l m : List AV), flatL (l ++ m) = (flatL l && flatL m)
  | [], m => rfl
  | x :: l, m => by simp only [List.cons_append, flatL, flatL_app l m, Bool.and_assoc]
theorem okL_flat (n : Nat) {v : AV} (h : v.flat = true) : okL n v = true := by
  cases v <;> first | (simp [AV.flat] at h; done) | exact h | rfl
theorem renL_flat (ix : List Nat) {v : AV} (h : v.flat = true) : renL ix v = v := by
  cases v <;> first | (simp [AV.flat] at h; done) | rfl
theorem okC_flat (n : Nat) {v : AV} (h : v.flat = true) : okC n v = true := by
  cases v with
  | agg l =>
    show l.all (okL n) = true
    rw [List.all_eq_true]
    exact fun x hx => okL_flat n (flatL_mem (show flatL l = true by simpa [AV.flat] using h) x hx)
  | _ => exact okL_flat n h
theorem renC_flat (ix : List Nat) {v : AV} (h : v.flat = true) : renC ix v = v := by
  cases v with
  | agg l =>
    show AV.agg (l.map (renL ix)) = .agg l
    congr 1
    conv => rhs; rw [← List.map_id l]
    exact List.map_congr_left fun x hx => renL_flat ix (flatL_mem (show flatL l = true by simpa [AV.flat] using h) x hx)
  | _ => exact renL_flat ix h
theorem caps_ok (n : Nat) {l : List AV} (h : flatL l = true) : ∀ x ∈ l, okC n x = true := fun x hx => okC_flat n (flatL_mem h x hx)
theorem caps_ren (ix : List Nat) {l : List AV} (h : flatL l = true) : l.map (renC ix) = l := by
  conv => rhs; rw [← List.map_id l]
  exact List.map_congr_left fun x hx => renC_flat ix (flatL_mem h x hx)
theorem index_cons (l : List Con) (hl : l.length ≤ 1000000000000) (g : Nat) (caps : List AV) (hcf : flatL caps = true) (p : Con → Bool) (hg : ∀ c ∈ l, Ctr Try.prog g (eCon c :: caps) [] (.bool (p c)) []) :
    Ctr Try.prog 102 [.list 4 (l.map eCon), .fn (.func g) caps] [] (.int .i64 (idxV p l)) [] := by
  refine call_pure Try.func102 Try.call102 e_slices_IndexFunc_sCon_Con ?_
  simp +contextual -implicitDefEqProofs (maxSteps := 1000000) only [c_slices_IndexFunc_sCon_Con, sm, sn, sxx, seval]
  refine loop_rule (fun k : Nat => k ≤ l.length ∧ ∀ (j : Nat) x, j < k → l[j]? = some x → p x = false) (fun k => tm 19 [(0, .list 4 (l.map eCon)), (1, .fn (.func g) caps), (7, .int .i64 l.length), (8, .int .i64 k)]) (fun _ => []) (fun k => l.length - k) 0 ⟨by omega, by omega⟩ ⟨[], by decide, rfl, trivial, ?_⟩ ?_
  · simp +contextual -implicitDefEqProofs (maxSteps := 1000000) only [tm, sm, sn, sxx, seval, hcf]
    simp
    exact ⟨caps_ok 0 hcf, caps_ren [] hcf⟩
  · rintro k ⟨hk, hok⟩
    by_cases hlt : k < l.length
    · obtain ⟨x, hx⟩ : ∃ r, l[k]? = some r := ⟨_, List.getElem?_eq_getElem hlt⟩
      have hlt' : (k : Int) < (l.length : Int) := by omega
      obtain ⟨K, X, A, C⟩ := x
      simp +contextual -implicitDefEqProofs (maxSteps := 1000000) only [sm, sn, sxx, seval, hlt', hx, hcf, Option.map_some, eCon, eIs]
      refine callA_ruleC (caps := caps) (args' := eCon (K, X, A, C) :: caps) (hg _ (List.mem_of_getElem? hx)) ?_ ?_ ?_
      · exact wkL_refl (eCon (K, X, A, C) :: caps)
      · rw [flatL_app, hcf]; rfl
      cases hp : p (K, X, A, C)
      · have e2 : IntKind.i64.wrap ((k : Int) + 1) = ((k + 1 : Nat) : Int) := by rw [wrap_i64] <;> omega
        simp +contextual -implicitDefEqProofs (maxSteps := 1000000) only [sm, sn, sxx, seval, e2]
        refine ⟨k + 1, ⟨by omega, ?_⟩, by omega, [], by decide, rfl, trivial, ?_⟩
        · intro j y hj hy
          rcases Nat.lt_succ_iff_lt_or_eq.1 hj with h | rfl
          · exact hok j y h hy
          · rw [hx] at hy; injection hy with hy; subst hy; exact hp
        · simp +contextual -implicitDefEqProofs (maxSteps := 1000000) only [tm, sm, sn, sxx, seval, hcf]
          try simp
          try exact ⟨caps_ok 0 hcf, caps_ren [] hcf⟩
      · simp +contextual -implicitDefEqProofs (maxSteps := 1000000) only [sm, sn, sxx, seval]
        exact idxV_some hx hp hok
    · have : k = l.length := by omega
      subst this
      simp +contextual -implicitDefEqProofs (maxSteps := 1000000) only [sm, sn, sxx, seval, Int.lt_irrefl]
      exact idxV_none (fun j x hj => hok j x (List.getElem?_eq_some_iff.1 hj).1 hj)
theorem contains_cons (l : List Con) (hl : l.length ≤ 1000000000000) (g : Nat) (caps : List AV) (hcf : flatL caps = true) (p : Con → Bool) (hg : ∀ c ∈ l, Ctr Try.prog g (eCon c :: caps) [] (.bool (p c)) []) :
    Ctr Try.prog 67 [.list 4 (l.map eCon), .fn (.func g) caps] [] (.bool (l.any p)) [] := by
  refine call_pure Try.func67 Try.call67 e_slices_ContainsFunc_sCon_Con ?_
  have hff : (AV.fn (.func g) caps).flat = true := by unfold AV.flat; exact hcf
  simp +contextual -implicitDefEqProofs (maxSteps := 1000000) only [c_slices_ContainsFunc_sCon_Con, sm, sn, sxx, seval, hcf]
  refine callA_rule (index_cons l hl g caps hcf p hg) (wkL_refl _) (by simp only [flatL, hff, Bool.and_true]; first | rfl | exact flat_list _ _) ?_
  simp +contextual -implicitDefEqProofs (maxSteps := 1000000) only [sm, sn, sxx, seval]
  rw [← idxV_any]
def holdB (c : Con) (a : List Int) : Bool := askdB c a && holdsB c (valsOf c.2.1 a)
theorem sense_All_1 (c : Con) (a : List Int) (hA : c.2.2.1.length ≤ 1000000000000) (hX : c.2.1.length ≤ 1000000000000) (ha : a.length ≤ 1000000000000) (hu : c.1 = 18 → ∀ V : List Int, V.length ≤ 32 → Ctr Try.prog 97 [askP c V] [] (.bool (unlikeB V)) []) :
    Ctr Try.prog 68 [eCon c, .rptr [.list 1 (a.map eI)]] [] (.bool (!holdB c a)) [] := by
  refine call_pure Try.func68 Try.call68 e_sense_All_1 ?_
  have hH := sense_Holds0 c a hA hX ha hu
  unfold holdB
  generalize (askdB c a && holdsB c (valsOf c.2.1 a)) = b at hH ⊢
  obtain ⟨K, X, A, C⟩ := c
  simp +contextual -implicitDefEqProofs (maxSteps := 1000000) only [c_sense_All_1, eCon, eIs, sm, sn, sxx, seval]
  refine callA_rule hH (by simp +contextual -implicitDefEqProofs (maxSteps := 1000000) only [sm, sn, sxx, seval, eCon, eIs]) rfl ?_
  simp +contextual -implicitDefEqProofs (maxSteps := 1000000) only [sm, sn, sxx, seval]
def allB (m : Mod) (a : List Int) : Bool := modB m && decide (a.length = m.1.length) && (List.range m.1.length).all (fun k => hasB ((m.1[k]?).getD []) (xat a k)) && m.2.1.all fun c => holdB c a
theorem sense_All (m : Mod) (a : List Int) (hD : m.1.length ≤ 1000000000000) (hd : ∀ d ∈ m.1, d.length ≤ 1000000000000) (hc : m.2.1.length ≤ 1000000000000) (hcs : ∀ c ∈ m.2.1, conFits c) (ha : a.length ≤ 1000000000000)
    (hu : ∀ c ∈ m.2.1, c.1 = 18 → ∀ V : List Int, V.length ≤ 32 → Ctr Try.prog 97 [askP c V] [] (.bool (unlikeB V)) []) :
    Ctr Try.prog 34 [eMod m, eIs a] [] (.bool (allB m a)) [] := by
  refine call_pure Try.func34 Try.call34 e_sense_AllV ?_
  have hR := model_Right m hD hd hc hcs
  obtain ⟨D, cs, ask, goal⟩ := m
  simp only at hD hd hc hcs hu
  have hCC := contains_cons cs hc 68 [.rptr [.list 1 (a.map eI)]] rfl (fun c => !holdB c a) fun c h => sense_All_1 c a (hcs c h).2 (hcs c h).1 ha (hu c h)
  simp +contextual -implicitDefEqProofs (maxSteps := 1000000) only [c_sense_AllV, eMod, eCons, eDoms, eIs, sm, sn, sxx, seval]
  refine callV_rule hR (by simp +contextual -implicitDefEqProofs (maxSteps := 1000000) only [sm, sn, sxx, seval, eMod, eCons, eDoms]) rfl ?_
  cases hm : modB (D, cs, ask, goal)
  · have hn : allB (D, cs, ask, goal) a = false := by unfold allB; rw [hm]; rfl
    rw [hn]
    simp +contextual -implicitDefEqProofs (maxSteps := 1000000) only [sm, sn, sxx, seval]
  by_cases hl : a.length = D.length
  rotate_left
  · have hl' : ¬ (a.length : Int) = (D.length : Int) := by omega
    have hn : allB (D, cs, ask, goal) a = false := by unfold allB; simp only; rw [decide_eq_false hl]; simp
    rw [hn]
    simp +contextual -implicitDefEqProofs (maxSteps := 1000000) only [sm, sn, sxx, seval, hl']
  have hl' : (a.length : Int) = (D.length : Int) := by omega
  simp +contextual -implicitDefEqProofs (maxSteps := 1000000) only [sm, sn, sxx, seval, hl']
  refine loop_rule (fun k : Nat => k ≤ D.length ∧ ∀ j, j < k → (fun k => hasB ((D[k]?).getD []) (xat a k)) j = true) (fun k => tm 39 [(2, .ptr 4 0 0 0), (3, .ptr 1 1 0 0), (19, .list 1 (D.map eRgs)), (20, .int .i64 D.length), (21, .int .i64 k)]) (fun k => [some (4, [.agg [.list 1 (D.map eRgs), .list 4 (cs.map eCon), .int .i64 ask, .int .i64 goal]]), some (1, [.list 1 (a.map eI)])]) (fun k => D.length - k) 0 ⟨by omega, by omega⟩ ⟨[0, 1], by decide, rfl, ?_, ?_⟩ ?_
  · simp +contextual -implicitDefEqProofs (maxSteps := 1000000) only [sm, sn, sxx, seval]
  · simp +contextual -implicitDefEqProofs (maxSteps := 1000000) only [sm, sn, sxx, seval, Int.natCast_zero]
  · rintro k ⟨hk, hok⟩
    by_cases hlt : k < D.length
    · have hlt' : (k : Int) < ((D.length : Nat) : Int) := by omega
      have e2 : IntKind.i64.wrap ((k : Int) + 1) = ((k + 1 : Nat) : Int) := by rw [wrap_i64] <;> omega
      have hv := xat_get (X := a) (i := k) (by omega)
      obtain ⟨r, hr⟩ : ∃ r, D[k]? = some r := ⟨_, List.getElem?_eq_getElem hlt⟩
      simp +contextual -implicitDefEqProofs (maxSteps := 1000000) only [sm, sn, sxx, seval, hlt', hr, hv, eRgs]
      refine callA_rule (set_Has r (xat a k) (hd r (List.mem_of_getElem? hr))) (by simp +contextual -implicitDefEqProofs (maxSteps := 1000000) only [sm, sn, sxx, seval, eRgs]) rfl ?_
      cases hh : hasB r (xat a k)
      · have hn : allB (D, cs, ask, goal) a = false := by
          unfold allB
          simp only
          rw [all_no hlt (by rw [hr]; exact hh)]
          simp
        rw [hn]
        simp +contextual -implicitDefEqProofs (maxSteps := 1000000) only [sm, sn, sxx, seval]
      · simp +contextual -implicitDefEqProofs (maxSteps := 1000000) only [sm, sn, sxx, seval, e2]
        refine ⟨k + 1, ⟨by omega, ?_⟩, by omega, [0, 1], by decide, rfl, ?_, ?_⟩
        · intro j hj
          rcases Nat.lt_succ_iff_lt_or_eq.1 hj with h | rfl
          · first | exact hok j h | simpa using hok j h
          · simp only [hr, Option.getD_some]; exact hh
        · simp +contextual -implicitDefEqProofs (maxSteps := 1000000) only [sm, sn, sxx, seval]
        · simp +contextual -implicitDefEqProofs (maxSteps := 1000000) only [sm, sn, sxx, seval]
    · have hke : k = D.length := by omega
      subst hke
      have hall := hok
      have hn : allB (D, cs, ask, goal) a = !(cs.any fun c => !holdB c a) := by
        unfold allB
        simp only
        rw [hm, decide_eq_true hl, all_yes hall, List.not_any_eq_all_not]
        simp
      rw [hn]
      simp +contextual -implicitDefEqProofs (maxSteps := 1000000) only [sm, sn, sxx, seval, Int.lt_irrefl]
      refine callV_rule hCC (by simp +contextual -implicitDefEqProofs (maxSteps := 1000000) only [sm, sn, sxx, seval]) rfl ?_
      simp +contextual -implicitDefEqProofs (maxSteps := 1000000) only [sm, sn, sxx, seval]
theorem sense_Better (m : Mod) (a b : List Int) (hD : m.1.length ≤ 1000000000000) (hd : ∀ d ∈ m.1, d.length ≤ 1000000000000) (hc : m.2.1.length ≤ 1000000000000) (hcs : ∀ c ∈ m.2.1, conFits c) :
    Ctr Try.prog 36 [eMod m, eIs a, eIs b] [] (.bool (betterB m a b)) [] := by
  refine call_pure Try.func36 Try.call36 e_sense_Better ?_
  have hR := model_Right m hD hd hc hcs
  obtain ⟨D, cs, ask, goal⟩ := m
  simp only at hD
  simp +contextual -implicitDefEqProofs (maxSteps := 1000000) only [c_sense_Better, eMod, eCons, eDoms, eIs, sm, sn, sxx, seval]
  refine callV_rule hR (by simp +contextual -implicitDefEqProofs (maxSteps := 1000000) only [sm, sn, sxx, seval, eMod, eCons, eDoms]) rfl ?_
  unfold betterB
  cases hm : modB (D, cs, ask, goal)
  · simp +contextual -implicitDefEqProofs (maxSteps := 1000000) only [sm, sn, sxx, seval]
  simp only [Bool.true_and]
  by_cases hl : a.length = D.length
  rotate_left
  · have hl' : ¬ (a.length : Int) = (D.length : Int) := by omega
    rw [decide_eq_false hl]
    simp +contextual -implicitDefEqProofs (maxSteps := 1000000) only [sm, sn, sxx, seval, hl']
  have hl' : (a.length : Int) = (D.length : Int) := by omega
  rw [decide_eq_true hl]
  by_cases hl2 : b.length = D.length
  rotate_left
  · have hl2' : ¬ (b.length : Int) = (D.length : Int) := by omega
    rw [decide_eq_false hl2]
    simp +contextual -implicitDefEqProofs (maxSteps := 1000000) only [sm, sn, sxx, seval, hl', hl2']
  have hl2' : (b.length : Int) = (D.length : Int) := by omega
  rw [decide_eq_true hl2]
  have hk : askB D.length ask goal = true := by
    unfold modB at hm
    simp only [Bool.and_eq_true] at hm
    exact hm.2
  by_cases k1 : ask = 1
  · subst k1
    have hg : 0 ≤ goal ∧ goal < (D.length : Int) := by simpa [askB] using hk
    have g0 := hg.1
    have ga := xat_get (X := a) (i := goal.toNat) (by omega)
    have gb := xat_get (X := b) (i := goal.toNat) (by omega)
    simp +contextual -implicitDefEqProofs (maxSteps := 1000000) only [sm, sn, sxx, seval, hl', hl2', g0, ga, gb]
  by_cases k2 : ask = 2
  · subst k2
    have hg : 0 ≤ goal ∧ goal < (D.length : Int) := by simpa [askB] using hk
    have g0 := hg.1
    have ga := xat_get (X := a) (i := goal.toNat) (by omega)
    have gb := xat_get (X := b) (i := goal.toNat) (by omega)
    simp +contextual -implicitDefEqProofs (maxSteps := 1000000) only [sm, sn, sxx, seval, hl', hl2', g0, ga, gb, k1]
  simp +contextual -implicitDefEqProofs (maxSteps := 1000000) only [sm, sn, sxx, seval, hl', hl2', k1, k2]
end Go.Proofs.Ytfcphijidcfboaa
