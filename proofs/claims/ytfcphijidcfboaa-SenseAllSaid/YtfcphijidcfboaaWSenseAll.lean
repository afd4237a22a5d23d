/- ref11.All, Better; SenseAll. -/
import Derived.Test.YtfcphijidcfboaaWSenseOrder
import Derived.Test.YtfcphijidcfboaaWSenseU
import Derived.Test.YtfcphijidcfboaaWSenseR
import Derived.Test.YtfcphijidcfboaaGRef08
import Derived.Test.YtfcphijidcfboaaGRef09
namespace Go.Proofs.Ytfcphijidcfboaa
open Av
attribute [local irreducible] awp awpOpers
set_option linter.unusedSimpArgs false
set_option linter.unusedVariables false
set_option maxRecDepth 100000
set_option maxHeartbeats 4000000
theorem ref11_All (m : Mod) (a : List Int) (hD : m.1.length ≤ 1000000000000) (hd : ∀ d ∈ m.1, d.length ≤ 1000000000000) (hc : m.2.1.length ≤ 1000000000000) (hcs : ∀ c ∈ m.2.1, conFits c) (ha : a.length ≤ 1000000000000) :
    Ctr Try.prog 35 [eMod m, eIs a] [] (.bool (allB m a)) [] := by
  refine call_pure Try.func35 Try.call35 e_ref11_All ?_
  have hR := ref08_Right m hD hd hc hcs
  obtain ⟨D, cs, ask, goal⟩ := m
  simp only at hD hd hc hcs
  simp +contextual -implicitDefEqProofs (maxSteps := 1000000) only [c_ref11_All, eMod, eCons, eDoms, eIs, sm, sn, sxx, seval]
  refine callA_rule hR (by simp +contextual -implicitDefEqProofs (maxSteps := 1000000) only [sm, sn, sxx, seval, eMod, eCons, eDoms]) rfl ?_
  cases hm : modB (D, cs, ask, goal)
  · have hn : allB (D, cs, ask, goal) a = false := by unfold allB; rw [hm]; rfl
    rw [hn]
    simp +contextual -implicitDefEqProofs (maxSteps := 1000000) only [sm, sn, sxx, seval]
  by_cases hl : a.length = D.length
  rotate_left
  · have hl' : ¬ (a.length : Int) = (D.length : Int) := by omega
    have hn : allB (D, cs, ask, goal) a = false := by unfold allB; simp only; rw [decide_eq_false hl]; simp
    rw [hn]
    simp +contextual -implicitDefEqProofs (maxSteps := 1000000) only [sm, sn, sxx, seval, hl']
  have hl' : (a.length : Int) = (D.length : Int) := by omega
  simp +contextual -implicitDefEqProofs (maxSteps := 1000000) only [sm, sn, sxx, seval, hl']
  refine loop_rule (fun k : Nat => k ≤ a.length ∧ ∀ j, j < k → (fun k => hasB ((D[k]?).getD []) (xat a k)) j = true) (fun k => tm 50 [(1, .list 1 (a.map eI)), (2, .ptr 4 0 0 0), (5, .int .i64 k)]) (fun k => [some (4, [.agg [.list 1 (D.map eRgs), .list 4 (cs.map eCon), .int .i64 ask, .int .i64 goal]])]) (fun k => a.length - k) 0 ⟨by omega, by omega⟩ ⟨[0], by decide, rfl, ?_, ?_⟩ ?_
  · simp +contextual -implicitDefEqProofs (maxSteps := 1000000) only [sm, sn, sxx, seval]
  · simp +contextual -implicitDefEqProofs (maxSteps := 1000000) only [sm, sn, sxx, seval, Int.natCast_zero]
  · rintro k ⟨hk, hok⟩
    by_cases hlt : k < a.length
    · have hlt' : (k : Int) < ((a.length : Nat) : Int) := by omega
      have e2 : IntKind.i64.wrap ((k : Int) + 1) = ((k + 1 : Nat) : Int) := by rw [wrap_i64] <;> omega
      have hv := xat_get (X := a) (i := k) hlt
      obtain ⟨r, hr⟩ : ∃ r, D[k]? = some r := ⟨_, List.getElem?_eq_getElem (by omega)⟩
      have hltD : (k : Int) < (D.length : Int) := by omega
      simp +contextual -implicitDefEqProofs (maxSteps := 1000000) only [sm, sn, sxx, seval, hlt', hltD, hl', hr, hv, eRgs]
      refine callA_rule (ref09_Has r (xat a k) (hd r (List.mem_of_getElem? hr))) (by simp +contextual -implicitDefEqProofs (maxSteps := 1000000) only [sm, sn, sxx, seval, eRgs]) rfl ?_
      rw [← has_eq]
      cases hh : hasB r (xat a k)
      · have hn : allB (D, cs, ask, goal) a = false := by
          unfold allB
          simp only
          rw [all_no (k := k) (by omega) (by rw [hr]; exact hh)]
          simp
        rw [hn]
        simp +contextual -implicitDefEqProofs (maxSteps := 1000000) only [sm, sn, sxx, seval]
      · simp +contextual -implicitDefEqProofs (maxSteps := 1000000) only [sm, sn, sxx, seval, e2]
        refine ⟨k + 1, ⟨by omega, ?_⟩, by omega, [0], by decide, rfl, ?_, ?_⟩
        · intro j hj
          rcases Nat.lt_succ_iff_lt_or_eq.1 hj with h | rfl
          · first | exact hok j h | simpa using hok j h
          · simp only [hr, Option.getD_some]; exact hh
        · simp +contextual -implicitDefEqProofs (maxSteps := 1000000) only [sm, sn, sxx, seval]
        · simp +contextual -implicitDefEqProofs (maxSteps := 1000000) only [sm, sn, sxx, seval]
    · have hke : k = a.length := by omega
      subst hke
      have hall := hok
      have hn : allB (D, cs, ask, goal) a = cs.all fun c => holdB c a := by
        unfold allB
        simp only
        rw [hm, decide_eq_true hl, all_yes (n := D.length) (fun k hk => hall k (by omega))]
        simp
      simp +contextual -implicitDefEqProofs (maxSteps := 1000000) only [sm, sn, sxx, seval, hl', Int.lt_irrefl]
      refine loop_rule (fun kc : Nat => kc ≤ cs.length ∧ ∀ (j : Nat) x, j < kc → cs[j]? = some x → (fun c => holdB c a) x = true) (fun kc => tm 50 [(1, .list 1 (a.map eI)), (2, .ptr 4 0 0 0), (6, .int .i64 kc)]) (fun kc => [some (4, [.agg [.list 1 (D.map eRgs), .list 4 (cs.map eCon), .int .i64 ask, .int .i64 goal]])]) (fun kc => cs.length - kc) 0 ⟨by omega, by omega⟩ ⟨[0], by decide, rfl, ?_, ?_⟩ ?_
      · simp +contextual -implicitDefEqProofs (maxSteps := 1000000) only [sm, sn, sxx, seval]
      · simp +contextual -implicitDefEqProofs (maxSteps := 1000000) only [sm, sn, sxx, seval, Int.natCast_zero]
      · rintro kc ⟨hkc, hokc⟩
        by_cases hltc : kc < cs.length
        · obtain ⟨⟨K, X, A, C⟩, hxc⟩ : ∃ r, cs[kc]? = some r := ⟨_, List.getElem?_eq_getElem hltc⟩
          have hltc' : (kc : Int) < (cs.length : Int) := by omega
          have e2c : IntKind.i64.wrap ((kc : Int) + 1) = ((kc + 1 : Nat) : Int) := by rw [wrap_i64] <;> omega
          simp +contextual -implicitDefEqProofs (maxSteps := 1000000) only [sm, sn, sxx, seval, hltc', hxc, eCon, eIs, Option.map_some]
          refine callA_rule (ref11_HoldsA (K, X, A, C) a (hcs _ (List.mem_of_getElem? hxc)).2 (hcs _ (List.mem_of_getElem? hxc)).1 ha) (by simp +contextual -implicitDefEqProofs (maxSteps := 1000000) only [sm, sn, sxx, seval, eCon, eIs]) rfl ?_
          have hhb : holdB (K, X, A, C) a = (askdB (K, X, A, C) a && holdsB (K, X, A, C) (valsOf (K, X, A, C).2.1 a)) := rfl
          rw [← hhb]
          cases hh : holdB (K, X, A, C) a
          · rw [hn, listall_no hxc hh]
            simp +contextual -implicitDefEqProofs (maxSteps := 1000000) only [sm, sn, sxx, seval]
          · simp +contextual -implicitDefEqProofs (maxSteps := 1000000) only [sm, sn, sxx, seval, e2c]
            refine ⟨kc + 1, ⟨by omega, ?_⟩, by omega, [0], by decide, rfl, ?_, ?_⟩
            · intro j y hj hy
              rcases Nat.lt_succ_iff_lt_or_eq.1 hj with h | rfl
              · first | exact hokc j y h hy | simpa using hokc j y h hy
              · rw [hxc] at hy; injection hy with hy; subst hy; exact hh
            · simp +contextual -implicitDefEqProofs (maxSteps := 1000000) only [sm, sn, sxx, seval]
            · simp +contextual -implicitDefEqProofs (maxSteps := 1000000) only [sm, sn, sxx, seval]
        · have hke : kc = cs.length := by omega
          subst hke
          have hallc := listall_yes hokc
          rw [hn, hallc]
          simp +contextual -implicitDefEqProofs (maxSteps := 1000000) only [sm, sn, sxx, seval, Int.lt_irrefl]
theorem ref11_Better (m : Mod) (a b : List Int) (hD : m.1.length ≤ 1000000000000) (hd : ∀ d ∈ m.1, d.length ≤ 1000000000000) (hc : m.2.1.length ≤ 1000000000000) (hcs : ∀ c ∈ m.2.1, conFits c) :
    Ctr Try.prog 37 [eMod m, eIs a, eIs b] [] (.bool (betterB m a b)) [] := by
  refine call_pure Try.func37 Try.call37 e_ref11_Better ?_
  have hR := ref08_Right m hD hd hc hcs
  obtain ⟨D, cs, ask, goal⟩ := m
  simp only at hD
  simp +contextual -implicitDefEqProofs (maxSteps := 1000000) only [c_ref11_Better, eMod, eCons, eDoms, eIs, sm, sn, sxx, seval]
  refine callA_rule hR (by simp +contextual -implicitDefEqProofs (maxSteps := 1000000) only [sm, sn, sxx, seval, eMod, eCons, eDoms]) rfl ?_
  unfold betterB
  cases hm : modB (D, cs, ask, goal)
  · simp +contextual -implicitDefEqProofs (maxSteps := 1000000) only [sm, sn, sxx, seval]
  simp only [Bool.true_and]
  by_cases hl : a.length = D.length
  rotate_left
  · have hl' : ¬ (a.length : Int) = (D.length : Int) := by omega
    rw [decide_eq_false hl]
    simp +contextual -implicitDefEqProofs (maxSteps := 1000000) only [sm, sn, sxx, seval, hl']
  have hl' : (a.length : Int) = (D.length : Int) := by omega
  rw [decide_eq_true hl]
  by_cases hl2 : b.length = D.length
  rotate_left
  · have hl2' : ¬ (b.length : Int) = (D.length : Int) := by omega
    rw [decide_eq_false hl2]
    simp +contextual -implicitDefEqProofs (maxSteps := 1000000) only [sm, sn, sxx, seval, hl', hl2']
  have hl2' : (b.length : Int) = (D.length : Int) := by omega
  rw [decide_eq_true hl2]
  have hk : askB D.length ask goal = true := by
    unfold modB at hm
    simp only [Bool.and_eq_true] at hm
    exact hm.2
  by_cases k1 : ask = 1
  · subst k1
    have hg : 0 ≤ goal ∧ goal < (D.length : Int) := by simpa [askB] using hk
    have g0 := hg.1
    have ga := xat_get (X := a) (i := goal.toNat) (by omega)
    have gb := xat_get (X := b) (i := goal.toNat) (by omega)
    simp +contextual -implicitDefEqProofs (maxSteps := 1000000) only [sm, sn, sxx, seval, hl', hl2', g0, ga, gb]
  by_cases k2 : ask = 2
  · subst k2
    have hg : 0 ≤ goal ∧ goal < (D.length : Int) := by simpa [askB] using hk
    have g0 := hg.1
    have ga := xat_get (X := a) (i := goal.toNat) (by omega)
    have gb := xat_get (X := b) (i := goal.toNat) (by omega)
    simp +contextual -implicitDefEqProofs (maxSteps := 1000000) only [sm, sn, sxx, seval, hl', hl2', g0, ga, gb, k1]
  simp +contextual -implicitDefEqProofs (maxSteps := 1000000) only [sm, sn, sxx, seval, hl', hl2', k1, k2]
theorem law_SenseAll (m : Mod) (a b : List Int) : Ctr Try.prog 9 [eMod m, eIs a, eIs b] [] (.bool true) [] := by
  refine call_pure Try.func9 Try.call9 e_law11_SenseAll ?_
  have hS := law08_Small m
  have h1 := fun (h : smallB m = true) (ha : a.length ≤ 1000000000000) => sense_All m a (small_facts h).1 (small_facts h).2.1 (small_facts h).2.2.1 (small_facts h).2.2.2 ha (fun c _ _ V hV => sense_unlike c V hV)
  have h2 := fun (h : smallB m = true) (ha : a.length ≤ 1000000000000) => ref11_All m a (small_facts h).1 (small_facts h).2.1 (small_facts h).2.2.1 (small_facts h).2.2.2 ha
  have h3 := fun (h : smallB m = true) => sense_Better m a b (small_facts h).1 (small_facts h).2.1 (small_facts h).2.2.1 (small_facts h).2.2.2
  have h4 := fun (h : smallB m = true) => ref11_Better m a b (small_facts h).1 (small_facts h).2.1 (small_facts h).2.2.1 (small_facts h).2.2.2
  generalize smallB m = sm0 at hS h1 h2 h3 h4
  generalize allB m a = p at h1 h2
  generalize betterB m a b = q at h3 h4
  obtain ⟨D, cs, ask, goal⟩ := m
  simp +contextual -implicitDefEqProofs (maxSteps := 1000000) only [c_law11_SenseAll, eMod, eCons, eDoms, eIs, sm, sn, sxx, seval]
  refine callA_rule law11_alive (wkL_refl _) rfl ?_
  simp +contextual -implicitDefEqProofs (maxSteps := 1000000) only [sm, sn, sxx, seval]
  refine callA_rule hS (by simp +contextual -implicitDefEqProofs (maxSteps := 1000000) only [sm, sn, sxx, seval, eMod, eCons, eDoms]) rfl ?_
  cases sm0
  · simp +contextual -implicitDefEqProofs (maxSteps := 1000000) only [sm, sn, sxx, seval]
  by_cases l1 : 200 < (a.length : Int)
  · simp +contextual -implicitDefEqProofs (maxSteps := 1000000) only [sm, sn, sxx, seval, l1]
  by_cases l2 : 200 < (b.length : Int)
  · simp +contextual -implicitDefEqProofs (maxSteps := 1000000) only [sm, sn, sxx, seval, l1, l2]
  simp +contextual -implicitDefEqProofs (maxSteps := 1000000) only [sm, sn, sxx, seval, l1, l2]
  refine callA_rule (h1 rfl (by omega)) (by simp +contextual -implicitDefEqProofs (maxSteps := 1000000) only [sm, sn, sxx, seval, eMod, eCons, eDoms, eIs]) rfl ?_
  simp +contextual -implicitDefEqProofs (maxSteps := 1000000) only [sm, sn, sxx, seval]
  refine callA_rule (h2 rfl (by omega)) (by simp +contextual -implicitDefEqProofs (maxSteps := 1000000) only [sm, sn, sxx, seval, eMod, eCons, eDoms, eIs]) rfl ?_
  cases p
  · simp +contextual -implicitDefEqProofs (maxSteps := 1000000) only [sm, sn, sxx, seval, beq_tt, beq_ff]
    refine callA_rule (h3 rfl) (by simp +contextual -implicitDefEqProofs (maxSteps := 1000000) only [sm, sn, sxx, seval, eMod, eCons, eDoms, eIs]) rfl ?_
    simp +contextual -implicitDefEqProofs (maxSteps := 1000000) only [sm, sn, sxx, seval]
    refine callA_rule (h4 rfl) (by simp +contextual -implicitDefEqProofs (maxSteps := 1000000) only [sm, sn, sxx, seval, eMod, eCons, eDoms, eIs]) rfl ?_
    cases q <;> simp +contextual -implicitDefEqProofs (maxSteps := 1000000) only [sm, sn, sxx, seval, beq_tt, beq_ff]
  · simp +contextual -implicitDefEqProofs (maxSteps := 1000000) only [sm, sn, sxx, seval, beq_tt, beq_ff]
    refine callA_rule (h3 rfl) (by simp +contextual -implicitDefEqProofs (maxSteps := 1000000) only [sm, sn, sxx, seval, eMod, eCons, eDoms, eIs]) rfl ?_
    simp +contextual -implicitDefEqProofs (maxSteps := 1000000) only [sm, sn, sxx, seval]
    refine callA_rule (h4 rfl) (by simp +contextual -implicitDefEqProofs (maxSteps := 1000000) only [sm, sn, sxx, seval, eMod, eCons, eDoms, eIs]) rfl ?_
    cases q <;> simp +contextual -implicitDefEqProofs (maxSteps := 1000000) only [sm, sn, sxx, seval, beq_tt, beq_ff]
end Go.Proofs.Ytfcphijidcfboaa
