/- Contracts beside other boxes, and with rows given up. -/
import Derived.Test.YtnhedjpghpdbdaaAv3
namespace Go.Proofs.Ytnhedjpghpdbdaa
open Av
attribute [local irreducible] awp awpOpers
set_option linter.unusedSimpArgs false
set_option linter.unusedVariables false
theorem ctr_frz {P : Program} {f : FuncId} {args args' : List AV} {bs bs' : Bx} {r : AV} (keep ks : List Nat) (hc : Ctr P f args' (killL ks bs) r bs') (hl : args'.length = args.length) (hcov : ∀ k, k < bs.length → k ∈ keep ∨ k ∈ ks)
    (ha : ∀ (i : Nat) v v', args[i]? = some v → args'[i]? = some v' → wk v' v ∨ wk v' (view 8 (killL keep bs) v)) : Ctr P f args bs r bs' := by
  refine ⟨hc.1, ?_⟩
  intro w0 pr fz pl w cs hS hcs hA
  have S1 := hS.kills ks
  obtain ⟨S2, le⟩ := S1.frzAll
  refine (hc.2 w0 pr _ pl w cs S2 (by rw [hl]; exact hcs) ?_).mono ?_
  · intro i v' c hv' hc'
    obtain ⟨v, hv⟩ : ∃ v, args[i]? = some v := by
      have : i < args'.length := by
        rcases Nat.lt_or_ge i args'.length with h | h
        · exact h
        · rw [List.getElem?_eq_none h] at hv'; cases hv'
      exact ⟨_, List.getElem?_eq_getElem (by omega)⟩
    have hr := hA i v c hv hc'
    rcases ha i v v' hv hv' with h | h
    · exact Rep.wk _ _ _ (hr.mono le (List.prefix_refl _)) h
    · refine Rep.wk _ _ _ (.frz (view_sound (hS.kills keep) le ?_ 8 v c hr)) h
      intro k x b n hk hpl
      obtain ⟨hk1, hk2⟩ := killL_get hk
      unfold frzAll
      rw [if_neg]
      · simp only [(boxBlock hS hk1 hpl).2.1]
      · rintro ⟨j, y, n', hj, hpj⟩
        obtain ⟨hj1, hj2⟩ := killL_get hj
        have := hS.inj k j x y b n n' hk1 hj1 hpl hpj
        subst this
        rcases hcov k (bxGet_lt hk1) with h | h
        · exact hk2 h
        · exact hj2 h
  · rintro e w' ⟨cv, fz', pl', h1, h2, h3⟩
    exact ⟨cv, fz', pl', h1, le.trans h2, h3⟩
theorem ctr_more {P : Program} {f : FuncId} {args : List AV} {bs : Bx} {r : AV} (hc : Ctr P f args [] r []) (hA : flatL args = true) (hr : r.flat = true) : Ctr P f args bs r bs := by
  refine ⟨hc.1, ?_⟩
  intro w0 pr fz pl w cs hS hl hR
  have S1 : Sim w0 (hold pr pl bs w []) fz [] [] w := ⟨hS.os, hS.tape, hS.output, hS.size, hS.frz, hold_prt hS [], hold_dis hS [], rfl, (fun k sz es h => by rw [bxGet_nil] at h; cases h), fun k k' x y b n n' h => by rw [bxGet_nil] at h; cases h⟩
  refine (hc.2 w0 _ fz [] w cs S1 hl ?_).mono ?_
  · intro i v c hv hc
    exact (hR i v c hv hc).anyPl (flatL_mem hA v (List.mem_of_getElem? hv))
  · rintro e w' ⟨cv, fz', pl', h1, h2, h3, h4, h5⟩
    have hp : pl' = [] := List.length_eq_zero_iff.1 h5.len
    subst hp
    exact ⟨cv, fz', pl, h1, h2, List.prefix_refl _, h4.anyPl hr, hS.back h2 h5⟩
end Go.Proofs.Ytnhedjpghpdbdaa
