/- What the functions of package logic compute, continued: all, xor. -/
import Derived.Test.YtonkcemcledhiaaWLogic2
namespace Go.Proofs.Ytonkcemcledhiaa
open Av
attribute [local irreducible] awp awpOpers
set_option linter.unusedSimpArgs false
set_option linter.unusedVariables false
set_option maxRecDepth 100000
set_option maxHeartbeats 4000000
theorem logic_all (X : List Int) (D : List (List Rg)) (yes : Int) {F : List (List Rg)} {b2 : Bool} (hy : yes = 0 ∨ yes = 1) (hI : InD D X) (hd : ∀ d ∈ D, d.length ≤ 1000000000000) (hX : X.length ≤ 1000000000000) (hX0 : 0 < X.length) (hs : allS D X yes = (F, b2)) :
    Ctr Try.prog 43 [.ptr 3 0 0 0, .int .i64 yes] (bits X D false) (.tuple []) (bits X F b2) := by
  refine call_box Try.func43 Try.call43 e_logic_bits_all ?_
  have eF : IntKind.i64.wrap ((X.length : Int) - 1) = ((X.length - 1 : Nat) : Int) := by rw [wrap_i64] <;> omega
  have eY : IntKind.i64.wrap (1 - yes) = 1 - yes := by rw [wrap_i64] <;> omega
  obtain ⟨E, b', hE⟩ : ∃ E b', firstS D X yes = (E, b') := ⟨_, _, rfl⟩
  have hs' : (match (E, b') with | (E, true) => (E, true) | (E, false) => restS E X yes) = (F, b2) := by rw [← hs]; unfold allS; rw [hE]; cases b' <;> rfl
  clear hs
  simp +contextual -implicitDefEqProofs (maxSteps := 1000000) only [c_logic_bits_all, bits_eq, sm, sn, sxx, seval, eF]
  refine callA_rule (logic_places (X.length - 1) (by omega)) (wkL_refl _) rfl ?_
  simp +contextual -implicitDefEqProofs (maxSteps := 1000000) only [sm, sn, sxx, seval, eY]
  refine callV_rule (logic_count X D false (X.length - 1) (1 - yes) hI hd (by omega) (by omega)) ?_ rfl ?_
  · simp +contextual -implicitDefEqProofs (maxSteps := 1000000) only [sm, sn, sxx, seval]
  unfold firstS at hE
  by_cases c0 : 0 < (cl (so D X (1 - yes)) (X.length - 1)).1
  · rw [if_pos c0] at hE
    obtain ⟨hIE, hdE, -⟩ := ok_setS hI hd hE
    simp +contextual -implicitDefEqProofs (maxSteps := 1000000) only [sm, sn, sxx, seval, c0, eY]
    refine callM_rule [0, 1] (logic_set X D false (X.length - 1) (1 - yes) hI hd (by omega) hE) (by decide) ?_ ?_ ?_ ?_ ?_ ?_
    · simp +contextual -implicitDefEqProofs (maxSteps := 1000000) only [sm, sn, sxx, seval, bits_eq]
    · simp +contextual -implicitDefEqProofs (maxSteps := 1000000) only [sm, sn, sxx, seval, bits_eq]
    · simp +contextual -implicitDefEqProofs (maxSteps := 1000000) only [sm, sn, sxx, seval, bits_eq]
    · simp +contextual -implicitDefEqProofs (maxSteps := 1000000) only [sm, sn, sxx, seval, bits_eq]
    · simp +contextual -implicitDefEqProofs (maxSteps := 1000000) only [sm, sn, sxx, seval, bits_eq]
    · clear hE c0 hI hd
      skip
      cases b'
      · try simp only at hs'
        simp +contextual -implicitDefEqProofs (maxSteps := 1000000) only [sm, sn, sxx, seval, bits_eq]
        refine callV_rule (logic_count X E false (X.length - 1) yes hIE hdE (by omega) (by omega)) ?_ rfl ?_
        · simp +contextual -implicitDefEqProofs (maxSteps := 1000000) only [sm, sn, sxx, seval]
        simp +contextual -implicitDefEqProofs (maxSteps := 1000000) only [sm, sn, sxx, seval]
        refine callV_rule (logic_count X E false (X.length - 1) 2 hIE hdE (by omega) (by omega)) ?_ rfl ?_
        · simp +contextual -implicitDefEqProofs (maxSteps := 1000000) only [sm, sn, sxx, seval]
        simp +contextual -implicitDefEqProofs (maxSteps := 1000000) only [sm, sn, sxx, seval]
        refine callV_rule (logic_at X E false (X.length - 1) hIE hdE (by omega)) ?_ rfl ?_
        · simp +contextual -implicitDefEqProofs (maxSteps := 1000000) only [sm, sn, sxx, seval]
        unfold restS at hs'
        by_cases h1 : atV E X (X.length - 1) = yes
        · rw [if_pos h1] at hs'
          simp +contextual -implicitDefEqProofs (maxSteps := 1000000) only [sm, sn, sxx, seval, h1, pl_len]
          refine loop_rule (fun s : Nat × List (List Rg) × Bool => s.1 ≤ X.length - 1 ∧ evS E X yes s.1 = s.2 ∧ InD s.2.1 X ∧ ∀ d ∈ s.2.1, d.length ≤ 1000000000000) (fun s => tm 112 [(0, .ptr 3 0 0 0), (1, .int .i64 yes), (76, .list 1 ((pl (X.length - 1)).map eI)), (77, .int .i64 ((X.length - 1 : Nat) : Int)), (78, .int .i64 s.1)])
            (fun s => [some (3, [.agg [.list 1 (X.map eI), .sl 1 1 0 s.2.1.length, .bool s.2.2]]), some (1, s.2.1.map eRgs)]) (fun s => X.length - 1 - s.1) (0, E, false) ⟨by simp, rfl, hIE, hdE⟩ ⟨[0, 1], by decide, rfl, ?_, ?_⟩ ?_
          · simp +contextual -implicitDefEqProofs (maxSteps := 1000000) only [sm, sn, sxx, seval]
          · simp +contextual -implicitDefEqProofs (maxSteps := 1000000) only [sm, sn, sxx, seval, Int.natCast_zero]
          · rintro ⟨k, G, g⟩ ⟨hk, hev, hIG, hdG⟩
            simp only at hk hev hIG hdG
            by_cases hlt : k < X.length - 1
            · have hlt' : (k : Int) < ((X.length - 1 : Nat) : Int) := by omega
              have hp := pl_get hlt
              have e2 : IntKind.i64.wrap ((k : Int) + 1) = ((k + 1 : Nat) : Int) := by rw [wrap_i64] <;> omega
              obtain ⟨H, h, hH⟩ : ∃ H h, setS (G, g) (xat X k) yes = (H, h) := ⟨_, _, rfl⟩
              obtain ⟨o1, o2, o3⟩ := ok_setS hIG hdG hH
              have hev1 : evS E X yes (k + 1) = (H, h) := by
                conv => lhs; unfold evS
                rw [hev]; exact hH
              simp +contextual -implicitDefEqProofs (maxSteps := 1000000) only [sm, sn, sxx, seval, hlt', hp]
              refine callM_rule [0, 1] (logic_set X G g k yes hIG hdG (by omega) hH) (by decide) ?_ ?_ ?_ ?_ ?_ ?_
              · simp +contextual -implicitDefEqProofs (maxSteps := 1000000) only [sm, sn, sxx, seval, bits_eq]
              · simp +contextual -implicitDefEqProofs (maxSteps := 1000000) only [sm, sn, sxx, seval, bits_eq]
              · simp +contextual -implicitDefEqProofs (maxSteps := 1000000) only [sm, sn, sxx, seval, bits_eq]
              · simp +contextual -implicitDefEqProofs (maxSteps := 1000000) only [sm, sn, sxx, seval, bits_eq]
              · simp +contextual -implicitDefEqProofs (maxSteps := 1000000) only [sm, sn, sxx, seval, bits_eq]
              · simp +contextual -implicitDefEqProofs (maxSteps := 1000000) only [sm, sn, sxx, seval, bits_eq, e2]
                refine ⟨(k + 1, H, h), ⟨by (try dsimp only); omega, hev1, o1, o2⟩, by (try dsimp only); omega, [0, 1], by decide, rfl, ?_, ?_⟩
                · simp +contextual -implicitDefEqProofs (maxSteps := 1000000) only [sm, sn, sxx, seval]
                · simp +contextual -implicitDefEqProofs (maxSteps := 1000000) only [sm, sn, sxx, seval]
            · have hkn : k = X.length - 1 := by omega
              subst hkn
              rw [hev] at hs'
              simp only [Prod.mk.injEq] at hs'
              obtain ⟨rfl, rfl⟩ := hs'
              simp +contextual -implicitDefEqProofs (maxSteps := 1000000) only [sm, sn, sxx, seval, Int.lt_irrefl]
              refine ⟨[], [0, 1], by decide, ?_⟩
              simp +contextual -implicitDefEqProofs (maxSteps := 1000000) only [sm, sn, sxx, seval]
              try rfl
        rw [if_neg h1] at hs'
        by_cases h2 : atV E X (X.length - 1) = 1 - yes
        · rw [if_pos h2] at hs'
          have h3 : ¬ 1 - yes = yes := h2 ▸ h1
          have e5 : IntKind.i64.wrap (((X.length - 1 : Nat) : Int) - 1) = ((X.length - 1 : Nat) : Int) - 1 := by rw [wrap_i64] <;> omega
          by_cases g1 : (cl (so E X yes) (X.length - 1)).1 = ((X.length - 1 : Nat) : Int)
          · rw [if_pos g1] at hs'
            simp only [Prod.mk.injEq] at hs'
            obtain ⟨rfl, rfl⟩ := hs'
            simp +contextual -implicitDefEqProofs (maxSteps := 1000000) only [sm, sn, sxx, seval, h2, h3, eY, g1]
            refine ⟨[], [0, 1], by decide, ?_⟩
            simp +contextual -implicitDefEqProofs (maxSteps := 1000000) only [sm, sn, sxx, seval]
            try rfl
          · rw [if_neg g1] at hs'
            by_cases g2 : (cl (so E X yes) (X.length - 1)).1 = ((X.length - 1 : Nat) : Int) - 1
            · by_cases g3 : (cl (so E X 2) (X.length - 1)).1 = 1
              · rw [if_pos ⟨g2, g3⟩] at hs'
                obtain ⟨j, hj, hjl, -⟩ := cl_last (so E X 2) (n := X.length - 1) (by omega)
                rw [hjl, Int.toNat_natCast] at hs'
                have g1' : (((X.length - 1 : Nat) : Int) - 1 = ((X.length - 1 : Nat) : Int)) = False := by simp only [eq_iff_iff, iff_false]; omega
                simp +contextual -implicitDefEqProofs (maxSteps := 1000000) only [sm, sn, sxx, seval, h2, h3, eY, g1', g2, g3, e5, hjl]
                refine callM_rule [0, 1] (logic_set X E false j (1 - yes) hIE hdE (by omega) hs') (by decide) ?_ ?_ ?_ ?_ ?_ ?_
                · simp +contextual -implicitDefEqProofs (maxSteps := 1000000) only [sm, sn, sxx, seval, bits_eq]
                · simp +contextual -implicitDefEqProofs (maxSteps := 1000000) only [sm, sn, sxx, seval, bits_eq]
                · simp +contextual -implicitDefEqProofs (maxSteps := 1000000) only [sm, sn, sxx, seval, bits_eq]
                · simp +contextual -implicitDefEqProofs (maxSteps := 1000000) only [sm, sn, sxx, seval, bits_eq]
                · simp +contextual -implicitDefEqProofs (maxSteps := 1000000) only [sm, sn, sxx, seval, bits_eq]
                · simp +contextual -implicitDefEqProofs (maxSteps := 1000000) only [sm, sn, sxx, seval, bits_eq]
                  refine ⟨[], [0, 1], by decide, ?_⟩
                  simp +contextual -implicitDefEqProofs (maxSteps := 1000000) only [sm, sn, sxx, seval]
                  try rfl
              · rw [if_neg (by rintro ⟨_, h⟩; exact g3 h)] at hs'
                simp only [Prod.mk.injEq] at hs'
                obtain ⟨rfl, rfl⟩ := hs'
                have g1' : (((X.length - 1 : Nat) : Int) - 1 = ((X.length - 1 : Nat) : Int)) = False := by simp only [eq_iff_iff, iff_false]; omega
                simp +contextual -implicitDefEqProofs (maxSteps := 1000000) only [sm, sn, sxx, seval, h2, h3, eY, g1', g2, g3, e5]
                refine ⟨[], [0, 1], by decide, ?_⟩
                simp +contextual -implicitDefEqProofs (maxSteps := 1000000) only [sm, sn, sxx, seval]
                try rfl
            · rw [if_neg (by rintro ⟨h, _⟩; exact g2 h)] at hs'
              simp only [Prod.mk.injEq] at hs'
              obtain ⟨rfl, rfl⟩ := hs'
              simp +contextual -implicitDefEqProofs (maxSteps := 1000000) only [sm, sn, sxx, seval, h2, h3, eY, g1, g2, e5]
              refine ⟨[], [0, 1], by decide, ?_⟩
              simp +contextual -implicitDefEqProofs (maxSteps := 1000000) only [sm, sn, sxx, seval]
              try rfl
        · rw [if_neg h2] at hs'
          simp only [Prod.mk.injEq] at hs'
          obtain ⟨rfl, rfl⟩ := hs'
          simp +contextual -implicitDefEqProofs (maxSteps := 1000000) only [sm, sn, sxx, seval, h1, h2, eY]
          refine ⟨[], [0, 1], by decide, ?_⟩
          simp +contextual -implicitDefEqProofs (maxSteps := 1000000) only [sm, sn, sxx, seval]
          try rfl
      · simp only [Prod.mk.injEq] at hs'
        obtain ⟨rfl, rfl⟩ := hs'
        simp +contextual -implicitDefEqProofs (maxSteps := 1000000) only [sm, sn, sxx, seval, bits_eq]
        refine ⟨[], [0, 1], by decide, ?_⟩
        simp +contextual -implicitDefEqProofs (maxSteps := 1000000) only [sm, sn, sxx, seval]
        try rfl
  rw [if_neg c0] at hE
  simp +contextual -implicitDefEqProofs (maxSteps := 1000000) only [sm, sn, sxx, seval, c0]
  refine callV_rule (logic_count X D false (X.length - 1) yes hI hd (by omega) (by omega)) ?_ rfl ?_
  · simp +contextual -implicitDefEqProofs (maxSteps := 1000000) only [sm, sn, sxx, seval]
  by_cases c1 : (cl (so D X yes) (X.length - 1)).1 = ((X.length - 1 : Nat) : Int)
  · rw [if_pos c1] at hE
    obtain ⟨hIE, hdE, -⟩ := ok_setS hI hd hE
    simp +contextual -implicitDefEqProofs (maxSteps := 1000000) only [sm, sn, sxx, seval, c1]
    refine callM_rule [0, 1] (logic_set X D false (X.length - 1) yes hI hd (by omega) hE) (by decide) ?_ ?_ ?_ ?_ ?_ ?_
    · simp +contextual -implicitDefEqProofs (maxSteps := 1000000) only [sm, sn, sxx, seval, bits_eq]
    · simp +contextual -implicitDefEqProofs (maxSteps := 1000000) only [sm, sn, sxx, seval, bits_eq]
    · simp +contextual -implicitDefEqProofs (maxSteps := 1000000) only [sm, sn, sxx, seval, bits_eq]
    · simp +contextual -implicitDefEqProofs (maxSteps := 1000000) only [sm, sn, sxx, seval, bits_eq]
    · simp +contextual -implicitDefEqProofs (maxSteps := 1000000) only [sm, sn, sxx, seval, bits_eq]
    · clear hE c0 c1 hI hd
      skip
      cases b'
      · try simp only at hs'
        simp +contextual -implicitDefEqProofs (maxSteps := 1000000) only [sm, sn, sxx, seval, bits_eq]
        refine callV_rule (logic_count X E false (X.length - 1) yes hIE hdE (by omega) (by omega)) ?_ rfl ?_
        · simp +contextual -implicitDefEqProofs (maxSteps := 1000000) only [sm, sn, sxx, seval]
        simp +contextual -implicitDefEqProofs (maxSteps := 1000000) only [sm, sn, sxx, seval]
        refine callV_rule (logic_count X E false (X.length - 1) 2 hIE hdE (by omega) (by omega)) ?_ rfl ?_
        · simp +contextual -implicitDefEqProofs (maxSteps := 1000000) only [sm, sn, sxx, seval]
        simp +contextual -implicitDefEqProofs (maxSteps := 1000000) only [sm, sn, sxx, seval]
        refine callV_rule (logic_at X E false (X.length - 1) hIE hdE (by omega)) ?_ rfl ?_
        · simp +contextual -implicitDefEqProofs (maxSteps := 1000000) only [sm, sn, sxx, seval]
        unfold restS at hs'
        by_cases h1 : atV E X (X.length - 1) = yes
        · rw [if_pos h1] at hs'
          simp +contextual -implicitDefEqProofs (maxSteps := 1000000) only [sm, sn, sxx, seval, h1, pl_len]
          refine loop_rule (fun s : Nat × List (List Rg) × Bool => s.1 ≤ X.length - 1 ∧ evS E X yes s.1 = s.2 ∧ InD s.2.1 X ∧ ∀ d ∈ s.2.1, d.length ≤ 1000000000000) (fun s => tm 112 [(0, .ptr 3 0 0 0), (1, .int .i64 yes), (76, .list 1 ((pl (X.length - 1)).map eI)), (77, .int .i64 ((X.length - 1 : Nat) : Int)), (78, .int .i64 s.1)])
            (fun s => [some (3, [.agg [.list 1 (X.map eI), .sl 1 1 0 s.2.1.length, .bool s.2.2]]), some (1, s.2.1.map eRgs)]) (fun s => X.length - 1 - s.1) (0, E, false) ⟨by simp, rfl, hIE, hdE⟩ ⟨[0, 1], by decide, rfl, ?_, ?_⟩ ?_
          · simp +contextual -implicitDefEqProofs (maxSteps := 1000000) only [sm, sn, sxx, seval]
          · simp +contextual -implicitDefEqProofs (maxSteps := 1000000) only [sm, sn, sxx, seval, Int.natCast_zero]
          · rintro ⟨k, G, g⟩ ⟨hk, hev, hIG, hdG⟩
            simp only at hk hev hIG hdG
            by_cases hlt : k < X.length - 1
            · have hlt' : (k : Int) < ((X.length - 1 : Nat) : Int) := by omega
              have hp := pl_get hlt
              have e2 : IntKind.i64.wrap ((k : Int) + 1) = ((k + 1 : Nat) : Int) := by rw [wrap_i64] <;> omega
              obtain ⟨H, h, hH⟩ : ∃ H h, setS (G, g) (xat X k) yes = (H, h) := ⟨_, _, rfl⟩
              obtain ⟨o1, o2, o3⟩ := ok_setS hIG hdG hH
              have hev1 : evS E X yes (k + 1) = (H, h) := by
                conv => lhs; unfold evS
                rw [hev]; exact hH
              simp +contextual -implicitDefEqProofs (maxSteps := 1000000) only [sm, sn, sxx, seval, hlt', hp]
              refine callM_rule [0, 1] (logic_set X G g k yes hIG hdG (by omega) hH) (by decide) ?_ ?_ ?_ ?_ ?_ ?_
              · simp +contextual -implicitDefEqProofs (maxSteps := 1000000) only [sm, sn, sxx, seval, bits_eq]
              · simp +contextual -implicitDefEqProofs (maxSteps := 1000000) only [sm, sn, sxx, seval, bits_eq]
              · simp +contextual -implicitDefEqProofs (maxSteps := 1000000) only [sm, sn, sxx, seval, bits_eq]
              · simp +contextual -implicitDefEqProofs (maxSteps := 1000000) only [sm, sn, sxx, seval, bits_eq]
              · simp +contextual -implicitDefEqProofs (maxSteps := 1000000) only [sm, sn, sxx, seval, bits_eq]
              · simp +contextual -implicitDefEqProofs (maxSteps := 1000000) only [sm, sn, sxx, seval, bits_eq, e2]
                refine ⟨(k + 1, H, h), ⟨by (try dsimp only); omega, hev1, o1, o2⟩, by (try dsimp only); omega, [0, 1], by decide, rfl, ?_, ?_⟩
                · simp +contextual -implicitDefEqProofs (maxSteps := 1000000) only [sm, sn, sxx, seval]
                · simp +contextual -implicitDefEqProofs (maxSteps := 1000000) only [sm, sn, sxx, seval]
            · have hkn : k = X.length - 1 := by omega
              subst hkn
              rw [hev] at hs'
              simp only [Prod.mk.injEq] at hs'
              obtain ⟨rfl, rfl⟩ := hs'
              simp +contextual -implicitDefEqProofs (maxSteps := 1000000) only [sm, sn, sxx, seval, Int.lt_irrefl]
              refine ⟨[], [0, 1], by decide, ?_⟩
              simp +contextual -implicitDefEqProofs (maxSteps := 1000000) only [sm, sn, sxx, seval]
              try rfl
        rw [if_neg h1] at hs'
        by_cases h2 : atV E X (X.length - 1) = 1 - yes
        · rw [if_pos h2] at hs'
          have h3 : ¬ 1 - yes = yes := h2 ▸ h1
          have e5 : IntKind.i64.wrap (((X.length - 1 : Nat) : Int) - 1) = ((X.length - 1 : Nat) : Int) - 1 := by rw [wrap_i64] <;> omega
          by_cases g1 : (cl (so E X yes) (X.length - 1)).1 = ((X.length - 1 : Nat) : Int)
          · rw [if_pos g1] at hs'
            simp only [Prod.mk.injEq] at hs'
            obtain ⟨rfl, rfl⟩ := hs'
            simp +contextual -implicitDefEqProofs (maxSteps := 1000000) only [sm, sn, sxx, seval, h2, h3, eY, g1]
            refine ⟨[], [0, 1], by decide, ?_⟩
            simp +contextual -implicitDefEqProofs (maxSteps := 1000000) only [sm, sn, sxx, seval]
            try rfl
          · rw [if_neg g1] at hs'
            by_cases g2 : (cl (so E X yes) (X.length - 1)).1 = ((X.length - 1 : Nat) : Int) - 1
            · by_cases g3 : (cl (so E X 2) (X.length - 1)).1 = 1
              · rw [if_pos ⟨g2, g3⟩] at hs'
                obtain ⟨j, hj, hjl, -⟩ := cl_last (so E X 2) (n := X.length - 1) (by omega)
                rw [hjl, Int.toNat_natCast] at hs'
                have g1' : (((X.length - 1 : Nat) : Int) - 1 = ((X.length - 1 : Nat) : Int)) = False := by simp only [eq_iff_iff, iff_false]; omega
                simp +contextual -implicitDefEqProofs (maxSteps := 1000000) only [sm, sn, sxx, seval, h2, h3, eY, g1', g2, g3, e5, hjl]
                refine callM_rule [0, 1] (logic_set X E false j (1 - yes) hIE hdE (by omega) hs') (by decide) ?_ ?_ ?_ ?_ ?_ ?_
                · simp +contextual -implicitDefEqProofs (maxSteps := 1000000) only [sm, sn, sxx, seval, bits_eq]
                · simp +contextual -implicitDefEqProofs (maxSteps := 1000000) only [sm, sn, sxx, seval, bits_eq]
                · simp +contextual -implicitDefEqProofs (maxSteps := 1000000) only [sm, sn, sxx, seval, bits_eq]
                · simp +contextual -implicitDefEqProofs (maxSteps := 1000000) only [sm, sn, sxx, seval, bits_eq]
                · simp +contextual -implicitDefEqProofs (maxSteps := 1000000) only [sm, sn, sxx, seval, bits_eq]
                · simp +contextual -implicitDefEqProofs (maxSteps := 1000000) only [sm, sn, sxx, seval, bits_eq]
                  refine ⟨[], [0, 1], by decide, ?_⟩
                  simp +contextual -implicitDefEqProofs (maxSteps := 1000000) only [sm, sn, sxx, seval]
                  try rfl
              · rw [if_neg (by rintro ⟨_, h⟩; exact g3 h)] at hs'
                simp only [Prod.mk.injEq] at hs'
                obtain ⟨rfl, rfl⟩ := hs'
                have g1' : (((X.length - 1 : Nat) : Int) - 1 = ((X.length - 1 : Nat) : Int)) = False := by simp only [eq_iff_iff, iff_false]; omega
                simp +contextual -implicitDefEqProofs (maxSteps := 1000000) only [sm, sn, sxx, seval, h2, h3, eY, g1', g2, g3, e5]
                refine ⟨[], [0, 1], by decide, ?_⟩
                simp +contextual -implicitDefEqProofs (maxSteps := 1000000) only [sm, sn, sxx, seval]
                try rfl
            · rw [if_neg (by rintro ⟨h, _⟩; exact g2 h)] at hs'
              simp only [Prod.mk.injEq] at hs'
              obtain ⟨rfl, rfl⟩ := hs'
              simp +contextual -implicitDefEqProofs (maxSteps := 1000000) only [sm, sn, sxx, seval, h2, h3, eY, g1, g2, e5]
              refine ⟨[], [0, 1], by decide, ?_⟩
              simp +contextual -implicitDefEqProofs (maxSteps := 1000000) only [sm, sn, sxx, seval]
              try rfl
        · rw [if_neg h2] at hs'
          simp only [Prod.mk.injEq] at hs'
          obtain ⟨rfl, rfl⟩ := hs'
          simp +contextual -implicitDefEqProofs (maxSteps := 1000000) only [sm, sn, sxx, seval, h1, h2, eY]
          refine ⟨[], [0, 1], by decide, ?_⟩
          simp +contextual -implicitDefEqProofs (maxSteps := 1000000) only [sm, sn, sxx, seval]
          try rfl
      · simp only [Prod.mk.injEq] at hs'
        obtain ⟨rfl, rfl⟩ := hs'
        simp +contextual -implicitDefEqProofs (maxSteps := 1000000) only [sm, sn, sxx, seval, bits_eq]
        refine ⟨[], [0, 1], by decide, ?_⟩
        simp +contextual -implicitDefEqProofs (maxSteps := 1000000) only [sm, sn, sxx, seval]
        try rfl
  · rw [if_neg c1] at hE
    simp only [Prod.mk.injEq] at hE
    obtain ⟨hDE, hb⟩ := hE
    subst hb
    have hIE : InD E X := hDE ▸ hI
    have hdE : ∀ d ∈ E, d.length ≤ 1000000000000 := hDE ▸ hd
    simp +contextual -implicitDefEqProofs (maxSteps := 1000000) only [sm, sn, sxx, seval, c1]
    clear c0 c1 hI hd
    have hDE2 := hDE.symm
    clear hDE
    subst hDE2
    have hb' : ∃ b', b' = false ∧ (match (E, b') with | (E, true) => (E, true) | (E, false) => restS E X yes) = (F, b2) := ⟨false, rfl, hs'⟩
    clear hs'
    obtain ⟨b', rfl, hs'⟩ := hb'
    · try simp only at hs'
      refine callV_rule (logic_count X E false (X.length - 1) yes hIE hdE (by omega) (by omega)) ?_ rfl ?_
      · simp +contextual -implicitDefEqProofs (maxSteps := 1000000) only [sm, sn, sxx, seval]
      simp +contextual -implicitDefEqProofs (maxSteps := 1000000) only [sm, sn, sxx, seval]
      refine callV_rule (logic_count X E false (X.length - 1) 2 hIE hdE (by omega) (by omega)) ?_ rfl ?_
      · simp +contextual -implicitDefEqProofs (maxSteps := 1000000) only [sm, sn, sxx, seval]
      simp +contextual -implicitDefEqProofs (maxSteps := 1000000) only [sm, sn, sxx, seval]
      refine callV_rule (logic_at X E false (X.length - 1) hIE hdE (by omega)) ?_ rfl ?_
      · simp +contextual -implicitDefEqProofs (maxSteps := 1000000) only [sm, sn, sxx, seval]
      unfold restS at hs'
      by_cases h1 : atV E X (X.length - 1) = yes
      · rw [if_pos h1] at hs'
        simp +contextual -implicitDefEqProofs (maxSteps := 1000000) only [sm, sn, sxx, seval, h1, pl_len]
        refine loop_rule (fun s : Nat × List (List Rg) × Bool => s.1 ≤ X.length - 1 ∧ evS E X yes s.1 = s.2 ∧ InD s.2.1 X ∧ ∀ d ∈ s.2.1, d.length ≤ 1000000000000) (fun s => tm 112 [(0, .ptr 3 0 0 0), (1, .int .i64 yes), (76, .list 1 ((pl (X.length - 1)).map eI)), (77, .int .i64 ((X.length - 1 : Nat) : Int)), (78, .int .i64 s.1)])
          (fun s => [some (3, [.agg [.list 1 (X.map eI), .sl 1 1 0 s.2.1.length, .bool s.2.2]]), some (1, s.2.1.map eRgs)]) (fun s => X.length - 1 - s.1) (0, E, false) ⟨by simp, rfl, hIE, hdE⟩ ⟨[0, 1], by decide, rfl, ?_, ?_⟩ ?_
        · simp +contextual -implicitDefEqProofs (maxSteps := 1000000) only [sm, sn, sxx, seval]
        · simp +contextual -implicitDefEqProofs (maxSteps := 1000000) only [sm, sn, sxx, seval, Int.natCast_zero]
        · rintro ⟨k, G, g⟩ ⟨hk, hev, hIG, hdG⟩
          simp only at hk hev hIG hdG
          by_cases hlt : k < X.length - 1
          · have hlt' : (k : Int) < ((X.length - 1 : Nat) : Int) := by omega
            have hp := pl_get hlt
            have e2 : IntKind.i64.wrap ((k : Int) + 1) = ((k + 1 : Nat) : Int) := by rw [wrap_i64] <;> omega
            obtain ⟨H, h, hH⟩ : ∃ H h, setS (G, g) (xat X k) yes = (H, h) := ⟨_, _, rfl⟩
            obtain ⟨o1, o2, o3⟩ := ok_setS hIG hdG hH
            have hev1 : evS E X yes (k + 1) = (H, h) := by
              conv => lhs; unfold evS
              rw [hev]; exact hH
            simp +contextual -implicitDefEqProofs (maxSteps := 1000000) only [sm, sn, sxx, seval, hlt', hp]
            refine callM_rule [0, 1] (logic_set X G g k yes hIG hdG (by omega) hH) (by decide) ?_ ?_ ?_ ?_ ?_ ?_
            · simp +contextual -implicitDefEqProofs (maxSteps := 1000000) only [sm, sn, sxx, seval, bits_eq]
            · simp +contextual -implicitDefEqProofs (maxSteps := 1000000) only [sm, sn, sxx, seval, bits_eq]
            · simp +contextual -implicitDefEqProofs (maxSteps := 1000000) only [sm, sn, sxx, seval, bits_eq]
            · simp +contextual -implicitDefEqProofs (maxSteps := 1000000) only [sm, sn, sxx, seval, bits_eq]
            · simp +contextual -implicitDefEqProofs (maxSteps := 1000000) only [sm, sn, sxx, seval, bits_eq]
            · simp +contextual -implicitDefEqProofs (maxSteps := 1000000) only [sm, sn, sxx, seval, bits_eq, e2]
              refine ⟨(k + 1, H, h), ⟨by (try dsimp only); omega, hev1, o1, o2⟩, by (try dsimp only); omega, [0, 1], by decide, rfl, ?_, ?_⟩
              · simp +contextual -implicitDefEqProofs (maxSteps := 1000000) only [sm, sn, sxx, seval]
              · simp +contextual -implicitDefEqProofs (maxSteps := 1000000) only [sm, sn, sxx, seval]
          · have hkn : k = X.length - 1 := by omega
            subst hkn
            rw [hev] at hs'
            simp only [Prod.mk.injEq] at hs'
            obtain ⟨rfl, rfl⟩ := hs'
            simp +contextual -implicitDefEqProofs (maxSteps := 1000000) only [sm, sn, sxx, seval, Int.lt_irrefl]
            refine ⟨[], [0, 1], by decide, ?_⟩
            simp +contextual -implicitDefEqProofs (maxSteps := 1000000) only [sm, sn, sxx, seval]
            try rfl
      rw [if_neg h1] at hs'
      by_cases h2 : atV E X (X.length - 1) = 1 - yes
      · rw [if_pos h2] at hs'
        have h3 : ¬ 1 - yes = yes := h2 ▸ h1
        have e5 : IntKind.i64.wrap (((X.length - 1 : Nat) : Int) - 1) = ((X.length - 1 : Nat) : Int) - 1 := by rw [wrap_i64] <;> omega
        by_cases g1 : (cl (so E X yes) (X.length - 1)).1 = ((X.length - 1 : Nat) : Int)
        · rw [if_pos g1] at hs'
          simp only [Prod.mk.injEq] at hs'
          obtain ⟨rfl, rfl⟩ := hs'
          simp +contextual -implicitDefEqProofs (maxSteps := 1000000) only [sm, sn, sxx, seval, h2, h3, eY, g1]
          refine ⟨[], [0, 1], by decide, ?_⟩
          simp +contextual -implicitDefEqProofs (maxSteps := 1000000) only [sm, sn, sxx, seval]
          try rfl
        · rw [if_neg g1] at hs'
          by_cases g2 : (cl (so E X yes) (X.length - 1)).1 = ((X.length - 1 : Nat) : Int) - 1
          · by_cases g3 : (cl (so E X 2) (X.length - 1)).1 = 1
            · rw [if_pos ⟨g2, g3⟩] at hs'
              obtain ⟨j, hj, hjl, -⟩ := cl_last (so E X 2) (n := X.length - 1) (by omega)
              rw [hjl, Int.toNat_natCast] at hs'
              have g1' : (((X.length - 1 : Nat) : Int) - 1 = ((X.length - 1 : Nat) : Int)) = False := by simp only [eq_iff_iff, iff_false]; omega
              simp +contextual -implicitDefEqProofs (maxSteps := 1000000) only [sm, sn, sxx, seval, h2, h3, eY, g1', g2, g3, e5, hjl]
              refine callM_rule [0, 1] (logic_set X E false j (1 - yes) hIE hdE (by omega) hs') (by decide) ?_ ?_ ?_ ?_ ?_ ?_
              · simp +contextual -implicitDefEqProofs (maxSteps := 1000000) only [sm, sn, sxx, seval, bits_eq]
              · simp +contextual -implicitDefEqProofs (maxSteps := 1000000) only [sm, sn, sxx, seval, bits_eq]
              · simp +contextual -implicitDefEqProofs (maxSteps := 1000000) only [sm, sn, sxx, seval, bits_eq]
              · simp +contextual -implicitDefEqProofs (maxSteps := 1000000) only [sm, sn, sxx, seval, bits_eq]
              · simp +contextual -implicitDefEqProofs (maxSteps := 1000000) only [sm, sn, sxx, seval, bits_eq]
              · simp +contextual -implicitDefEqProofs (maxSteps := 1000000) only [sm, sn, sxx, seval, bits_eq]
                refine ⟨[], [0, 1], by decide, ?_⟩
                simp +contextual -implicitDefEqProofs (maxSteps := 1000000) only [sm, sn, sxx, seval]
                try rfl
            · rw [if_neg (by rintro ⟨_, h⟩; exact g3 h)] at hs'
              simp only [Prod.mk.injEq] at hs'
              obtain ⟨rfl, rfl⟩ := hs'
              have g1' : (((X.length - 1 : Nat) : Int) - 1 = ((X.length - 1 : Nat) : Int)) = False := by simp only [eq_iff_iff, iff_false]; omega
              simp +contextual -implicitDefEqProofs (maxSteps := 1000000) only [sm, sn, sxx, seval, h2, h3, eY, g1', g2, g3, e5]
              refine ⟨[], [0, 1], by decide, ?_⟩
              simp +contextual -implicitDefEqProofs (maxSteps := 1000000) only [sm, sn, sxx, seval]
              try rfl
          · rw [if_neg (by rintro ⟨h, _⟩; exact g2 h)] at hs'
            simp only [Prod.mk.injEq] at hs'
            obtain ⟨rfl, rfl⟩ := hs'
            simp +contextual -implicitDefEqProofs (maxSteps := 1000000) only [sm, sn, sxx, seval, h2, h3, eY, g1, g2, e5]
            refine ⟨[], [0, 1], by decide, ?_⟩
            simp +contextual -implicitDefEqProofs (maxSteps := 1000000) only [sm, sn, sxx, seval]
            try rfl
      · rw [if_neg h2] at hs'
        simp only [Prod.mk.injEq] at hs'
        obtain ⟨rfl, rfl⟩ := hs'
        simp +contextual -implicitDefEqProofs (maxSteps := 1000000) only [sm, sn, sxx, seval, h1, h2, eY]
        refine ⟨[], [0, 1], by decide, ?_⟩
        simp +contextual -implicitDefEqProofs (maxSteps := 1000000) only [sm, sn, sxx, seval]
        try rfl
theorem logic_xor (X : List Int) (D : List (List Rg)) {F : List (List Rg)} {b2 : Bool} (hI : InD D X) (hd : ∀ d ∈ D, d.length ≤ 1000000000000) (hX : X.length = 3) (hs : xorS D X = (F, b2)) :
    Ctr Try.prog 44 [.ptr 3 0 0 0] (bits X D false) (.tuple []) (bits X F b2) := by
  refine call_box Try.func44 Try.call44 e_logic_bits_xor ?_
  simp +contextual -implicitDefEqProofs (maxSteps := 1000000) only [c_logic_bits_xor, bits_eq, sm, sn, sxx, seval]
  refine callA_rule (logic_places 3 (by decide)) (wkL_refl _) rfl ?_
  simp +contextual -implicitDefEqProofs (maxSteps := 1000000) only [sm, sn, sxx, seval]
  refine callV_rule (logic_count X D false 3 2 hI hd (by omega) (by omega)) ?_ rfl ?_
  · simp +contextual -implicitDefEqProofs (maxSteps := 1000000) only [sm, sn, sxx, seval]
  simp +contextual -implicitDefEqProofs (maxSteps := 1000000) only [sm, sn, sxx, seval]
  refine callV_rule (logic_count X D false 3 1 hI hd (by omega) (by omega)) ?_ rfl ?_
  · simp +contextual -implicitDefEqProofs (maxSteps := 1000000) only [sm, sn, sxx, seval]
  unfold xorS at hs
  by_cases c0 : (cl (so D X 2) 3).1 = 0
  · rw [if_pos c0] at hs
    simp only [Prod.mk.injEq] at hs
    obtain ⟨rfl, rfl⟩ := hs
    simp +contextual -implicitDefEqProofs (maxSteps := 1000000) only [sm, sn, sxx, seval, c0]
    refine ⟨[], [0, 1], by decide, ?_⟩
    simp +contextual -implicitDefEqProofs (maxSteps := 1000000) only [sm, sn, sxx, seval]
    try rfl
  · rw [if_neg c0] at hs
    by_cases c1 : (cl (so D X 2) 3).1 = 1
    · rw [if_pos c1] at hs
      obtain ⟨j, hj, hjl, -⟩ := cl_last (so D X 2) (n := 3) (by omega)
      rw [hjl, Int.toNat_natCast] at hs
      simp +contextual -implicitDefEqProofs (maxSteps := 1000000) only [sm, sn, sxx, seval, c0, c1, hjl]
      refine callM_rule [0, 1] (logic_set X D false j ((cl (so D X 1) 3).1.tmod 2) hI hd (by omega) hs) (by decide) ?_ ?_ ?_ ?_ ?_ ?_
      · simp +contextual -implicitDefEqProofs (maxSteps := 1000000) only [sm, sn, sxx, seval, bits_eq]
      · simp +contextual -implicitDefEqProofs (maxSteps := 1000000) only [sm, sn, sxx, seval, bits_eq]
      · simp +contextual -implicitDefEqProofs (maxSteps := 1000000) only [sm, sn, sxx, seval, bits_eq]
      · simp +contextual -implicitDefEqProofs (maxSteps := 1000000) only [sm, sn, sxx, seval, bits_eq]
      · simp +contextual -implicitDefEqProofs (maxSteps := 1000000) only [sm, sn, sxx, seval, bits_eq]
      · simp +contextual -implicitDefEqProofs (maxSteps := 1000000) only [sm, sn, sxx, seval, bits_eq]
        refine ⟨[], [0, 1], by decide, ?_⟩
        simp +contextual -implicitDefEqProofs (maxSteps := 1000000) only [sm, sn, sxx, seval]
        try rfl
    · rw [if_neg c1] at hs
      simp only [Prod.mk.injEq] at hs
      obtain ⟨rfl, rfl⟩ := hs
      simp +contextual -implicitDefEqProofs (maxSteps := 1000000) only [sm, sn, sxx, seval, c0, c1]
      refine ⟨[], [0, 1], by decide, ?_⟩
      simp +contextual -implicitDefEqProofs (maxSteps := 1000000) only [sm, sn, sxx, seval]
      try rfl
end Go.Proofs.Ytonkcemcledhiaa
