/- The code of functions, as abstract code. Printed by program. What the functions of package touchstoneref09 compute. What Without, Meet, Same of package touchstoneref09 compute. -/
import Derived.Test.YtbmcjhjbifojnaaAv2
import Derived.Test.YtbmcjhjbifojnaaProg
import Derived.Test.YtbmcjhjbifojnaaGSet
namespace Go.Proofs.Ytbmcjhjbifojnaa
open Av
set_option linter.unusedVariables false
set_option maxRecDepth 100000
def kd_CRef09 (f : Nat) : Nat := 0
/- touchstone/touchstoneref09.Right: slots d, 0, d, 1, i, 3 -/
def c_ref09_Right : AFunc := ⟨58, [.tmp 2],
  .seq (.region (⟨some 2, .mov (.val (.bool false)), none⟩ :: [])) <|
  .seq (.seq (.region (⟨some 3, .mov (.val (.int .i64 0)), none⟩ :: [])) <|
  .block 0 (.loop (.seq (.seq (.region (⟨some 4, .mov (.tmp 3), none⟩ ::
        ⟨some 5, .mov (.tmp 0), none⟩ ::
        ⟨some 6, .len false (.tmp 5), none⟩ ::
        ⟨some 7, .bin .lss (.tmp 4) (.tmp 6), none⟩ :: [])) <|
      .cond (.tmp 7) (.skip) <|
      .exit 0) <|
      .seq (.block 1 (.seq (.region (⟨some 10, .mov (.tmp 0), none⟩ ::
          ⟨some 11, .mov (.tmp 3), none⟩ ::
          ⟨some 12, .iaddr 2 (.tmp 10) (.tmp 11), none⟩ ::
          ⟨some 13, .faddr 0 (.tmp 12), none⟩ ::
          ⟨some 14, .load false 1 (.tmp 13), none⟩ ::
          ⟨some 15, .mov (.tmp 0), none⟩ ::
          ⟨some 16, .mov (.tmp 3), none⟩ ::
          ⟨some 17, .iaddr 2 (.tmp 15) (.tmp 16), none⟩ ::
          ⟨some 18, .faddr 1 (.tmp 17), none⟩ ::
          ⟨some 19, .load false 1 (.tmp 18), none⟩ ::
          ⟨some 20, .bin .gtr (.tmp 14) (.tmp 19), none⟩ ::
          ⟨some 21, .mov (.tmp 20), none⟩ ::
          ⟨some 22, .mov (.tmp 0), some (21, false)⟩ ::
          ⟨some 23, .mov (.tmp 3), some (21, false)⟩ ::
          ⟨some 24, .iaddr 2 (.tmp 22) (.tmp 23), some (21, false)⟩ ::
          ⟨some 25, .faddr 0 (.tmp 24), some (21, false)⟩ ::
          ⟨some 26, .load false 1 (.tmp 25), some (21, false)⟩ ::
          ⟨some 27, .call (.val (.fn (.func 39) [])) [(.tmp 26)], some (21, false)⟩ ::
          ⟨some 28, .un .not (.tmp 27), some (21, false)⟩ ::
          ⟨some 29, .pick (.tmp 21) (.val (.bool true)) (.tmp 28), none⟩ ::
          ⟨some 30, .mov (.tmp 29), none⟩ ::
          ⟨some 31, .mov (.tmp 0), some (30, false)⟩ ::
          ⟨some 32, .mov (.tmp 3), some (30, false)⟩ ::
          ⟨some 33, .iaddr 2 (.tmp 31) (.tmp 32), some (30, false)⟩ ::
          ⟨some 34, .faddr 1 (.tmp 33), some (30, false)⟩ ::
          ⟨some 35, .load false 1 (.tmp 34), some (30, false)⟩ ::
          ⟨some 36, .call (.val (.fn (.func 39) [])) [(.tmp 35)], some (30, false)⟩ ::
          ⟨some 37, .un .not (.tmp 36), some (30, false)⟩ ::
          ⟨some 38, .pick (.tmp 30) (.val (.bool true)) (.tmp 37), none⟩ ::
          ⟨some 39, .mov (.tmp 38), none⟩ ::
          ⟨some 40, .mov (.tmp 3), some (39, false)⟩ ::
          ⟨some 41, .bin .gtr (.tmp 40) (.val (.int .i64 0)), some (39, false)⟩ ::
          ⟨some 42, .mov (.tmp 41), some (39, false)⟩ ::
          ⟨some 43, .mov (.tmp 0), some (42, true)⟩ ::
          ⟨some 44, .mov (.tmp 3), some (42, true)⟩ ::
          ⟨some 45, .iaddr 2 (.tmp 43) (.tmp 44), some (42, true)⟩ ::
          ⟨some 46, .faddr 0 (.tmp 45), some (42, true)⟩ ::
          ⟨some 47, .load false 1 (.tmp 46), some (42, true)⟩ ::
          ⟨some 48, .mov (.tmp 0), some (42, true)⟩ ::
          ⟨some 49, .mov (.tmp 3), some (42, true)⟩ ::
          ⟨some 50, .bin .sub (.tmp 49) (.val (.int .i64 1)), some (42, true)⟩ ::
          ⟨some 51, .iaddr 2 (.tmp 48) (.tmp 50), some (42, true)⟩ ::
          ⟨some 52, .faddr 1 (.tmp 51), some (42, true)⟩ ::
          ⟨some 53, .load false 1 (.tmp 52), some (42, true)⟩ ::
          ⟨some 54, .bin .add (.tmp 53) (.val (.int .i64 2)), some (42, true)⟩ ::
          ⟨some 55, .bin .lss (.tmp 47) (.tmp 54), some (42, true)⟩ ::
          ⟨some 56, .pick (.tmp 42) (.tmp 55) (.val (.bool false)), some (39, false)⟩ ::
          ⟨some 57, .pick (.tmp 39) (.val (.bool true)) (.tmp 56), none⟩ :: [])) <|
        .cond (.tmp 57) (.seq (.region (⟨some 2, .mov (.val (.bool false)), none⟩ :: [])) <|
          .ret) <|
        .skip)) <|
      .region (⟨some 8, .mov (.tmp 3), none⟩ ::
        ⟨some 9, .bin .add (.tmp 8) (.val (.int .i64 1)), none⟩ ::
        ⟨some 3, .mov (.tmp 9), none⟩ :: [])))) <|
  .seq (.region (⟨some 2, .mov (.val (.bool true)), none⟩ :: [])) <|
  .ret⟩
theorem e_ref09_Right : cFunc Try.prog kd_CRef09 Try.f32 = some c_ref09_Right := by kernel_rfl
/- touchstone/touchstoneref09.Has: slots d, 0, v, 1, d, 2, v, 3, i, 5 -/
/- touchstone/touchstoneref09.Size: slots d, 0, d, 1, n, 3, i, 4 -/
/- touchstone/touchstoneref09.Next: slots d, 0, v, 1, d, 2, v, 3, i, 6 -/
/- touchstone/touchstoneref09.Cut: slots d, 0, lo, 1, hi, 2, d, 3, lo, 4, hi, 5, out, 7, i, 8, r, 9 -/
def c_ref09_Cut : AFunc := ⟨45, [.tmp 6],
  .seq (.region (⟨some 6, .mov (.val .nils), none⟩ :: [])) <|
  .seq (.region (⟨some 7, .mov (.val .nils), none⟩ :: [])) <|
  .seq (.seq (.region (⟨some 10, .mov (.tmp 0), none⟩ ::
    ⟨some 11, .call (.val (.fn (.func 32) [])) [(.tmp 10)], none⟩ ::
    ⟨some 12, .un .not (.tmp 11), none⟩ :: [])) <|
  .cond (.tmp 12) (.seq (.region (⟨some 13, .mov (.tmp 7), none⟩ ::
      ⟨some 6, .mov (.tmp 13), none⟩ :: [])) <|
    .ret) <|
  .skip) <|
  .seq (.seq (.region (⟨some 8, .mov (.val (.int .i64 0)), none⟩ :: [])) <|
  .block 0 (.loop (.seq (.seq (.region (⟨some 14, .mov (.tmp 8), none⟩ ::
        ⟨some 15, .mov (.tmp 0), none⟩ ::
        ⟨some 16, .len false (.tmp 15), none⟩ ::
        ⟨some 17, .bin .lss (.tmp 14) (.tmp 16), none⟩ :: [])) <|
      .cond (.tmp 17) (.skip) <|
      .exit 0) <|
      .seq (.block 1 (.seq (.region (⟨some 20, .mov (.tmp 1), none⟩ ::
          ⟨some 21, .mov (.tmp 0), none⟩ ::
          ⟨some 22, .mov (.tmp 8), none⟩ ::
          ⟨some 23, .iaddr 2 (.tmp 21) (.tmp 22), none⟩ ::
          ⟨some 24, .faddr 0 (.tmp 23), none⟩ ::
          ⟨some 25, .load false 1 (.tmp 24), none⟩ ::
          ⟨some 26, .mx (.tmp 20) [(.tmp 25)], none⟩ ::
          ⟨some 27, .mov (.tmp 2), none⟩ ::
          ⟨some 28, .mov (.tmp 0), none⟩ ::
          ⟨some 29, .mov (.tmp 8), none⟩ ::
          ⟨some 30, .iaddr 2 (.tmp 28) (.tmp 29), none⟩ ::
          ⟨some 31, .faddr 1 (.tmp 30), none⟩ ::
          ⟨some 32, .load false 1 (.tmp 31), none⟩ ::
          ⟨some 33, .mn (.tmp 27) [(.tmp 32)], none⟩ ::
          ⟨some 34, .build [(.int .i64 0), (.int .i64 0)] [(0, 1, (.tmp 26)), (1, 1, (.tmp 33))], none⟩ ::
          ⟨some 9, .alloc (.agg [(.int .i64 0), (.int .i64 0)]), none⟩ ::
          ⟨none, .store 2 (.tmp 9) (.tmp 34), none⟩ :: [])) <|
        .seq (.region (⟨some 35, .faddr 0 (.tmp 9), none⟩ ::
          ⟨some 36, .load false 1 (.tmp 35), none⟩ ::
          ⟨some 37, .faddr 1 (.tmp 9), none⟩ ::
          ⟨some 38, .load false 1 (.tmp 37), none⟩ ::
          ⟨some 39, .bin .leq (.tmp 36) (.tmp 38), none⟩ :: [])) <|
        .cond (.tmp 39) (.region (⟨some 40, .mov (.tmp 7), none⟩ ::
            ⟨some 41, .load true 2 (.tmp 9), none⟩ ::
            ⟨some 42, .bslice 2 [(.tmp 41)], none⟩ ::
            ⟨some 43, .app 2 16 (.tmp 40) (.tmp 42), none⟩ ::
            ⟨some 7, .mov (.tmp 43), none⟩ :: [])) <|
        .skip)) <|
      .region (⟨some 18, .mov (.tmp 8), none⟩ ::
        ⟨some 19, .bin .add (.tmp 18) (.val (.int .i64 1)), none⟩ ::
        ⟨some 8, .mov (.tmp 19), none⟩ :: [])))) <|
  .seq (.region (⟨some 44, .mov (.tmp 7), none⟩ ::
    ⟨some 6, .mov (.tmp 44), none⟩ :: [])) <|
  .ret⟩
theorem e_ref09_Cut : cFunc Try.prog kd_CRef09 Try.f41 = some c_ref09_Cut := by kernel_rfl
/- touchstone/touchstoneref09.Without: slots d, 0, v, 1, d, 2, v, 3, out, 5, i, 6, r, 7 -/
/- touchstone/touchstoneref09.Meet: slots a, 0, b, 1, a, 2, b, 3, out, 5, i, 6 -/
def c_ref09_Meet : AFunc := ⟨37, [.tmp 4],
  .seq (.region (⟨some 4, .mov (.val .nils), none⟩ :: [])) <|
  .seq (.region (⟨some 5, .mov (.val .nils), none⟩ :: [])) <|
  .seq (.seq (.region (⟨some 7, .mov (.tmp 0), none⟩ ::
    ⟨some 8, .call (.val (.fn (.func 32) [])) [(.tmp 7)], none⟩ ::
    ⟨some 9, .un .not (.tmp 8), none⟩ ::
    ⟨some 10, .mov (.tmp 9), none⟩ ::
    ⟨some 11, .mov (.tmp 1), some (10, false)⟩ ::
    ⟨some 12, .call (.val (.fn (.func 32) [])) [(.tmp 11)], some (10, false)⟩ ::
    ⟨some 13, .un .not (.tmp 12), some (10, false)⟩ ::
    ⟨some 14, .pick (.tmp 10) (.val (.bool true)) (.tmp 13), none⟩ :: [])) <|
  .cond (.tmp 14) (.seq (.region (⟨some 15, .mov (.tmp 5), none⟩ ::
      ⟨some 4, .mov (.tmp 15), none⟩ :: [])) <|
    .ret) <|
  .skip) <|
  .seq (.seq (.region (⟨some 6, .mov (.val (.int .i64 0)), none⟩ :: [])) <|
  .block 0 (.loop (.seq (.seq (.region (⟨some 16, .mov (.tmp 6), none⟩ ::
        ⟨some 17, .mov (.tmp 1), none⟩ ::
        ⟨some 18, .len false (.tmp 17), none⟩ ::
        ⟨some 19, .bin .lss (.tmp 16) (.tmp 18), none⟩ :: [])) <|
      .cond (.tmp 19) (.skip) <|
      .exit 0) <|
      .seq (.block 1 (.region (⟨some 22, .mov (.tmp 5), none⟩ ::
          ⟨some 23, .mov (.tmp 0), none⟩ ::
          ⟨some 24, .mov (.tmp 1), none⟩ ::
          ⟨some 25, .mov (.tmp 6), none⟩ ::
          ⟨some 26, .iaddr 2 (.tmp 24) (.tmp 25), none⟩ ::
          ⟨some 27, .faddr 0 (.tmp 26), none⟩ ::
          ⟨some 28, .load false 1 (.tmp 27), none⟩ ::
          ⟨some 29, .mov (.tmp 1), none⟩ ::
          ⟨some 30, .mov (.tmp 6), none⟩ ::
          ⟨some 31, .iaddr 2 (.tmp 29) (.tmp 30), none⟩ ::
          ⟨some 32, .faddr 1 (.tmp 31), none⟩ ::
          ⟨some 33, .load false 1 (.tmp 32), none⟩ ::
          ⟨some 34, .call (.val (.fn (.func 41) [])) [(.tmp 23), (.tmp 28), (.tmp 33)], none⟩ ::
          ⟨some 35, .app 2 16 (.tmp 22) (.tmp 34), none⟩ ::
          ⟨some 5, .mov (.tmp 35), none⟩ :: []))) <|
      .region (⟨some 20, .mov (.tmp 6), none⟩ ::
        ⟨some 21, .bin .add (.tmp 20) (.val (.int .i64 1)), none⟩ ::
        ⟨some 6, .mov (.tmp 21), none⟩ :: [])))) <|
  .seq (.region (⟨some 36, .mov (.tmp 5), none⟩ ::
    ⟨some 4, .mov (.tmp 36), none⟩ :: [])) <|
  .ret⟩
theorem e_ref09_Meet : cFunc Try.prog kd_CRef09 Try.f36 = some c_ref09_Meet := by kernel_rfl
/- touchstone/touchstoneref09.Same: slots a, 0, b, 1, a, 2, b, 3, i, 5 -/
def c_ref09_Same : AFunc := ⟨36, [.tmp 4],
  .seq (.region (⟨some 4, .mov (.val (.bool false)), none⟩ :: [])) <|
  .seq (.seq (.region (⟨some 6, .mov (.tmp 0), none⟩ ::
    ⟨some 7, .call (.val (.fn (.func 32) [])) [(.tmp 6)], none⟩ ::
    ⟨some 8, .un .not (.tmp 7), none⟩ ::
    ⟨some 9, .mov (.tmp 8), none⟩ ::
    ⟨some 10, .mov (.tmp 1), some (9, false)⟩ ::
    ⟨some 11, .call (.val (.fn (.func 32) [])) [(.tmp 10)], some (9, false)⟩ ::
    ⟨some 12, .un .not (.tmp 11), some (9, false)⟩ ::
    ⟨some 13, .pick (.tmp 9) (.val (.bool true)) (.tmp 12), none⟩ ::
    ⟨some 14, .mov (.tmp 13), none⟩ ::
    ⟨some 15, .mov (.tmp 0), some (14, false)⟩ ::
    ⟨some 16, .len false (.tmp 15), some (14, false)⟩ ::
    ⟨some 17, .mov (.tmp 1), some (14, false)⟩ ::
    ⟨some 18, .len false (.tmp 17), some (14, false)⟩ ::
    ⟨some 19, .bin .neq (.tmp 16) (.tmp 18), some (14, false)⟩ ::
    ⟨some 20, .pick (.tmp 14) (.val (.bool true)) (.tmp 19), none⟩ :: [])) <|
  .cond (.tmp 20) (.seq (.region (⟨some 4, .mov (.val (.bool false)), none⟩ :: [])) <|
    .ret) <|
  .skip) <|
  .seq (.seq (.region (⟨some 5, .mov (.val (.int .i64 0)), none⟩ :: [])) <|
  .block 0 (.loop (.seq (.seq (.region (⟨some 21, .mov (.tmp 5), none⟩ ::
        ⟨some 22, .mov (.tmp 0), none⟩ ::
        ⟨some 23, .len false (.tmp 22), none⟩ ::
        ⟨some 24, .bin .lss (.tmp 21) (.tmp 23), none⟩ :: [])) <|
      .cond (.tmp 24) (.skip) <|
      .exit 0) <|
      .seq (.block 1 (.seq (.region (⟨some 27, .mov (.tmp 0), none⟩ ::
          ⟨some 28, .mov (.tmp 5), none⟩ ::
          ⟨some 29, .iaddr 2 (.tmp 27) (.tmp 28), none⟩ ::
          ⟨some 30, .load true 2 (.tmp 29), none⟩ ::
          ⟨some 31, .mov (.tmp 1), none⟩ ::
          ⟨some 32, .mov (.tmp 5), none⟩ ::
          ⟨some 33, .iaddr 2 (.tmp 31) (.tmp 32), none⟩ ::
          ⟨some 34, .load true 2 (.tmp 33), none⟩ ::
          ⟨some 35, .eqs true 2 (.tmp 30) (.tmp 34), none⟩ :: [])) <|
        .cond (.tmp 35) (.seq (.region (⟨some 4, .mov (.val (.bool false)), none⟩ :: [])) <|
          .ret) <|
        .skip)) <|
      .region (⟨some 25, .mov (.tmp 5), none⟩ ::
        ⟨some 26, .bin .add (.tmp 25) (.val (.int .i64 1)), none⟩ ::
        ⟨some 5, .mov (.tmp 26), none⟩ :: [])))) <|
  .seq (.region (⟨some 4, .mov (.val (.bool true)), none⟩ :: [])) <|
  .ret⟩
theorem e_ref09_Same : cFunc Try.prog kd_CRef09 Try.f29 = some c_ref09_Same := by kernel_rfl
end Go.Proofs.Ytbmcjhjbifojnaa
namespace Go.Proofs.Ytbmcjhjbifojnaa
open Av
attribute [local irreducible] awp awpOpers
set_option linter.unusedSimpArgs false
set_option linter.unusedVariables false
set_option maxRecDepth 100000
set_option maxHeartbeats 4000000
theorem ref09_Right (l : List Rg) (hl : l.length ≤ 9223372036854775807) : Ctr Try.prog 32 [eRgs l] [] (.bool (rightB l)) [] := by
  refine call_pure Try.func32 Try.call32 e_ref09_Right ?_
  simp +contextual -implicitDefEqProofs (maxSteps := 1000000) only [c_ref09_Right, eRgs, sm, sn, sxx, smp, seval]
  refine loop_rule (fun k : Nat => k ≤ l.length ∧ ∀ j, j < k → okAt l j = true) (fun k => tm 58 [(0, .list 2 (l.map eRg)), (3, .int .i64 k)]) (fun _ => []) (fun k => l.length - k) 0 ⟨by omega, by omega⟩ ⟨[], by decide, rfl, ?_, ?_⟩ ?_
  · simp +contextual -implicitDefEqProofs (maxSteps := 1000000) only [sm, sn, sxx, smp, seval]
  · simp +contextual -implicitDefEqProofs (maxSteps := 1000000) only [sm, sn, sxx, smp, seval, Int.natCast_zero]
  · rintro k ⟨hk, hok⟩
    by_cases hlt : k < l.length
    · have hlt' : (k : Int) < ((l.length : Nat) : Int) := by omega
      have e2 : IntKind.i64.wrap ((k : Int) + 1) = ((k + 1 : Nat) : Int) := by rw [wrap_i64] <;> omega
      obtain ⟨⟨x, y⟩, hx⟩ : ∃ r, l[k]? = some r := ⟨_, List.getElem?_eq_getElem hlt⟩
      by_cases h1 : y < x
      · simp +contextual -implicitDefEqProofs (maxSteps := 1000000) only [sm, sn, sxx, smp, seval, hlt', hx, h1]
        exact rightB_no hlt (by simp [okAt, hx, h1])
      simp +contextual -implicitDefEqProofs (maxSteps := 1000000) only [sm, sn, sxx, smp, seval, hlt', hx, h1]
      refine callA_rule (ref08_Within _) (wkL_refl _) rfl ?_
      cases hw1 : withinB x
      · simp +contextual -implicitDefEqProofs (maxSteps := 1000000) only [sm, sn, sxx, smp, seval]
        exact rightB_no hlt (by simp [okAt, hx, hw1])
      simp +contextual -implicitDefEqProofs (maxSteps := 1000000) only [sm, sn, sxx, smp, seval, hx, h1]
      refine callA_rule (ref08_Within _) (wkL_refl _) rfl ?_
      cases hw2 : withinB y
      · simp +contextual -implicitDefEqProofs (maxSteps := 1000000) only [sm, sn, sxx, smp, seval]
        exact rightB_no hlt (by simp [okAt, hx, hw2])
      by_cases h0 : k = 0
      · have h0' : ¬ (0 : Int) < k := by omega
        simp +contextual -implicitDefEqProofs (maxSteps := 1000000) only [sm, sn, sxx, smp, seval, h1, h0', e2]
        refine ⟨k + 1, ⟨by omega, ?_⟩, by omega, [], by decide, rfl, ?_, ?_⟩
        · intro j hj
          rcases Nat.lt_succ_iff_lt_or_eq.1 hj with h | rfl
          · first | exact hok j h | simpa using hok j h
          · simp only [okAt, hx]; simp [h0, h1, hw1, hw2]
        · simp +contextual -implicitDefEqProofs (maxSteps := 1000000) only [sm, sn, sxx, smp, seval]
        · simp +contextual -implicitDefEqProofs (maxSteps := 1000000) only [sm, sn, sxx, smp, seval]
      · have h0' : (0 : Int) < k := by omega
        have e1 : IntKind.i64.wrap ((k : Int) - 1) = ((k - 1 : Nat) : Int) := by rw [wrap_i64] <;> omega
        obtain ⟨⟨p, q⟩, hpq⟩ : ∃ r, l[k - 1]? = some r := ⟨_, List.getElem?_eq_getElem (by omega)⟩
        have hp := hok (k - 1) (by omega)
        simp only [okAt, hpq, Bool.and_eq_true, withinB_iff] at hp
        have e3 : IntKind.i64.wrap (q + 2) = q + 2 := by rw [wrap_i64] <;> omega
        by_cases hg : x < q + 2
        · simp +contextual -implicitDefEqProofs (maxSteps := 1000000) only [sm, sn, sxx, smp, seval, hx, h1, h0', e1, hpq, e3, hg]
          exact rightB_no hlt (by simp [okAt, hx, hpq, h1, hw1, hw2, h0]; omega)
        · simp +contextual -implicitDefEqProofs (maxSteps := 1000000) only [sm, sn, sxx, smp, seval, hx, h1, h0', e1, hpq, e3, hg, e2]
          refine ⟨k + 1, ⟨by omega, ?_⟩, by omega, [], by decide, rfl, ?_, ?_⟩
          · intro j hj
            rcases Nat.lt_succ_iff_lt_or_eq.1 hj with h | rfl
            · first | exact hok j h | simpa using hok j h
            · simp [okAt, hx, h1, hw1, hw2, hpq]; omega
          · simp +contextual -implicitDefEqProofs (maxSteps := 1000000) only [sm, sn, sxx, smp, seval]
          · simp +contextual -implicitDefEqProofs (maxSteps := 1000000) only [sm, sn, sxx, smp, seval]
    · have hkn : k = l.length := by omega
      subst hkn
      have hall := hok
      simp +contextual -implicitDefEqProofs (maxSteps := 1000000) only [sm, sn, sxx, smp, seval, Int.lt_irrefl]
      exact rightB_yes hall
theorem ref09_Cut (l : List Rg) (lo hi : Int) (hl : l.length ≤ 1000000000000) : Ctr Try.prog 41 [eRgs l, .int .i64 lo, .int .i64 hi] [] (eRgs (rcutS lo hi l)) [] := by
  refine call_pure Try.func41 Try.call41 e_ref09_Cut ?_
  simp +contextual -implicitDefEqProofs (maxSteps := 1000000) only [c_ref09_Cut, eRgs, sm, sn, sxx, smp, seval]
  refine callA_rule (ref09_Right l (by omega)) (wkL_refl _) rfl ?_
  cases hr : rightB l
  · simp +contextual -implicitDefEqProofs (maxSteps := 1000000) only [sm, sn, sxx, smp, seval]
    simp [rcutS, hr]
  · simp +contextual -implicitDefEqProofs (maxSteps := 1000000) only [sm, sn, sxx, smp, seval]
    refine loop_ruleV [(7, 2)] (fun b : Nat × List Rg => b.1 ≤ l.length ∧ b.2.length ≤ 1 * b.1 ∧ b.2 ++ rcutGo lo hi (l.drop b.1) = rcutGo lo hi l) (fun b : Nat × List Rg => tm 45 [(0, .list 2 (l.map eRg)), (1, .int .i64 lo), (2, .int .i64 hi), (7, .sl 2 0 0 b.2.length), (8, .int .i64 b.1)]) (fun b => [some (2, b.2.map eRg)]) (fun b => l.length - b.1) (0, []) (by simp +contextual -implicitDefEqProofs (maxSteps := 1000000) only [sm, sn, sxx, smp, seval]) ⟨by simp, by simp, by simp⟩ ⟨[0], by decide, rfl, ?_, ?_⟩ ?_
    · simp +contextual -implicitDefEqProofs (maxSteps := 1000000) only [sm, sn, sxx, smp, seval]
    · simp +contextual -implicitDefEqProofs (maxSteps := 1000000) only [sm, sn, sxx, smp, seval, Int.natCast_zero]
    · rintro ⟨k, acc⟩ ⟨hk, hacc, hgo⟩
      simp only at hk hacc hgo
      by_cases hlt : k < l.length
      · obtain ⟨⟨x, y⟩, hx⟩ : ∃ r, l[k]? = some r := ⟨_, List.getElem?_eq_getElem hlt⟩
        have hd := drop_at hx
        have hlt' : (k : Int) < (l.length : Int) := by omega
        have e2 : IntKind.i64.wrap ((k : Int) + 1) = ((k + 1 : Nat) : Int) := by rw [wrap_i64] <;> omega
        by_cases h1 : max lo x ≤ min hi y
        · have c1 : (acc.length + 1) * 16 ≤ 140737488355328 := by omega
          have c2 : acc.length + 1 ≤ maxLen := by unfold maxLen; omega
          simp +contextual -implicitDefEqProofs (maxSteps := 1000000) only [sm, sn, sxx, smp, seval, hlt', hx, h1, e2, c1, c2, Nat.le_refl]
          refine ⟨(k + 1, acc ++ [(max lo x, min hi y)]), ⟨by (try dsimp only); omega, by (try dsimp only); simp only [List.length_append, List.length_cons, List.length_nil]; omega, by
            rw [← hgo, hd]; simp [rcutGo, h1]⟩, by (try dsimp only); omega, [2], by decide, rfl, ?_, ?_⟩
          · simp +contextual -implicitDefEqProofs (maxSteps := 1000000) only [sm, sn, sxx, smp, seval]
          · simp +contextual -implicitDefEqProofs (maxSteps := 1000000) only [sm, sn, sxx, smp, seval]
        · simp +contextual -implicitDefEqProofs (maxSteps := 1000000) only [sm, sn, sxx, smp, seval, hlt', hx, h1, e2]
          refine ⟨(k + 1, acc), ⟨by (try dsimp only); omega, by (try dsimp only); omega, by
            rw [← hgo, hd]; simp [rcutGo, h1]⟩, by (try dsimp only); omega, [0], by decide, rfl, ?_, ?_⟩
          · simp +contextual -implicitDefEqProofs (maxSteps := 1000000) only [sm, sn, sxx, smp, seval]
          · simp +contextual -implicitDefEqProofs (maxSteps := 1000000) only [sm, sn, sxx, smp, seval]
      · have : k = l.length := by omega
        subst this
        have hgo : acc = rcutGo lo hi l := by rw [← hgo, List.drop_length]; simp [rcutGo]
        simp +contextual -implicitDefEqProofs (maxSteps := 1000000) only [sm, sn, sxx, smp, seval, Int.lt_irrefl, Nat.le_refl]
        simp [rcutS, hr, hgo]
end Go.Proofs.Ytbmcjhjbifojnaa
namespace Go.Proofs.Ytbmcjhjbifojnaa
open Av
attribute [local irreducible] awp awpOpers
set_option linter.unusedSimpArgs false
set_option linter.unusedVariables false
set_option maxRecDepth 100000
set_option maxHeartbeats 4000000
theorem ref09_Meet (a b : List Rg) (ha : a.length ≤ 9223372036854775807) (hb : b.length ≤ 9223372036854775807) : Ctr Try.prog 36 [eRgs a, eRgs b] [] (eRgs (rmeetS a b)) [] := by
  refine call_pure Try.func36 Try.call36 e_ref09_Meet ?_
  simp +contextual -implicitDefEqProofs (maxSteps := 1000000) only [c_ref09_Meet, eRgs, sm, sn, sxx, smp, seval]
  refine callA_rule (ref09_Right a (by omega)) (wkL_refl _) rfl ?_
  cases hr : rightB a
  · simp +contextual -implicitDefEqProofs (maxSteps := 1000000) only [sm, sn, sxx, smp, seval]
    simp [rmeetS, hr]
  simp +contextual -implicitDefEqProofs (maxSteps := 1000000) only [sm, sn, sxx, smp, seval]
  refine callA_rule (ref09_Right b (by omega)) (wkL_refl _) rfl ?_
  cases hr2 : rightB b
  · simp +contextual -implicitDefEqProofs (maxSteps := 1000000) only [sm, sn, sxx, smp, seval]
    simp [rmeetS, hr, hr2]
  simp +contextual -implicitDefEqProofs (maxSteps := 1000000) only [sm, sn, sxx, smp, seval]
  have hal := right_length hr
  have hbl := right_length hr2
  revert hb hr2 hbl
  generalize b = B
  intro hb hr2 hbl
  refine loop_ruleV [(5, 2)] (fun b : Nat × List Rg => b.1 ≤ B.length ∧ b.2.length ≤ 1048577 * b.1 ∧ b.2 ++ rmeetGo a (B.drop b.1) = rmeetGo a B) (fun b : Nat × List Rg => tm 37 [(0, .list 2 (a.map eRg)), (1, .list 2 (B.map eRg)), (5, .sl 2 0 0 b.2.length), (6, .int .i64 b.1)]) (fun b => [some (2, b.2.map eRg)]) (fun b => B.length - b.1) (0, []) (by simp +contextual -implicitDefEqProofs (maxSteps := 1000000) only [sm, sn, sxx, smp, seval]) ⟨by simp, by simp, by simp⟩ ⟨[0], by decide, rfl, ?_, ?_⟩ ?_
  · simp +contextual -implicitDefEqProofs (maxSteps := 1000000) only [sm, sn, sxx, smp, seval]
  · simp +contextual -implicitDefEqProofs (maxSteps := 1000000) only [sm, sn, sxx, smp, seval, Int.natCast_zero]
  · rintro ⟨k, acc⟩ ⟨hk, hacc, hgo⟩
    simp only at hk hacc hgo
    by_cases hlt : k < B.length
    · obtain ⟨⟨x, y⟩, hx⟩ : ∃ r, B[k]? = some r := ⟨_, List.getElem?_eq_getElem hlt⟩
      have hd := drop_at hx
      have hlt' : (k : Int) < (B.length : Int) := by omega
      have e2 : IntKind.i64.wrap ((k : Int) + 1) = ((k + 1 : Nat) : Int) := by rw [wrap_i64] <;> omega
      have hcl : (rcutS x y a).length ≤ 1048577 := Nat.le_trans (rcutS_length _ _ _) hal
      have c1 : (acc.length + (rcutS x y a).length) * 16 ≤ 140737488355328 := by omega
      have c2 : acc.length + (rcutS x y a).length ≤ maxLen := by unfold maxLen; omega
      simp +contextual -implicitDefEqProofs (maxSteps := 1000000) only [sm, sn, sxx, smp, seval, hlt', hx, e2]
      refine callA_rule (ref09_Cut a x y (by omega)) (wkL_refl _) rfl ?_
      simp +contextual -implicitDefEqProofs (maxSteps := 1000000) only [sm, sn, sxx, smp, seval, eRgs, e2, c1, c2]
      refine ⟨(k + 1, acc ++ rcutS x y a), ⟨by (try dsimp only); omega, by (try dsimp only); simp only [List.length_append, List.length_cons, List.length_nil]; omega, by
        rw [← hgo, hd]; simp [rmeetGo]⟩, by (try dsimp only); omega, [1], by decide, rfl, ?_, ?_⟩
      · simp +contextual -implicitDefEqProofs (maxSteps := 1000000) only [sm, sn, sxx, smp, seval]
      · simp +contextual -implicitDefEqProofs (maxSteps := 1000000) only [sm, sn, sxx, smp, seval]
    · have : k = B.length := by omega
      subst this
      have hgo : acc = rmeetGo a B := by rw [← hgo, List.drop_length]; simp [rmeetGo]
      simp +contextual -implicitDefEqProofs (maxSteps := 1000000) only [sm, sn, sxx, smp, seval, Int.lt_irrefl]
      simp [rmeetS, hr, hr2, hgo]
theorem ref09_Same (a b : List Rg) (ha : a.length ≤ 1000000000000) (hb : b.length ≤ 1000000000000) : Ctr Try.prog 29 [eRgs a, eRgs b] [] (.bool (rsameB a b)) [] := by
  refine call_pure Try.func29 Try.call29 e_ref09_Same ?_
  simp +contextual -implicitDefEqProofs (maxSteps := 1000000) only [c_ref09_Same, eRgs, sm, sn, sxx, smp, seval]
  refine callA_rule (ref09_Right a (by omega)) (wkL_refl _) rfl ?_
  cases hr : rightB a
  · simp +contextual -implicitDefEqProofs (maxSteps := 1000000) only [sm, sn, sxx, smp, seval]
    simp [rsameB, hr]
  simp +contextual -implicitDefEqProofs (maxSteps := 1000000) only [sm, sn, sxx, smp, seval]
  refine callA_rule (ref09_Right b (by omega)) (wkL_refl _) rfl ?_
  cases hr2 : rightB b
  · simp +contextual -implicitDefEqProofs (maxSteps := 1000000) only [sm, sn, sxx, smp, seval]
    simp [rsameB, hr, hr2]
  by_cases hn : a.length = b.length
  · have hn' : (b.length : Int) = (a.length : Int) := by omega
    simp +contextual -implicitDefEqProofs (maxSteps := 1000000) only [sm, sn, sxx, smp, seval, hn']
    refine loop_rule (fun k : Nat => k ≤ a.length ∧ ∀ j, j < k → eqAt a b j = true) (fun k => tm 36 [(0, .list 2 (a.map eRg)), (1, .list 2 (b.map eRg)), (5, .int .i64 k)]) (fun _ => []) (fun k => a.length - k) 0 ⟨by omega, by omega⟩ ⟨[], by decide, rfl, ?_, ?_⟩ ?_
    · simp +contextual -implicitDefEqProofs (maxSteps := 1000000) only [sm, sn, sxx, smp, seval]
    · simp +contextual -implicitDefEqProofs (maxSteps := 1000000) only [sm, sn, sxx, smp, seval, Int.natCast_zero]
    · rintro k ⟨hk, hok⟩
      by_cases hlt : k < a.length
      · have hlt' : (k : Int) < ((a.length : Nat) : Int) := by omega
        have e2 : IntKind.i64.wrap ((k : Int) + 1) = ((k + 1 : Nat) : Int) := by rw [wrap_i64] <;> omega
        obtain ⟨⟨x, y⟩, hx⟩ : ∃ r, a[k]? = some r := ⟨_, List.getElem?_eq_getElem hlt⟩
        obtain ⟨⟨p, q⟩, hp⟩ : ∃ r, b[k]? = some r := ⟨_, List.getElem?_eq_getElem (by omega)⟩
        have hq : eqAt a b k = (decide (x = p) && decide (y = q)) := by simp [eqAt, hx, hp]
        by_cases h1 : x = p ∧ y = q
        · obtain ⟨rfl, rfl⟩ := h1
          simp +contextual -implicitDefEqProofs (maxSteps := 1000000) only [sm, sn, sxx, smp, seval, hlt', hn', hx, hp, e2]
          refine ⟨k + 1, ⟨by omega, ?_⟩, by omega, [], by decide, rfl, ?_, ?_⟩
          · intro j hj
            rcases Nat.lt_succ_iff_lt_or_eq.1 hj with h | rfl
            · first | exact hok j h | simpa using hok j h
            · simp [hq]
          · simp +contextual -implicitDefEqProofs (maxSteps := 1000000) only [sm, sn, sxx, smp, seval]
          · simp +contextual -implicitDefEqProofs (maxSteps := 1000000) only [sm, sn, sxx, smp, seval]
        · have h1' : (decide (x = p) && decide (y = q)) = false := by simp <;> omega
          simp +contextual -implicitDefEqProofs (maxSteps := 1000000) only [sm, sn, sxx, smp, seval, hlt', hn', hx, hp, h1']
          rw [h1'] at hq
          simp only [rsameB, hr, hr2, Bool.true_and]
          exact eq_no hq
      · have hkn : k = a.length := by omega
        subst hkn
        have hall := hok
        simp +contextual -implicitDefEqProofs (maxSteps := 1000000) only [sm, sn, sxx, smp, seval, Int.lt_irrefl]
        simp only [rsameB, hr, hr2, Bool.true_and]
        exact eq_yes hn hall
  · have hn' : ((a.length : Int) = (b.length : Int)) = False := by simp only [eq_iff_iff, iff_false]; omega
    simp +contextual -implicitDefEqProofs (maxSteps := 1000000) only [sm, sn, sxx, smp, seval, hn']
    simp only [rsameB, hr, hr2, Bool.true_and, decide_eq_false_iff_not]
    rintro rfl
    exact hn rfl
end Go.Proofs.Ytbmcjhjbifojnaa
