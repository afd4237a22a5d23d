/- The code of functions, as abstract code. Printed by program. What Lo, Hi, Fixed, With of package touchstoneref12 compute. The code of functions, as abstract code. Printed by program. Smaller, Under. -/
import Derived.Test.YtnhedjpghpdbdaaAv2
import Derived.Test.YtnhedjpghpdbdaaProg
import Derived.Test.YtnhedjpghpdbdaaPlMod
import Derived.Test.YtnhedjpghpdbdaaGRef09
namespace Go.Proofs.Ytnhedjpghpdbdaa
open Av
set_option linter.unusedVariables false
set_option maxRecDepth 100000
def kd_CRef12a (f : Nat) : Nat := 0
/- touchstone/touchstoneref12.Lo: slots d, 0, d, 1 -/
def c_ref12_Lo : AFunc := ⟨7, [.tmp 2],
  .seq (.region (⟨some 2, .mov (.val (.int .i64 0)), none⟩ :: [])) <|
  .seq (.region (⟨some 3, .mov (.tmp 0), none⟩ ::
    ⟨some 4, .iaddr 2 (.tmp 3) (.val (.int .i64 0)), none⟩ ::
    ⟨some 5, .faddr 0 (.tmp 4), none⟩ ::
    ⟨some 6, .load false 1 (.tmp 5), none⟩ ::
    ⟨some 2, .mov (.tmp 6), none⟩ :: [])) <|
  .ret⟩
theorem e_ref12_Lo : cFunc Try.prog kd_CRef12a Try.f89 = some c_ref12_Lo := by kernel_rfl
/- touchstone/touchstoneref12.Hi: slots d, 0, d, 1 -/
def c_ref12_Hi : AFunc := ⟨10, [.tmp 2],
  .seq (.region (⟨some 2, .mov (.val (.int .i64 0)), none⟩ :: [])) <|
  .seq (.region (⟨some 3, .mov (.tmp 0), none⟩ ::
    ⟨some 4, .mov (.tmp 0), none⟩ ::
    ⟨some 5, .len false (.tmp 4), none⟩ ::
    ⟨some 6, .bin .sub (.tmp 5) (.val (.int .i64 1)), none⟩ ::
    ⟨some 7, .iaddr 2 (.tmp 3) (.tmp 6), none⟩ ::
    ⟨some 8, .faddr 1 (.tmp 7), none⟩ ::
    ⟨some 9, .load false 1 (.tmp 8), none⟩ ::
    ⟨some 2, .mov (.tmp 9), none⟩ :: [])) <|
  .ret⟩
theorem e_ref12_Hi : cFunc Try.prog kd_CRef12a Try.f88 = some c_ref12_Hi := by kernel_rfl
/- touchstone/touchstoneref12.Fixed: slots d, 0, d, 1 -/
/- touchstone/touchstoneref12.With: slots d, 0, x, 1, l, 2, d, 3, x, 4, l, 5, out, 7, i, 8 -/
def c_ref12_With : AFunc := ⟨30, [.tmp 6],
  .seq (.region (⟨some 6, .mov (.val .nils), none⟩ :: [])) <|
  .seq (.region (⟨some 7, .mov (.val .nils), none⟩ :: [])) <|
  .seq (.seq (.region (⟨some 8, .mov (.val (.int .i64 0)), none⟩ :: [])) <|
  .block 0 (.loop (.seq (.seq (.region (⟨some 9, .mov (.tmp 8), none⟩ ::
        ⟨some 10, .mov (.tmp 0), none⟩ ::
        ⟨some 11, .len false (.tmp 10), none⟩ ::
        ⟨some 12, .bin .lss (.tmp 9) (.tmp 11), none⟩ :: [])) <|
      .cond (.tmp 12) (.skip) <|
      .exit 0) <|
      .seq (.block 1 (.seq (.region (⟨some 15, .mov (.tmp 8), none⟩ ::
          ⟨some 16, .mov (.tmp 1), none⟩ ::
          ⟨some 17, .bin .eql (.tmp 15) (.tmp 16), none⟩ :: [])) <|
        .cond (.tmp 17) (.region (⟨some 18, .mov (.tmp 7), none⟩ ::
            ⟨some 19, .mov (.tmp 2), none⟩ ::
            ⟨some 20, .bslice 1 [(.tmp 19)], none⟩ ::
            ⟨some 21, .app 1 24 (.tmp 18) (.tmp 20), none⟩ ::
            ⟨some 7, .mov (.tmp 21), none⟩ :: [])) <|
        .region (⟨some 22, .mov (.tmp 7), none⟩ ::
          ⟨some 23, .mov (.tmp 0), none⟩ ::
          ⟨some 24, .mov (.tmp 8), none⟩ ::
          ⟨some 25, .iaddr 1 (.tmp 23) (.tmp 24), none⟩ ::
          ⟨some 26, .load false 1 (.tmp 25), none⟩ ::
          ⟨some 27, .bslice 1 [(.tmp 26)], none⟩ ::
          ⟨some 28, .app 1 24 (.tmp 22) (.tmp 27), none⟩ ::
          ⟨some 7, .mov (.tmp 28), none⟩ :: []))) <|
      .region (⟨some 13, .mov (.tmp 8), none⟩ ::
        ⟨some 14, .bin .add (.tmp 13) (.val (.int .i64 1)), none⟩ ::
        ⟨some 8, .mov (.tmp 14), none⟩ :: [])))) <|
  .seq (.region (⟨some 29, .mov (.tmp 7), none⟩ ::
    ⟨some 6, .mov (.tmp 29), none⟩ :: [])) <|
  .ret⟩
theorem e_ref12_With : cFunc Try.prog kd_CRef12a Try.f47 = some c_ref12_With := by kernel_rfl
end Go.Proofs.Ytnhedjpghpdbdaa
namespace Go.Proofs.Ytnhedjpghpdbdaa
open Av
attribute [local irreducible] awp awpOpers
set_option linter.unusedSimpArgs false
set_option linter.unusedVariables false
set_option maxRecDepth 100000
set_option maxHeartbeats 4000000
theorem ref12_Lo (r : List Rg) (hr : rightB r = true) (h0 : 0 < r.length) : Ctr Try.prog 89 [eRgs r] [] (.int .i64 (endsV r).1) [] := by
  refine call_pure Try.func89 Try.call89 e_ref12_Lo ?_
  obtain ⟨⟨x, y⟩, hx⟩ : ∃ a, r[0]? = some a := ⟨_, List.getElem?_eq_getElem h0⟩
  obtain ⟨⟨p, q⟩, hp⟩ : ∃ a, r[r.length - 1]? = some a := ⟨_, List.getElem?_eq_getElem (by omega)⟩
  rw [ends_at hr hx hp]
  simp +contextual -implicitDefEqProofs (maxSteps := 1000000) only [c_ref12_Lo, eRgs, sm, sn, sxx, seval, hx]
theorem ref12_Hi (r : List Rg) (hr : rightB r = true) (h0 : 0 < r.length) (hl : r.length ≤ 1000000000000) : Ctr Try.prog 88 [eRgs r] [] (.int .i64 (endsV r).2) [] := by
  refine call_pure Try.func88 Try.call88 e_ref12_Hi ?_
  obtain ⟨⟨x, y⟩, hx⟩ : ∃ a, r[0]? = some a := ⟨_, List.getElem?_eq_getElem h0⟩
  obtain ⟨⟨p, q⟩, hp⟩ : ∃ a, r[r.length - 1]? = some a := ⟨_, List.getElem?_eq_getElem (by omega)⟩
  have e1 : IntKind.i64.wrap ((r.length : Int) - 1) = ((r.length - 1 : Nat) : Int) := by rw [wrap_i64] <;> omega
  rw [ends_at hr hx hp]
  simp +contextual -implicitDefEqProofs (maxSteps := 1000000) only [c_ref12_Hi, eRgs, sm, sn, sxx, seval, hp, e1]
theorem ref12_With (D : List (List Rg)) (n : Nat) (r : List Rg) (hD : D.length ≤ 1000000000000) : Ctr Try.prog 47 [eDoms D, .int .i64 n, eRgs r] [] (eDoms (D.set n r)) [] := by
  refine call_pure Try.func47 Try.call47 e_ref12_With ?_
  obtain ⟨T, hT⟩ : ∃ T, D.set n r = T := ⟨_, rfl⟩
  have hTl : T.length = D.length := by rw [← hT, List.length_set]
  rw [hT]
  simp +contextual -implicitDefEqProofs (maxSteps := 1000000) only [c_ref12_With, eDoms, eRgs, sm, sn, sxx, seval]
  refine loop_ruleV [(7, 1)] (fun k : Nat => k ≤ D.length) (fun k => tm 30 [(0, .list 1 (D.map eRgs)), (1, .int .i64 n), (2, .list 2 (r.map eRg)), (7, .sl 1 0 0 k), (8, .int .i64 k)]) (fun k => [some (1, (T.take k).map eRgs)]) (fun k => D.length - k) 0 (by simp +contextual -implicitDefEqProofs (maxSteps := 1000000) only [sm, sn, sxx, seval]) (Nat.zero_le _) ⟨[0], by decide, rfl, ?_, ?_⟩ ?_
  · simp +contextual -implicitDefEqProofs (maxSteps := 1000000) only [sm, sn, sxx, seval]
  · simp +contextual -implicitDefEqProofs (maxSteps := 1000000) only [sm, sn, sxx, seval, Int.natCast_zero]
  · intro k hk
    have hkl : (T.take k).length = k := by rw [List.length_take]; omega
    by_cases hlt : k < D.length
    · have hlt' : (k : Int) < (D.length : Int) := by omega
      have e2 : IntKind.i64.wrap ((k : Int) + 1) = ((k + 1 : Nat) : Int) := by rw [wrap_i64] <;> omega
      have c1 : (k + 1) * 24 ≤ 140737488355328 := by omega
      have c2 : k + 1 ≤ maxLen := by unfold maxLen; omega
      by_cases hkn : k = n
      · have hTk : T[k]? = some r := by rw [← hT, hkn, List.getElem?_set_self (by omega)]
        have hs := take_snoc hTk
        have hkn' : ((k : Int) = (n : Int)) = True := by simp only [eq_iff_iff, iff_true]; omega
        simp +contextual -implicitDefEqProofs (maxSteps := 1000000) only [sm, sn, sxx, seval, hlt', hkn', e2, c1, c2, hkl, hs]
        refine ⟨k + 1, by omega, by omega, [1], by decide, rfl, ?_, ?_⟩
        · simp +contextual -implicitDefEqProofs (maxSteps := 1000000) only [sm, sn, sxx, seval]
        · simp +contextual -implicitDefEqProofs (maxSteps := 1000000) only [sm, sn, sxx, seval]
      · obtain ⟨d, hd⟩ : ∃ d, D[k]? = some d := ⟨_, List.getElem?_eq_getElem hlt⟩
        have hTk : T[k]? = some d := by rw [← hT, List.getElem?_set_ne (fun e => hkn e.symm)]; exact hd
        have hs := take_snoc hTk
        have hkn' : ((k : Int) = (n : Int)) = False := by simp only [eq_iff_iff, iff_false]; omega
        simp +contextual -implicitDefEqProofs (maxSteps := 1000000) only [sm, sn, sxx, seval, hlt', hkn', e2, c1, c2, hkl, hs, hd]
        refine ⟨k + 1, by omega, by omega, [1], by decide, rfl, ?_, ?_⟩
        · simp +contextual -implicitDefEqProofs (maxSteps := 1000000) only [sm, sn, sxx, seval]
        · simp +contextual -implicitDefEqProofs (maxSteps := 1000000) only [sm, sn, sxx, seval]
    · have hkn : k = D.length := by omega
      subst hkn
      have t0 : T.take D.length = T := by rw [← hTl, List.take_length]
      rw [t0]
      have t1 : List.take D.length (T.map eRgs) = T.map eRgs := by rw [← hTl]; exact take_map _ _
      simp +contextual -implicitDefEqProofs (maxSteps := 1000000) only [sm, sn, sxx, seval, Int.lt_irrefl, t1, hTl]
end Go.Proofs.Ytnhedjpghpdbdaa
namespace Go.Proofs.Ytnhedjpghpdbdaa
open Av
set_option linter.unusedVariables false
set_option maxRecDepth 100000
def kd_CLaw12 (f : Nat) : Nat := 0
/- touchstone/touchstonelaw12.Smaller: slots d, 0, cut, 1, d, 2, cut, 3, out, 5, x, 6, m, 7 -/
def c_law12_Smaller : AFunc := ⟨43, [.tmp 4],
  .seq (.region (⟨some 4, .mov (.val .nils), none⟩ :: [])) <|
  .seq (.region (⟨some 5, .mov (.val .nils), none⟩ :: [])) <|
  .seq (.seq (.region (⟨some 8, .mov (.tmp 0), none⟩ ::
    ⟨some 9, .len false (.tmp 8), none⟩ ::
    ⟨some 10, .mov (.val (.int .i64 0)), none⟩ :: [])) <|
  .block 0 (.loop (.seq (.region (⟨some 11, .bin .lss (.tmp 10) (.tmp 9), none⟩ :: [])) <|
      .seq (.cond (.tmp 11) (.skip) <|
      .exit 0) <|
      .seq (.block 1 (.seq (.region (⟨some 12, .mov (.tmp 10), none⟩ ::
          ⟨some 6, .mov (.tmp 12), none⟩ :: [])) <|
        .seq (.region (⟨some 13, .mov (.tmp 0), none⟩ ::
          ⟨some 14, .mov (.tmp 6), none⟩ ::
          ⟨some 15, .iaddr 1 (.tmp 13) (.tmp 14), none⟩ ::
          ⟨some 16, .load false 1 (.tmp 15), none⟩ ::
          ⟨some 17, .mov (.tmp 1), none⟩ ::
          ⟨some 18, .mov (.tmp 6), none⟩ ::
          ⟨some 19, .iaddr 1 (.tmp 17) (.tmp 18), none⟩ ::
          ⟨some 20, .load false 1 (.tmp 19), none⟩ ::
          ⟨some 21, .call (.val (.fn (.func 54) [])) [(.tmp 16), (.tmp 20)], none⟩ ::
          ⟨some 7, .mov (.tmp 21), none⟩ :: [])) <|
        .seq (.seq (.region (⟨some 22, .mov (.tmp 7), none⟩ ::
          ⟨some 23, .len false (.tmp 22), none⟩ ::
          ⟨some 24, .bin .eql (.tmp 23) (.val (.int .i64 0)), none⟩ ::
          ⟨some 25, .mov (.tmp 24), none⟩ ::
          ⟨some 26, .mov (.tmp 1), some (25, false)⟩ ::
          ⟨some 27, .mov (.tmp 6), some (25, false)⟩ ::
          ⟨some 28, .iaddr 1 (.tmp 26) (.tmp 27), some (25, false)⟩ ::
          ⟨some 29, .load false 1 (.tmp 28), some (25, false)⟩ ::
          ⟨some 30, .len false (.tmp 29), some (25, false)⟩ ::
          ⟨some 31, .bin .gtr (.tmp 30) (.val (.int .i64 100)), some (25, false)⟩ ::
          ⟨some 32, .pick (.tmp 25) (.val (.bool true)) (.tmp 31), none⟩ :: [])) <|
        .cond (.tmp 32) (.region (⟨some 33, .mov (.tmp 0), none⟩ ::
            ⟨some 34, .mov (.tmp 6), none⟩ ::
            ⟨some 35, .iaddr 1 (.tmp 33) (.tmp 34), none⟩ ::
            ⟨some 36, .load false 1 (.tmp 35), none⟩ ::
            ⟨some 7, .mov (.tmp 36), none⟩ :: [])) <|
        .skip) <|
        .region (⟨some 37, .mov (.tmp 5), none⟩ ::
          ⟨some 38, .mov (.tmp 7), none⟩ ::
          ⟨some 39, .bslice 1 [(.tmp 38)], none⟩ ::
          ⟨some 40, .app 1 24 (.tmp 37) (.tmp 39), none⟩ ::
          ⟨some 5, .mov (.tmp 40), none⟩ :: []))) <|
      .region (⟨some 41, .bin .add (.tmp 10) (.val (.int .i64 1)), none⟩ ::
        ⟨some 10, .mov (.tmp 41), none⟩ :: [])))) <|
  .seq (.region (⟨some 42, .mov (.tmp 5), none⟩ ::
    ⟨some 4, .mov (.tmp 42), none⟩ :: [])) <|
  .ret⟩
theorem e_law12_Smaller : cFunc Try.prog kd_CLaw12 Try.f25 = some c_law12_Smaller := by kernel_rfl
/- touchstone/touchstonelaw12.Under: slots a, 0, b, 1, a, 2, b, 3, x, 5 -/
def c_law12_Under : AFunc := ⟨32, [.tmp 4],
  .seq (.region (⟨some 4, .mov (.val (.bool false)), none⟩ :: [])) <|
  .seq (.seq (.region (⟨some 6, .mov (.tmp 0), none⟩ ::
    ⟨some 7, .len false (.tmp 6), none⟩ ::
    ⟨some 8, .mov (.tmp 1), none⟩ ::
    ⟨some 9, .len false (.tmp 8), none⟩ ::
    ⟨some 10, .bin .neq (.tmp 7) (.tmp 9), none⟩ :: [])) <|
  .cond (.tmp 10) (.seq (.region (⟨some 4, .mov (.val (.bool false)), none⟩ :: [])) <|
    .ret) <|
  .skip) <|
  .seq (.seq (.region (⟨some 11, .mov (.tmp 0), none⟩ ::
    ⟨some 12, .len false (.tmp 11), none⟩ ::
    ⟨some 13, .mov (.val (.int .i64 0)), none⟩ :: [])) <|
  .block 0 (.loop (.seq (.region (⟨some 14, .bin .lss (.tmp 13) (.tmp 12), none⟩ :: [])) <|
      .seq (.cond (.tmp 14) (.skip) <|
      .exit 0) <|
      .seq (.block 1 (.seq (.region (⟨some 15, .mov (.tmp 13), none⟩ ::
          ⟨some 5, .mov (.tmp 15), none⟩ :: [])) <|
        .seq (.region (⟨some 16, .mov (.tmp 0), none⟩ ::
          ⟨some 17, .mov (.tmp 5), none⟩ ::
          ⟨some 18, .iaddr 1 (.tmp 16) (.tmp 17), none⟩ ::
          ⟨some 19, .load false 1 (.tmp 18), none⟩ ::
          ⟨some 20, .mov (.tmp 1), none⟩ ::
          ⟨some 21, .mov (.tmp 5), none⟩ ::
          ⟨some 22, .iaddr 1 (.tmp 20) (.tmp 21), none⟩ ::
          ⟨some 23, .load false 1 (.tmp 22), none⟩ ::
          ⟨some 24, .call (.val (.fn (.func 54) [])) [(.tmp 19), (.tmp 23)], none⟩ ::
          ⟨some 25, .mov (.tmp 0), none⟩ ::
          ⟨some 26, .mov (.tmp 5), none⟩ ::
          ⟨some 27, .iaddr 1 (.tmp 25) (.tmp 26), none⟩ ::
          ⟨some 28, .load false 1 (.tmp 27), none⟩ ::
          ⟨some 29, .call (.val (.fn (.func 53) [])) [(.tmp 24), (.tmp 28)], none⟩ ::
          ⟨some 30, .un .not (.tmp 29), none⟩ :: [])) <|
        .cond (.tmp 30) (.seq (.region (⟨some 4, .mov (.val (.bool false)), none⟩ :: [])) <|
          .ret) <|
        .skip)) <|
      .region (⟨some 31, .bin .add (.tmp 13) (.val (.int .i64 1)), none⟩ ::
        ⟨some 13, .mov (.tmp 31), none⟩ :: [])))) <|
  .seq (.region (⟨some 4, .mov (.val (.bool true)), none⟩ :: [])) <|
  .ret⟩
theorem e_law12_Under : cFunc Try.prog kd_CLaw12 Try.f26 = some c_law12_Under := by kernel_rfl
end Go.Proofs.Ytnhedjpghpdbdaa
namespace Go.Proofs.Ytnhedjpghpdbdaa
open Av
attribute [local irreducible] awp awpOpers
set_option linter.unusedSimpArgs false
set_option linter.unusedVariables false
set_option maxRecDepth 100000
set_option maxHeartbeats 4000000
theorem law12_Smaller (D C : List (List Rg)) (hlen : C.length = D.length) (hD : D.length ≤ 1000000000000) (hd : ∀ r ∈ D, r.length ≤ 1000000000000) (hc : ∀ r ∈ C, r.length ≤ 9223372036854775807) :
    Ctr Try.prog 25 [eDoms D, eDoms C] [] (eDoms (smallL D C)) [] := by
  refine call_pure Try.func25 Try.call25 e_law12_Smaller ?_
  simp +contextual -implicitDefEqProofs (maxSteps := 1000000) only [c_law12_Smaller, eDoms, sm, sn, sxx, seval]
  have hTl : (smallL D C).length = D.length := by unfold smallL; rw [List.length_zipWith]; omega
  have hT : ∀ (k : Nat) r c, D[k]? = some r → C[k]? = some c → (smallL D C)[k]? = some (smallR r c) := fun k r c h1 h2 => by
    unfold smallL
    rw [List.getElem?_zipWith, h1, h2]
  generalize smallL D C = T at hTl hT ⊢
  refine loop_ruleV [(5, 1)] (fun k : Nat => k ≤ D.length) (fun k => tm 43 [(0, .list 1 (D.map eRgs)), (1, .list 1 (C.map eRgs)), (5, .sl 1 0 0 k), (8, .list 1 (D.map eRgs)), (9, .int .i64 D.length), (10, .int .i64 k)]) (fun k => [some (1, (T.take k).map eRgs)]) (fun k => D.length - k) 0 (by simp +contextual -implicitDefEqProofs (maxSteps := 1000000) only [sm, sn, sxx, seval]) (Nat.zero_le _) ⟨[0], by decide, rfl, ?_, ?_⟩ ?_
  · simp +contextual -implicitDefEqProofs (maxSteps := 1000000) only [sm, sn, sxx, seval]
  · simp +contextual -implicitDefEqProofs (maxSteps := 1000000) only [sm, sn, sxx, seval, Int.natCast_zero]
  · intro k hk
    have hkl : (T.take k).length = k := by rw [List.length_take]; omega
    by_cases hlt : k < D.length
    · have hlt' : (k : Int) < (D.length : Int) := by omega
      have e2 : IntKind.i64.wrap ((k : Int) + 1) = ((k + 1 : Nat) : Int) := by rw [wrap_i64] <;> omega
      have c1 : (k + 1) * 24 ≤ 140737488355328 := by omega
      have c2 : k + 1 ≤ maxLen := by unfold maxLen; omega
      obtain ⟨r, hr⟩ : ∃ d, D[k]? = some d := ⟨_, List.getElem?_eq_getElem hlt⟩
      obtain ⟨c, hcc⟩ : ∃ d, C[k]? = some d := ⟨_, List.getElem?_eq_getElem (by omega)⟩
      have hs := take_snoc (hT k r c hr hcc)
      have b1 := hd r (List.mem_of_getElem? hr)
      have b2 := hc c (List.mem_of_getElem? hcc)
      simp +contextual -implicitDefEqProofs (maxSteps := 1000000) only [sm, sn, sxx, seval, hlt', hr, hcc]
      refine callA_rule (ref09_Meet r c (by omega) (by omega)) (wkL_refl _) rfl ?_
      unfold smallR at hs
      by_cases g0 : (rmeetS r c).length = 0
      · have g0' : ((rmeetS r c).length : Int) = 0 := by omega
        rw [if_pos (.inl (List.eq_nil_of_length_eq_zero g0))] at hs
        simp +contextual -implicitDefEqProofs (maxSteps := 1000000) only [sm, sn, sxx, seval, eRgs, g0', hr, e2, c1, c2, hkl, hs]
        refine ⟨k + 1, by omega, by omega, [1], by decide, rfl, ?_, ?_⟩
        · simp +contextual -implicitDefEqProofs (maxSteps := 1000000) only [sm, sn, sxx, seval]
        · simp +contextual -implicitDefEqProofs (maxSteps := 1000000) only [sm, sn, sxx, seval]
      · have g0' : ¬ ((rmeetS r c).length : Int) = 0 := by omega
        have g0'' : ¬ rmeetS r c = [] := fun h => g0 (by rw [h]; rfl)
        by_cases g1 : 100 < c.length
        · have g1' : (100 : Int) < (c.length : Int) := by omega
          rw [if_pos (.inr g1)] at hs
          simp +contextual -implicitDefEqProofs (maxSteps := 1000000) only [sm, sn, sxx, seval, eRgs, g0', g1', hr, hcc, e2, c1, c2, hkl, hs]
          refine ⟨k + 1, by omega, by omega, [1], by decide, rfl, ?_, ?_⟩
          · simp +contextual -implicitDefEqProofs (maxSteps := 1000000) only [sm, sn, sxx, seval]
          · simp +contextual -implicitDefEqProofs (maxSteps := 1000000) only [sm, sn, sxx, seval]
        · have g1' : ¬ (100 : Int) < (c.length : Int) := by omega
          rw [if_neg (by rintro (h | h); exact g0'' h; exact g1 h)] at hs
          simp +contextual -implicitDefEqProofs (maxSteps := 1000000) only [sm, sn, sxx, seval, eRgs, g0', g1', hcc, e2, c1, c2, hkl, hs]
          refine ⟨k + 1, by omega, by omega, [1], by decide, rfl, ?_, ?_⟩
          · simp +contextual -implicitDefEqProofs (maxSteps := 1000000) only [sm, sn, sxx, seval]
          · simp +contextual -implicitDefEqProofs (maxSteps := 1000000) only [sm, sn, sxx, seval]
    · have hkn : k = D.length := by omega
      subst hkn
      have t0 : T.take D.length = T := by rw [← hTl, List.take_length]
      rw [t0]
      have t1 : List.take D.length (T.map eRgs) = T.map eRgs := by rw [← hTl]; exact take_map _ _
      simp +contextual -implicitDefEqProofs (maxSteps := 1000000) only [sm, sn, sxx, seval, Int.lt_irrefl, t1, hTl]
theorem law12_Under (a b : List (List Rg)) (hle : LeD a b) (ha : a.length ≤ 1000000000000) : Ctr Try.prog 26 [eDoms a, eDoms b] [] (.bool true) [] := by
  refine call_pure Try.func26 Try.call26 e_law12_Under ?_
  have hn' : (b.length : Int) = (a.length : Int) := by have := hle.1; omega
  have hlen := hle.1
  simp +contextual -implicitDefEqProofs (maxSteps := 1000000) only [c_law12_Under, eDoms, sm, sn, sxx, seval, hn']
  refine loop_rule (fun k : Nat => k ≤ a.length) (fun k => tm 32 [(0, .list 1 (a.map eRgs)), (1, .list 1 (b.map eRgs)), (11, .list 1 (a.map eRgs)), (12, .int .i64 a.length), (13, .int .i64 k)]) (fun _ => []) (fun k => a.length - k) 0 (Nat.zero_le _) ⟨[], by decide, rfl, ?_, ?_⟩ ?_
  · simp +contextual -implicitDefEqProofs (maxSteps := 1000000) only [sm, sn, sxx, seval]
  · simp +contextual -implicitDefEqProofs (maxSteps := 1000000) only [sm, sn, sxx, seval, Int.natCast_zero]
  · intro k hk
    by_cases hlt : k < a.length
    · have hlt' : (k : Int) < (a.length : Int) := by omega
      have e2 : IntKind.i64.wrap ((k : Int) + 1) = ((k + 1 : Nat) : Int) := by rw [wrap_i64] <;> omega
      obtain ⟨r, hr⟩ : ∃ d, a[k]? = some d := ⟨_, List.getElem?_eq_getElem hlt⟩
      obtain ⟨t, ht⟩ : ∃ d, b[k]? = some d := ⟨_, List.getElem?_eq_getElem (by omega)⟩
      have hsub := hle.2 (k : Int) (by omega) (by omega)
      have er : rowOf a (k : Int) = r := by unfold rowOf; rw [Int.toNat_natCast, hr]; rfl
      have et : rowOf b (k : Int) = t := by unfold rowOf; rw [Int.toNat_natCast, ht]; rfl
      rw [er, et] at hsub
      have l1 := right_length hsub.1
      have l2 := right_length hsub.2.1
      simp +contextual -implicitDefEqProofs (maxSteps := 1000000) only [sm, sn, sxx, seval, hlt', hr, ht]
      refine callA_rule (ref09_Meet r t (by omega) (by omega)) (wkL_refl _) rfl ?_
      rw [meet_sub hsub]
      simp +contextual -implicitDefEqProofs (maxSteps := 1000000) only [sm, sn, sxx, seval, eRgs, hr]
      refine callA_rule (ref09_Same r r (by omega) (by omega)) (wkL_refl _) rfl ?_
      rw [show rsameB r r = true by simp [rsameB, hsub.1]]
      simp +contextual -implicitDefEqProofs (maxSteps := 1000000) only [sm, sn, sxx, seval, e2]
      refine ⟨k + 1, by omega, by omega, [], by decide, rfl, ?_, ?_⟩
      · simp +contextual -implicitDefEqProofs (maxSteps := 1000000) only [sm, sn, sxx, seval]
      · simp +contextual -implicitDefEqProofs (maxSteps := 1000000) only [sm, sn, sxx, seval]
    · have hkn : k = a.length := by omega
      subst hkn
      simp +contextual -implicitDefEqProofs (maxSteps := 1000000) only [sm, sn, sxx, seval, Int.lt_irrefl]
end Go.Proofs.Ytnhedjpghpdbdaa
