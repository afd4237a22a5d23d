/- The code of functions, as abstract code. Printed by program. What the functions of package ref11 compute, continued: Size, Boxes, first, after, Every. What the functions of package ref11 compute, continued: Every. The code of functions, as abstract code. Printed by program. Few, Kept. Plain laws: values within domains, as domains of one value each; sums. -/
import Derived.Test.YtnhedjpghpdbdaaAv2
import Derived.Test.YtnhedjpghpdbdaaProg
import Derived.Test.YtnhedjpghpdbdaaGRef11
import Derived.Test.YtnhedjpghpdbdaaGRef09
import Derived.Test.YtnhedjpghpdbdaaPlMod
namespace Go.Proofs.Ytnhedjpghpdbdaa
open Av
set_option linter.unusedVariables false
set_option maxRecDepth 100000
def kd_CEvery (f : Nat) : Nat := 0
/- touchstone/touchstoneref11.Boxes: slots doms, 0, most, 1, doms, 2, most, 3, n, 5, i, 6, k, 7 -/
def c_ref11_Boxes : AFunc := ⟨35, [.tmp 4],
  .seq (.region (⟨some 4, .mov (.val (.int .i64 0)), none⟩ :: [])) <|
  .seq (.region (⟨some 5, .mov (.val (.int .i64 1)), none⟩ :: [])) <|
  .seq (.seq (.region (⟨some 6, .mov (.val (.int .i64 0)), none⟩ :: [])) <|
  .block 0 (.loop (.seq (.seq (.region (⟨some 8, .mov (.tmp 6), none⟩ ::
        ⟨some 9, .mov (.tmp 0), none⟩ ::
        ⟨some 10, .len false (.tmp 9), none⟩ ::
        ⟨some 11, .bin .lss (.tmp 8) (.tmp 10), none⟩ :: [])) <|
      .cond (.tmp 11) (.skip) <|
      .exit 0) <|
      .seq (.block 1 (.seq (.region (⟨some 14, .mov (.tmp 0), none⟩ ::
          ⟨some 15, .mov (.tmp 6), none⟩ ::
          ⟨some 16, .iaddr 1 (.tmp 14) (.tmp 15), none⟩ ::
          ⟨some 17, .load false 1 (.tmp 16), none⟩ ::
          ⟨some 18, .call (.val (.fn (.func 92) [])) [(.tmp 17)], none⟩ ::
          ⟨some 7, .mov (.tmp 18), none⟩ :: [])) <|
        .seq (.seq (.region (⟨some 19, .mov (.tmp 7), none⟩ ::
          ⟨some 20, .mov (.tmp 1), none⟩ ::
          ⟨some 21, .bin .gtr (.tmp 19) (.tmp 20), none⟩ ::
          ⟨some 22, .mov (.tmp 21), none⟩ ::
          ⟨some 23, .mov (.tmp 5), some (22, false)⟩ ::
          ⟨some 24, .mov (.tmp 7), some (22, false)⟩ ::
          ⟨some 25, .bin .mul (.tmp 23) (.tmp 24), some (22, false)⟩ ::
          ⟨some 26, .mov (.tmp 1), some (22, false)⟩ ::
          ⟨some 27, .bin .gtr (.tmp 25) (.tmp 26), some (22, false)⟩ ::
          ⟨some 28, .pick (.tmp 22) (.val (.bool true)) (.tmp 27), none⟩ :: [])) <|
        .cond (.tmp 28) (.seq (.region (⟨some 29, .mov (.tmp 1), none⟩ ::
            ⟨some 30, .bin .add (.tmp 29) (.val (.int .i64 1)), none⟩ ::
            ⟨some 4, .mov (.tmp 30), none⟩ :: [])) <|
          .ret) <|
        .skip) <|
        .region (⟨some 31, .mov (.tmp 5), none⟩ ::
          ⟨some 32, .mov (.tmp 7), none⟩ ::
          ⟨some 33, .bin .mul (.tmp 31) (.tmp 32), none⟩ ::
          ⟨some 5, .mov (.tmp 33), none⟩ :: []))) <|
      .region (⟨some 12, .mov (.tmp 6), none⟩ ::
        ⟨some 13, .bin .add (.tmp 12) (.val (.int .i64 1)), none⟩ ::
        ⟨some 6, .mov (.tmp 13), none⟩ :: [])))) <|
  .seq (.region (⟨some 34, .mov (.tmp 5), none⟩ ::
    ⟨some 4, .mov (.tmp 34), none⟩ :: [])) <|
  .ret⟩
theorem e_ref11_Boxes : cFunc Try.prog kd_CEvery Try.f51 = some c_ref11_Boxes := by kernel_rfl
/- touchstone/touchstoneref11.first: slots doms, 0, doms, 1, out, 3, i, 4 -/
def c_ref11_first : AFunc := ⟨22, [.tmp 2],
  .seq (.region (⟨some 2, .mov (.val .nils), none⟩ :: [])) <|
  .seq (.region (⟨some 3, .mov (.val .nils), none⟩ :: [])) <|
  .seq (.seq (.region (⟨some 4, .mov (.val (.int .i64 0)), none⟩ :: [])) <|
  .block 0 (.loop (.seq (.seq (.region (⟨some 5, .mov (.tmp 4), none⟩ ::
        ⟨some 6, .mov (.tmp 0), none⟩ ::
        ⟨some 7, .len false (.tmp 6), none⟩ ::
        ⟨some 8, .bin .lss (.tmp 5) (.tmp 7), none⟩ :: [])) <|
      .cond (.tmp 8) (.skip) <|
      .exit 0) <|
      .seq (.block 1 (.region (⟨some 11, .mov (.tmp 3), none⟩ ::
          ⟨some 12, .mov (.tmp 0), none⟩ ::
          ⟨some 13, .mov (.tmp 4), none⟩ ::
          ⟨some 14, .iaddr 1 (.tmp 12) (.tmp 13), none⟩ ::
          ⟨some 15, .load false 1 (.tmp 14), none⟩ ::
          ⟨some 16, .iaddr 2 (.tmp 15) (.val (.int .i64 0)), none⟩ ::
          ⟨some 17, .faddr 0 (.tmp 16), none⟩ ::
          ⟨some 18, .load false 1 (.tmp 17), none⟩ ::
          ⟨some 19, .bslice 1 [(.tmp 18)], none⟩ ::
          ⟨some 20, .app 1 8 (.tmp 11) (.tmp 19), none⟩ ::
          ⟨some 3, .mov (.tmp 20), none⟩ :: []))) <|
      .region (⟨some 9, .mov (.tmp 4), none⟩ ::
        ⟨some 10, .bin .add (.tmp 9) (.val (.int .i64 1)), none⟩ ::
        ⟨some 4, .mov (.tmp 10), none⟩ :: [])))) <|
  .seq (.region (⟨some 21, .mov (.tmp 3), none⟩ ::
    ⟨some 2, .mov (.tmp 21), none⟩ :: [])) <|
  .ret⟩
theorem e_ref11_first : cFunc Try.prog kd_CEvery Try.f93 = some c_ref11_first := by kernel_rfl
/- touchstone/touchstoneref11.after: slots doms, 0, a, 1, doms, 2, a, 3, out, 6, i, 7, n, 8, ok, 9 -/
def c_ref11_after : AFunc := ⟨50, [.tmp 4, .tmp 5],
  .seq (.region (⟨some 4, .mov (.val .nils), none⟩ ::
    ⟨some 5, .mov (.val (.bool false)), none⟩ :: [])) <|
  .seq (.region (⟨some 10, .bslice 1 [], none⟩ ::
    ⟨some 11, .mov (.tmp 1), none⟩ ::
    ⟨some 12, .app 1 8 (.tmp 10) (.tmp 11), none⟩ ::
    ⟨some 6, .mov (.tmp 12), none⟩ :: [])) <|
  .seq (.seq (.region (⟨some 13, .mov (.tmp 1), none⟩ ::
    ⟨some 14, .len false (.tmp 13), none⟩ ::
    ⟨some 15, .bin .sub (.tmp 14) (.val (.int .i64 1)), none⟩ ::
    ⟨some 7, .mov (.tmp 15), none⟩ :: [])) <|
  .block 0 (.loop (.seq (.seq (.region (⟨some 16, .mov (.tmp 7), none⟩ ::
        ⟨some 17, .bin .geq (.tmp 16) (.val (.int .i64 0)), none⟩ :: [])) <|
      .cond (.tmp 17) (.skip) <|
      .exit 0) <|
      .seq (.block 1 (.seq (.region (⟨some 21, .mov (.tmp 0), none⟩ ::
          ⟨some 22, .mov (.tmp 7), none⟩ ::
          ⟨some 23, .iaddr 1 (.tmp 21) (.tmp 22), none⟩ ::
          ⟨some 24, .load false 1 (.tmp 23), none⟩ ::
          ⟨some 25, .mov (.tmp 1), none⟩ ::
          ⟨some 26, .mov (.tmp 7), none⟩ ::
          ⟨some 27, .iaddr 1 (.tmp 25) (.tmp 26), none⟩ ::
          ⟨some 28, .load false 1 (.tmp 27), none⟩ ::
          ⟨some 29, .bin .add (.tmp 28) (.val (.int .i64 1)), none⟩ ::
          ⟨some 30, .call (.val (.fn (.func 124) [])) [(.tmp 24), (.tmp 29)], none⟩ ::
          ⟨some 20, .mov (.tmp 30), none⟩ ::
          ⟨some 31, .ext (.tmp 20) 0, none⟩ ::
          ⟨some 32, .ext (.tmp 20) 1, none⟩ ::
          ⟨some 8, .mov (.tmp 31), none⟩ ::
          ⟨some 9, .mov (.tmp 32), none⟩ :: [])) <|
        .seq (.seq (.region (⟨some 33, .mov (.tmp 9), none⟩ :: [])) <|
        .cond (.tmp 33) (.seq (.region (⟨some 34, .mov (.tmp 6), none⟩ ::
            ⟨some 35, .mov (.tmp 7), none⟩ ::
            ⟨some 36, .mov (.tmp 8), none⟩ ::
            ⟨some 37, .iaddr 1 (.tmp 34) (.tmp 35), none⟩ ::
            ⟨none, .store 1 (.tmp 37) (.tmp 36), none⟩ :: [])) <|
          .seq (.region (⟨some 38, .mov (.tmp 6), none⟩ ::
            ⟨some 4, .mov (.tmp 38), none⟩ ::
            ⟨some 5, .mov (.val (.bool true)), none⟩ :: [])) <|
          .ret) <|
        .skip) <|
        .region (⟨some 39, .mov (.tmp 6), none⟩ ::
          ⟨some 40, .mov (.tmp 7), none⟩ ::
          ⟨some 41, .mov (.tmp 0), none⟩ ::
          ⟨some 42, .mov (.tmp 7), none⟩ ::
          ⟨some 43, .iaddr 1 (.tmp 41) (.tmp 42), none⟩ ::
          ⟨some 44, .load false 1 (.tmp 43), none⟩ ::
          ⟨some 45, .iaddr 2 (.tmp 44) (.val (.int .i64 0)), none⟩ ::
          ⟨some 46, .faddr 0 (.tmp 45), none⟩ ::
          ⟨some 47, .load false 1 (.tmp 46), none⟩ ::
          ⟨some 48, .iaddr 1 (.tmp 39) (.tmp 40), none⟩ ::
          ⟨none, .store 1 (.tmp 48) (.tmp 47), none⟩ :: []))) <|
      .region (⟨some 18, .mov (.tmp 7), none⟩ ::
        ⟨some 19, .bin .sub (.tmp 18) (.val (.int .i64 1)), none⟩ ::
        ⟨some 7, .mov (.tmp 19), none⟩ :: [])))) <|
  .seq (.region (⟨some 49, .mov (.tmp 6), none⟩ ::
    ⟨some 4, .mov (.tmp 49), none⟩ ::
    ⟨some 5, .mov (.val (.bool false)), none⟩ :: [])) <|
  .ret⟩
theorem e_ref11_after : cFunc Try.prog kd_CEvery Try.f94 = some c_ref11_after := by kernel_rfl
/- touchstone/touchstoneref11.Every: slots doms, 0, cons, 1, doms, 2, cons, 3, out, 5, i, 6, a, 7, ok, 8, holds, 9, i, 10 -/
def c_ref11_Every : AFunc := ⟨54, [.tmp 4],
  .seq (.region (⟨some 4, .mov (.val .nils), none⟩ :: [])) <|
  .seq (.region (⟨some 5, .mov (.val .nils), none⟩ :: [])) <|
  .seq (.seq (.region (⟨some 6, .mov (.val (.int .i64 0)), none⟩ :: [])) <|
  .block 0 (.loop (.seq (.seq (.region (⟨some 11, .mov (.tmp 6), none⟩ ::
        ⟨some 12, .mov (.tmp 0), none⟩ ::
        ⟨some 13, .len false (.tmp 12), none⟩ ::
        ⟨some 14, .bin .lss (.tmp 11) (.tmp 13), none⟩ :: [])) <|
      .cond (.tmp 14) (.skip) <|
      .exit 0) <|
      .seq (.block 1 (.seq (.region (⟨some 17, .mov (.tmp 0), none⟩ ::
          ⟨some 18, .mov (.tmp 6), none⟩ ::
          ⟨some 19, .iaddr 1 (.tmp 17) (.tmp 18), none⟩ ::
          ⟨some 20, .load false 1 (.tmp 19), none⟩ ::
          ⟨some 21, .len false (.tmp 20), none⟩ ::
          ⟨some 22, .bin .eql (.tmp 21) (.val (.int .i64 0)), none⟩ :: [])) <|
        .cond (.tmp 22) (.seq (.region (⟨some 23, .mov (.tmp 5), none⟩ ::
            ⟨some 4, .mov (.tmp 23), none⟩ :: [])) <|
          .ret) <|
        .skip)) <|
      .region (⟨some 15, .mov (.tmp 6), none⟩ ::
        ⟨some 16, .bin .add (.tmp 15) (.val (.int .i64 1)), none⟩ ::
        ⟨some 6, .mov (.tmp 16), none⟩ :: [])))) <|
  .seq (.region (⟨some 24, .mov (.tmp 0), none⟩ ::
    ⟨some 25, .call (.val (.fn (.func 93) [])) [(.tmp 24)], none⟩ ::
    ⟨some 7, .mov (.tmp 25), none⟩ ::
    ⟨some 8, .mov (.val (.bool true)), none⟩ :: [])) <|
  .seq (.block 2 (.loop (.seq (.seq (.region (⟨some 26, .mov (.tmp 8), none⟩ :: [])) <|
      .cond (.tmp 26) (.skip) <|
      .exit 2) <|
      .block 3 (.seq (.region (⟨some 9, .mov (.val (.bool true)), none⟩ :: [])) <|
        .seq (.seq (.region (⟨some 10, .mov (.val (.int .i64 0)), none⟩ :: [])) <|
        .block 4 (.loop (.seq (.seq (.region (⟨some 27, .mov (.tmp 10), none⟩ ::
              ⟨some 28, .mov (.tmp 1), none⟩ ::
              ⟨some 29, .len false (.tmp 28), none⟩ ::
              ⟨some 30, .bin .lss (.tmp 27) (.tmp 29), none⟩ ::
              ⟨some 31, .mov (.tmp 30), none⟩ ::
              ⟨some 32, .mov (.tmp 9), some (31, true)⟩ ::
              ⟨some 33, .pick (.tmp 31) (.tmp 32) (.val (.bool false)), none⟩ :: [])) <|
            .cond (.tmp 33) (.skip) <|
            .exit 4) <|
            .seq (.block 5 (.region (⟨some 36, .mov (.tmp 1), none⟩ ::
                ⟨some 37, .mov (.tmp 10), none⟩ ::
                ⟨some 38, .iaddr 4 (.tmp 36) (.tmp 37), none⟩ ::
                ⟨some 39, .load true 4 (.tmp 38), none⟩ ::
                ⟨some 40, .mov (.tmp 7), none⟩ ::
                ⟨some 41, .call (.val (.fn (.func 30) [])) [(.tmp 39), (.tmp 40)], none⟩ ::
                ⟨some 9, .mov (.tmp 41), none⟩ :: []))) <|
            .region (⟨some 34, .mov (.tmp 10), none⟩ ::
              ⟨some 35, .bin .add (.tmp 34) (.val (.int .i64 1)), none⟩ ::
              ⟨some 10, .mov (.tmp 35), none⟩ :: [])))) <|
        .seq (.seq (.region (⟨some 42, .mov (.tmp 9), none⟩ :: [])) <|
        .cond (.tmp 42) (.region (⟨some 43, .mov (.tmp 5), none⟩ ::
            ⟨some 44, .mov (.tmp 7), none⟩ ::
            ⟨some 45, .bslice 1 [(.tmp 44)], none⟩ ::
            ⟨some 46, .app 1 24 (.tmp 43) (.tmp 45), none⟩ ::
            ⟨some 5, .mov (.tmp 46), none⟩ :: [])) <|
        .skip) <|
        .region (⟨some 48, .mov (.tmp 0), none⟩ ::
          ⟨some 49, .mov (.tmp 7), none⟩ ::
          ⟨some 50, .call (.val (.fn (.func 94) [])) [(.tmp 48), (.tmp 49)], none⟩ ::
          ⟨some 47, .mov (.tmp 50), none⟩ ::
          ⟨some 51, .ext (.tmp 47) 0, none⟩ ::
          ⟨some 52, .ext (.tmp 47) 1, none⟩ ::
          ⟨some 7, .mov (.tmp 51), none⟩ ::
          ⟨some 8, .mov (.tmp 52), none⟩ :: []))))) <|
  .seq (.region (⟨some 53, .mov (.tmp 5), none⟩ ::
    ⟨some 4, .mov (.tmp 53), none⟩ :: [])) <|
  .ret⟩
theorem e_ref11_Every : cFunc Try.prog kd_CEvery Try.f52 = some c_ref11_Every := by kernel_rfl
end Go.Proofs.Ytnhedjpghpdbdaa
namespace Go.Proofs.Ytnhedjpghpdbdaa
open Av
attribute [local irreducible] awp awpOpers
set_option linter.unusedSimpArgs false
set_option linter.unusedVariables false
set_option maxRecDepth 100000
set_option maxHeartbeats 4000000
theorem ref09_Size (r : List Rg) (hr : rightB r = true) : Ctr Try.prog 92 [eRgs r] [] (.int .i64 (sizeV r)) [] := by
  refine call_pure Try.func92 Try.call92 e_ref09_Size ?_
  have hl := right_length hr
  have hs : sizeV r = sizeGo 0 r := by unfold sizeV; rw [if_pos hr]
  simp +contextual -implicitDefEqProofs (maxSteps := 1000000) only [c_ref09_Size, eRgs, sm, sn, sxx, seval]
  refine callA_rule (ref09_Right r (by omega)) (wkL_refl _) rfl ?_
  rw [hr, hs]
  simp +contextual -implicitDefEqProofs (maxSteps := 1000000) only [sm, sn, sxx, seval]
  refine loop_rule (fun b : Nat × Int => b.1 ≤ r.length ∧ sizeGo b.2 (r.drop b.1) = sizeGo 0 r ∧ 0 ≤ b.2 ∧ b.2 ≤ 2097153 * b.1) (fun b => tm 29 [(0, .list 2 (r.map eRg)), (3, .int .i64 b.2), (4, .int .i64 b.1)]) (fun _ => []) (fun b => r.length - b.1) (0, 0) ⟨by simp, by simp, by simp, by simp⟩ ⟨[], by decide, rfl, ?_, ?_⟩ ?_
  · simp +contextual -implicitDefEqProofs (maxSteps := 1000000) only [sm, sn, sxx, seval]
  · simp +contextual -implicitDefEqProofs (maxSteps := 1000000) only [sm, sn, sxx, seval, Int.natCast_zero]
  · rintro ⟨k, n⟩ ⟨hk, hgo, hn0, hn⟩
    simp only at hk hgo hn0 hn
    by_cases hlt : k < r.length
    · have hlt' : (k : Int) < (r.length : Int) := by omega
      have e2 : IntKind.i64.wrap ((k : Int) + 1) = ((k + 1 : Nat) : Int) := by rw [wrap_i64] <;> omega
      obtain ⟨x, y, hx⟩ := at_rg hlt
      obtain ⟨g1, g2, g3, g4, g5⟩ := right_rg hr hx
      have hd := drop_at hx
      have w1 : IntKind.i64.wrap (n + y) = n + y := by rw [wrap_i64] <;> omega
      have w2 : IntKind.i64.wrap (n + y - x) = n + y - x := by rw [wrap_i64] <;> omega
      have w3 : IntKind.i64.wrap (n + y - x + 1) = n + (y - x + 1) := by rw [wrap_i64] <;> omega
      simp +contextual -implicitDefEqProofs (maxSteps := 1000000) only [sm, sn, sxx, seval, hlt', hx, w1, w2, w3, e2]
      refine ⟨(k + 1, n + (y - x + 1)), ⟨by (try dsimp only); omega, by rw [← hgo, hd]; rfl, by (try dsimp only); omega, by (try dsimp only); omega⟩, by (try dsimp only); omega, [], by decide, rfl, ?_, ?_⟩
      · simp +contextual -implicitDefEqProofs (maxSteps := 1000000) only [sm, sn, sxx, seval]
      · simp +contextual -implicitDefEqProofs (maxSteps := 1000000) only [sm, sn, sxx, seval]
    · have hkn : k = r.length := by omega
      subst hkn
      rw [List.drop_length] at hgo
      have hgo' : n = sizeGo 0 r := hgo
      simp +contextual -implicitDefEqProofs (maxSteps := 1000000) only [sm, sn, sxx, seval, Int.lt_irrefl, hgo']
theorem size_bound {r : List Rg} (hr : rightB r = true) : 0 ≤ sizeV r ∧ sizeV r ≤ 3000000000000 := by
  have hs : sizeV r = sizeGo 0 r := by unfold sizeV; rw [if_pos hr]
  have hl := right_length hr
  have key : ∀ (l : List Rg) (n : Int), (∀ q ∈ l, q.1 ≤ q.2 ∧ -1048576 ≤ q.1 ∧ q.2 ≤ 1048576) → 0 ≤ n → 0 ≤ sizeGo n l ∧ sizeGo n l ≤ n + 2097153 * l.length := by
    intro l
    induction l with
    | nil => intro n _ h; simp [sizeGo]; exact h
    | cons q l ih =>
      intro n h h0
      have hq := h q (by simp)
      have := ih (n + (q.2 - q.1 + 1)) (fun s hs => h s (by simp [hs])) (by omega)
      unfold sizeGo
      simp only [List.length_cons]
      omega
  have := key r 0 (fun q hq => by
    obtain ⟨j, hj, hjs⟩ := List.getElem_of_mem hq
    have hj' : r[j]? = some (q.1, q.2) := by rw [List.getElem?_eq_getElem hj, hjs]
    obtain ⟨g1, g2, g3, g4, g5⟩ := right_rg hr hj'
    exact ⟨g1, g2, g5⟩) (by omega)
  rw [hs]
  omega
theorem ref11_Boxes (D : List (List Rg)) (most : Int) (hm : 0 ≤ most ∧ most ≤ 1000000) (hm1 : 1 ≤ most) (hD : D.length ≤ 1000000000000) (hr : ∀ r ∈ D, rightB r = true) : Ctr Try.prog 51 [eDoms D, .int .i64 most] [] (.int .i64 (boxesGo most 1 D)) [] := by
  refine call_pure Try.func51 Try.call51 e_ref11_Boxes ?_
  have w0 : IntKind.i64.wrap (most + 1) = most + 1 := by rw [wrap_i64] <;> omega
  simp +contextual -implicitDefEqProofs (maxSteps := 1000000) only [c_ref11_Boxes, eDoms, sm, sn, sxx, seval]
  refine loop_rule (fun b : Nat × Int => b.1 ≤ D.length ∧ boxesGo most b.2 (D.drop b.1) = boxesGo most 1 D ∧ 0 ≤ b.2 ∧ b.2 ≤ most) (fun b => tm 35 [(0, .list 1 (D.map eRgs)), (1, .int .i64 most), (5, .int .i64 b.2), (6, .int .i64 b.1)]) (fun _ => []) (fun b => D.length - b.1) (0, 1) ⟨by simp, by simp, by simp, by simp; omega⟩ ⟨[], by decide, rfl, ?_, ?_⟩ ?_
  · simp +contextual -implicitDefEqProofs (maxSteps := 1000000) only [sm, sn, sxx, seval]
  · simp +contextual -implicitDefEqProofs (maxSteps := 1000000) only [sm, sn, sxx, seval, Int.natCast_zero]
  · rintro ⟨k, n⟩ ⟨hk, hgo, hn0, hn⟩
    simp only at hk hgo hn0 hn
    by_cases hlt : k < D.length
    · have hlt' : (k : Int) < (D.length : Int) := by omega
      have e2 : IntKind.i64.wrap ((k : Int) + 1) = ((k + 1 : Nat) : Int) := by rw [wrap_i64] <;> omega
      obtain ⟨r, hx⟩ : ∃ r, D[k]? = some r := ⟨_, List.getElem?_eq_getElem hlt⟩
      have hrr := hr r (List.mem_of_getElem? hx)
      have hd := drop_at hx
      obtain ⟨z1, z2⟩ := size_bound hrr
      have hgd : boxesGo most n (r :: D.drop (k + 1)) = if most < sizeV r ∨ most < n * sizeV r then most + 1 else boxesGo most (n * sizeV r) (D.drop (k + 1)) := rfl
      rw [hd, hgd] at hgo
      simp +contextual -implicitDefEqProofs (maxSteps := 1000000) only [sm, sn, sxx, seval, hlt', hx]
      refine callA_rule (ref09_Size r hrr) (wkL_refl _) rfl ?_
      generalize sizeV r = z at hgo z1 z2 ⊢
      by_cases g1 : most < z
      · rw [if_pos (.inl g1)] at hgo
        rw [← hgo]
        simp +contextual -implicitDefEqProofs (maxSteps := 1000000) only [sm, sn, sxx, seval, g1, w0]
      · have b0 : n * z ≤ 1000000 * 1000000 := by
          have : n * z ≤ 1000000 * z := Int.mul_le_mul_of_nonneg_right (by omega) z1
          omega
        have b1 : 0 ≤ n * z := Int.mul_nonneg hn0 z1
        have w1 : IntKind.i64.wrap (n * z) = n * z := by rw [wrap_i64] <;> omega
        by_cases g2 : most < n * z
        · rw [if_pos (.inr g2)] at hgo
          rw [← hgo]
          simp +contextual -implicitDefEqProofs (maxSteps := 1000000) only [sm, sn, sxx, seval, g1, g2, w0, w1]
        · rw [if_neg (by omega)] at hgo
          simp +contextual -implicitDefEqProofs (maxSteps := 1000000) only [sm, sn, sxx, seval, g1, g2, w1, e2]
          refine ⟨(k + 1, n * z), ⟨by (try dsimp only); omega, by (try dsimp only); exact hgo, by (try dsimp only); omega, by (try dsimp only); omega⟩, by (try dsimp only); omega, [], by decide, rfl, ?_, ?_⟩
          · simp +contextual -implicitDefEqProofs (maxSteps := 1000000) only [sm, sn, sxx, seval]
          · simp +contextual -implicitDefEqProofs (maxSteps := 1000000) only [sm, sn, sxx, seval]
    · have hkn : k = D.length := by omega
      subst hkn
      rw [List.drop_length] at hgo
      have hgo' : n = boxesGo most 1 D := hgo
      simp +contextual -implicitDefEqProofs (maxSteps := 1000000) only [sm, sn, sxx, seval, Int.lt_irrefl, hgo']
theorem lo0_at {r : List Rg} (h : 0 < r.length) : ∃ y, r[0]? = some (lo0 r, y) := by
  cases r with
  | nil => simp at h
  | cons a l => exact ⟨a.2, rfl⟩
theorem first_get {D : List (List Rg)} {k : Nat} {r : List Rg} (h : D[k]? = some r) : (firstA D)[k]? = some (lo0 r) := by
  unfold firstA
  rw [List.getElem?_map, h]; rfl
theorem first_len (D : List (List Rg)) : (firstA D).length = D.length := by unfold firstA; rw [List.length_map]
theorem ref11_first (D : List (List Rg)) (hD : D.length ≤ 1000000000000) (hF : Full D) : Ctr Try.prog 93 [eDoms D] [] (eIs (firstA D)) [] := by
  refine call_pure Try.func93 Try.call93 e_ref11_first ?_
  have hFl := first_len D
  simp +contextual -implicitDefEqProofs (maxSteps := 1000000) only [c_ref11_first, eDoms, sm, sn, sxx, seval]
  refine loop_ruleV [(3, 1)] (fun k : Nat => k ≤ D.length) (fun k => tm 22 [(0, .list 1 (D.map eRgs)), (3, .sl 1 0 0 k), (4, .int .i64 k)]) (fun k => [some (1, ((firstA D).take k).map eI)]) (fun k => D.length - k) 0 (by simp +contextual -implicitDefEqProofs (maxSteps := 1000000) only [sm, sn, sxx, seval]) (Nat.zero_le _) ⟨[0], by decide, rfl, ?_, ?_⟩ ?_
  · simp +contextual -implicitDefEqProofs (maxSteps := 1000000) only [sm, sn, sxx, seval]
  · simp +contextual -implicitDefEqProofs (maxSteps := 1000000) only [sm, sn, sxx, seval, Int.natCast_zero]
  · intro k hk
    have hkl : ((firstA D).take k).length = k := by rw [List.length_take]; omega
    by_cases hlt : k < D.length
    · have hlt' : (k : Int) < (D.length : Int) := by omega
      have e2 : IntKind.i64.wrap ((k : Int) + 1) = ((k + 1 : Nat) : Int) := by rw [wrap_i64] <;> omega
      obtain ⟨r, hx⟩ : ∃ r, D[k]? = some r := ⟨_, List.getElem?_eq_getElem hlt⟩
      obtain ⟨y, hy⟩ := lo0_at (hF r (List.mem_of_getElem? hx)).2
      have hl0 := (hF r (List.mem_of_getElem? hx)).2
      have hl0' : (0 : Int) < (r.length : Int) := by omega
      have hs := take_snoc (first_get hx)
      have c1 : (k + 1) * 8 ≤ 140737488355328 := by omega
      have c2 : k + 1 ≤ maxLen := by unfold maxLen; omega
      simp +contextual -implicitDefEqProofs (maxSteps := 1000000) only [sm, sn, sxx, seval, eRgs, hlt', hlt, hx, hy, hl0, hl0', hkl, c1, c2, hs, e2]
      refine ⟨k + 1, by omega, by omega, [1], by decide, rfl, ?_, ?_⟩
      · simp +contextual -implicitDefEqProofs (maxSteps := 1000000) only [sm, sn, sxx, seval]
      · simp +contextual -implicitDefEqProofs (maxSteps := 1000000) only [sm, sn, sxx, seval]
    · have hkn : k = D.length := by omega
      subst hkn
      have t0 : (firstA D).take D.length = firstA D := by rw [← hFl, List.take_length]
      rw [t0]
      have u1 : (D.length ≤ (firstA D).length) = True := by rw [hFl]; simp
      have u3 : ((firstA D).map eI).take D.length = (firstA D).map eI := by rw [← List.map_take, t0]
      simp +contextual -implicitDefEqProofs (maxSteps := 1000000) only [sm, sn, sxx, seval, Int.lt_irrefl, u1, u3, eIs]
theorem set_mid (p s : List Int) (x y : Int) : (p ++ x :: s).set p.length y = p ++ y :: s := by simp
theorem set_I (l : List Int) (n : Nat) (y : Int) : (l.map eI).set n (.int .i64 y) = (l.set n y).map eI := by simp [eI]
theorem ref11_after (D : List (List Rg)) (a : List Int) (hD : D.length ≤ 1000000000000) (hF : Full D) (hd : ∀ r ∈ D, r.length ≤ 1000000000000) (hl : a.length = D.length) (ha : ∀ v ∈ a, -1048576 ≤ v ∧ v ≤ 1048576) :
    Ctr Try.prog 94 [eDoms D, eIs a] [] (.tuple [eIs (aftV D a), .bool (aft D a).isSome]) [] := by
  refine call_pure Try.func94 Try.call94 e_ref11_after ?_
  have w0 : IntKind.i64.wrap ((a.length : Int) - 1) = (a.length : Int) - 1 := by rw [wrap_i64] <;> omega
  have c1 : a.length * 8 ≤ 140737488355328 := by omega
  have c2 : a.length ≤ maxLen := by unfold maxLen; omega
  have cl : ∀ k, k ≤ a.length → (a.take k ++ firstA (D.drop k)).length = a.length := fun k hk => by
    rw [List.length_append, List.length_take, first_len, List.length_drop]; omega
  simp +contextual -implicitDefEqProofs (maxSteps := 1000000) only [c_ref11_after, eDoms, eIs, sm, sn, sxx, seval, w0, c1, c2]
  refine loop_rule (fun k : Nat => k ≤ a.length ∧ aft (D.drop k) (a.drop k) = none) (fun k => tm 50 [(0, .list 1 (D.map eRgs)), (1, .list 1 (a.map eI)), (6, .sl 1 0 0 a.length), (7, .int .i64 ((k : Int) - 1))]) (fun k => [some (1, (a.take k ++ firstA (D.drop k)).map eI)]) (fun k => k) a.length ⟨by omega, by rw [List.drop_of_length_le (by omega)]; rfl⟩ ⟨[0], by decide, rfl, ?_, ?_⟩ ?_
  · rw [List.take_length, hl, List.drop_length]
    simp +contextual -implicitDefEqProofs (maxSteps := 1000000) only [sm, sn, sxx, seval, firstA]
  · simp +contextual -implicitDefEqProofs (maxSteps := 1000000) only [sm, sn, sxx, seval]
  · rintro k ⟨hk, hnone⟩
    cases k with
    | zero =>
      have hr : aft D a = none := by simpa using hnone
      have hv : aftV D a = firstA D := by unfold aftV; rw [hr]; rfl
      rw [hr, hv]
      have hz : ((0 : Nat) : Int) - 1 = -1 := rfl
      have t1 : a.take 0 ++ firstA (D.drop 0) = firstA D := by simp
      rw [hz, t1]
      have u1 : (a.length ≤ (firstA D).length) = True := by rw [first_len, hl]; simp
      have u3 : ((firstA D).map eI).take a.length = (firstA D).map eI := by rw [← List.map_take]; congr 1; rw [hl, ← first_len]; exact List.take_length
      simp +contextual -implicitDefEqProofs (maxSteps := 1000000) only [sm, sn, sxx, seval, u1, u3, eIs, Option.isSome_none]
    | succ m =>
      have hm : ((m + 1 : Nat) : Int) - 1 = (m : Int) := by omega
      have hm0 : (0 : Int) ≤ (m : Int) := by omega
      have hma : m < a.length := by omega
      have hma' : (m : Int) < (a.length : Int) := by omega
      have hmD' : (m : Int) < (D.length : Int) := by omega
      obtain ⟨r, hx⟩ : ∃ r, D[m]? = some r := ⟨_, List.getElem?_eq_getElem (by omega)⟩
      obtain ⟨v, hv⟩ : ∃ r, a[m]? = some r := ⟨_, List.getElem?_eq_getElem hma⟩
      obtain ⟨hrr, hl0⟩ := hF r (List.mem_of_getElem? hx)
      obtain ⟨y, hy⟩ := lo0_at hl0
      have hl0' : (0 : Int) < (r.length : Int) := by omega
      have hva := ha v (List.mem_of_getElem? hv)
      have w1 : IntKind.i64.wrap (v + 1) = v + 1 := by rw [wrap_i64] <;> omega
      have w2 : IntKind.i64.wrap ((m : Int) - 1) = (m : Int) - 1 := by rw [wrap_i64] <;> omega
      have hat := aft_at hx hv hnone
      have hcl := cl (m + 1) (by omega)
      have hset : ∀ y, (a.take (m + 1) ++ firstA (D.drop (m + 1))).set m y = a.take m ++ y :: firstA (D.drop (m + 1)) := fun y => by
        rw [← take_snoc hv, List.append_assoc]
        have : (a.take m).length = m := by rw [List.length_take]; omega
        have h2 := set_mid (a.take m) (firstA (D.drop (m + 1))) v y
        rw [this] at h2
        exact h2
      rw [hm]
      generalize hQ : a.take (m + 1) ++ firstA (D.drop (m + 1)) = Q at hcl hset ⊢
      have hQl : m < Q.length := by omega
      obtain ⟨q, hq⟩ : ∃ q, Q[m]? = some q := ⟨_, List.getElem?_eq_getElem hQl⟩
      simp +contextual -implicitDefEqProofs (maxSteps := 1000000) only [sm, sn, sxx, seval, hm0, hma', hmD', hma, hx, hv, w1]
      refine callA_rule (ref09_Next r (v + 1) (hd r (List.mem_of_getElem? hx))) (wkL_refl _) rfl ?_
      cases hn : nextB r (v + 1)
      · have hat0 : aft (D.drop m) (a.drop m) = none := by rw [hat]; unfold nx; rw [if_neg (by simp [hn])]; rfl
        have hset0 := hset (lo0 r)
        have hfd : lo0 r :: firstA (D.drop (m + 1)) = firstA (D.drop m) := by rw [drop_at hx]; rfl
        rw [hfd] at hset0
        simp +contextual -implicitDefEqProofs (maxSteps := 1000000) only [sm, sn, sxx, seval, eRgs, hm0, hma', hmD', hma, hQl, hcl, hx, hy, hl0, hl0', set_I, hset0, w2, hq]
        refine ⟨m, ⟨by omega, hat0⟩, by omega, [0], by decide, rfl, ?_, ?_⟩
        · simp +contextual -implicitDefEqProofs (maxSteps := 1000000) only [sm, sn, sxx, seval]
        · simp +contextual -implicitDefEqProofs (maxSteps := 1000000) only [sm, sn, sxx, seval]
      · have hat1 : aft (D.drop m) (a.drop m) = some (nextV r (v + 1) :: firstA (D.drop (m + 1))) := by rw [hat]; unfold nx; rw [if_pos hn]; rfl
        have hsome := aft_pre hl (by omega) hat1
        have hres : aftV D a = a.take m ++ nextV r (v + 1) :: firstA (D.drop (m + 1)) := by unfold aftV; rw [hsome]; rfl
        have hset1 := hset (nextV r (v + 1))
        rw [← hres] at hset1
        rw [hsome]
        have hrl : (aftV D a).length = a.length := by rw [← hset1, List.length_set]; exact hcl
        have u1 : (a.length ≤ (aftV D a).length) = True := by rw [hrl]; simp
        have u3 : ((aftV D a).map eI).take a.length = (aftV D a).map eI := by rw [← hrl, ← List.map_take, List.take_length]
        simp +contextual -implicitDefEqProofs (maxSteps := 1000000) only [sm, sn, sxx, seval, hm0, hma', hma, hQl, hcl, set_I, hset1, u1, u3, hq, eIs, Option.isSome_some]
end Go.Proofs.Ytnhedjpghpdbdaa
namespace Go.Proofs.Ytnhedjpghpdbdaa
open Av
attribute [local irreducible] awp awpOpers
set_option linter.unusedSimpArgs false
set_option linter.unusedVariables false
set_option maxRecDepth 100000
set_option maxHeartbeats 4000000
def eIss (l : List (List Int)) : AV := .list 1 (l.map eIs)
theorem mem_bound {r : List Rg} (hr : rightB r = true) {v : Int} (h : Mem r v) : -1048576 ≤ v ∧ v ≤ 1048576 := by
  obtain ⟨q, hq, h1, h2⟩ := h
  obtain ⟨j, hj, hjs⟩ := List.getElem_of_mem hq
  have hj' : r[j]? = some (q.1, q.2) := by rw [List.getElem?_eq_getElem hj, hjs]
  obtain ⟨g1, g2, g3, g4, g5⟩ := right_rg hr hj'
  omega
theorem box_bound {D : List (List Rg)} {a : List Int} (hF : Full D) (h : InBox D a) : ∀ v ∈ a, -1048576 ≤ v ∧ v ≤ 1048576 := by
  intro v hv
  obtain ⟨i, hi, rfl⟩ := List.getElem_of_mem hv
  have hi2 : i < D.length := by have := h.1; omega
  have hr : D[i]? = some D[i] := List.getElem?_eq_getElem hi2
  exact mem_bound (hF _ (List.mem_of_getElem? hr)).1 (h.2 i _ _ hr (List.getElem?_eq_getElem hi))
theorem snoc_Iss (l : List (List Int)) (a : List Int) : l.map eIs ++ [.list 1 (a.map eI)] = (l ++ [a]).map eIs := by simp [eIs]
theorem ref11_Every (D : List (List Rg)) (c : Con) (h : List Int → Bool) (hD : D.length ≤ 1000000000000) (hF : Full D) (hd : ∀ r ∈ D, r.length ≤ 1000000000000) (hL : (allA D).length ≤ 1000000)
    (hH : ∀ a, a.length ≤ 1000000000000 → Ctr Try.prog 30 [eCon c, eIs a] [] (.bool (h a)) []) :
    Ctr Try.prog 52 [eDoms D, eCons [c]] [] (eIss ((allA D).filter h)) [] := by
  refine call_pure Try.func52 Try.call52 e_ref11_Every ?_
  obtain ⟨K, X, A, C⟩ := c
  have hw := walk_at (walk_all hF)
  have hbox : ∀ (i : Nat) a, (allA D)[i]? = some a → InBox D a := fun i a hi => mem_all.1 (List.mem_of_getElem? hi)
  have h0L : 0 < (allA D).length := by
    cases hq : allA D with
    | nil => rw [hq] at hw; simp at hw
    | cons a l => simp
  generalize allA D = L at hw hbox h0L hL ⊢
  obtain ⟨hw0, hw1⟩ := hw
  have hne : ∀ r ∈ D, (decide (0 < r.length)) = true := fun r hr => by simp; have := (hF r hr).2; omega
  simp +contextual -implicitDefEqProofs (maxSteps := 1000000) only [c_ref11_Every, eDoms, eCons, eIs, sm, sn, sxx, seval]
  refine loop_rule (fun k : Nat => k ≤ D.length ∧ ∀ (j : Nat) x, j < k → D[j]? = some x → (fun r : List Rg => decide (0 < r.length)) x = true) (fun k => tm 54 [(0, .list 1 (D.map eRgs)), (1, .list 4 [eCon (K, X, A, C)]), (5, .nils), (6, .int .i64 k)]) (fun _ => []) (fun k => D.length - k) 0 ⟨by omega, by omega⟩ ⟨[], by decide, rfl, ?_, ?_⟩ ?_
  · simp +contextual -implicitDefEqProofs (maxSteps := 1000000) only [sm, sn, sxx, seval, eCon, eIs]
  · simp +contextual -implicitDefEqProofs (maxSteps := 1000000) only [sm, sn, sxx, seval, Int.natCast_zero, eCon, eIs]
  · rintro k ⟨hk, hok⟩
    by_cases hlt : k < D.length
    · obtain ⟨x, hx⟩ : ∃ r, D[k]? = some r := ⟨_, List.getElem?_eq_getElem hlt⟩
      have hlt' : (k : Int) < (D.length : Int) := by omega
      have e2 : IntKind.i64.wrap ((k : Int) + 1) = ((k + 1 : Nat) : Int) := by rw [wrap_i64] <;> omega
      have hr0 := (hF x (List.mem_of_getElem? hx)).2
      have hr0' : ((x.length : Int) = 0) = False := by simp only [eq_iff_iff, iff_false]; omega
      simp +contextual -implicitDefEqProofs (maxSteps := 1000000) only [sm, sn, sxx, seval, hlt', hx, hr0', e2]
      refine ⟨k + 1, ⟨by omega, ?_⟩, by omega, [], by decide, rfl, ?_, ?_⟩
      · intro j y hj hy
        rcases Nat.lt_succ_iff_lt_or_eq.1 hj with h | rfl
        · first | exact hok j y h hy | simpa using hok j y h hy
        · rw [hx] at hy; injection hy with hy; subst hy; first | exact hr0 | exact decide_eq_true hr0
      · simp +contextual -implicitDefEqProofs (maxSteps := 1000000) only [sm, sn, sxx, seval, eCon, eIs]
      · simp +contextual -implicitDefEqProofs (maxSteps := 1000000) only [sm, sn, sxx, seval, eCon, eIs]
    · have : k = D.length := by omega
      subst this
      have hall := listall_yes hok
      skip
      clear hall hok
      simp +contextual -implicitDefEqProofs (maxSteps := 1000000) only [sm, sn, sxx, seval, Int.lt_irrefl, eDoms]
      refine callA_rule (ref11_first D hD hF) (wkL_refl _) rfl ?_
      simp +contextual -implicitDefEqProofs (maxSteps := 1000000) only [sm, sn, sxx, seval, eIs]
      refine loop_ruleV [(5, 1)] (fun i : Nat => i ≤ L.length) (fun i => tm 54 [(0, .list 1 (D.map eRgs)), (1, .list 4 [eCon (K, X, A, C)]), (5, .sl 1 0 0 ((L.take i).filter h).length), (7, .list 1 (((L[i]?).getD (firstA D)).map eI)), (8, .bool (decide (i < L.length)))]) (fun i => [some (1, ((L.take i).filter h).map eIs)]) (fun i => L.length - i) 0 (by simp +contextual -implicitDefEqProofs (maxSteps := 1000000) only [sm, sn, sxx, seval]) (Nat.zero_le _) ⟨[0], by decide, rfl, ?_, ?_⟩ ?_
      · simp +contextual -implicitDefEqProofs (maxSteps := 1000000) only [sm, sn, sxx, seval, List.take_zero, List.filter_nil, List.map_nil]
      · rw [← hw0]
        have d0 : decide (0 < L.length) = true := decide_eq_true h0L
        rw [d0]
        simp +contextual -implicitDefEqProofs (maxSteps := 1000000) only [sm, sn, sxx, seval, eCon, eIs, Option.getD_some, List.take_zero, List.filter_nil, List.length_nil]
      · intro i hi
        by_cases hlt2 : i < L.length
        · have d1 : decide (i < L.length) = true := by simp; omega
          obtain ⟨a, ha⟩ : ∃ r, L[i]? = some r := ⟨_, List.getElem?_eq_getElem hlt2⟩
          have hb := hbox i a ha
          have hal : a.length ≤ 1000000000000 := by have := hb.1; omega
          have haf := hw1 i a ha
          have hlt' : (L.take i).length = i := by rw [List.length_take]; omega
          have hfl : ((L.take i).filter h).length ≤ i := by have := List.length_filter_le h (L.take i); omega
          have hts := take_snoc ha
          have hnext : aftV D a = (L[i + 1]?).getD (firstA D) := by unfold aftV; rw [haf]
          have hsome : (aft D a).isSome = decide (i + 1 < L.length) := by
            rw [haf]
            by_cases h1 : i + 1 < L.length
            · rw [List.getElem?_eq_getElem h1]; simp [h1]
            · rw [List.getElem?_eq_none (by omega)]; simp [h1]
          rw [d1, ha]
          simp +contextual -implicitDefEqProofs (maxSteps := 1000000) only [sm, sn, sxx, seval, Option.getD_some]
          refine loop_rule (fun j : Nat => j ≤ 1) (fun j => tm 54 [(0, .list 1 (D.map eRgs)), (1, .list 4 [eCon (K, X, A, C)]), (5, .sl 1 0 0 ((L.take i).filter h).length), (7, .list 1 (a.map eI)), (9, .bool (decide (j = 0) || h a)), (10, .int .i64 j)]) (fun j => [some (1, ((L.take i).filter h).map eIs)]) (fun j => 1 - j) 0 (by omega) ⟨[0], by decide, rfl, ?_, ?_⟩ ?_
          · simp +contextual -implicitDefEqProofs (maxSteps := 1000000) only [sm, sn, sxx, seval, eCon, eIs]
          · simp +contextual -implicitDefEqProofs (maxSteps := 1000000) only [sm, sn, sxx, seval, Int.natCast_zero, Bool.true_or]
          · intro j hj
            cases j with
            | zero =>
              simp +contextual -implicitDefEqProofs (maxSteps := 1000000) only [sm, sn, sxx, seval, Int.natCast_zero, Bool.true_or, eCon, eIs]
              refine callA_rule (hH a hal) (wkL_refl _) rfl ?_
              have e3 : IntKind.i64.wrap 1 = ((1 : Nat) : Int) := by decide
              simp +contextual -implicitDefEqProofs (maxSteps := 1000000) only [sm, sn, sxx, seval, e3]
              refine ⟨1, by omega, by omega, [0], by decide, rfl, ?_, ?_⟩
              · simp +contextual -implicitDefEqProofs (maxSteps := 1000000) only [sm, sn, sxx, seval]
              · have e6 : decide (1 = 0) = false := rfl
                simp +contextual -implicitDefEqProofs (maxSteps := 1000000) only [sm, sn, sxx, seval, eCon, eIs, Bool.false_or, e3, e6]
                try rfl
            | succ j =>
              have hj0 : j = 0 := by omega
              subst hj0
              have e4 : (((0 + 1 : Nat)) : Int) = 1 := rfl
              have e5 : decide (0 + 1 = 0) = false := rfl
              simp +contextual -implicitDefEqProofs (maxSteps := 1000000) only [sm, sn, sxx, seval, e4, e5, Bool.false_or, Int.lt_irrefl]
              cases hha : h a
              · have hfn : (L.take (i + 1)).filter h = (L.take i).filter h := by rw [← hts, List.filter_append]; simp [hha]
                simp +contextual -implicitDefEqProofs (maxSteps := 1000000) only [sm, sn, sxx, seval, eDoms, eIs]
                refine callA_rule (ref11_after D a hD hF hd hb.1 (box_bound hF hb)) (wkL_refl _) rfl ?_
                rw [hnext, hsome]
                simp +contextual -implicitDefEqProofs (maxSteps := 1000000) only [sm, sn, sxx, seval, eIs]
                refine ⟨i + 1, by omega, by omega, [0], by decide, rfl, ?_, ?_⟩
                · rw [hfn]
                  simp +contextual -implicitDefEqProofs (maxSteps := 1000000) only [sm, sn, sxx, seval, eCon, eIs]
                · rw [hfn]
                  simp +contextual -implicitDefEqProofs (maxSteps := 1000000) only [sm, sn, sxx, seval]
              · have hfn : (L.take (i + 1)).filter h = (L.take i).filter h ++ [a] := by rw [← hts, List.filter_append]; simp [hha]
                generalize hF1 : (L.take i).filter h = F1 at hfn hfl ⊢
                have hfl2 : F1.length + 1 = (F1 ++ [a]).length := by simp
                have c1 : (F1.length + 1) * 24 ≤ 140737488355328 := by omega
                have c2 : F1.length + 1 ≤ maxLen := by unfold maxLen; omega
                simp +contextual -implicitDefEqProofs (maxSteps := 1000000) only [sm, sn, sxx, seval, eDoms, eIs, c1, c2]
                refine callA_rule (ref11_after D a hD hF hd hb.1 (box_bound hF hb)) (wkL_refl _) rfl ?_
                rw [hnext, hsome]
                simp +contextual -implicitDefEqProofs (maxSteps := 1000000) only [sm, sn, sxx, seval, eIs]
                refine ⟨i + 1, by omega, by omega, [1], by decide, rfl, ?_, ?_⟩
                · rw [hfn]
                  simp +contextual -implicitDefEqProofs (maxSteps := 1000000) only [sm, sn, sxx, seval]
                · rw [hfn]
                  rw [← hfl2]
                  clear hfl2
                  simp +contextual -implicitDefEqProofs (maxSteps := 1000000) only [sm, sn, sxx, seval, eCon, eIs]
        · have hin : i = L.length := by omega
          subst hin
          have d1 : decide (L.length < L.length) = false := by simp
          rw [d1, List.take_length]
          have hll : (L.filter h).length ≤ L.length := List.length_filter_le h L
          have u3 : ((L.filter h).map eIs).take (L.filter h).length = (L.filter h).map eIs := by rw [← List.map_take, List.take_length]
          simp +contextual -implicitDefEqProofs (maxSteps := 1000000) only [sm, sn, sxx, seval, u3, eIss, eIs, flatL_eIs]
end Go.Proofs.Ytnhedjpghpdbdaa
namespace Go.Proofs.Ytnhedjpghpdbdaa
open Av
set_option linter.unusedVariables false
set_option maxRecDepth 100000
def kd_CKeep (f : Nat) : Nat := 0
/- touchstone/touchstonelaw12.Few: slots d, 0, d, 1, _, 3, x, 4 -/
def c_law12_Few : AFunc := ⟨23, [.tmp 2],
  .seq (.region (⟨some 2, .mov (.val (.bool false)), none⟩ :: [])) <|
  .seq (.seq (.region (⟨some 5, .mov (.tmp 0), none⟩ ::
    ⟨some 6, .len false (.tmp 5), none⟩ ::
    ⟨some 7, .mov (.val (.int .i64 0)), none⟩ :: [])) <|
  .block 0 (.loop (.seq (.region (⟨some 8, .bin .lss (.tmp 7) (.tmp 6), none⟩ :: [])) <|
      .seq (.cond (.tmp 8) (.skip) <|
      .exit 0) <|
      .seq (.block 1 (.seq (.region (⟨some 9, .iaddr 1 (.tmp 5) (.tmp 7), none⟩ ::
          ⟨some 10, .load false 1 (.tmp 9), none⟩ ::
          ⟨some 4, .mov (.tmp 10), none⟩ :: [])) <|
        .seq (.region (⟨some 11, .mov (.tmp 4), none⟩ ::
          ⟨some 12, .len false (.tmp 11), none⟩ ::
          ⟨some 13, .bin .eql (.tmp 12) (.val (.int .i64 0)), none⟩ ::
          ⟨some 14, .mov (.tmp 13), none⟩ ::
          ⟨some 15, .mov (.tmp 4), some (14, false)⟩ ::
          ⟨some 16, .call (.val (.fn (.func 50) [])) [(.tmp 15)], some (14, false)⟩ ::
          ⟨some 17, .un .not (.tmp 16), some (14, false)⟩ ::
          ⟨some 18, .pick (.tmp 14) (.val (.bool true)) (.tmp 17), none⟩ :: [])) <|
        .cond (.tmp 18) (.seq (.region (⟨some 2, .mov (.val (.bool false)), none⟩ :: [])) <|
          .ret) <|
        .skip)) <|
      .region (⟨some 19, .bin .add (.tmp 7) (.val (.int .i64 1)), none⟩ ::
        ⟨some 7, .mov (.tmp 19), none⟩ :: [])))) <|
  .seq (.region (⟨some 20, .mov (.tmp 0), none⟩ ::
    ⟨some 21, .call (.val (.fn (.func 51) [])) [(.tmp 20), (.val (.int .i64 400))], none⟩ ::
    ⟨some 22, .bin .leq (.tmp 21) (.val (.int .i64 400)), none⟩ ::
    ⟨some 2, .mov (.tmp 22), none⟩ :: [])) <|
  .ret⟩
theorem e_law12_Few : cFunc Try.prog kd_CKeep Try.f22 = some c_law12_Few := by kernel_rfl
/- touchstone/touchstonelaw12.Kept: slots c, 0, d, 1, out, 2, e, 3, c, 4, d, 5, out, 6, e, 7, l, 9, x, 10, _, 11, a, 12 -/
def c_law12_Kept : AFunc := ⟨82, [.tmp 8],
  .seq (.region (⟨some 4, .box 4 (.tmp 0), none⟩ ::
    ⟨some 8, .mov (.val (.bool false)), none⟩ :: [])) <|
  .seq (.region (⟨some 13, .mov (.tmp 1), none⟩ ::
    ⟨some 14, .load true 4 (.tmp 4), none⟩ ::
    ⟨some 15, .bslice 4 [(.tmp 14)], none⟩ ::
    ⟨some 16, .call (.val (.fn (.func 52) [])) [(.tmp 13), (.tmp 15)], none⟩ ::
    ⟨some 9, .mov (.tmp 16), none⟩ :: [])) <|
  .seq (.seq (.region (⟨some 17, .mov (.tmp 3), none⟩ ::
    ⟨some 18, .bin .eql (.tmp 17) (.val (.int .i64 12)), none⟩ :: [])) <|
  .cond (.tmp 18) (.seq (.region (⟨some 19, .mov (.tmp 9), none⟩ ::
      ⟨some 20, .len false (.tmp 19), none⟩ ::
      ⟨some 21, .bin .eql (.tmp 20) (.val (.int .i64 0)), none⟩ ::
      ⟨some 22, .mov (.tmp 21), none⟩ ::
      ⟨some 23, .mov (.tmp 2), some (22, true)⟩ ::
      ⟨some 24, .len false (.tmp 23), some (22, true)⟩ ::
      ⟨some 25, .bin .eql (.tmp 24) (.val (.int .i64 0)), some (22, true)⟩ ::
      ⟨some 26, .pick (.tmp 22) (.tmp 25) (.val (.bool false)), none⟩ ::
      ⟨some 8, .mov (.tmp 26), none⟩ :: [])) <|
    .ret) <|
  .skip) <|
  .seq (.seq (.region (⟨some 27, .mov (.tmp 3), none⟩ ::
    ⟨some 28, .bin .neq (.tmp 27) (.val (.int .i64 0)), none⟩ ::
    ⟨some 29, .mov (.tmp 28), none⟩ ::
    ⟨some 30, .mov (.tmp 2), some (29, false)⟩ ::
    ⟨some 31, .len false (.tmp 30), some (29, false)⟩ ::
    ⟨some 32, .mov (.tmp 1), some (29, false)⟩ ::
    ⟨some 33, .len false (.tmp 32), some (29, false)⟩ ::
    ⟨some 34, .bin .neq (.tmp 31) (.tmp 33), some (29, false)⟩ ::
    ⟨some 35, .pick (.tmp 29) (.val (.bool true)) (.tmp 34), none⟩ :: [])) <|
  .cond (.tmp 35) (.seq (.region (⟨some 8, .mov (.val (.bool false)), none⟩ :: [])) <|
    .ret) <|
  .skip) <|
  .seq (.seq (.region (⟨some 36, .mov (.tmp 1), none⟩ ::
    ⟨some 37, .len false (.tmp 36), none⟩ ::
    ⟨some 38, .mov (.val (.int .i64 0)), none⟩ :: [])) <|
  .block 0 (.loop (.seq (.region (⟨some 39, .bin .lss (.tmp 38) (.tmp 37), none⟩ :: [])) <|
      .seq (.cond (.tmp 39) (.skip) <|
      .exit 0) <|
      .seq (.block 1 (.seq (.region (⟨some 40, .mov (.tmp 38), none⟩ ::
          ⟨some 10, .mov (.tmp 40), none⟩ :: [])) <|
        .seq (.seq (.region (⟨some 41, .mov (.tmp 2), none⟩ ::
          ⟨some 42, .mov (.tmp 10), none⟩ ::
          ⟨some 43, .iaddr 1 (.tmp 41) (.tmp 42), none⟩ ::
          ⟨some 44, .load false 1 (.tmp 43), none⟩ ::
          ⟨some 45, .mov (.tmp 1), none⟩ ::
          ⟨some 46, .mov (.tmp 10), none⟩ ::
          ⟨some 47, .iaddr 1 (.tmp 45) (.tmp 46), none⟩ ::
          ⟨some 48, .load false 1 (.tmp 47), none⟩ ::
          ⟨some 49, .call (.val (.fn (.func 54) [])) [(.tmp 44), (.tmp 48)], none⟩ ::
          ⟨some 50, .mov (.tmp 2), none⟩ ::
          ⟨some 51, .mov (.tmp 10), none⟩ ::
          ⟨some 52, .iaddr 1 (.tmp 50) (.tmp 51), none⟩ ::
          ⟨some 53, .load false 1 (.tmp 52), none⟩ ::
          ⟨some 54, .call (.val (.fn (.func 53) [])) [(.tmp 49), (.tmp 53)], none⟩ ::
          ⟨some 55, .un .not (.tmp 54), none⟩ ::
          ⟨some 56, .mov (.tmp 55), none⟩ ::
          ⟨some 57, .mov (.tmp 2), some (56, false)⟩ ::
          ⟨some 58, .mov (.tmp 10), some (56, false)⟩ ::
          ⟨some 59, .iaddr 1 (.tmp 57) (.tmp 58), some (56, false)⟩ ::
          ⟨some 60, .load false 1 (.tmp 59), some (56, false)⟩ ::
          ⟨some 61, .len false (.tmp 60), some (56, false)⟩ ::
          ⟨some 62, .bin .eql (.tmp 61) (.val (.int .i64 0)), some (56, false)⟩ ::
          ⟨some 63, .pick (.tmp 56) (.val (.bool true)) (.tmp 62), none⟩ :: [])) <|
        .cond (.tmp 63) (.seq (.region (⟨some 8, .mov (.val (.bool false)), none⟩ :: [])) <|
          .ret) <|
        .skip) <|
        .seq (.region (⟨some 64, .mov (.tmp 9), none⟩ ::
          ⟨some 65, .len false (.tmp 64), none⟩ ::
          ⟨some 66, .mov (.val (.int .i64 0)), none⟩ :: [])) <|
        .block 2 (.loop (.seq (.region (⟨some 67, .bin .lss (.tmp 66) (.tmp 65), none⟩ :: [])) <|
            .seq (.cond (.tmp 67) (.skip) <|
            .exit 2) <|
            .seq (.block 3 (.seq (.region (⟨some 68, .iaddr 1 (.tmp 64) (.tmp 66), none⟩ ::
                ⟨some 69, .load false 1 (.tmp 68), none⟩ ::
                ⟨some 12, .mov (.tmp 69), none⟩ :: [])) <|
              .seq (.region (⟨some 70, .mov (.tmp 2), none⟩ ::
                ⟨some 71, .mov (.tmp 10), none⟩ ::
                ⟨some 72, .iaddr 1 (.tmp 70) (.tmp 71), none⟩ ::
                ⟨some 73, .load false 1 (.tmp 72), none⟩ ::
                ⟨some 74, .mov (.tmp 12), none⟩ ::
                ⟨some 75, .mov (.tmp 10), none⟩ ::
                ⟨some 76, .iaddr 1 (.tmp 74) (.tmp 75), none⟩ ::
                ⟨some 77, .load false 1 (.tmp 76), none⟩ ::
                ⟨some 78, .call (.val (.fn (.func 55) [])) [(.tmp 73), (.tmp 77)], none⟩ ::
                ⟨some 79, .un .not (.tmp 78), none⟩ :: [])) <|
              .cond (.tmp 79) (.seq (.region (⟨some 8, .mov (.val (.bool false)), none⟩ :: [])) <|
                .ret) <|
              .skip)) <|
            .region (⟨some 80, .bin .add (.tmp 66) (.val (.int .i64 1)), none⟩ ::
              ⟨some 66, .mov (.tmp 80), none⟩ :: []))))) <|
      .region (⟨some 81, .bin .add (.tmp 38) (.val (.int .i64 1)), none⟩ ::
        ⟨some 38, .mov (.tmp 81), none⟩ :: [])))) <|
  .seq (.region (⟨some 8, .mov (.val (.bool true)), none⟩ :: [])) <|
  .ret⟩
theorem e_law12_Kept : cFunc Try.prog kd_CKeep Try.f24 = some c_law12_Kept := by kernel_rfl
end Go.Proofs.Ytnhedjpghpdbdaa
namespace Go.Proofs.Ytnhedjpghpdbdaa
open Av
attribute [local irreducible] awp awpOpers
set_option linter.unusedSimpArgs false
set_option linter.unusedVariables false
set_option maxRecDepth 100000
set_option maxHeartbeats 4000000
def fewB (D : List (List Rg)) : Bool := D.all (fun r => decide (0 < r.length) && rightB r) && decide (boxesGo 400 1 D ≤ 400)
theorem few_facts {D : List (List Rg)} (h : fewB D = true) : Full D ∧ (allA D).length ≤ 400 := by
  unfold fewB at h
  rw [Bool.and_eq_true, List.all_eq_true, decide_eq_true_eq] at h
  have hF : Full D := fun r hr => by
    have := h.1 r hr
    rw [Bool.and_eq_true, decide_eq_true_eq] at this
    exact ⟨this.2, this.1⟩
  have := (len_all hF (n := 1) (by omega) h.2).1
  exact ⟨hF, by omega⟩
theorem law12_Few (D : List (List Rg)) (hD : D.length ≤ 1000000000000) (hd : ∀ r ∈ D, r.length ≤ 1000000000000) : Ctr Try.prog 22 [eDoms D] [] (.bool (fewB D)) [] := by
  refine call_pure Try.func22 Try.call22 e_law12_Few ?_
  simp +contextual -implicitDefEqProofs (maxSteps := 1000000) only [c_law12_Few, eDoms, sm, sn, sxx, seval]
  refine loop_rule (fun k : Nat => k ≤ D.length ∧ ∀ (j : Nat) x, j < k → D[j]? = some x → (fun r : List Rg => decide (0 < r.length) && rightB r) x = true) (fun k => tm 23 [(0, .list 1 (D.map eRgs)), (5, .list 1 (D.map eRgs)), (6, .int .i64 D.length), (7, .int .i64 k)]) (fun _ => []) (fun k => D.length - k) 0 ⟨by omega, by omega⟩ ⟨[], by decide, rfl, ?_, ?_⟩ ?_
  · simp +contextual -implicitDefEqProofs (maxSteps := 1000000) only [sm, sn, sxx, seval]
  · simp +contextual -implicitDefEqProofs (maxSteps := 1000000) only [sm, sn, sxx, seval, Int.natCast_zero]
  · rintro k ⟨hk, hok⟩
    by_cases hlt : k < D.length
    · obtain ⟨x, hx⟩ : ∃ r, D[k]? = some r := ⟨_, List.getElem?_eq_getElem hlt⟩
      have hlt' : (k : Int) < (D.length : Int) := by omega
      have e2 : IntKind.i64.wrap ((k : Int) + 1) = ((k + 1 : Nat) : Int) := by rw [wrap_i64] <;> omega
      by_cases h0 : x.length = 0
      · have h0' : ((x.length : Int) = 0) = True := by simp only [eq_iff_iff, iff_true]; omega
        have hno : fewB D = false := by unfold fewB; rw [listall_no hx (by simp; omega)]; rfl
        rw [hno]
        simp +contextual -implicitDefEqProofs (maxSteps := 1000000) only [sm, sn, sxx, seval, hlt', hx, h0', eRgs]
      · have h0' : ((x.length : Int) = 0) = False := by simp only [eq_iff_iff, iff_false]; omega
        simp +contextual -implicitDefEqProofs (maxSteps := 1000000) only [sm, sn, sxx, seval, hlt', hx, h0', eRgs]
        refine callA_rule (ref09_Right x (by have := hd x (List.mem_of_getElem? hx); omega)) (wkL_refl _) rfl ?_
        cases hr : rightB x
        · have hno : fewB D = false := by unfold fewB; rw [listall_no hx (by simp [hr])]; rfl
          rw [hno]
          simp +contextual -implicitDefEqProofs (maxSteps := 1000000) only [sm, sn, sxx, seval]
        · simp +contextual -implicitDefEqProofs (maxSteps := 1000000) only [sm, sn, sxx, seval, e2]
          refine ⟨k + 1, ⟨by omega, ?_⟩, by omega, [], by decide, rfl, ?_, ?_⟩
          · intro j y hj hy
            rcases Nat.lt_succ_iff_lt_or_eq.1 hj with h | rfl
            · first | exact hok j y h hy | simpa using hok j y h hy
            · rw [hx] at hy; injection hy with hy; subst hy; have h1 : 0 < x.length := (by omega); simp [hr, h1]
          · simp +contextual -implicitDefEqProofs (maxSteps := 1000000) only [sm, sn, sxx, seval]
          · simp +contextual -implicitDefEqProofs (maxSteps := 1000000) only [sm, sn, sxx, seval]
    · have : k = D.length := by omega
      subst this
      have hall := listall_yes hok
      have hr : ∀ r ∈ D, rightB r = true := fun r hr => by
        have := List.all_eq_true.1 hall r hr
        rw [Bool.and_eq_true] at this
        exact this.2
      simp +contextual -implicitDefEqProofs (maxSteps := 1000000) only [sm, sn, sxx, seval, Int.lt_irrefl]
      refine callA_rule (ref11_Boxes D 400 (by omega) (by omega) hD hr) (wkL_refl _) rfl ?_
      have hf : fewB D = decide (boxesGo 400 1 D ≤ 400) := by unfold fewB; rw [hall]; rfl
      rw [hf]
      simp +contextual -implicitDefEqProofs (maxSteps := 1000000) only [sm, sn, sxx, seval]
theorem sub_rmeet {r t : List Rg} (h : Sub r t) : rmeetS r t = r := meet_sub h
theorem same_refl {r : List Rg} (h : rightB r = true) : rsameB r r = true := by
  unfold rsameB
  simp [h]
def KeptP (h : List Int → Bool) (D out : List (List Rg)) (e : Int) : Prop :=
  (e = 12 ∧ out = [] ∧ ∀ a, InBox D a → h a = false) ∨ (e = 0 ∧ LeD out D ∧ (∀ r ∈ out, 0 < r.length) ∧ ∀ a, InBox D a → h a = true → InBox out a)
theorem law12_Kept (c : Con) (D out : List (List Rg)) (e : Int) (h : List Int → Bool) (hD : D.length ≤ 1000000000000) (hF : Full D) (hd : ∀ r ∈ D, r.length ≤ 1000000000000) (hL : (allA D).length ≤ 400)
    (hH : ∀ a, a.length ≤ 1000000000000 → Ctr Try.prog 30 [eCon c, eIs a] [] (.bool (h a)) []) (hk : KeptP h D out e) :
    Ctr Try.prog 24 [eCon c, eDoms D, eDoms out, .int .i64 e] [] (.bool true) [] := by
  have hEv := ref11_Every D c h hD hF hd (by omega) hH
  obtain ⟨K, X, A, C⟩ := c
  have hmem : ∀ a, a ∈ (allA D).filter h ↔ InBox D a ∧ h a = true := fun a => by rw [List.mem_filter, mem_all]
  have hll : ((allA D).filter h).length ≤ 400 := by have := List.length_filter_le h (allA D); omega
  generalize (allA D).filter h = L at hEv hmem hll
  refine call_pure Try.func24 Try.call24 e_law12_Kept ?_
  simp +contextual -implicitDefEqProofs (maxSteps := 1000000) only [c_law12_Kept, eDoms, eCon, eIs, sm, sn, sxx, seval]
  refine callA_rule hEv (by simp +contextual -implicitDefEqProofs (maxSteps := 1000000) only [sm, sn, sxx, seval, eDoms, eCons, eCon, eIs]) rfl ?_
  rcases hk with ⟨rfl, rfl, hnone⟩ | ⟨rfl, hle, hpos, hkeep⟩
  · have hL0 : L = [] := by
      cases hq : L with
      | nil => rfl
      | cons a l =>
        have := (hmem a).1 (by rw [hq]; simp)
        rw [hnone a this.1] at this
        simp at this
    subst hL0
    simp +contextual -implicitDefEqProofs (maxSteps := 1000000) only [sm, sn, sxx, seval, eIss, Int.natCast_zero, List.length_nil, List.map_nil]
  · have hol : out.length = D.length := hle.1
    have hol' : (out.length : Int) = (D.length : Int) := by omega
    have hkp : ∀ a ∈ L, InBox out a := fun a ha => hkeep a ((hmem a).1 ha).1 ((hmem a).1 ha).2
    simp +contextual -implicitDefEqProofs (maxSteps := 1000000) only [sm, sn, sxx, seval, eIss, hol']
    refine loop_rule (fun k : Nat => k ≤ D.length) (fun k => tm 82 [(1, .list 1 (D.map eRgs)), (2, .list 1 (out.map eRgs)), (9, .list 1 (L.map eIs)), (37, .int .i64 D.length), (38, .int .i64 k)]) (fun _ => []) (fun k => D.length - k) 0 (Nat.zero_le _) ⟨[], by decide, rfl, ?_, ?_⟩ ?_
    · simp +contextual -implicitDefEqProofs (maxSteps := 1000000) only [sm, sn, sxx, seval]
    · simp +contextual -implicitDefEqProofs (maxSteps := 1000000) only [sm, sn, sxx, seval, Int.natCast_zero]
    · intro k hk
      by_cases hlt : k < D.length
      · have hlt' : (k : Int) < (D.length : Int) := by omega
        have e2 : IntKind.i64.wrap ((k : Int) + 1) = ((k + 1 : Nat) : Int) := by rw [wrap_i64] <;> omega
        obtain ⟨r, hr⟩ : ∃ r, D[k]? = some r := ⟨_, List.getElem?_eq_getElem hlt⟩
        obtain ⟨s, hs⟩ : ∃ r, out[k]? = some r := ⟨_, List.getElem?_eq_getElem (by omega)⟩
        have hrow : ∀ (E : List (List Rg)) q, E[k]? = some q → rowOf E (k : Int) = q := fun E q h => by unfold rowOf; rw [Int.toNat_natCast, h]; rfl
        have hsub := hle.2 (k : Int) (by omega) (by omega)
        rw [hrow D r hr, hrow out s hs] at hsub
        have hsl : 0 < s.length := hpos s (List.mem_of_getElem? hs)
        have hsl' : ((s.length : Int) = 0) = False := by simp only [eq_iff_iff, iff_false]; omega
        have hb1 := right_length hsub.1
        have hb2 := right_length hsub.2.1
        simp +contextual -implicitDefEqProofs (maxSteps := 1000000) only [sm, sn, sxx, seval, hlt', hol', hr, hs]
        refine callA_rule (ref09_Meet s r (by omega) (by omega)) (wkL_refl _) rfl ?_
        rw [meet_sub hsub]
        simp +contextual -implicitDefEqProofs (maxSteps := 1000000) only [sm, sn, sxx, seval, hlt', hol', hr, hs, eRgs]
        refine callA_rule (ref09_Same s s (by omega) (by omega)) (by simp +contextual -implicitDefEqProofs (maxSteps := 1000000) only [sm, sn, sxx, seval, eRgs]) rfl ?_
        rw [same_refl hsub.1]
        simp +contextual -implicitDefEqProofs (maxSteps := 1000000) only [sm, sn, sxx, seval, hlt', hol', hr, hs, eRgs, hsl']
        refine loop_rule (fun j : Nat => j ≤ L.length) (fun j => tm 82 [(1, .list 1 (D.map eRgs)), (2, .list 1 (out.map eRgs)), (9, .list 1 (L.map eIs)), (10, .int .i64 k), (37, .int .i64 D.length), (38, .int .i64 k), (64, .list 1 (L.map eIs)), (65, .int .i64 L.length), (66, .int .i64 j)]) (fun _ => []) (fun j => L.length - j) 0 (Nat.zero_le _) ⟨[], by decide, rfl, ?_, ?_⟩ ?_
        · simp +contextual -implicitDefEqProofs (maxSteps := 1000000) only [sm, sn, sxx, seval]
        · simp +contextual -implicitDefEqProofs (maxSteps := 1000000) only [sm, sn, sxx, seval, Int.natCast_zero]
        · intro j hj
          by_cases hjl : j < L.length
          · have hjl' : (j : Int) < (L.length : Int) := by omega
            have e3 : IntKind.i64.wrap ((j : Int) + 1) = ((j + 1 : Nat) : Int) := by rw [wrap_i64] <;> omega
            obtain ⟨a, ha⟩ : ∃ r, L[j]? = some r := ⟨_, List.getElem?_eq_getElem hjl⟩
            obtain ⟨b1, b2⟩ := hkp a (List.mem_of_getElem? ha)
            obtain ⟨v, hv⟩ : ∃ r, a[k]? = some r := ⟨_, List.getElem?_eq_getElem (by omega)⟩
            have hal : (k : Int) < (a.length : Int) := by omega
            have hhas : rhasB s v = true := rhas_iff.2 ⟨hsub.1, b2 k s v hs hv⟩
            simp +contextual -implicitDefEqProofs (maxSteps := 1000000) only [sm, sn, sxx, seval, hjl', ha, hol', hlt', hs, hv, hal]
            refine callA_rule (ref09_Has s v (by omega)) (by simp +contextual -implicitDefEqProofs (maxSteps := 1000000) only [sm, sn, sxx, seval, eRgs]) rfl ?_
            rw [hhas]
            simp +contextual -implicitDefEqProofs (maxSteps := 1000000) only [sm, sn, sxx, seval, e3]
            refine ⟨j + 1, by omega, by omega, [], by decide, rfl, ?_, ?_⟩
            · simp +contextual -implicitDefEqProofs (maxSteps := 1000000) only [sm, sn, sxx, seval]
            · simp +contextual -implicitDefEqProofs (maxSteps := 1000000) only [sm, sn, sxx, seval]
          · have hjn : j = L.length := by omega
            subst hjn
            simp +contextual -implicitDefEqProofs (maxSteps := 1000000) only [sm, sn, sxx, seval, Int.lt_irrefl, e2]
            refine ⟨k + 1, by omega, by omega, [], by decide, rfl, ?_, ?_⟩
            · simp +contextual -implicitDefEqProofs (maxSteps := 1000000) only [sm, sn, sxx, seval]
            · simp +contextual -implicitDefEqProofs (maxSteps := 1000000) only [sm, sn, sxx, seval]
      · have hkn : k = D.length := by omega
        subst hkn
        simp +contextual -implicitDefEqProofs (maxSteps := 1000000) only [sm, sn, sxx, seval, Int.lt_irrefl]
end Go.Proofs.Ytnhedjpghpdbdaa
namespace Go.Proofs.Ytnhedjpghpdbdaa
open Av
set_option linter.unusedSimpArgs false
set_option linter.unusedVariables false
theorem one_len (a : List Int) : (oneD a).length = a.length := by unfold oneD; rw [List.length_map]
theorem row_one {a : List Int} {x : Int} (h : 0 ≤ x ∧ x < a.length) : rowOf (oneD a) x = [(xat a x.toNat, xat a x.toNat)] := by
  have h1 : (oneD a)[x.toNat]? = some [(xat a x.toNat, xat a x.toNat)] := one_get (xat_get (by omega))
  unfold rowOf
  rw [h1]; rfl
theorem mem_one' (v u : Int) : Mem [(v, v)] u ↔ u = v := by
  unfold Mem
  constructor
  · rintro ⟨r, hr, h1, h2⟩
    simp at hr
    subst hr
    simp only at h1 h2
    omega
  · rintro rfl
    exact ⟨(u, u), by simp, Int.le_refl _, Int.le_refl _⟩
theorem dom_one {v : Int} (h : -1048576 ≤ v ∧ v ≤ 1048576) : domB [(v, v)] = true := by
  have hw : withinB v = true := (withinB_iff v).2 h
  have hr : rightB [(v, v)] = true := rightB_yes fun k hk => by
    have hk0 : k = 0 := by simpa using hk
    subst hk0
    exact ok_4 (x := v) (y := v) rfl (by simp) hw hw rfl
  unfold domB
  rw [hr]; simp
theorem box_row {D : List (List Rg)} {a : List Int} (h : InBox D a) {x : Int} (hx : 0 ≤ x ∧ x < D.length) : Mem (rowOf D x) (xat a x.toNat) := h.2 x.toNat _ _ (row_get hx) (xat_get (by rw [h.1]; omega))
theorem one_le {D : List (List Rg)} {a : List Int} (hF : Full D) (h : InBox D a) : LeD (oneD a) D ∧ ∀ r ∈ oneD a, domB r = true := by
  have hb := box_bound hF h
  have hd : ∀ r ∈ oneD a, domB r = true := by
    intro r hr
    unfold oneD at hr
    obtain ⟨v, hv, rfl⟩ := List.mem_map.1 hr
    exact dom_one (hb v hv)
  refine ⟨⟨by rw [one_len]; exact h.1, fun x h0 h1 => ?_⟩, hd⟩
  have hx : 0 ≤ x ∧ x < (a.length : Int) := ⟨h0, by rw [h.1]; exact h1⟩
  have hm := row_mem (D := oneD a) (x := x) (by rw [one_len]; exact hx)
  refine ⟨(dom_right (hd _ hm)).1, (hF _ (row_mem ⟨h0, h1⟩)).1, fun u hu => ?_⟩
  rw [row_one hx, mem_one'] at hu
  subst hu
  exact box_row h ⟨h0, h1⟩
theorem le_box {E : List (List Rg)} {a : List Int} (h : LeD (oneD a) E) : InBox E a := by
  have hl : a.length = E.length := by rw [← one_len]; exact h.1
  refine ⟨hl, fun i r v hr hv => ?_⟩
  have hi : i < E.length := (List.getElem?_eq_some_iff.1 hr).1
  have hs := (h.2 (i : Int) (by omega) (by omega)).2.2
  have h1 : rowOf E (i : Int) = r := by unfold rowOf; rw [Int.toNat_natCast, hr]; rfl
  have h2 : xat a i = v := by unfold xat; rw [hv]; rfl
  have h3 := row_one (a := a) (x := (i : Int)) (by omega)
  rw [Int.toNat_natCast, h2] at h3
  rw [h1, h3] at hs
  exact hs v ((mem_one' v v).2 rfl)
theorem full_dom {D : List (List Rg)} (h : ∀ r ∈ D, domB r = true) : Full D := fun r hr => dom_right (h r hr)
theorem dom_full {D : List (List Rg)} (h : Full D) : ∀ r ∈ D, domB r = true := fun r hr => by
  unfold domB
  rw [(h r hr).1]
  have := (h r hr).2
  simp; omega
/-- what a narrowing that is no larger on smaller domains leaves -/
theorem kept_of {N : List (List Rg) → List (List Rg) × Int} {h : List Int → Bool} {D : List (List Rg)}
    (hor : ∀ a, InBox D a → (∃ E, N D = (E, 0) ∧ (N (oneD a) = ([], 12) ∨ ∃ E', N (oneD a) = (E', 0) ∧ LeD E' E)) ∨ (N D = ([], 12) ∧ N (oneD a) = ([], 12)))
    (hone : ∀ a, InBox D a → h a = true → N (oneD a) = (oneD a, 0)) (hres : N D = ([], 12) ∨ ∃ E, N D = (E, 0) ∧ LeD E D ∧ ∀ r ∈ E, 0 < r.length) : KeptP h D (N D).1 (N D).2 := by
  have key : ∀ a, InBox D a → h a = true → ∃ E, N D = (E, 0) ∧ InBox E a := by
    intro a ha hh
    have h1 := hone a ha hh
    rcases hor a ha with ⟨E, hE, h2 | ⟨E', h2, h3⟩⟩ | ⟨h2, h3⟩
    · rw [h1] at h2; have h9 := congrArg Prod.snd h2; simp at h9
    · rw [h1] at h2
      injection h2 with h2 _
      subst h2
      exact ⟨E, hE, le_box h3⟩
    · rw [h1] at h3; have h9 := congrArg Prod.snd h3; simp at h9
  rcases hres with h0 | ⟨E, hE, hle, hp⟩
  · rw [h0]
    refine .inl ⟨rfl, rfl, fun a ha => ?_⟩
    cases hh : h a with
    | false => rfl
    | true =>
      obtain ⟨E, hE, -⟩ := key a ha hh
      rw [h0] at hE
      cases hE
  · rw [hE]
    refine .inr ⟨rfl, hle, hp, fun a ha hh => ?_⟩
    obtain ⟨E', hE', hb⟩ := key a ha hh
    rw [hE] at hE'
    injection hE' with hE' _
    subst hE'
    exact hb
/-! sums of values -/
def sumT (T : List Tm) (a : List Int) : Nat → Int
  | 0 => 0
  | k + 1 => sumT T a k + (tX T k).1 * xat a (tX T k).2.toNat
theorem eAt_one {a : List Int} {x : Int} (hb : ∀ v ∈ a, -1048576 ≤ v ∧ v ≤ 1048576) (hx : 0 ≤ x ∧ x < a.length) : eAt (oneD a) x = (xat a x.toNat, xat a x.toNat) := by
  unfold eAt
  rw [row_one hx]
  have hv : -1048576 ≤ xat a x.toNat ∧ xat a x.toNat ≤ 1048576 := hb _ (List.mem_of_getElem? (xat_get (by omega)))
  exact ends_at (dom_right (dom_one hv)).1 rfl rfl
theorem span_one {a : List Int} {T : List Tm} (hb : ∀ v ∈ a, -1048576 ≤ v ∧ v ≤ 1048576) (hT : ∀ k, k < T.length → 0 ≤ (tX T k).2 ∧ (tX T k).2 < a.length) : ∀ {n : Nat}, n ≤ T.length → (spanK (oneD a) T n).1 = sumT T a n
  | 0, _ => rfl
  | n + 1, h => by
    have h1 := span_one hb hT (n := n) (by omega)
    unfold spanK sumT
    simp only
    rw [h1]
    have h2 := eAt_one hb (hT n (by omega))
    unfold termE
    rw [h2]
    simp
theorem most_one {a : List Int} {T : List Tm} {room : Int} (hr : 0 ≤ room) (hb : ∀ v ∈ a, -1048576 ≤ v ∧ v ≤ 1048576) (hT : ∀ k, k < T.length → 0 ≤ (tX T k).2 ∧ (tX T k).2 < a.length) : ∀ {n : Nat}, n ≤ T.length → mostK (oneD a) T room n = oneD a
  | 0, _ => rfl
  | n + 1, h => by
    have h1 := most_one hr hb hT (n := n) (by omega)
    have hx := hT n (by omega)
    have h2 := eAt_one hb hx
    have hv : -1048576 ≤ xat a (tX T n).2.toNat ∧ xat a (tX T n).2.toNat ≤ 1048576 := hb _ (List.mem_of_getElem? (xat_get (by omega)))
    have hd := dom_one hv
    have hc : cutOf (oneD a) room (tX T n) = (xat a (tX T n).2.toNat, xat a (tX T n).2.toNat) := by
      unfold cutOf
      rw [h2]
      simp only
      split
      · rename_i hp
        have : 0 ≤ room.tdiv (tX T n).1 := by rw [Int.tdiv_eq_ediv_of_nonneg hr]; exact Int.ediv_nonneg hr (by omega)
        rw [Int.min_eq_left (by omega)]
      · split
        · rename_i hp
          have : 0 ≤ room.tdiv (-(tX T n).1) := by rw [Int.tdiv_eq_ediv_of_nonneg hr]; exact Int.ediv_nonneg hr (by omega)
          rw [Int.max_eq_left (by omega)]
        · rfl
    unfold mostK
    rw [h1, hc, row_one hx]
    have hcut : cutS (xat a (tX T n).2.toNat) (xat a (tX T n).2.toNat) [(xat a (tX T n).2.toNat, xat a (tX T n).2.toNat)] = [(xat a (tX T n).2.toNat, xat a (tX T n).2.toNat)] := by
      have := cut_within (r := [(xat a (tX T n).2.toNat, xat a (tX T n).2.toNat)]) ⟨(dom_right hd).1, (dom_right hd).1, fun v hv => hv⟩ hd
      rw [ends_at (dom_right hd).1 rfl rfl] at this
      exact this
    simp only
    rw [hcut]
    have := set_self (D := oneD a) (x := (tX T n).2) (by rw [one_len]; exact hx)
    rw [row_one hx] at this
    exact this
theorem whole_one (a : List Int) : wholeB (oneD a) = true := by
  unfold wholeB
  rw [Bool.not_eq_true', List.any_eq_false]
  intro r hr
  unfold oneD at hr
  obtain ⟨v, -, rfl⟩ := List.mem_map.1 hr
  simp
theorem mostS_one {a : List Int} {T : List Tm} {n : Int} (hb : ∀ v ∈ a, -1048576 ≤ v ∧ v ≤ 1048576) (hT : ∀ k, k < T.length → 0 ≤ (tX T k).2 ∧ (tX T k).2 < a.length) (h : sumT T a T.length ≤ n) : mostS (oneD a) T n = (oneD a, true) := by
  unfold mostS
  rw [span_one hb hT (Nat.le_refl _), if_neg (by omega), most_one (by omega) hb hT (Nat.le_refl _), whole_one]
theorem opp_at {T : List Tm} {k : Nat} (hk : k < T.length) : tX (opp T) k = (-(tX T k).1, (tX T k).2) := by
  have : (opp T)[k]? = some (-(tX T k).1, (tX T k).2) := by unfold opp; rw [List.getElem?_map, tX_get hk]; rfl
  conv => lhs; unfold tX
  rw [this]; rfl
theorem sumT_opp {T : List Tm} {a : List Int} : ∀ {n : Nat}, n ≤ T.length → sumT (opp T) a n = -sumT T a n
  | 0, _ => rfl
  | n + 1, h => by
    have h1 := sumT_opp (T := T) (a := a) (n := n) (by omega)
    unfold sumT
    rw [h1, opp_at (by omega)]
    simp only
    rw [Int.neg_mul]
    omega
theorem opp_length (T : List Tm) : (opp T).length = T.length := by unfold opp; rw [List.length_map]
theorem open_one {a : List Int} {T : List Tm} (hb : ∀ v ∈ a, -1048576 ≤ v ∧ v ≤ 1048576) (hT : ∀ k, k < T.length → 0 ≤ (tX T k).2 ∧ (tX T k).2 < a.length) : ∀ {n : Nat}, n ≤ T.length → openK (oneD a) T n = ([], sumT T a n)
  | 0, _ => rfl
  | n + 1, h => by
    have h1 := open_one hb hT (n := n) (by omega)
    have h2 := eAt_one hb (hT n (by omega))
    unfold openK sumT
    rw [h2, h1, if_pos (.inr rfl)]
/-- a sum of one value each -/
theorem linear_one {c : Con} {a : List Int} (hb : ∀ v ∈ a, -1048576 ≤ v ∧ v ≤ 1048576) (hK : 1 ≤ c.1 ∧ c.1 ≤ 3) (hm : modB (oneD a, [c], 0, 0) = true) (hT : ∀ k, k < (termsOf c).length → 0 ≤ (tX (termsOf c) k).2 ∧ (tX (termsOf c) k).2 < a.length)
    (h : (c.1 = 1 → sumT (termsOf c) a (termsOf c).length = c.2.2.2) ∧ (c.1 = 2 → sumT (termsOf c) a (termsOf c).length ≤ c.2.2.2) ∧ (c.1 = 3 → ¬ sumT (termsOf c) a (termsOf c).length = c.2.2.2)) : linearL c (oneD a) = (oneD a, 0) := by
  unfold linearL
  rw [if_pos hm]
  generalize termsOf c = T at hT h ⊢
  have hTo : ∀ k, k < (opp T).length → 0 ≤ (tX (opp T) k).2 ∧ (tX (opp T) k).2 < a.length := fun k hk => by
    rw [opp_length] at hk
    rw [opp_at hk]
    exact hT k hk
  have hc : c.1 = 1 ∨ c.1 = 2 ∨ c.1 = 3 := by omega
  rcases hc with h1 | h1 | h1
  · rw [if_pos h1]
    have hs := h.1 h1
    unfold isS
    rw [mostS_one hb hT (by omega)]
    simp only
    rw [mostS_one hb hTo (by rw [opp_length, sumT_opp (Nat.le_refl _)]; omega)]
    rfl
  · rw [if_neg (by omega), if_pos h1]
    have hs := h.2.1 h1
    rw [mostS_one hb hT hs]
    rfl
  · rw [if_neg (by omega), if_neg (by omega), if_pos h1]
    have hs := h.2.2 h1
    have hn : notS (oneD a) T c.2.2.2 = (oneD a, true) := by
      unfold notS
      rw [open_one hb hT (Nat.le_refl _)]
      simp
      omega
    rw [hn]
    rfl
end Go.Proofs.Ytnhedjpghpdbdaa
