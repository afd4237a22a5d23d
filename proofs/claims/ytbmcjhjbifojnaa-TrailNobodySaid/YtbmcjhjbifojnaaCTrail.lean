/- The code of functions, as abstract code. Printed by program. -/
import Derived.Test.YtbmcjhjbifojnaaAv2
import Derived.Test.YtbmcjhjbifojnaaProg
namespace Go.Proofs.Ytbmcjhjbifojnaa
open Av
set_option linter.unusedVariables false
set_option maxRecDepth 100000
def kd_CTrail (f : Nat) : Nat := if f = 33 then 1 else if f = 24 then 1 else if f = 34 then 1 else if f = 26 then 2 else if f = 37 then 2 else 0
/- touchstone/trail.New: slots doms, 0, doms, 1, s, 3, _, 4, d, 5 -/
def c_trail_New : AFunc := ⟨39, [.tmp 2],
  .seq (.region (⟨some 2, .mov (.val .nilp), none⟩ :: [])) <|
  .seq (.seq (.region (⟨some 6, .mov (.tmp 0), none⟩ ::
    ⟨some 7, .len false (.tmp 6), none⟩ ::
    ⟨some 8, .bin .gtr (.tmp 7) (.val (.int .i64 64)), none⟩ :: [])) <|
  .cond (.tmp 8) (.seq (.region (⟨some 2, .mov (.val .nilp), none⟩ :: [])) <|
    .ret) <|
  .skip) <|
  .seq (.region (⟨some 9, .mkm, none⟩ ::
    ⟨some 10, .build [(.bool false), .nils, .nils, .nils, .nilm] [(0, 1, (.val (.bool true))), (4, 1, (.tmp 9))], none⟩ ::
    ⟨some 11, .box 5 (.tmp 10), none⟩ ::
    ⟨some 3, .mov (.tmp 11), none⟩ :: [])) <|
  .seq (.seq (.region (⟨some 12, .mov (.tmp 0), none⟩ ::
    ⟨some 13, .len false (.tmp 12), none⟩ ::
    ⟨some 14, .mov (.val (.int .i64 0)), none⟩ :: [])) <|
  .block 0 (.loop (.seq (.region (⟨some 15, .bin .lss (.tmp 14) (.tmp 13), none⟩ :: [])) <|
      .seq (.cond (.tmp 15) (.skip) <|
      .exit 0) <|
      .seq (.block 1 (.seq (.region (⟨some 16, .iaddr 1 (.tmp 12) (.tmp 14), none⟩ ::
          ⟨some 17, .load false 1 (.tmp 16), none⟩ ::
          ⟨some 5, .mov (.tmp 17), none⟩ :: [])) <|
        .seq (.seq (.region (⟨some 18, .mov (.tmp 5), none⟩ ::
          ⟨some 19, .len false (.tmp 18), none⟩ ::
          ⟨some 20, .bin .eql (.tmp 19) (.val (.int .i64 0)), none⟩ ::
          ⟨some 21, .mov (.tmp 20), none⟩ ::
          ⟨some 22, .mov (.tmp 5), some (21, false)⟩ ::
          ⟨some 23, .call (.val (.fn (.func 28) [])) [(.tmp 22)], some (21, false)⟩ ::
          ⟨some 24, .un .not (.tmp 23), some (21, false)⟩ ::
          ⟨some 25, .pick (.tmp 21) (.val (.bool true)) (.tmp 24), none⟩ :: [])) <|
        .cond (.tmp 25) (.seq (.region (⟨some 2, .mov (.val .nilp), none⟩ :: [])) <|
          .ret) <|
        .skip) <|
        .region (⟨some 26, .mov (.tmp 3), none⟩ ::
          ⟨some 27, .mov (.tmp 3), none⟩ ::
          ⟨some 28, .nilc (.tmp 27), none⟩ ::
          ⟨some 29, .faddr 1 (.tmp 28), none⟩ ::
          ⟨some 30, .load false 1 (.tmp 29), none⟩ ::
          ⟨some 31, .mov (.tmp 5), none⟩ ::
          ⟨some 32, .call (.val (.fn (.func 31) [])) [(.tmp 31)], none⟩ ::
          ⟨some 33, .bslice 1 [(.tmp 32)], none⟩ ::
          ⟨some 34, .app 1 24 (.tmp 30) (.tmp 33), none⟩ ::
          ⟨some 35, .nilc (.tmp 26), none⟩ ::
          ⟨some 36, .faddr 1 (.tmp 35), none⟩ ::
          ⟨none, .store 1 (.tmp 36) (.tmp 34), none⟩ :: []))) <|
      .region (⟨some 37, .bin .add (.tmp 14) (.val (.int .i64 1)), none⟩ ::
        ⟨some 14, .mov (.tmp 37), none⟩ :: [])))) <|
  .seq (.region (⟨some 38, .mov (.tmp 3), none⟩ ::
    ⟨some 2, .mov (.tmp 38), none⟩ :: [])) <|
  .ret⟩
theorem e_trail_New : cFunc Try.prog kd_CTrail Try.f9 = some c_trail_New := by kernel_rfl
/- (*touchstone/trail.Store).good: slots s, 0, s, 1 -/
def c_trail_Store_good : AFunc := ⟨11, [.tmp 2],
  .seq (.region (⟨some 2, .mov (.val (.bool false)), none⟩ :: [])) <|
  .seq (.region (⟨some 3, .mov (.tmp 0), none⟩ ::
    ⟨some 4, .isnp true (.tmp 3), none⟩ ::
    ⟨some 5, .mov (.tmp 4), none⟩ ::
    ⟨some 6, .mov (.tmp 0), some (5, true)⟩ ::
    ⟨some 7, .nilc (.tmp 6), some (5, true)⟩ ::
    ⟨some 8, .faddr 0 (.tmp 7), some (5, true)⟩ ::
    ⟨some 9, .load false 1 (.tmp 8), some (5, true)⟩ ::
    ⟨some 10, .pick (.tmp 5) (.tmp 9) (.val (.bool false)), none⟩ ::
    ⟨some 2, .mov (.tmp 10), none⟩ :: [])) <|
  .ret⟩
theorem e_trail_Store_good : cFunc Try.prog kd_CTrail Try.f33 = some c_trail_Store_good := by kernel_rfl
/- (*touchstone/trail.Store).Len: slots s, 0, s, 1 -/
def c_trail_Store_Len : AFunc := ⟨11, [.tmp 2],
  .seq (.region (⟨some 2, .mov (.val (.int .i64 0)), none⟩ :: [])) <|
  .seq (.seq (.region (⟨some 3, .mov (.tmp 0), none⟩ ::
    ⟨some 4, .callv (.val (.fn (.func 33) [])) [(.tmp 3)], none⟩ ::
    ⟨some 5, .un .not (.tmp 4), none⟩ :: [])) <|
  .cond (.tmp 5) (.seq (.region (⟨some 2, .mov (.val (.int .i64 0)), none⟩ :: [])) <|
    .ret) <|
  .skip) <|
  .seq (.region (⟨some 6, .mov (.tmp 0), none⟩ ::
    ⟨some 7, .nilc (.tmp 6), none⟩ ::
    ⟨some 8, .faddr 1 (.tmp 7), none⟩ ::
    ⟨some 9, .load false 1 (.tmp 8), none⟩ ::
    ⟨some 10, .len false (.tmp 9), none⟩ ::
    ⟨some 2, .mov (.tmp 10), none⟩ :: [])) <|
  .ret⟩
theorem e_trail_Store_Len : cFunc Try.prog kd_CTrail Try.f24 = some c_trail_Store_Len := by kernel_rfl
/- (*touchstone/trail.Store).has: slots s, 0, x, 1, s, 2, x, 3 -/
def c_trail_Store_has : AFunc := ⟨13, [.tmp 4],
  .seq (.region (⟨some 4, .mov (.val (.bool false)), none⟩ :: [])) <|
  .seq (.region (⟨some 5, .mov (.tmp 1), none⟩ ::
    ⟨some 6, .bin .geq (.tmp 5) (.val (.int .i64 0)), none⟩ ::
    ⟨some 7, .mov (.tmp 6), none⟩ ::
    ⟨some 8, .mov (.tmp 1), some (7, true)⟩ ::
    ⟨some 9, .mov (.tmp 0), some (7, true)⟩ ::
    ⟨some 10, .callv (.val (.fn (.func 24) [])) [(.tmp 9)], some (7, true)⟩ ::
    ⟨some 11, .bin .lss (.tmp 8) (.tmp 10), some (7, true)⟩ ::
    ⟨some 12, .pick (.tmp 7) (.tmp 11) (.val (.bool false)), none⟩ ::
    ⟨some 4, .mov (.tmp 12), none⟩ :: [])) <|
  .ret⟩
theorem e_trail_Store_has : cFunc Try.prog kd_CTrail Try.f34 = some c_trail_Store_has := by kernel_rfl
/- (*touchstone/trail.Store).Get: slots s, 0, x, 1, s, 2, x, 3 -/
def c_trail_Store_Get : AFunc := ⟨17, [.tmp 4],
  .seq (.region (⟨some 4, .mov (.val .nils), none⟩ :: [])) <|
  .seq (.seq (.region (⟨some 5, .mov (.tmp 0), none⟩ ::
    ⟨some 6, .mov (.tmp 1), none⟩ ::
    ⟨some 7, .callv (.val (.fn (.func 34) [])) [(.tmp 5), (.tmp 6)], none⟩ ::
    ⟨some 8, .un .not (.tmp 7), none⟩ :: [])) <|
  .cond (.tmp 8) (.seq (.region (⟨some 4, .mov (.val .nils), none⟩ :: [])) <|
    .ret) <|
  .skip) <|
  .seq (.region (⟨some 9, .mov (.tmp 0), none⟩ ::
    ⟨some 10, .nilc (.tmp 9), none⟩ ::
    ⟨some 11, .faddr 1 (.tmp 10), none⟩ ::
    ⟨some 12, .load false 1 (.tmp 11), none⟩ ::
    ⟨some 13, .mov (.tmp 1), none⟩ ::
    ⟨some 14, .iaddr 1 (.tmp 12) (.tmp 13), none⟩ ::
    ⟨some 15, .load false 1 (.tmp 14), none⟩ ::
    ⟨some 16, .call (.val (.fn (.func 31) [])) [(.tmp 15)], none⟩ ::
    ⟨some 4, .mov (.tmp 16), none⟩ :: [])) <|
  .ret⟩
theorem e_trail_Store_Get : cFunc Try.prog kd_CTrail Try.f26 = some c_trail_Store_Get := by kernel_rfl
/- (*touchstone/trail.Store).All: slots s, 0, s, 1, out, 3, x, 4 -/
def c_trail_Store_All : AFunc := ⟨18, [.tmp 2],
  .seq (.region (⟨some 2, .mov (.val .nils), none⟩ :: [])) <|
  .seq (.region (⟨some 3, .mov (.val .nils), none⟩ :: [])) <|
  .seq (.seq (.region (⟨some 5, .mov (.tmp 0), none⟩ ::
    ⟨some 6, .callv (.val (.fn (.func 24) [])) [(.tmp 5)], none⟩ ::
    ⟨some 7, .mov (.val (.int .i64 0)), none⟩ :: [])) <|
  .block 0 (.loop (.seq (.region (⟨some 8, .bin .lss (.tmp 7) (.tmp 6), none⟩ :: [])) <|
      .seq (.cond (.tmp 8) (.skip) <|
      .exit 0) <|
      .seq (.block 1 (.seq (.region (⟨some 9, .mov (.tmp 7), none⟩ ::
          ⟨some 4, .mov (.tmp 9), none⟩ :: [])) <|
        .region (⟨some 10, .mov (.tmp 3), none⟩ ::
          ⟨some 11, .mov (.tmp 0), none⟩ ::
          ⟨some 12, .mov (.tmp 4), none⟩ ::
          ⟨some 13, .callm (.val (.fn (.func 26) [])) [(.tmp 11), (.tmp 12)], none⟩ ::
          ⟨some 14, .bslice 1 [(.tmp 13)], none⟩ ::
          ⟨some 15, .app 1 24 (.tmp 10) (.tmp 14), none⟩ ::
          ⟨some 3, .mov (.tmp 15), none⟩ :: []))) <|
      .region (⟨some 16, .bin .add (.tmp 7) (.val (.int .i64 1)), none⟩ ::
        ⟨some 7, .mov (.tmp 16), none⟩ :: [])))) <|
  .seq (.region (⟨some 17, .mov (.tmp 3), none⟩ ::
    ⟨some 2, .mov (.tmp 17), none⟩ :: [])) <|
  .ret⟩
theorem e_trail_Store_All : cFunc Try.prog kd_CTrail Try.f22 = some c_trail_Store_All := by kernel_rfl
/- (*touchstone/trail.Store).Narrow: slots s, 0, x, 1, d, 2, s, 3, x, 4, d, 5, was, 8, now, 9 -/
def c_trail_Store_Narrow : AFunc := ⟨72, [.tmp 6, .tmp 7],
  .seq (.region (⟨some 6, .mov (.val (.bool false)), none⟩ ::
    ⟨some 7, .mov (.val (.int .i64 0)), none⟩ :: [])) <|
  .seq (.block 0 (.seq (.region (⟨some 11, .mov (.tmp 0), none⟩ ::
      ⟨some 12, .callv (.val (.fn (.func 33) [])) [(.tmp 11)], none⟩ ::
      ⟨some 13, .un .not (.tmp 12), none⟩ ::
      ⟨some 10, .mov (.tmp 13), none⟩ :: [])) <|
    .cond (.tmp 10) (.seq (.region (⟨some 6, .mov (.val (.bool false)), none⟩ ::
        ⟨some 7, .mov (.val (.int .i64 1)), none⟩ :: [])) <|
      .ret) <|
    .seq (.region (⟨some 15, .mov (.tmp 0), none⟩ ::
      ⟨some 16, .mov (.tmp 1), none⟩ ::
      ⟨some 17, .callv (.val (.fn (.func 34) [])) [(.tmp 15), (.tmp 16)], none⟩ ::
      ⟨some 18, .un .not (.tmp 17), none⟩ ::
      ⟨some 19, .mov (.tmp 18), none⟩ ::
      ⟨some 20, .mov (.tmp 2), some (19, false)⟩ ::
      ⟨some 21, .call (.val (.fn (.func 28) [])) [(.tmp 20)], some (19, false)⟩ ::
      ⟨some 22, .un .not (.tmp 21), some (19, false)⟩ ::
      ⟨some 23, .pick (.tmp 19) (.val (.bool true)) (.tmp 22), none⟩ ::
      ⟨some 14, .mov (.tmp 23), none⟩ :: [])) <|
    .cond (.tmp 14) (.seq (.region (⟨some 6, .mov (.val (.bool false)), none⟩ ::
        ⟨some 7, .mov (.val (.int .i64 2)), none⟩ :: [])) <|
      .ret) <|
    .skip)) <|
  .seq (.region (⟨some 24, .mov (.tmp 0), none⟩ ::
    ⟨some 25, .nilc (.tmp 24), none⟩ ::
    ⟨some 26, .faddr 1 (.tmp 25), none⟩ ::
    ⟨some 27, .load false 1 (.tmp 26), none⟩ ::
    ⟨some 28, .mov (.tmp 1), none⟩ ::
    ⟨some 29, .iaddr 1 (.tmp 27) (.tmp 28), none⟩ ::
    ⟨some 30, .load false 1 (.tmp 29), none⟩ ::
    ⟨some 8, .mov (.tmp 30), none⟩ :: [])) <|
  .seq (.region (⟨some 31, .mov (.tmp 8), none⟩ ::
    ⟨some 32, .mov (.tmp 2), none⟩ ::
    ⟨some 33, .call (.val (.fn (.func 30) [])) [(.tmp 31), (.tmp 32)], none⟩ ::
    ⟨some 9, .mov (.tmp 33), none⟩ :: [])) <|
  .seq (.block 1 (.seq (.region (⟨some 35, .mov (.tmp 9), none⟩ ::
      ⟨some 36, .len false (.tmp 35), none⟩ ::
      ⟨some 37, .bin .eql (.tmp 36) (.val (.int .i64 0)), none⟩ ::
      ⟨some 34, .mov (.tmp 37), none⟩ :: [])) <|
    .cond (.tmp 34) (.seq (.region (⟨some 6, .mov (.val (.bool false)), none⟩ ::
        ⟨some 7, .mov (.val (.int .i64 12)), none⟩ :: [])) <|
      .ret) <|
    .seq (.region (⟨some 39, .mov (.tmp 9), none⟩ ::
      ⟨some 40, .mov (.tmp 8), none⟩ ::
      ⟨some 41, .call (.val (.fn (.func 35) [])) [(.tmp 39), (.tmp 40)], none⟩ ::
      ⟨some 38, .mov (.tmp 41), none⟩ :: [])) <|
    .cond (.tmp 38) (.seq (.region (⟨some 6, .mov (.val (.bool false)), none⟩ ::
        ⟨some 7, .mov (.val (.int .i64 0)), none⟩ :: [])) <|
      .ret) <|
    .skip)) <|
  .seq (.seq (.region (⟨some 42, .mov (.tmp 0), none⟩ ::
    ⟨some 43, .nilc (.tmp 42), none⟩ ::
    ⟨some 44, .faddr 3 (.tmp 43), none⟩ ::
    ⟨some 45, .load false 1 (.tmp 44), none⟩ ::
    ⟨some 46, .len false (.tmp 45), none⟩ ::
    ⟨some 47, .bin .gtr (.tmp 46) (.val (.int .i64 0)), none⟩ :: [])) <|
  .cond (.tmp 47) (.region (⟨some 48, .mov (.tmp 0), none⟩ ::
      ⟨some 49, .mov (.tmp 0), none⟩ ::
      ⟨some 50, .nilc (.tmp 49), none⟩ ::
      ⟨some 51, .faddr 2 (.tmp 50), none⟩ ::
      ⟨some 52, .load false 1 (.tmp 51), none⟩ ::
      ⟨some 53, .mov (.tmp 1), none⟩ ::
      ⟨some 54, .mov (.tmp 8), none⟩ ::
      ⟨some 55, .build [(.int .i64 0), .nils] [(0, 1, (.tmp 53)), (1, 1, (.tmp 54))], none⟩ ::
      ⟨some 56, .bslice 2 [(.tmp 55)], none⟩ ::
      ⟨some 57, .app 2 32 (.tmp 52) (.tmp 56), none⟩ ::
      ⟨some 58, .nilc (.tmp 48), none⟩ ::
      ⟨some 59, .faddr 2 (.tmp 58), none⟩ ::
      ⟨none, .store 1 (.tmp 59) (.tmp 57), none⟩ :: [])) <|
  .skip) <|
  .seq (.region (⟨some 60, .mov (.tmp 0), none⟩ ::
    ⟨some 61, .nilc (.tmp 60), none⟩ ::
    ⟨some 62, .faddr 1 (.tmp 61), none⟩ ::
    ⟨some 63, .load false 1 (.tmp 62), none⟩ ::
    ⟨some 64, .mov (.tmp 1), none⟩ ::
    ⟨some 65, .mov (.tmp 9), none⟩ ::
    ⟨some 66, .iaddr 1 (.tmp 63) (.tmp 64), none⟩ ::
    ⟨none, .store 1 (.tmp 66) (.tmp 65), none⟩ :: [])) <|
  .seq (.region (⟨some 67, .mov (.tmp 0), none⟩ ::
    ⟨some 68, .nilc (.tmp 67), none⟩ ::
    ⟨some 69, .faddr 4 (.tmp 68), none⟩ ::
    ⟨some 70, .load false 1 (.tmp 69), none⟩ ::
    ⟨some 71, .mov (.tmp 1), none⟩ ::
    ⟨none, .mset (.tmp 70) (.tmp 71), none⟩ :: [])) <|
  .seq (.region (⟨some 6, .mov (.val (.bool true)), none⟩ ::
    ⟨some 7, .mov (.val (.int .i64 0)), none⟩ :: [])) <|
  .ret⟩
theorem e_trail_Store_Narrow : cFunc Try.prog kd_CTrail Try.f12 = some c_trail_Store_Narrow := by kernel_rfl
/- (*touchstone/trail.Store).Push: slots s, 0, s, 1 -/
def c_trail_Store_Push : AFunc := ⟨28, [.tmp 2],
  .seq (.region (⟨some 2, .mov (.val (.int .i64 0)), none⟩ :: [])) <|
  .seq (.block 0 (.seq (.region (⟨some 4, .mov (.tmp 0), none⟩ ::
      ⟨some 5, .callv (.val (.fn (.func 33) [])) [(.tmp 4)], none⟩ ::
      ⟨some 6, .un .not (.tmp 5), none⟩ ::
      ⟨some 3, .mov (.tmp 6), none⟩ :: [])) <|
    .cond (.tmp 3) (.seq (.region (⟨some 2, .mov (.val (.int .i64 1)), none⟩ :: [])) <|
      .ret) <|
    .seq (.region (⟨some 8, .mov (.tmp 0), none⟩ ::
      ⟨some 9, .nilc (.tmp 8), none⟩ ::
      ⟨some 10, .faddr 3 (.tmp 9), none⟩ ::
      ⟨some 11, .load false 1 (.tmp 10), none⟩ ::
      ⟨some 12, .len false (.tmp 11), none⟩ ::
      ⟨some 13, .bin .geq (.tmp 12) (.val (.int .i64 512)), none⟩ ::
      ⟨some 7, .mov (.tmp 13), none⟩ :: [])) <|
    .cond (.tmp 7) (.seq (.region (⟨some 2, .mov (.val (.int .i64 3)), none⟩ :: [])) <|
      .ret) <|
    .skip)) <|
  .seq (.region (⟨some 14, .mov (.tmp 0), none⟩ ::
    ⟨some 15, .mov (.tmp 0), none⟩ ::
    ⟨some 16, .nilc (.tmp 15), none⟩ ::
    ⟨some 17, .faddr 3 (.tmp 16), none⟩ ::
    ⟨some 18, .load false 1 (.tmp 17), none⟩ ::
    ⟨some 19, .mov (.tmp 0), none⟩ ::
    ⟨some 20, .nilc (.tmp 19), none⟩ ::
    ⟨some 21, .faddr 2 (.tmp 20), none⟩ ::
    ⟨some 22, .load false 1 (.tmp 21), none⟩ ::
    ⟨some 23, .len false (.tmp 22), none⟩ ::
    ⟨some 24, .bslice 1 [(.tmp 23)], none⟩ ::
    ⟨some 25, .app 1 8 (.tmp 18) (.tmp 24), none⟩ ::
    ⟨some 26, .nilc (.tmp 14), none⟩ ::
    ⟨some 27, .faddr 3 (.tmp 26), none⟩ ::
    ⟨none, .store 1 (.tmp 27) (.tmp 25), none⟩ :: [])) <|
  .seq (.region (⟨some 2, .mov (.val (.int .i64 0)), none⟩ :: [])) <|
  .ret⟩
theorem e_trail_Store_Push : cFunc Try.prog kd_CTrail Try.f15 = some c_trail_Store_Push := by kernel_rfl
/- (*touchstone/trail.Store).Pop: slots s, 0, s, 1, last, 3, i, 4 -/
def c_trail_Store_Pop : AFunc := ⟨82, [.tmp 2],
  .seq (.region (⟨some 2, .mov (.val (.int .i64 0)), none⟩ :: [])) <|
  .seq (.seq (.region (⟨some 5, .mov (.tmp 0), none⟩ ::
    ⟨some 6, .callv (.val (.fn (.func 33) [])) [(.tmp 5)], none⟩ ::
    ⟨some 7, .un .not (.tmp 6), none⟩ :: [])) <|
  .cond (.tmp 7) (.seq (.region (⟨some 2, .mov (.val (.int .i64 1)), none⟩ :: [])) <|
    .ret) <|
  .skip) <|
  .seq (.region (⟨some 8, .mov (.tmp 0), none⟩ ::
    ⟨some 9, .nilc (.tmp 8), none⟩ ::
    ⟨some 10, .faddr 3 (.tmp 9), none⟩ ::
    ⟨some 11, .load false 1 (.tmp 10), none⟩ ::
    ⟨some 12, .len false (.tmp 11), none⟩ ::
    ⟨some 13, .bin .sub (.tmp 12) (.val (.int .i64 1)), none⟩ ::
    ⟨some 3, .mov (.tmp 13), none⟩ :: [])) <|
  .seq (.seq (.region (⟨some 14, .mov (.tmp 3), none⟩ ::
    ⟨some 15, .bin .lss (.tmp 14) (.val (.int .i64 0)), none⟩ :: [])) <|
  .cond (.tmp 15) (.seq (.region (⟨some 2, .mov (.val (.int .i64 11)), none⟩ :: [])) <|
    .ret) <|
  .skip) <|
  .seq (.seq (.region (⟨some 16, .mov (.tmp 0), none⟩ ::
    ⟨some 17, .nilc (.tmp 16), none⟩ ::
    ⟨some 18, .faddr 2 (.tmp 17), none⟩ ::
    ⟨some 19, .load false 1 (.tmp 18), none⟩ ::
    ⟨some 20, .len false (.tmp 19), none⟩ ::
    ⟨some 21, .bin .sub (.tmp 20) (.val (.int .i64 1)), none⟩ ::
    ⟨some 4, .mov (.tmp 21), none⟩ :: [])) <|
  .block 0 (.loop (.seq (.seq (.region (⟨some 22, .mov (.tmp 4), none⟩ ::
        ⟨some 23, .mov (.tmp 0), none⟩ ::
        ⟨some 24, .nilc (.tmp 23), none⟩ ::
        ⟨some 25, .faddr 3 (.tmp 24), none⟩ ::
        ⟨some 26, .load false 1 (.tmp 25), none⟩ ::
        ⟨some 27, .mov (.tmp 3), none⟩ ::
        ⟨some 28, .iaddr 1 (.tmp 26) (.tmp 27), none⟩ ::
        ⟨some 29, .load false 1 (.tmp 28), none⟩ ::
        ⟨some 30, .bin .geq (.tmp 22) (.tmp 29), none⟩ :: [])) <|
      .cond (.tmp 30) (.skip) <|
      .exit 0) <|
      .seq (.block 1 (.region (⟨some 33, .mov (.tmp 0), none⟩ ::
          ⟨some 34, .nilc (.tmp 33), none⟩ ::
          ⟨some 35, .faddr 1 (.tmp 34), none⟩ ::
          ⟨some 36, .load false 1 (.tmp 35), none⟩ ::
          ⟨some 37, .mov (.tmp 0), none⟩ ::
          ⟨some 38, .nilc (.tmp 37), none⟩ ::
          ⟨some 39, .faddr 2 (.tmp 38), none⟩ ::
          ⟨some 40, .load false 1 (.tmp 39), none⟩ ::
          ⟨some 41, .mov (.tmp 4), none⟩ ::
          ⟨some 42, .iaddr 2 (.tmp 40) (.tmp 41), none⟩ ::
          ⟨some 43, .faddr 0 (.tmp 42), none⟩ ::
          ⟨some 44, .load false 1 (.tmp 43), none⟩ ::
          ⟨some 45, .mov (.tmp 0), none⟩ ::
          ⟨some 46, .nilc (.tmp 45), none⟩ ::
          ⟨some 47, .faddr 2 (.tmp 46), none⟩ ::
          ⟨some 48, .load false 1 (.tmp 47), none⟩ ::
          ⟨some 49, .mov (.tmp 4), none⟩ ::
          ⟨some 50, .iaddr 2 (.tmp 48) (.tmp 49), none⟩ ::
          ⟨some 51, .faddr 1 (.tmp 50), none⟩ ::
          ⟨some 52, .load false 1 (.tmp 51), none⟩ ::
          ⟨some 53, .iaddr 1 (.tmp 36) (.tmp 44), none⟩ ::
          ⟨none, .store 1 (.tmp 53) (.tmp 52), none⟩ :: []))) <|
      .region (⟨some 31, .mov (.tmp 4), none⟩ ::
        ⟨some 32, .bin .sub (.tmp 31) (.val (.int .i64 1)), none⟩ ::
        ⟨some 4, .mov (.tmp 32), none⟩ :: [])))) <|
  .seq (.region (⟨some 54, .mov (.tmp 0), none⟩ ::
    ⟨some 55, .mov (.tmp 0), none⟩ ::
    ⟨some 56, .nilc (.tmp 55), none⟩ ::
    ⟨some 57, .faddr 2 (.tmp 56), none⟩ ::
    ⟨some 58, .load false 1 (.tmp 57), none⟩ ::
    ⟨some 59, .mov (.tmp 0), none⟩ ::
    ⟨some 60, .nilc (.tmp 59), none⟩ ::
    ⟨some 61, .faddr 3 (.tmp 60), none⟩ ::
    ⟨some 62, .load false 1 (.tmp 61), none⟩ ::
    ⟨some 63, .mov (.tmp 3), none⟩ ::
    ⟨some 64, .iaddr 1 (.tmp 62) (.tmp 63), none⟩ ::
    ⟨some 65, .load false 1 (.tmp 64), none⟩ ::
    ⟨some 66, .slc 2 (.tmp 58) none (some (.tmp 65)), none⟩ ::
    ⟨some 67, .nilc (.tmp 54), none⟩ ::
    ⟨some 68, .faddr 2 (.tmp 67), none⟩ ::
    ⟨none, .store 1 (.tmp 68) (.tmp 66), none⟩ :: [])) <|
  .seq (.region (⟨some 69, .mov (.tmp 0), none⟩ ::
    ⟨some 70, .mov (.tmp 0), none⟩ ::
    ⟨some 71, .nilc (.tmp 70), none⟩ ::
    ⟨some 72, .faddr 3 (.tmp 71), none⟩ ::
    ⟨some 73, .load false 1 (.tmp 72), none⟩ ::
    ⟨some 74, .mov (.tmp 3), none⟩ ::
    ⟨some 75, .slc 1 (.tmp 73) none (some (.tmp 74)), none⟩ ::
    ⟨some 76, .nilc (.tmp 69), none⟩ ::
    ⟨some 77, .faddr 3 (.tmp 76), none⟩ ::
    ⟨none, .store 1 (.tmp 77) (.tmp 75), none⟩ :: [])) <|
  .seq (.region (⟨some 78, .mov (.tmp 0), none⟩ ::
    ⟨some 79, .nilc (.tmp 78), none⟩ ::
    ⟨some 80, .faddr 4 (.tmp 79), none⟩ ::
    ⟨some 81, .load false 1 (.tmp 80), none⟩ ::
    ⟨none, .clrm (.tmp 81), none⟩ :: [])) <|
  .seq (.region (⟨some 2, .mov (.val (.int .i64 0)), none⟩ :: [])) <|
  .ret⟩
theorem e_trail_Store_Pop : cFunc Try.prog kd_CTrail Try.f17 = some c_trail_Store_Pop := by kernel_rfl
/- (*touchstone/trail.Store).Level: slots s, 0, s, 1 -/
def c_trail_Store_Level : AFunc := ⟨11, [.tmp 2],
  .seq (.region (⟨some 2, .mov (.val (.int .i64 0)), none⟩ :: [])) <|
  .seq (.seq (.region (⟨some 3, .mov (.tmp 0), none⟩ ::
    ⟨some 4, .callv (.val (.fn (.func 33) [])) [(.tmp 3)], none⟩ ::
    ⟨some 5, .un .not (.tmp 4), none⟩ :: [])) <|
  .cond (.tmp 5) (.seq (.region (⟨some 2, .mov (.val (.int .i64 0)), none⟩ :: [])) <|
    .ret) <|
  .skip) <|
  .seq (.region (⟨some 6, .mov (.tmp 0), none⟩ ::
    ⟨some 7, .nilc (.tmp 6), none⟩ ::
    ⟨some 8, .faddr 3 (.tmp 7), none⟩ ::
    ⟨some 9, .load false 1 (.tmp 8), none⟩ ::
    ⟨some 10, .len false (.tmp 9), none⟩ ::
    ⟨some 2, .mov (.tmp 10), none⟩ :: [])) <|
  .ret⟩
theorem e_trail_Store_Level : cFunc Try.prog kd_CTrail Try.f23 = some c_trail_Store_Level := by kernel_rfl
/- (*touchstone/trail.Store).Changed: slots s, 0, s, 1, out, 3, x, 4 -/
def c_trail_Store_Changed : AFunc := ⟨28, [.tmp 2],
  .seq (.region (⟨some 2, .mov (.val .nils), none⟩ :: [])) <|
  .seq (.seq (.region (⟨some 5, .mov (.tmp 0), none⟩ ::
    ⟨some 6, .callv (.val (.fn (.func 33) [])) [(.tmp 5)], none⟩ ::
    ⟨some 7, .un .not (.tmp 6), none⟩ :: [])) <|
  .cond (.tmp 7) (.seq (.region (⟨some 2, .mov (.val .nils), none⟩ :: [])) <|
    .ret) <|
  .skip) <|
  .seq (.region (⟨some 3, .mov (.val .nils), none⟩ :: [])) <|
  .seq (.seq (.region (⟨some 8, .mov (.tmp 0), none⟩ ::
    ⟨some 9, .nilc (.tmp 8), none⟩ ::
    ⟨some 10, .faddr 4 (.tmp 9), none⟩ ::
    ⟨some 11, .load false 1 (.tmp 10), none⟩ ::
    ⟨some 12, .bad, none⟩ :: [])) <|
  .block 0 (.loop (.seq (.region (⟨some 13, .bad, none⟩ ::
        ⟨some 14, .ext (.tmp 13) 0, none⟩ :: [])) <|
      .seq (.cond (.tmp 14) (.skip) <|
      .exit 0) <|
      .block 1 (.seq (.region (⟨some 15, .bad, none⟩ ::
          ⟨some 16, .ext (.tmp 15) 0, none⟩ ::
          ⟨some 4, .mov (.tmp 16), none⟩ :: [])) <|
        .region (⟨some 17, .mov (.tmp 3), none⟩ ::
          ⟨some 18, .mov (.tmp 4), none⟩ ::
          ⟨some 19, .bslice 1 [(.tmp 18)], none⟩ ::
          ⟨some 20, .app 1 8 (.tmp 17) (.tmp 19), none⟩ ::
          ⟨some 3, .mov (.tmp 20), none⟩ :: []))))) <|
  .seq (.region (⟨some 21, .mov (.tmp 3), none⟩ ::
    ⟨some 22, .callm (.val (.fn (.func 37) [])) [(.tmp 21)], none⟩ :: [])) <|
  .seq (.region (⟨some 23, .mov (.tmp 0), none⟩ ::
    ⟨some 24, .nilc (.tmp 23), none⟩ ::
    ⟨some 25, .faddr 4 (.tmp 24), none⟩ ::
    ⟨some 26, .load false 1 (.tmp 25), none⟩ ::
    ⟨none, .clrm (.tmp 26), none⟩ :: [])) <|
  .seq (.region (⟨some 27, .mov (.tmp 3), none⟩ ::
    ⟨some 2, .mov (.tmp 27), none⟩ :: [])) <|
  .ret⟩
theorem e_trail_Store_Changed : cFunc Try.prog kd_CTrail Try.f20 = some c_trail_Store_Changed := by kernel_rfl
end Go.Proofs.Ytbmcjhjbifojnaa
