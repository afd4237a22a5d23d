/- The code of functions, as abstract code. Printed by program. -/
import Derived.Test.YtbmcjhjbifojnaaAv2
import Derived.Test.YtbmcjhjbifojnaaProg
namespace Go.Proofs.Ytbmcjhjbifojnaa
open Av
set_option linter.unusedVariables false
set_option maxRecDepth 100000
def kd_CTrailM (f : Nat) : Nat := if f = 31 then 2 else if f = 28 then 1 else if f = 30 then 2 else if f = 33 then 1 else if f = 34 then 1 else 0
/- touchstone/trail.New: slots doms, 0, doms, 1, s, 3, _, 4, d, 5 -/
def c_trail_NewM : AFunc := ⟨39, [.tmp 2],
  .seq (.region (⟨some 2, .mov (.val .nilp), none⟩ :: [])) <|
  .seq (.seq (.region (⟨some 6, .mov (.tmp 0), none⟩ ::
    ⟨some 7, .len false (.tmp 6), none⟩ ::
    ⟨some 8, .bin .gtr (.tmp 7) (.val (.int .i64 64)), none⟩ :: [])) <|
  .cond (.tmp 8) (.seq (.region (⟨some 2, .mov (.val .nilp), none⟩ :: [])) <|
    .ret) <|
  .skip) <|
  .seq (.region (⟨some 9, .mkm, none⟩ ::
    ⟨some 10, .build [(.bool false), .nils, .nils, .nils, .nilm] [(0, 1, (.val (.bool true))), (4, 1, (.tmp 9))], none⟩ ::
    ⟨some 11, .box 5 (.tmp 10), none⟩ ::
    ⟨some 3, .mov (.tmp 11), none⟩ :: [])) <|
  .seq (.seq (.region (⟨some 12, .mov (.tmp 0), none⟩ ::
    ⟨some 13, .len false (.tmp 12), none⟩ ::
    ⟨some 14, .mov (.val (.int .i64 0)), none⟩ :: [])) <|
  .block 0 (.loop (.seq (.region (⟨some 15, .bin .lss (.tmp 14) (.tmp 13), none⟩ :: [])) <|
      .seq (.cond (.tmp 15) (.skip) <|
      .exit 0) <|
      .seq (.block 1 (.seq (.region (⟨some 16, .iaddr 1 (.tmp 12) (.tmp 14), none⟩ ::
          ⟨some 17, .load false 1 (.tmp 16), none⟩ ::
          ⟨some 5, .mov (.tmp 17), none⟩ :: [])) <|
        .seq (.seq (.region (⟨some 18, .mov (.tmp 5), none⟩ ::
          ⟨some 19, .len false (.tmp 18), none⟩ ::
          ⟨some 20, .bin .eql (.tmp 19) (.val (.int .i64 0)), none⟩ ::
          ⟨some 21, .mov (.tmp 20), none⟩ ::
          ⟨some 22, .mov (.tmp 5), some (21, false)⟩ ::
          ⟨some 23, .callv (.val (.fn (.func 28) [])) [(.tmp 22)], some (21, false)⟩ ::
          ⟨some 24, .un .not (.tmp 23), some (21, false)⟩ ::
          ⟨some 25, .pick (.tmp 21) (.val (.bool true)) (.tmp 24), none⟩ :: [])) <|
        .cond (.tmp 25) (.seq (.region (⟨some 2, .mov (.val .nilp), none⟩ :: [])) <|
          .ret) <|
        .skip) <|
        .region (⟨some 26, .mov (.tmp 3), none⟩ ::
          ⟨some 27, .mov (.tmp 3), none⟩ ::
          ⟨some 28, .nilc (.tmp 27), none⟩ ::
          ⟨some 29, .faddr 1 (.tmp 28), none⟩ ::
          ⟨some 30, .load false 1 (.tmp 29), none⟩ ::
          ⟨some 31, .mov (.tmp 5), none⟩ ::
          ⟨some 32, .callm (.val (.fn (.func 31) [])) [(.tmp 31)], none⟩ ::
          ⟨none, .same false 1 (.tmp 29) (.tmp 30), none⟩ ::
          ⟨some 33, .bslice 1 [(.tmp 32)], none⟩ ::
          ⟨some 34, .app 1 24 (.tmp 30) (.tmp 33), none⟩ ::
          ⟨some 35, .nilc (.tmp 26), none⟩ ::
          ⟨some 36, .faddr 1 (.tmp 35), none⟩ ::
          ⟨none, .store 1 (.tmp 36) (.tmp 34), none⟩ :: []))) <|
      .region (⟨some 37, .bin .add (.tmp 14) (.val (.int .i64 1)), none⟩ ::
        ⟨some 14, .mov (.tmp 37), none⟩ :: [])))) <|
  .seq (.region (⟨some 38, .mov (.tmp 3), none⟩ ::
    ⟨some 2, .mov (.tmp 38), none⟩ :: [])) <|
  .ret⟩
theorem e_trail_NewM : cFunc Try.prog kd_CTrailM Try.f9 = some c_trail_NewM := by kernel_rfl
/- (*touchstone/trail.Store).Narrow: slots s, 0, x, 1, d, 2, s, 3, x, 4, d, 5, was, 8, now, 9 -/
def c_trail_Store_NarrowM : AFunc := ⟨72, [.tmp 6, .tmp 7],
  .seq (.region (⟨some 6, .mov (.val (.bool false)), none⟩ ::
    ⟨some 7, .mov (.val (.int .i64 0)), none⟩ :: [])) <|
  .seq (.block 0 (.seq (.region (⟨some 11, .mov (.tmp 0), none⟩ ::
      ⟨some 12, .callv (.val (.fn (.func 33) [])) [(.tmp 11)], none⟩ ::
      ⟨some 13, .un .not (.tmp 12), none⟩ ::
      ⟨some 10, .mov (.tmp 13), none⟩ :: [])) <|
    .cond (.tmp 10) (.seq (.region (⟨some 6, .mov (.val (.bool false)), none⟩ ::
        ⟨some 7, .mov (.val (.int .i64 1)), none⟩ :: [])) <|
      .ret) <|
    .seq (.region (⟨some 15, .mov (.tmp 0), none⟩ ::
      ⟨some 16, .mov (.tmp 1), none⟩ ::
      ⟨some 17, .callv (.val (.fn (.func 34) [])) [(.tmp 15), (.tmp 16)], none⟩ ::
      ⟨some 18, .un .not (.tmp 17), none⟩ ::
      ⟨some 19, .mov (.tmp 18), none⟩ ::
      ⟨some 20, .mov (.tmp 2), some (19, false)⟩ ::
      ⟨some 21, .callv (.val (.fn (.func 28) [])) [(.tmp 20)], some (19, false)⟩ ::
      ⟨some 22, .un .not (.tmp 21), some (19, false)⟩ ::
      ⟨some 23, .pick (.tmp 19) (.val (.bool true)) (.tmp 22), none⟩ ::
      ⟨some 14, .mov (.tmp 23), none⟩ :: [])) <|
    .cond (.tmp 14) (.seq (.region (⟨some 6, .mov (.val (.bool false)), none⟩ ::
        ⟨some 7, .mov (.val (.int .i64 2)), none⟩ :: [])) <|
      .ret) <|
    .skip)) <|
  .seq (.region (⟨some 24, .mov (.tmp 0), none⟩ ::
    ⟨some 25, .nilc (.tmp 24), none⟩ ::
    ⟨some 26, .faddr 1 (.tmp 25), none⟩ ::
    ⟨some 27, .load false 1 (.tmp 26), none⟩ ::
    ⟨some 28, .mov (.tmp 1), none⟩ ::
    ⟨some 29, .iaddr 1 (.tmp 27) (.tmp 28), none⟩ ::
    ⟨some 30, .load false 1 (.tmp 29), none⟩ ::
    ⟨some 8, .mov (.tmp 30), none⟩ :: [])) <|
  .seq (.region (⟨some 31, .mov (.tmp 8), none⟩ ::
    ⟨some 32, .mov (.tmp 2), none⟩ ::
    ⟨some 33, .callm (.val (.fn (.func 30) [])) [(.tmp 31), (.tmp 32)], none⟩ ::
    ⟨some 9, .mov (.tmp 33), none⟩ :: [])) <|
  .seq (.block 1 (.seq (.region (⟨some 35, .mov (.tmp 9), none⟩ ::
      ⟨some 36, .len false (.tmp 35), none⟩ ::
      ⟨some 37, .bin .eql (.tmp 36) (.val (.int .i64 0)), none⟩ ::
      ⟨some 34, .mov (.tmp 37), none⟩ :: [])) <|
    .cond (.tmp 34) (.seq (.region (⟨some 6, .mov (.val (.bool false)), none⟩ ::
        ⟨some 7, .mov (.val (.int .i64 12)), none⟩ :: [])) <|
      .ret) <|
    .seq (.region (⟨some 39, .mov (.tmp 9), none⟩ ::
      ⟨some 40, .mov (.tmp 8), none⟩ ::
      ⟨some 41, .call (.val (.fn (.func 35) [])) [(.tmp 39), (.tmp 40)], none⟩ ::
      ⟨some 38, .mov (.tmp 41), none⟩ :: [])) <|
    .cond (.tmp 38) (.seq (.region (⟨some 6, .mov (.val (.bool false)), none⟩ ::
        ⟨some 7, .mov (.val (.int .i64 0)), none⟩ :: [])) <|
      .ret) <|
    .skip)) <|
  .seq (.seq (.region (⟨some 42, .mov (.tmp 0), none⟩ ::
    ⟨some 43, .nilc (.tmp 42), none⟩ ::
    ⟨some 44, .faddr 3 (.tmp 43), none⟩ ::
    ⟨some 45, .load false 1 (.tmp 44), none⟩ ::
    ⟨some 46, .len false (.tmp 45), none⟩ ::
    ⟨some 47, .bin .gtr (.tmp 46) (.val (.int .i64 0)), none⟩ :: [])) <|
  .cond (.tmp 47) (.region (⟨some 48, .mov (.tmp 0), none⟩ ::
      ⟨some 49, .mov (.tmp 0), none⟩ ::
      ⟨some 50, .nilc (.tmp 49), none⟩ ::
      ⟨some 51, .faddr 2 (.tmp 50), none⟩ ::
      ⟨some 52, .load false 1 (.tmp 51), none⟩ ::
      ⟨some 53, .mov (.tmp 1), none⟩ ::
      ⟨some 54, .mov (.tmp 8), none⟩ ::
      ⟨some 55, .build [(.int .i64 0), .nils] [(0, 1, (.tmp 53)), (1, 1, (.tmp 54))], none⟩ ::
      ⟨some 56, .bslice 2 [(.tmp 55)], none⟩ ::
      ⟨some 57, .app 2 32 (.tmp 52) (.tmp 56), none⟩ ::
      ⟨some 58, .nilc (.tmp 48), none⟩ ::
      ⟨some 59, .faddr 2 (.tmp 58), none⟩ ::
      ⟨none, .store 1 (.tmp 59) (.tmp 57), none⟩ :: [])) <|
  .skip) <|
  .seq (.region (⟨some 60, .mov (.tmp 0), none⟩ ::
    ⟨some 61, .nilc (.tmp 60), none⟩ ::
    ⟨some 62, .faddr 1 (.tmp 61), none⟩ ::
    ⟨some 63, .load false 1 (.tmp 62), none⟩ ::
    ⟨some 64, .mov (.tmp 1), none⟩ ::
    ⟨some 65, .mov (.tmp 9), none⟩ ::
    ⟨some 66, .iaddr 1 (.tmp 63) (.tmp 64), none⟩ ::
    ⟨none, .store 1 (.tmp 66) (.tmp 65), none⟩ :: [])) <|
  .seq (.region (⟨some 67, .mov (.tmp 0), none⟩ ::
    ⟨some 68, .nilc (.tmp 67), none⟩ ::
    ⟨some 69, .faddr 4 (.tmp 68), none⟩ ::
    ⟨some 70, .load false 1 (.tmp 69), none⟩ ::
    ⟨some 71, .mov (.tmp 1), none⟩ ::
    ⟨none, .mset (.tmp 70) (.tmp 71), none⟩ :: [])) <|
  .seq (.region (⟨some 6, .mov (.val (.bool true)), none⟩ ::
    ⟨some 7, .mov (.val (.int .i64 0)), none⟩ :: [])) <|
  .ret⟩
theorem e_trail_Store_NarrowM : cFunc Try.prog kd_CTrailM Try.f12 = some c_trail_Store_NarrowM := by kernel_rfl
/- touchstone/set.Meet: slots a, 0, b, 1, a, 2, b, 3, out, 5, r, 6 -/
def c_set_MeetM : AFunc := ⟨65, [.tmp 4],
  .seq (.region (⟨some 4, .mov (.val .nils), none⟩ :: [])) <|
  .seq (.seq (.region (⟨some 7, .mov (.tmp 0), none⟩ ::
    ⟨some 8, .callv (.val (.fn (.func 28) [])) [(.tmp 7)], none⟩ ::
    ⟨some 9, .un .not (.tmp 8), none⟩ ::
    ⟨some 10, .mov (.tmp 9), none⟩ ::
    ⟨some 11, .mov (.tmp 1), some (10, false)⟩ ::
    ⟨some 12, .callv (.val (.fn (.func 28) [])) [(.tmp 11)], some (10, false)⟩ ::
    ⟨some 13, .un .not (.tmp 12), some (10, false)⟩ ::
    ⟨some 14, .pick (.tmp 10) (.val (.bool true)) (.tmp 13), none⟩ :: [])) <|
  .cond (.tmp 14) (.seq (.region (⟨some 4, .mov (.val .nils), none⟩ :: [])) <|
    .ret) <|
  .skip) <|
  .seq (.region (⟨some 5, .mov (.val .nils), none⟩ :: [])) <|
  .seq (.block 0 (.loop (.seq (.seq (.region (⟨some 15, .mov (.tmp 0), none⟩ ::
        ⟨some 16, .len false (.tmp 15), none⟩ ::
        ⟨some 17, .bin .gtr (.tmp 16) (.val (.int .i64 0)), none⟩ ::
        ⟨some 18, .mov (.tmp 17), none⟩ ::
        ⟨some 19, .mov (.tmp 1), some (18, true)⟩ ::
        ⟨some 20, .len false (.tmp 19), some (18, true)⟩ ::
        ⟨some 21, .bin .gtr (.tmp 20) (.val (.int .i64 0)), some (18, true)⟩ ::
        ⟨some 22, .pick (.tmp 18) (.tmp 21) (.val (.bool false)), none⟩ :: [])) <|
      .cond (.tmp 22) (.skip) <|
      .exit 0) <|
      .block 1 (.seq (.region (⟨some 23, .mov (.tmp 0), none⟩ ::
          ⟨some 24, .iaddr 2 (.tmp 23) (.val (.int .i64 0)), none⟩ ::
          ⟨some 25, .faddr 0 (.tmp 24), none⟩ ::
          ⟨some 26, .load false 1 (.tmp 25), none⟩ ::
          ⟨some 27, .mov (.tmp 1), none⟩ ::
          ⟨some 28, .iaddr 2 (.tmp 27) (.val (.int .i64 0)), none⟩ ::
          ⟨some 29, .faddr 0 (.tmp 28), none⟩ ::
          ⟨some 30, .load false 1 (.tmp 29), none⟩ ::
          ⟨some 31, .mx (.tmp 26) [(.tmp 30)], none⟩ ::
          ⟨some 32, .mov (.tmp 0), none⟩ ::
          ⟨some 33, .iaddr 2 (.tmp 32) (.val (.int .i64 0)), none⟩ ::
          ⟨some 34, .faddr 1 (.tmp 33), none⟩ ::
          ⟨some 35, .load false 1 (.tmp 34), none⟩ ::
          ⟨some 36, .mov (.tmp 1), none⟩ ::
          ⟨some 37, .iaddr 2 (.tmp 36) (.val (.int .i64 0)), none⟩ ::
          ⟨some 38, .faddr 1 (.tmp 37), none⟩ ::
          ⟨some 39, .load false 1 (.tmp 38), none⟩ ::
          ⟨some 40, .mn (.tmp 35) [(.tmp 39)], none⟩ ::
          ⟨some 41, .build [(.int .i64 0), (.int .i64 0)] [(0, 1, (.tmp 31)), (1, 1, (.tmp 40))], none⟩ ::
          ⟨some 6, .alloc (.agg [(.int .i64 0), (.int .i64 0)]), none⟩ ::
          ⟨none, .store 2 (.tmp 6) (.tmp 41), none⟩ :: [])) <|
        .seq (.seq (.region (⟨some 42, .faddr 0 (.tmp 6), none⟩ ::
          ⟨some 43, .load false 1 (.tmp 42), none⟩ ::
          ⟨some 44, .faddr 1 (.tmp 6), none⟩ ::
          ⟨some 45, .load false 1 (.tmp 44), none⟩ ::
          ⟨some 46, .bin .leq (.tmp 43) (.tmp 45), none⟩ :: [])) <|
        .cond (.tmp 46) (.region (⟨some 47, .mov (.tmp 5), none⟩ ::
            ⟨some 48, .load true 2 (.tmp 6), none⟩ ::
            ⟨some 49, .bslice 2 [(.tmp 48)], none⟩ ::
            ⟨some 50, .app 2 16 (.tmp 47) (.tmp 49), none⟩ ::
            ⟨some 5, .mov (.tmp 50), none⟩ :: [])) <|
        .skip) <|
        .seq (.region (⟨some 51, .mov (.tmp 0), none⟩ ::
          ⟨some 52, .iaddr 2 (.tmp 51) (.val (.int .i64 0)), none⟩ ::
          ⟨some 53, .faddr 1 (.tmp 52), none⟩ ::
          ⟨some 54, .load false 1 (.tmp 53), none⟩ ::
          ⟨some 55, .mov (.tmp 1), none⟩ ::
          ⟨some 56, .iaddr 2 (.tmp 55) (.val (.int .i64 0)), none⟩ ::
          ⟨some 57, .faddr 1 (.tmp 56), none⟩ ::
          ⟨some 58, .load false 1 (.tmp 57), none⟩ ::
          ⟨some 59, .bin .lss (.tmp 54) (.tmp 58), none⟩ :: [])) <|
        .cond (.tmp 59) (.region (⟨some 60, .mov (.tmp 0), none⟩ ::
            ⟨some 61, .slc 2 (.tmp 60) (some (.val (.int .i64 1))) none, none⟩ ::
            ⟨some 0, .mov (.tmp 61), none⟩ :: [])) <|
        .region (⟨some 62, .mov (.tmp 1), none⟩ ::
          ⟨some 63, .slc 2 (.tmp 62) (some (.val (.int .i64 1))) none, none⟩ ::
          ⟨some 1, .mov (.tmp 63), none⟩ :: []))))) <|
  .seq (.region (⟨some 64, .mov (.tmp 5), none⟩ ::
    ⟨some 4, .mov (.tmp 64), none⟩ :: [])) <|
  .ret⟩
theorem e_set_MeetM : cFunc Try.prog kd_CTrailM Try.f30 = some c_set_MeetM := by kernel_rfl
end Go.Proofs.Ytbmcjhjbifojnaa
