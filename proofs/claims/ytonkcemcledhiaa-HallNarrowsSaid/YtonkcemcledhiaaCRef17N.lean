/- The code of functions, as abstract code. Printed by program. -/
import Derived.Test.YtonkcemcledhiaaAv2
import Derived.Test.YtonkcemcledhiaaProg
namespace Go.Proofs.Ytonkcemcledhiaa
open Av
set_option linter.unusedVariables false
set_option maxRecDepth 100000
def kd_CRef17N (f : Nat) : Nat := if f = 39 then 1 else if f = 67 then 1 else 0
/- touchstone/touchstoneref17.Narrow: slots c, 0, d, 1, c, 2, d, 3, l, 6, i, 7, x, 8, out, 9, i, 10, r, 11 -/
def c_ref17_Narrow : AFunc := ⟨79, [.tmp 4, .tmp 5],
  .seq (.region (⟨some 2, .box 4 (.tmp 0), none⟩ ::
    ⟨some 4, .mov (.val .nils), none⟩ ::
    ⟨some 5, .mov (.val (.int .i64 0)), none⟩ :: [])) <|
  .seq (.seq (.region (⟨some 12, .load true 4 (.tmp 2), none⟩ ::
    ⟨some 13, .mov (.tmp 1), none⟩ ::
    ⟨some 14, .call (.val (.fn (.func 22) [])) [(.tmp 12), (.tmp 13)], none⟩ ::
    ⟨some 15, .un .not (.tmp 14), none⟩ :: [])) <|
  .cond (.tmp 15) (.seq (.region (⟨some 4, .mov (.val .nils), none⟩ ::
      ⟨some 5, .mov (.val (.int .i64 2)), none⟩ :: [])) <|
    .ret) <|
  .skip) <|
  .seq (.seq (.region (⟨some 16, .faddr 0 (.tmp 2), none⟩ ::
    ⟨some 17, .load false 1 (.tmp 16), none⟩ ::
    ⟨some 18, .bin .neq (.tmp 17) (.val (.int .i64 18)), none⟩ :: [])) <|
  .cond (.tmp 18) (.seq (.region (⟨some 4, .mov (.val .nils), none⟩ ::
      ⟨some 5, .mov (.val (.int .i64 10)), none⟩ :: [])) <|
    .ret) <|
  .skip) <|
  .seq (.region (⟨some 6, .mov (.val .nils), none⟩ :: [])) <|
  .seq (.seq (.region (⟨some 7, .mov (.val (.int .i64 0)), none⟩ :: [])) <|
  .block 0 (.loop (.seq (.seq (.region (⟨some 19, .mov (.tmp 7), none⟩ ::
        ⟨some 20, .faddr 1 (.tmp 2), none⟩ ::
        ⟨some 21, .load false 1 (.tmp 20), none⟩ ::
        ⟨some 22, .len false (.tmp 21), none⟩ ::
        ⟨some 23, .bin .lss (.tmp 19) (.tmp 22), none⟩ :: [])) <|
      .cond (.tmp 23) (.skip) <|
      .exit 0) <|
      .seq (.block 1 (.seq (.region (⟨some 26, .mov (.tmp 1), none⟩ ::
          ⟨some 27, .faddr 1 (.tmp 2), none⟩ ::
          ⟨some 28, .load false 1 (.tmp 27), none⟩ ::
          ⟨some 29, .mov (.tmp 7), none⟩ ::
          ⟨some 30, .iaddr 1 (.tmp 28) (.tmp 29), none⟩ ::
          ⟨some 31, .load false 1 (.tmp 30), none⟩ ::
          ⟨some 32, .iaddr 1 (.tmp 26) (.tmp 31), none⟩ ::
          ⟨some 33, .load false 1 (.tmp 32), none⟩ ::
          ⟨some 8, .mov (.tmp 33), none⟩ :: [])) <|
        .region (⟨some 34, .mov (.tmp 6), none⟩ ::
          ⟨some 35, .mov (.tmp 8), none⟩ ::
          ⟨some 36, .call (.val (.fn (.func 65) [])) [(.tmp 35)], none⟩ ::
          ⟨some 37, .mov (.tmp 8), none⟩ ::
          ⟨some 38, .call (.val (.fn (.func 66) [])) [(.tmp 37)], none⟩ ::
          ⟨some 39, .build [(.int .i64 0), (.int .i64 0)] [(0, 1, (.tmp 36)), (1, 1, (.tmp 38))], none⟩ ::
          ⟨some 40, .bslice 2 [(.tmp 39)], none⟩ ::
          ⟨some 41, .app 2 16 (.tmp 34) (.tmp 40), none⟩ ::
          ⟨some 6, .mov (.tmp 41), none⟩ :: []))) <|
      .region (⟨some 24, .mov (.tmp 7), none⟩ ::
        ⟨some 25, .bin .add (.tmp 24) (.val (.int .i64 1)), none⟩ ::
        ⟨some 7, .mov (.tmp 25), none⟩ :: [])))) <|
  .seq (.seq (.region (⟨some 42, .mov (.tmp 6), none⟩ ::
    ⟨some 43, .callv (.val (.fn (.func 39) [])) [(.tmp 42)], none⟩ ::
    ⟨some 44, .un .not (.tmp 43), none⟩ :: [])) <|
  .cond (.tmp 44) (.seq (.region (⟨some 4, .mov (.val .nils), none⟩ ::
      ⟨some 5, .mov (.val (.int .i64 12)), none⟩ :: [])) <|
    .ret) <|
  .skip) <|
  .seq (.region (⟨some 45, .mov (.tmp 1), none⟩ ::
    ⟨some 9, .mov (.tmp 45), none⟩ :: [])) <|
  .seq (.seq (.region (⟨some 10, .mov (.val (.int .i64 0)), none⟩ :: [])) <|
  .block 2 (.loop (.seq (.seq (.region (⟨some 46, .mov (.tmp 10), none⟩ ::
        ⟨some 47, .mov (.tmp 6), none⟩ ::
        ⟨some 48, .len false (.tmp 47), none⟩ ::
        ⟨some 49, .bin .lss (.tmp 46) (.tmp 48), none⟩ :: [])) <|
      .cond (.tmp 49) (.skip) <|
      .exit 2) <|
      .seq (.block 3 (.seq (.region (⟨some 52, .mov (.tmp 6), none⟩ ::
          ⟨some 53, .mov (.tmp 10), none⟩ ::
          ⟨some 54, .callv (.val (.fn (.func 67) [])) [(.tmp 52), (.tmp 53)], none⟩ ::
          ⟨some 11, .alloc (.agg [(.int .i64 0), (.int .i64 0)]), none⟩ ::
          ⟨none, .store 2 (.tmp 11) (.tmp 54), none⟩ :: [])) <|
        .region (⟨some 55, .mov (.tmp 9), none⟩ ::
          ⟨some 56, .faddr 1 (.tmp 2), none⟩ ::
          ⟨some 57, .load false 1 (.tmp 56), none⟩ ::
          ⟨some 58, .mov (.tmp 10), none⟩ ::
          ⟨some 59, .iaddr 1 (.tmp 57) (.tmp 58), none⟩ ::
          ⟨some 60, .load false 1 (.tmp 59), none⟩ ::
          ⟨some 61, .mov (.tmp 9), none⟩ ::
          ⟨some 62, .faddr 1 (.tmp 2), none⟩ ::
          ⟨some 63, .load false 1 (.tmp 62), none⟩ ::
          ⟨some 64, .mov (.tmp 10), none⟩ ::
          ⟨some 65, .iaddr 1 (.tmp 63) (.tmp 64), none⟩ ::
          ⟨some 66, .load false 1 (.tmp 65), none⟩ ::
          ⟨some 67, .iaddr 1 (.tmp 61) (.tmp 66), none⟩ ::
          ⟨some 68, .load false 1 (.tmp 67), none⟩ ::
          ⟨some 69, .faddr 0 (.tmp 11), none⟩ ::
          ⟨some 70, .load false 1 (.tmp 69), none⟩ ::
          ⟨some 71, .faddr 1 (.tmp 11), none⟩ ::
          ⟨some 72, .load false 1 (.tmp 71), none⟩ ::
          ⟨some 73, .call (.val (.fn (.func 69) [])) [(.tmp 68), (.tmp 70), (.tmp 72)], none⟩ ::
          ⟨some 74, .call (.val (.fn (.func 68) [])) [(.tmp 55), (.tmp 60), (.tmp 73)], none⟩ ::
          ⟨some 9, .mov (.tmp 74), none⟩ :: []))) <|
      .region (⟨some 50, .mov (.tmp 10), none⟩ ::
        ⟨some 51, .bin .add (.tmp 50) (.val (.int .i64 1)), none⟩ ::
        ⟨some 10, .mov (.tmp 51), none⟩ :: [])))) <|
  .seq (.region (⟨some 75, .mov (.tmp 9), none⟩ ::
    ⟨some 76, .call (.val (.fn (.func 70) [])) [(.tmp 75)], none⟩ ::
    ⟨some 77, .ext (.tmp 76) 0, none⟩ ::
    ⟨some 78, .ext (.tmp 76) 1, none⟩ ::
    ⟨some 4, .mov (.tmp 77), none⟩ ::
    ⟨some 5, .mov (.tmp 78), none⟩ :: [])) <|
  .ret⟩
theorem e_ref17_Narrow : cFunc Try.prog kd_CRef17N Try.f32 = some c_ref17_Narrow := by kernel_rfl
/- touchstone/touchstoneref12.Done: slots d, 0, d, 1 -/
def c_ref12_Done : AFunc := ⟨7, [.tmp 2, .tmp 3],
  .seq (.region (⟨some 2, .mov (.val .nils), none⟩ ::
    ⟨some 3, .mov (.val (.int .i64 0)), none⟩ :: [])) <|
  .seq (.seq (.region (⟨some 4, .mov (.tmp 0), none⟩ ::
    ⟨some 5, .call (.val (.fn (.func 114) [])) [(.tmp 4)], none⟩ :: [])) <|
  .cond (.tmp 5) (.seq (.region (⟨some 2, .mov (.val .nils), none⟩ ::
      ⟨some 3, .mov (.val (.int .i64 12)), none⟩ :: [])) <|
    .ret) <|
  .skip) <|
  .seq (.region (⟨some 6, .mov (.tmp 0), none⟩ ::
    ⟨some 2, .mov (.tmp 6), none⟩ ::
    ⟨some 3, .mov (.val (.int .i64 0)), none⟩ :: [])) <|
  .ret⟩
theorem e_ref12_Done : cFunc Try.prog kd_CRef17N Try.f70 = some c_ref12_Done := by kernel_rfl
end Go.Proofs.Ytonkcemcledhiaa
