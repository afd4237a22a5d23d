/- The code of functions, as abstract code. Printed by program. -/
import Derived.Test.YtclpkkbamgmooaaAv2
import Derived.Test.YtclpkkbamgmooaaProg
namespace Go.Proofs.Ytclpkkbamgmooaa
open Av
set_option linter.unusedVariables false
set_option maxRecDepth 100000
def kd_CRef12 (f : Nat) : Nat := 0
/- touchstone/touchstoneref12.Least: slots a, 0, x, 1, d, 2, a, 3, x, 4, d, 5, n, 7, i, 8 -/
def c_ref12_Least : AFunc := ⟨45, [.tmp 6],
  .seq (.region (⟨some 6, .mov (.val (.int .i64 0)), none⟩ :: [])) <|
  .seq (.region (⟨some 7, .mov (.val (.int .i64 0)), none⟩ :: [])) <|
  .seq (.seq (.region (⟨some 8, .mov (.val (.int .i64 0)), none⟩ :: [])) <|
  .block 0 (.loop (.seq (.seq (.region (⟨some 9, .mov (.tmp 8), none⟩ ::
        ⟨some 10, .mov (.tmp 0), none⟩ ::
        ⟨some 11, .len false (.tmp 10), none⟩ ::
        ⟨some 12, .bin .lss (.tmp 9) (.tmp 11), none⟩ :: [])) <|
      .cond (.tmp 12) (.skip) <|
      .exit 0) <|
      .seq (.block 1 (.region (⟨some 15, .mov (.tmp 7), none⟩ ::
          ⟨some 16, .mov (.tmp 0), none⟩ ::
          ⟨some 17, .mov (.tmp 8), none⟩ ::
          ⟨some 18, .iaddr 1 (.tmp 16) (.tmp 17), none⟩ ::
          ⟨some 19, .load false 1 (.tmp 18), none⟩ ::
          ⟨some 20, .mov (.tmp 2), none⟩ ::
          ⟨some 21, .mov (.tmp 1), none⟩ ::
          ⟨some 22, .mov (.tmp 8), none⟩ ::
          ⟨some 23, .iaddr 1 (.tmp 21) (.tmp 22), none⟩ ::
          ⟨some 24, .load false 1 (.tmp 23), none⟩ ::
          ⟨some 25, .iaddr 1 (.tmp 20) (.tmp 24), none⟩ ::
          ⟨some 26, .load false 1 (.tmp 25), none⟩ ::
          ⟨some 27, .call (.val (.fn (.func 32) [])) [(.tmp 26)], none⟩ ::
          ⟨some 28, .bin .mul (.tmp 19) (.tmp 27), none⟩ ::
          ⟨some 29, .mov (.tmp 0), none⟩ ::
          ⟨some 30, .mov (.tmp 8), none⟩ ::
          ⟨some 31, .iaddr 1 (.tmp 29) (.tmp 30), none⟩ ::
          ⟨some 32, .load false 1 (.tmp 31), none⟩ ::
          ⟨some 33, .mov (.tmp 2), none⟩ ::
          ⟨some 34, .mov (.tmp 1), none⟩ ::
          ⟨some 35, .mov (.tmp 8), none⟩ ::
          ⟨some 36, .iaddr 1 (.tmp 34) (.tmp 35), none⟩ ::
          ⟨some 37, .load false 1 (.tmp 36), none⟩ ::
          ⟨some 38, .iaddr 1 (.tmp 33) (.tmp 37), none⟩ ::
          ⟨some 39, .load false 1 (.tmp 38), none⟩ ::
          ⟨some 40, .call (.val (.fn (.func 86) [])) [(.tmp 39)], none⟩ ::
          ⟨some 41, .bin .mul (.tmp 32) (.tmp 40), none⟩ ::
          ⟨some 42, .mn (.tmp 28) [(.tmp 41)], none⟩ ::
          ⟨some 43, .bin .add (.tmp 15) (.tmp 42), none⟩ ::
          ⟨some 7, .mov (.tmp 43), none⟩ :: []))) <|
      .region (⟨some 13, .mov (.tmp 8), none⟩ ::
        ⟨some 14, .bin .add (.tmp 13) (.val (.int .i64 1)), none⟩ ::
        ⟨some 8, .mov (.tmp 14), none⟩ :: [])))) <|
  .seq (.region (⟨some 44, .mov (.tmp 7), none⟩ ::
    ⟨some 6, .mov (.tmp 44), none⟩ :: [])) <|
  .ret⟩
theorem e_ref12_Least : cFunc Try.prog kd_CRef12 Try.f59 = some c_ref12_Least := by kernel_rfl
/- touchstone/touchstoneref12.Opposite: slots a, 0, a, 1, out, 3, i, 4 -/
def c_ref12_Opposite : AFunc := ⟨20, [.tmp 2],
  .seq (.region (⟨some 2, .mov (.val .nils), none⟩ :: [])) <|
  .seq (.region (⟨some 3, .mov (.val .nils), none⟩ :: [])) <|
  .seq (.seq (.region (⟨some 4, .mov (.val (.int .i64 0)), none⟩ :: [])) <|
  .block 0 (.loop (.seq (.seq (.region (⟨some 5, .mov (.tmp 4), none⟩ ::
        ⟨some 6, .mov (.tmp 0), none⟩ ::
        ⟨some 7, .len false (.tmp 6), none⟩ ::
        ⟨some 8, .bin .lss (.tmp 5) (.tmp 7), none⟩ :: [])) <|
      .cond (.tmp 8) (.skip) <|
      .exit 0) <|
      .seq (.block 1 (.region (⟨some 11, .mov (.tmp 3), none⟩ ::
          ⟨some 12, .mov (.tmp 0), none⟩ ::
          ⟨some 13, .mov (.tmp 4), none⟩ ::
          ⟨some 14, .iaddr 1 (.tmp 12) (.tmp 13), none⟩ ::
          ⟨some 15, .load false 1 (.tmp 14), none⟩ ::
          ⟨some 16, .un .neg (.tmp 15), none⟩ ::
          ⟨some 17, .bslice 1 [(.tmp 16)], none⟩ ::
          ⟨some 18, .app 1 8 (.tmp 11) (.tmp 17), none⟩ ::
          ⟨some 3, .mov (.tmp 18), none⟩ :: []))) <|
      .region (⟨some 9, .mov (.tmp 4), none⟩ ::
        ⟨some 10, .bin .add (.tmp 9) (.val (.int .i64 1)), none⟩ ::
        ⟨some 4, .mov (.tmp 10), none⟩ :: [])))) <|
  .seq (.region (⟨some 19, .mov (.tmp 3), none⟩ ::
    ⟨some 2, .mov (.tmp 19), none⟩ :: [])) <|
  .ret⟩
theorem e_ref12_Opposite : cFunc Try.prog kd_CRef12 Try.f60 = some c_ref12_Opposite := by kernel_rfl
/- touchstone/touchstoneref12.Ends: slots c, 0, d, 1, c, 2, d, 3 -/
def c_ref12_Ends : AFunc := ⟨36, [.cell 4 true 2, .tmp 5],
  .seq (.region (⟨some 2, .box 4 (.tmp 0), none⟩ ::
    ⟨some 4, .alloc (.agg [(.int .i64 0), (.int .i64 0)]), none⟩ ::
    ⟨some 5, .mov (.val (.bool false)), none⟩ :: [])) <|
  .seq (.seq (.region (⟨some 6, .load true 4 (.tmp 2), none⟩ ::
    ⟨some 7, .mov (.tmp 1), none⟩ ::
    ⟨some 8, .call (.val (.fn (.func 30) [])) [(.tmp 6), (.tmp 7)], none⟩ ::
    ⟨some 9, .un .not (.tmp 8), none⟩ ::
    ⟨some 10, .mov (.tmp 9), none⟩ ::
    ⟨some 11, .faddr 0 (.tmp 2), some (10, false)⟩ ::
    ⟨some 12, .load false 1 (.tmp 11), some (10, false)⟩ ::
    ⟨some 13, .bin .lss (.tmp 12) (.val (.int .i64 1)), some (10, false)⟩ ::
    ⟨some 14, .pick (.tmp 10) (.val (.bool true)) (.tmp 13), none⟩ ::
    ⟨some 15, .mov (.tmp 14), none⟩ ::
    ⟨some 16, .faddr 0 (.tmp 2), some (15, false)⟩ ::
    ⟨some 17, .load false 1 (.tmp 16), some (15, false)⟩ ::
    ⟨some 18, .bin .gtr (.tmp 17) (.val (.int .i64 6)), some (15, false)⟩ ::
    ⟨some 19, .pick (.tmp 15) (.val (.bool true)) (.tmp 18), none⟩ :: [])) <|
  .cond (.tmp 19) (.seq (.region (⟨some 20, .build [(.int .i64 0), (.int .i64 0)] [], none⟩ ::
      ⟨none, .store 2 (.tmp 4) (.tmp 20), none⟩ ::
      ⟨some 5, .mov (.val (.bool false)), none⟩ :: [])) <|
    .ret) <|
  .skip) <|
  .seq (.region (⟨some 21, .faddr 2 (.tmp 2), none⟩ ::
    ⟨some 22, .load false 1 (.tmp 21), none⟩ ::
    ⟨some 23, .faddr 1 (.tmp 2), none⟩ ::
    ⟨some 24, .load false 1 (.tmp 23), none⟩ ::
    ⟨some 25, .mov (.tmp 1), none⟩ ::
    ⟨some 26, .call (.val (.fn (.func 59) [])) [(.tmp 22), (.tmp 24), (.tmp 25)], none⟩ ::
    ⟨some 27, .faddr 2 (.tmp 2), none⟩ ::
    ⟨some 28, .load false 1 (.tmp 27), none⟩ ::
    ⟨some 29, .call (.val (.fn (.func 60) [])) [(.tmp 28)], none⟩ ::
    ⟨some 30, .faddr 1 (.tmp 2), none⟩ ::
    ⟨some 31, .load false 1 (.tmp 30), none⟩ ::
    ⟨some 32, .mov (.tmp 1), none⟩ ::
    ⟨some 33, .call (.val (.fn (.func 59) [])) [(.tmp 29), (.tmp 31), (.tmp 32)], none⟩ ::
    ⟨some 34, .un .neg (.tmp 33), none⟩ ::
    ⟨some 35, .build [(.int .i64 0), (.int .i64 0)] [(0, 1, (.tmp 26)), (1, 1, (.tmp 34))], none⟩ ::
    ⟨none, .store 2 (.tmp 4) (.tmp 35), none⟩ ::
    ⟨some 5, .mov (.val (.bool true)), none⟩ :: [])) <|
  .ret⟩
theorem e_ref12_Ends : cFunc Try.prog kd_CRef12 Try.f29 = some c_ref12_Ends := by kernel_rfl
end Go.Proofs.Ytclpkkbamgmooaa
