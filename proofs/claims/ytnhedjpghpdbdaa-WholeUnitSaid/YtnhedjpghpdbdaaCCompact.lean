/- The code of functions, as abstract code. Printed by program. -/
import Derived.Test.YtnhedjpghpdbdaaAv2
import Derived.Test.YtnhedjpghpdbdaaProg
namespace Go.Proofs.Ytnhedjpghpdbdaa
open Av
set_option linter.unusedVariables false
set_option maxRecDepth 100000
def kd_CCompact (f : Nat) : Nat := 0
/- slices.Compact[[]int64,int64]: slots s, 0, s, 1, k, 3, s2, 4, k2, 5 -/
def c_slices_Compact_sint64_int64 : AFunc := ⟨61, [.tmp 2],
  .seq (.region (⟨some 2, .mov (.val .nils), none⟩ :: [])) <|
  .seq (.seq (.region (⟨some 6, .mov (.tmp 0), none⟩ ::
    ⟨some 7, .len false (.tmp 6), none⟩ ::
    ⟨some 8, .bin .lss (.tmp 7) (.val (.int .i64 2)), none⟩ :: [])) <|
  .cond (.tmp 8) (.seq (.region (⟨some 9, .mov (.tmp 0), none⟩ ::
      ⟨some 2, .mov (.tmp 9), none⟩ :: [])) <|
    .ret) <|
  .skip) <|
  .seq (.seq (.region (⟨some 3, .mov (.val (.int .i64 1)), none⟩ :: [])) <|
  .block 0 (.loop (.seq (.seq (.region (⟨some 10, .mov (.tmp 3), none⟩ ::
        ⟨some 11, .mov (.tmp 0), none⟩ ::
        ⟨some 12, .len false (.tmp 11), none⟩ ::
        ⟨some 13, .bin .lss (.tmp 10) (.tmp 12), none⟩ :: [])) <|
      .cond (.tmp 13) (.skip) <|
      .exit 0) <|
      .seq (.block 1 (.seq (.region (⟨some 16, .mov (.tmp 0), none⟩ ::
          ⟨some 17, .mov (.tmp 3), none⟩ ::
          ⟨some 18, .iaddr 1 (.tmp 16) (.tmp 17), none⟩ ::
          ⟨some 19, .load false 1 (.tmp 18), none⟩ ::
          ⟨some 20, .mov (.tmp 0), none⟩ ::
          ⟨some 21, .mov (.tmp 3), none⟩ ::
          ⟨some 22, .bin .sub (.tmp 21) (.val (.int .i64 1)), none⟩ ::
          ⟨some 23, .iaddr 1 (.tmp 20) (.tmp 22), none⟩ ::
          ⟨some 24, .load false 1 (.tmp 23), none⟩ ::
          ⟨some 25, .bin .eql (.tmp 19) (.tmp 24), none⟩ :: [])) <|
        .cond (.tmp 25) (.seq (.region (⟨some 26, .mov (.tmp 0), none⟩ ::
            ⟨some 27, .mov (.tmp 3), none⟩ ::
            ⟨some 28, .slc 1 (.tmp 26) (some (.tmp 27)) none, none⟩ ::
            ⟨some 4, .mov (.tmp 28), none⟩ :: [])) <|
          .seq (.seq (.region (⟨some 5, .mov (.val (.int .i64 1)), none⟩ :: [])) <|
          .block 2 (.loop (.seq (.seq (.region (⟨some 29, .mov (.tmp 5), none⟩ ::
                ⟨some 30, .mov (.tmp 4), none⟩ ::
                ⟨some 31, .len false (.tmp 30), none⟩ ::
                ⟨some 32, .bin .lss (.tmp 29) (.tmp 31), none⟩ :: [])) <|
              .cond (.tmp 32) (.skip) <|
              .exit 2) <|
              .seq (.block 3 (.seq (.region (⟨some 35, .mov (.tmp 4), none⟩ ::
                  ⟨some 36, .mov (.tmp 5), none⟩ ::
                  ⟨some 37, .iaddr 1 (.tmp 35) (.tmp 36), none⟩ ::
                  ⟨some 38, .load false 1 (.tmp 37), none⟩ ::
                  ⟨some 39, .mov (.tmp 4), none⟩ ::
                  ⟨some 40, .mov (.tmp 5), none⟩ ::
                  ⟨some 41, .bin .sub (.tmp 40) (.val (.int .i64 1)), none⟩ ::
                  ⟨some 42, .iaddr 1 (.tmp 39) (.tmp 41), none⟩ ::
                  ⟨some 43, .load false 1 (.tmp 42), none⟩ ::
                  ⟨some 44, .bin .neq (.tmp 38) (.tmp 43), none⟩ :: [])) <|
                .cond (.tmp 44) (.seq (.region (⟨some 45, .mov (.tmp 0), none⟩ ::
                    ⟨some 46, .mov (.tmp 3), none⟩ ::
                    ⟨some 47, .mov (.tmp 4), none⟩ ::
                    ⟨some 48, .mov (.tmp 5), none⟩ ::
                    ⟨some 49, .iaddr 1 (.tmp 47) (.tmp 48), none⟩ ::
                    ⟨some 50, .load false 1 (.tmp 49), none⟩ ::
                    ⟨some 51, .iaddr 1 (.tmp 45) (.tmp 46), none⟩ ::
                    ⟨none, .store 1 (.tmp 51) (.tmp 50), none⟩ :: [])) <|
                  .region (⟨some 52, .mov (.tmp 3), none⟩ ::
                    ⟨some 53, .bin .add (.tmp 52) (.val (.int .i64 1)), none⟩ ::
                    ⟨some 3, .mov (.tmp 53), none⟩ :: [])) <|
                .skip)) <|
              .region (⟨some 33, .mov (.tmp 5), none⟩ ::
                ⟨some 34, .bin .add (.tmp 33) (.val (.int .i64 1)), none⟩ ::
                ⟨some 5, .mov (.tmp 34), none⟩ :: [])))) <|
          .seq (.region (⟨some 54, .mov (.tmp 0), none⟩ ::
            ⟨some 55, .mov (.tmp 3), none⟩ ::
            ⟨some 56, .slc 1 (.tmp 54) (some (.tmp 55)) none, none⟩ ::
            ⟨none, .clr 1 (.tmp 56), none⟩ :: [])) <|
          .seq (.region (⟨some 57, .mov (.tmp 0), none⟩ ::
            ⟨some 58, .mov (.tmp 3), none⟩ ::
            ⟨some 59, .slc 1 (.tmp 57) none (some (.tmp 58)), none⟩ ::
            ⟨some 2, .mov (.tmp 59), none⟩ :: [])) <|
          .ret) <|
        .skip)) <|
      .region (⟨some 14, .mov (.tmp 3), none⟩ ::
        ⟨some 15, .bin .add (.tmp 14) (.val (.int .i64 1)), none⟩ ::
        ⟨some 3, .mov (.tmp 15), none⟩ :: [])))) <|
  .seq (.region (⟨some 60, .mov (.tmp 0), none⟩ ::
    ⟨some 2, .mov (.tmp 60), none⟩ :: [])) <|
  .ret⟩
theorem e_slices_Compact_sint64_int64 : cFunc Try.prog kd_CCompact Try.f106 = some c_slices_Compact_sint64_int64 := by kernel_rfl
end Go.Proofs.Ytnhedjpghpdbdaa
