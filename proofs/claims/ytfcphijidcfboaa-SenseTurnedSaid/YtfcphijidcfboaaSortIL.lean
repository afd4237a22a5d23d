/-
  DERIVED: THE SHELF's CONTRACTS AT THIS DUMP, IN PLAIN WORDS (tools/lay-plain.mjs out of 'TrySortI.lean', which tools/lay-shelf.mjs wrote): THE SAME DECLARATIONS UNDER THE SAME NAMES: 'import', 'namespace', 'open', 'def', 'theorem' AND NOTHING ELSE: no command of the shelf's: FOR A HAND-IN. Each laying: the table of numbers ('.._ren') and one theorem, a field a fact of the dump's own or the kernel's comparison; each contract: ONE APPLICATION.
-/
import Derived.Shelf.SortM.Plain
import Derived.Shelf.SortM.SortNone
import Derived.Ground.SlgmProg
import Derived.Test.YtfcphijidcfboaaProg
namespace Go.Proofs
open Go.Shelf
def Try.sortI_ren : Go.Shelf.Ren := ⟨fun | 5 => 124 | 8 => 134 | 7 => 136 | 19 => 147 | 20 => 148 | 10 => 149 | 11 => 150 | 12 => 151 | 13 => 152 | 14 => 153 | 15 => 154 | 16 => 155 | 17 => 156 | 18 => 157 | 30 => 163 | 31 => 159 | 32 => 160 | 33 => 164 | 34 => 165 | 35 => 135 | 40 => 167 | n => n, fun | 23 => 23 | 25 => 2 | 3 => 3 | 32 => 132 | 22 => 23 | 0 => 0 | 44 => 145 | 46 => 147 | 4 => 4 | 36 => 139 | 35 => 138 | 41 => 134 | 5 => 5 | 9 => 9 | 53 => 154 | 57 => 158 | 63 => 162 | 64 => 163 | n => n, fun | n => n⟩
theorem Try.sortI : Go.Proofs.SlLaysM.n5 Try.prog Try.sortI_ren := {
  mixed := by kernel_rfl
  f5 := ⟨Try.f124.name, by decide, Try.func124.trans (congrArg some (by kernel_rfl))⟩
  f7 := ⟨Try.f136.name, by decide, Try.func136.trans (congrArg some (by kernel_rfl))⟩
  f8 := Try.func134.trans (congrArg some (by kernel_rfl))
  f10 := ⟨Try.f149.name, by decide, Try.func149.trans (congrArg some (by kernel_rfl))⟩
  f11 := ⟨Try.f150.name, by decide, Try.func150.trans (congrArg some (by kernel_rfl))⟩
  f12 := ⟨Try.f151.name, by decide, Try.func151.trans (congrArg some (by kernel_rfl))⟩
  f13 := ⟨Try.f152.name, by decide, Try.func152.trans (congrArg some (by kernel_rfl))⟩
  f14 := ⟨Try.f153.name, by decide, Try.func153.trans (congrArg some (by kernel_rfl))⟩
  f15 := ⟨Try.f154.name, by decide, Try.func154.trans (congrArg some (by kernel_rfl))⟩
  f16 := ⟨Try.f155.name, by decide, Try.func155.trans (congrArg some (by kernel_rfl))⟩
  f17 := ⟨Try.f156.name, by decide, Try.func156.trans (congrArg some (by kernel_rfl))⟩
  f18 := ⟨Try.f157.name, by decide, Try.func157.trans (congrArg some (by kernel_rfl))⟩
  f19 := Try.func147.trans (congrArg some (by kernel_rfl))
  f20 := Try.func148.trans (congrArg some (by kernel_rfl))
  f30 := ⟨Try.f163.name, by decide, Try.func163.trans (congrArg some (by kernel_rfl))⟩
  f31 := Try.func159.trans (congrArg some (by kernel_rfl))
  f32 := Try.func160.trans (congrArg some (by kernel_rfl))
  f33 := ⟨Try.f164.name, by decide, Try.func164.trans (congrArg some (by kernel_rfl))⟩
  f34 := ⟨Try.f165.name, by decide, Try.func165.trans (congrArg some (by kernel_rfl))⟩
  f35 := ⟨Try.f135.name, by decide, Try.func135.trans (congrArg some (by kernel_rfl))⟩
  f40 := ⟨Try.f167.name, by decide, Try.func167.trans (congrArg some (by kernel_rfl))⟩
  t0 := Try.underlying0
  a0 := Try.isAgg0
  z0 := Try.sizeOf0
  v0 := Try.zeroValue0
  t3 := Try.underlying3
  a3 := Try.isAgg3
  z3 := Try.sizeOf3
  v3 := Try.zeroValue3
  t4 := Try.underlying4
  a4 := Try.isAgg4
  z4 := Try.sizeOf4
  v4 := Try.zeroValue4
  t5 := Try.underlying5
  a5 := Try.isAgg5
  z5 := Try.sizeOf5
  v5 := Try.zeroValue5
  t9 := Try.underlying9
  a9 := Try.isAgg9
  z9 := Try.sizeOf9
  v9 := Try.zeroValue9
  t22 := Try.underlying23
  a22 := Try.isAgg23
  z22 := Try.sizeOf23
  v22 := Try.zeroValue23
  t23 := Try.underlying23
  a23 := Try.isAgg23
  z23 := Try.sizeOf23
  v23 := Try.zeroValue23
  t25 := Try.underlying2
  a25 := Try.isAgg2
  z25 := Try.sizeOf2
  v25 := Try.zeroValue2
  t32 := Try.underlying132
  a32 := Try.isAgg132
  z32 := Try.sizeOf132
  v32 := Try.zeroValue132
  t35 := Try.underlying138
  a35 := Try.isAgg138
  z35 := Try.sizeOf138
  v35 := Try.zeroValue138
  t36 := Try.underlying139
  a36 := Try.isAgg139
  z36 := Try.sizeOf139
  v36 := Try.zeroValue139
  t41 := Try.underlying134
  a41 := Try.isAgg134
  z41 := Try.sizeOf134
  v41 := Try.zeroValue134
  t44 := Try.underlying145
  a44 := Try.isAgg145
  z44 := Try.sizeOf145
  v44 := Try.zeroValue145
  t46 := Try.underlying147
  a46 := Try.isAgg147
  z46 := Try.sizeOf147
  v46 := Try.zeroValue147
  t53 := Try.underlying154
  a53 := Try.isAgg154
  z53 := Try.sizeOf154
  v53 := Try.zeroValue154
  t57 := Try.underlying158
  a57 := Try.isAgg158
  z57 := Try.sizeOf158
  v57 := Try.zeroValue158
  t63 := Try.underlying162
  a63 := Try.isAgg162
  z63 := Try.sizeOf162
  v63 := Try.zeroValue162
  t64 := Try.underlying163
  a64 := Try.isAgg163
  z64 := Try.sizeOf163
  v64 := Try.zeroValue163 }
end Go.Proofs
