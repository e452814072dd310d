/-
  DERIVED: THE SHELF's CONTRACTS AT THIS DUMP, IN PLAIN WORDS (tools/lay-plain.mjs out of 'TrySort.lean', which tools/lay-shelf.mjs wrote): THE SAME DECLARATIONS UNDER THE SAME NAMES: 'import', 'namespace', 'open', 'def', 'theorem' AND NOTHING ELSE: no command of the shelf's: FOR A HAND-IN. Each laying: the table of numbers ('.._ren') and one theorem, a field a fact of the dump's own or the kernel's comparison; each contract: ONE APPLICATION.
-/
import Derived.Shelf.SlGeneric
import Derived.Shelf.SlSortCmp.NoneTotal
import Derived.Ground.SlsfProg
import Derived.Ground.Names2Prog
import Derived.Shelf.Slices.CompactI
import Derived.Shelf.Slices.SearchI
import Derived.Test.YthajaabgcbjfkaaProg
namespace Go.Proofs
open Go.Shelf
def Try.sortH_ren : Go.Shelf.Ren := ⟨fun | 6 => 116 | 15 => 125 | 14 => 124 | 28 => 137 | 29 => 138 | 20 => 129 | 21 => 130 | 22 => 131 | 23 => 132 | 24 => 133 | 25 => 134 | 26 => 135 | 27 => 136 | 46 => 141 | 47 => 142 | 48 => 143 | 49 => 144 | 50 => 145 | 57 => 147 | n => n, fun | 22 => 91 | 24 => 96 | 25 => 142 | 3 => 3 | 39 => 149 | 0 => 0 | 53 => 163 | 55 => 165 | 4 => 4 | 46 => 156 | 45 => 155 | 50 => 160 | 5 => 5 | 9 => 9 | 66 => 166 | 70 => 170 | 76 => 172 | 77 => 151 | n => n, fun | n => n⟩
theorem Try.sortH : Go.Proofs.SlLaysF0.n6 Try.prog Try.sortH_ren := {
  mixed := by kernel_rfl
  f6 := ⟨Try.f116.name, by decide, Try.func116.trans (congrArg some (by kernel_rfl))⟩
  f14 := ⟨Try.f124.name, by decide, Try.func124.trans (congrArg some (by kernel_rfl))⟩
  f15 := Try.func125.trans (congrArg some (by kernel_rfl))
  f20 := ⟨Try.f129.name, by decide, Try.func129.trans (congrArg some (by kernel_rfl))⟩
  f21 := ⟨Try.f130.name, by decide, Try.func130.trans (congrArg some (by kernel_rfl))⟩
  f22 := ⟨Try.f131.name, by decide, Try.func131.trans (congrArg some (by kernel_rfl))⟩
  f23 := ⟨Try.f132.name, by decide, Try.func132.trans (congrArg some (by kernel_rfl))⟩
  f24 := ⟨Try.f133.name, by decide, Try.func133.trans (congrArg some (by kernel_rfl))⟩
  f25 := ⟨Try.f134.name, by decide, Try.func134.trans (congrArg some (by kernel_rfl))⟩
  f26 := ⟨Try.f135.name, by decide, Try.func135.trans (congrArg some (by kernel_rfl))⟩
  f27 := ⟨Try.f136.name, by decide, Try.func136.trans (congrArg some (by kernel_rfl))⟩
  f28 := Try.func137.trans (congrArg some (by kernel_rfl))
  f29 := Try.func138.trans (congrArg some (by kernel_rfl))
  f46 := ⟨Try.f141.name, by decide, Try.func141.trans (congrArg some (by kernel_rfl))⟩
  f47 := Try.func142.trans (congrArg some (by kernel_rfl))
  f48 := Try.func143.trans (congrArg some (by kernel_rfl))
  f49 := ⟨Try.f144.name, by decide, Try.func144.trans (congrArg some (by kernel_rfl))⟩
  f50 := ⟨Try.f145.name, by decide, Try.func145.trans (congrArg some (by kernel_rfl))⟩
  f57 := ⟨Try.f147.name, by decide, Try.func147.trans (congrArg some (by kernel_rfl))⟩
  t0 := Try.underlying0
  a0 := Try.isAgg0
  z0 := Try.sizeOf0
  v0 := Try.zeroValue0
  t3 := Try.underlying3
  a3 := Try.isAgg3
  z3 := Try.sizeOf3
  v3 := Try.zeroValue3
  t4 := Try.underlying4
  a4 := Try.isAgg4
  z4 := Try.sizeOf4
  v4 := Try.zeroValue4
  t5 := Try.underlying5
  a5 := Try.isAgg5
  z5 := Try.sizeOf5
  v5 := Try.zeroValue5
  t9 := Try.underlying9
  a9 := Try.isAgg9
  z9 := Try.sizeOf9
  v9 := Try.zeroValue9
  t22 := Try.underlying91
  a22 := Try.isAgg91
  z22 := Try.sizeOf91
  v22 := Try.zeroValue91
  t25 := Try.underlying142
  a25 := Try.isAgg142
  z25 := Try.sizeOf142
  v25 := Try.zeroValue142
  t39 := Try.underlying149
  a39 := Try.isAgg149
  z39 := Try.sizeOf149
  v39 := Try.zeroValue149
  t45 := Try.underlying155
  a45 := Try.isAgg155
  z45 := Try.sizeOf155
  v45 := Try.zeroValue155
  t46 := Try.underlying156
  a46 := Try.isAgg156
  z46 := Try.sizeOf156
  v46 := Try.zeroValue156
  t50 := Try.underlying160
  a50 := Try.isAgg160
  z50 := Try.sizeOf160
  v50 := Try.zeroValue160
  t53 := Try.underlying163
  a53 := Try.isAgg163
  z53 := Try.sizeOf163
  v53 := Try.zeroValue163
  t55 := Try.underlying165
  a55 := Try.isAgg165
  z55 := Try.sizeOf165
  v55 := Try.zeroValue165
  t66 := Try.underlying166
  a66 := Try.isAgg166
  z66 := Try.sizeOf166
  v66 := Try.zeroValue166
  t70 := Try.underlying170
  a70 := Try.isAgg170
  z70 := Try.sizeOf170
  v70 := Try.zeroValue170
  t76 := Try.underlying172
  a76 := Try.isAgg172
  z76 := Try.sizeOf172
  v76 := Try.zeroValue172
  t77 := Try.underlying151
  a77 := Try.isAgg151
  z77 := Try.sizeOf151
  v77 := Try.zeroValue151 }
def Try.laysNm220_ren : Go.Shelf.Ren := ⟨fun | 20 => 115 | n => n, fun | 22 => 80 | 3 => 3 | 4 => 4 | 0 => 0 | n => n, fun | n => n⟩
theorem Try.laysNm220 : Go.Proofs.Lays2.n20 Try.prog Try.laysNm220_ren := {
  mixed := by kernel_rfl
  f20 := Try.func115.trans (congrArg some (by kernel_rfl))
  t0 := Try.underlying0
  a0 := Try.isAgg0
  z0 := Try.sizeOf0
  v0 := Try.zeroValue0
  t3 := Try.underlying3
  a3 := Try.isAgg3
  z3 := Try.sizeOf3
  v3 := Try.zeroValue3
  t4 := Try.underlying4
  a4 := Try.isAgg4
  z4 := Try.sizeOf4
  v4 := Try.zeroValue4
  t22 := Try.underlying80
  a22 := Try.isAgg80
  z22 := Try.sizeOf80
  v22 := Try.zeroValue80
  i3 := by kernel_rfl }
end Go.Proofs
