/-
  DERIVED: THE SHELF's CONTRACTS AT THIS DUMP, IN PLAIN WORDS (tools/lay-plain.mjs out of 'TrydSlsf.lean', which tools/lay-shelf.mjs wrote): THE SAME DECLARATIONS UNDER THE SAME NAMES: 'import', 'namespace', 'open', 'def', 'theorem' AND NOTHING ELSE: no command of the shelf's: FOR A HAND-IN. Each laying: the table of numbers ('.._ren') and one theorem, a field a fact of the dump's own or the kernel's comparison; each contract: ONE APPLICATION.
-/
import Derived.Shelf.SlSortCmp.NoneTotal
import Derived.Ground.SlsfProg
import Derived.Test.YtofolhnecfkjkaaDoorProg
namespace Go.Proofs
open Go.Shelf
def Tryd.laysSort83_ren : Go.Shelf.Ren := ⟨fun | 6 => 83 | 15 => 120 | 14 => 119 | 28 => 148 | 29 => 149 | 20 => 140 | 21 => 141 | 22 => 142 | 23 => 143 | 24 => 144 | 25 => 145 | 26 => 146 | 27 => 147 | 46 => 159 | 47 => 160 | 48 => 161 | 49 => 162 | 50 => 163 | 57 => 168 | n => n, fun | 22 => 74 | 24 => 78 | 25 => 131 | 3 => 3 | 39 => 152 | 0 => 0 | 53 => 178 | 55 => 180 | 4 => 4 | 46 => 172 | 45 => 171 | 50 => 29 | 5 => 5 | 9 => 9 | 66 => 188 | 70 => 192 | 76 => 197 | 77 => 198 | n => n, fun | n => n⟩
theorem Tryd.laysSort83 : Go.Proofs.SlLaysF0.n6 Tryd.prog Tryd.laysSort83_ren := {
  mixed := by kernel_rfl
  f6 := ⟨Tryd.f83.name, by decide, Tryd.func83.trans (congrArg some (by kernel_rfl))⟩
  f14 := ⟨Tryd.f119.name, by decide, Tryd.func119.trans (congrArg some (by kernel_rfl))⟩
  f15 := Tryd.func120.trans (congrArg some (by kernel_rfl))
  f20 := ⟨Tryd.f140.name, by decide, Tryd.func140.trans (congrArg some (by kernel_rfl))⟩
  f21 := ⟨Tryd.f141.name, by decide, Tryd.func141.trans (congrArg some (by kernel_rfl))⟩
  f22 := ⟨Tryd.f142.name, by decide, Tryd.func142.trans (congrArg some (by kernel_rfl))⟩
  f23 := ⟨Tryd.f143.name, by decide, Tryd.func143.trans (congrArg some (by kernel_rfl))⟩
  f24 := ⟨Tryd.f144.name, by decide, Tryd.func144.trans (congrArg some (by kernel_rfl))⟩
  f25 := ⟨Tryd.f145.name, by decide, Tryd.func145.trans (congrArg some (by kernel_rfl))⟩
  f26 := ⟨Tryd.f146.name, by decide, Tryd.func146.trans (congrArg some (by kernel_rfl))⟩
  f27 := ⟨Tryd.f147.name, by decide, Tryd.func147.trans (congrArg some (by kernel_rfl))⟩
  f28 := Tryd.func148.trans (congrArg some (by kernel_rfl))
  f29 := Tryd.func149.trans (congrArg some (by kernel_rfl))
  f46 := ⟨Tryd.f159.name, by decide, Tryd.func159.trans (congrArg some (by kernel_rfl))⟩
  f47 := Tryd.func160.trans (congrArg some (by kernel_rfl))
  f48 := Tryd.func161.trans (congrArg some (by kernel_rfl))
  f49 := ⟨Tryd.f162.name, by decide, Tryd.func162.trans (congrArg some (by kernel_rfl))⟩
  f50 := ⟨Tryd.f163.name, by decide, Tryd.func163.trans (congrArg some (by kernel_rfl))⟩
  f57 := ⟨Tryd.f168.name, by decide, Tryd.func168.trans (congrArg some (by kernel_rfl))⟩
  t0 := Tryd.underlying0
  a0 := Tryd.isAgg0
  z0 := Tryd.sizeOf0
  v0 := Tryd.zeroValue0
  t3 := Tryd.underlying3
  a3 := Tryd.isAgg3
  z3 := Tryd.sizeOf3
  v3 := Tryd.zeroValue3
  t4 := Tryd.underlying4
  a4 := Tryd.isAgg4
  z4 := Tryd.sizeOf4
  v4 := Tryd.zeroValue4
  t5 := Tryd.underlying5
  a5 := Tryd.isAgg5
  z5 := Tryd.sizeOf5
  v5 := Tryd.zeroValue5
  t9 := Tryd.underlying9
  a9 := Tryd.isAgg9
  z9 := Tryd.sizeOf9
  v9 := Tryd.zeroValue9
  t22 := Tryd.underlying74
  a22 := Tryd.isAgg74
  z22 := Tryd.sizeOf74
  v22 := Tryd.zeroValue74
  t25 := Tryd.underlying131
  a25 := Tryd.isAgg131
  z25 := Tryd.sizeOf131
  v25 := Tryd.zeroValue131
  t39 := Tryd.underlying152
  a39 := Tryd.isAgg152
  z39 := Tryd.sizeOf152
  v39 := Tryd.zeroValue152
  t45 := Tryd.underlying171
  a45 := Tryd.isAgg171
  z45 := Tryd.sizeOf171
  v45 := Tryd.zeroValue171
  t46 := Tryd.underlying172
  a46 := Tryd.isAgg172
  z46 := Tryd.sizeOf172
  v46 := Tryd.zeroValue172
  t50 := Tryd.underlying29
  a50 := Tryd.isAgg29
  z50 := Tryd.sizeOf29
  v50 := Tryd.zeroValue29
  t53 := Tryd.underlying178
  a53 := Tryd.isAgg178
  z53 := Tryd.sizeOf178
  v53 := Tryd.zeroValue178
  t55 := Tryd.underlying180
  a55 := Tryd.isAgg180
  z55 := Tryd.sizeOf180
  v55 := Tryd.zeroValue180
  t66 := Tryd.underlying188
  a66 := Tryd.isAgg188
  z66 := Tryd.sizeOf188
  v66 := Tryd.zeroValue188
  t70 := Tryd.underlying192
  a70 := Tryd.isAgg192
  z70 := Tryd.sizeOf192
  v70 := Tryd.zeroValue192
  t76 := Tryd.underlying197
  a76 := Tryd.isAgg197
  z76 := Tryd.sizeOf197
  v76 := Tryd.zeroValue197
  t77 := Tryd.underlying198
  a77 := Tryd.isAgg198
  z77 := Tryd.sizeOf198
  v77 := Tryd.zeroValue198 }
end Go.Proofs
