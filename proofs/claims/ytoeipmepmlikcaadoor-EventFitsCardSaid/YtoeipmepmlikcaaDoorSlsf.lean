/-
  DERIVED: THE SHELF's CONTRACTS AT THIS DUMP, IN PLAIN WORDS (tools/lay-plain.mjs out of 'TrydSlsf.lean', which tools/lay-shelf.mjs wrote): THE SAME DECLARATIONS UNDER THE SAME NAMES: 'import', 'namespace', 'open', 'def', 'theorem' AND NOTHING ELSE: no command of the shelf's: FOR A HAND-IN. Each laying: the table of numbers ('.._ren') and one theorem, a field a fact of the dump's own or the kernel's comparison; each contract: ONE APPLICATION.
-/
import Derived.Shelf.SlSortCmp.NoneTotal
import Derived.Ground.SlsfProg
import Derived.Test.YtoeipmepmlikcaaDoorProg
namespace Go.Proofs
open Go.Shelf
def Tryd.laysSort116_ren : Go.Shelf.Ren := ⟨fun | 6 => 116 | 15 => 193 | 14 => 192 | 28 => 241 | 29 => 242 | 20 => 233 | 21 => 234 | 22 => 235 | 23 => 236 | 24 => 237 | 25 => 238 | 26 => 239 | 27 => 240 | 46 => 270 | 47 => 271 | 48 => 272 | 49 => 273 | 50 => 274 | 57 => 291 | n => n, fun | 22 => 49 | 24 => 128 | 25 => 157 | 3 => 3 | 39 => 195 | 0 => 0 | 53 => 230 | 55 => 138 | 4 => 4 | 46 => 240 | 45 => 239 | 50 => 171 | 5 => 5 | 9 => 9 | 66 => 262 | 70 => 266 | 76 => 277 | 77 => 278 | n => n, fun | n => n⟩
theorem Tryd.laysSort116 : Go.Proofs.SlLaysF0.n6 Tryd.prog Tryd.laysSort116_ren := {
  mixed := by kernel_rfl
  f6 := ⟨Tryd.f116.name, by decide, Tryd.func116.trans (congrArg some (by kernel_rfl))⟩
  f14 := ⟨Tryd.f192.name, by decide, Tryd.func192.trans (congrArg some (by kernel_rfl))⟩
  f15 := Tryd.func193.trans (congrArg some (by kernel_rfl))
  f20 := ⟨Tryd.f233.name, by decide, Tryd.func233.trans (congrArg some (by kernel_rfl))⟩
  f21 := ⟨Tryd.f234.name, by decide, Tryd.func234.trans (congrArg some (by kernel_rfl))⟩
  f22 := ⟨Tryd.f235.name, by decide, Tryd.func235.trans (congrArg some (by kernel_rfl))⟩
  f23 := ⟨Tryd.f236.name, by decide, Tryd.func236.trans (congrArg some (by kernel_rfl))⟩
  f24 := ⟨Tryd.f237.name, by decide, Tryd.func237.trans (congrArg some (by kernel_rfl))⟩
  f25 := ⟨Tryd.f238.name, by decide, Tryd.func238.trans (congrArg some (by kernel_rfl))⟩
  f26 := ⟨Tryd.f239.name, by decide, Tryd.func239.trans (congrArg some (by kernel_rfl))⟩
  f27 := ⟨Tryd.f240.name, by decide, Tryd.func240.trans (congrArg some (by kernel_rfl))⟩
  f28 := Tryd.func241.trans (congrArg some (by kernel_rfl))
  f29 := Tryd.func242.trans (congrArg some (by kernel_rfl))
  f46 := ⟨Tryd.f270.name, by decide, Tryd.func270.trans (congrArg some (by kernel_rfl))⟩
  f47 := Tryd.func271.trans (congrArg some (by kernel_rfl))
  f48 := Tryd.func272.trans (congrArg some (by kernel_rfl))
  f49 := ⟨Tryd.f273.name, by decide, Tryd.func273.trans (congrArg some (by kernel_rfl))⟩
  f50 := ⟨Tryd.f274.name, by decide, Tryd.func274.trans (congrArg some (by kernel_rfl))⟩
  f57 := ⟨Tryd.f291.name, by decide, Tryd.func291.trans (congrArg some (by kernel_rfl))⟩
  t0 := Tryd.underlying0
  a0 := Tryd.isAgg0
  z0 := Tryd.sizeOf0
  v0 := Tryd.zeroValue0
  t3 := Tryd.underlying3
  a3 := Tryd.isAgg3
  z3 := Tryd.sizeOf3
  v3 := Tryd.zeroValue3
  t4 := Tryd.underlying4
  a4 := Tryd.isAgg4
  z4 := Tryd.sizeOf4
  v4 := Tryd.zeroValue4
  t5 := Tryd.underlying5
  a5 := Tryd.isAgg5
  z5 := Tryd.sizeOf5
  v5 := Tryd.zeroValue5
  t9 := Tryd.underlying9
  a9 := Tryd.isAgg9
  z9 := Tryd.sizeOf9
  v9 := Tryd.zeroValue9
  t22 := Tryd.underlying49
  a22 := Tryd.isAgg49
  z22 := Tryd.sizeOf49
  v22 := Tryd.zeroValue49
  t25 := Tryd.underlying157
  a25 := Tryd.isAgg157
  z25 := Tryd.sizeOf157
  v25 := Tryd.zeroValue157
  t39 := Tryd.underlying195
  a39 := Tryd.isAgg195
  z39 := Tryd.sizeOf195
  v39 := Tryd.zeroValue195
  t45 := Tryd.underlying239
  a45 := Tryd.isAgg239
  z45 := Tryd.sizeOf239
  v45 := Tryd.zeroValue239
  t46 := Tryd.underlying240
  a46 := Tryd.isAgg240
  z46 := Tryd.sizeOf240
  v46 := Tryd.zeroValue240
  t50 := Tryd.underlying171
  a50 := Tryd.isAgg171
  z50 := Tryd.sizeOf171
  v50 := Tryd.zeroValue171
  t53 := Tryd.underlying230
  a53 := Tryd.isAgg230
  z53 := Tryd.sizeOf230
  v53 := Tryd.zeroValue230
  t55 := Tryd.underlying138
  a55 := Tryd.isAgg138
  z55 := Tryd.sizeOf138
  v55 := Tryd.zeroValue138
  t66 := Tryd.underlying262
  a66 := Tryd.isAgg262
  z66 := Tryd.sizeOf262
  v66 := Tryd.zeroValue262
  t70 := Tryd.underlying266
  a70 := Tryd.isAgg266
  z70 := Tryd.sizeOf266
  v70 := Tryd.zeroValue266
  t76 := Tryd.underlying277
  a76 := Tryd.isAgg277
  z76 := Tryd.sizeOf277
  v76 := Tryd.zeroValue277
  t77 := Tryd.underlying278
  a77 := Tryd.isAgg278
  z77 := Tryd.sizeOf278
  v77 := Tryd.zeroValue278 }
end Go.Proofs
