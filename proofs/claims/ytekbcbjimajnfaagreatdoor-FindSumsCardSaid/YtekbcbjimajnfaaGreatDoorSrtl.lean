/-
  DERIVED: THE SHELF's CONTRACTS AT THIS DUMP, IN PLAIN WORDS (tools/lay-plain.mjs out of 'TryzSrtl.lean', which tools/lay-shelf.mjs wrote): THE SAME DECLARATIONS UNDER THE SAME NAMES: 'import', 'namespace', 'open', 'def', 'theorem' AND NOTHING ELSE: no command of the shelf's: FOR A HAND-IN. Each laying: the table of numbers ('.._ren') and one theorem, a field a fact of the dump's own or the kernel's comparison; each contract: ONE APPLICATION.
-/
import Derived.Shelf.Sort.Plain
import Derived.Shelf.Slices.In.SortNone
import Derived.Test.YtekbcbjimajnfaaGreatDoorProg
namespace Go.Proofs
open Go.Shelf
def Tryz.lays190_ren : Go.Shelf.Ren := ⟨fun | 190 => 35 | 125 => 79 | 258 => 78 | 128 => 122 | 129 => 123 | 302 => 113 | 303 => 114 | 304 => 115 | 305 => 116 | 306 => 117 | 307 => 118 | 308 => 119 | 309 => 120 | 310 => 121 | 333 => 201 | 329 => 202 | 330 => 203 | 334 => 204 | 335 => 205 | 336 => 104 | 344 => 226 | n => n, fun | 31 => 49 | 9 => 9 | 3 => 3 | 46 => 133 | 0 => 0 | 51 => 163 | 53 => 165 | 4 => 4 | 183 => 157 | 182 => 156 | 131 => 121 | 5 => 5 | 218 => 205 | 222 => 209 | 228 => 225 | 229 => 127 | n => n, fun | n => n⟩
theorem Tryz.lays190 : Go.Proofs.Lays.n190 Tryz.prog Tryz.lays190_ren := {
  mixed := by kernel_rfl
  f125 := Tryz.func79.trans (congrArg some (by kernel_rfl))
  f128 := Tryz.func122.trans (congrArg some (by kernel_rfl))
  f129 := Tryz.func123.trans (congrArg some (by kernel_rfl))
  f190 := Tryz.func35.trans (congrArg some (by kernel_rfl))
  f258 := Tryz.func78.trans (congrArg some (by kernel_rfl))
  f302 := Tryz.func113.trans (congrArg some (by kernel_rfl))
  f303 := Tryz.func114.trans (congrArg some (by kernel_rfl))
  f304 := Tryz.func115.trans (congrArg some (by kernel_rfl))
  f305 := Tryz.func116.trans (congrArg some (by kernel_rfl))
  f306 := Tryz.func117.trans (congrArg some (by kernel_rfl))
  f307 := Tryz.func118.trans (congrArg some (by kernel_rfl))
  f308 := Tryz.func119.trans (congrArg some (by kernel_rfl))
  f309 := Tryz.func120.trans (congrArg some (by kernel_rfl))
  f310 := Tryz.func121.trans (congrArg some (by kernel_rfl))
  f329 := Tryz.func202.trans (congrArg some (by kernel_rfl))
  f330 := Tryz.func203.trans (congrArg some (by kernel_rfl))
  f333 := Tryz.func201.trans (congrArg some (by kernel_rfl))
  f334 := Tryz.func204.trans (congrArg some (by kernel_rfl))
  f335 := Tryz.func205.trans (congrArg some (by kernel_rfl))
  f336 := Tryz.func104.trans (congrArg some (by kernel_rfl))
  f344 := Tryz.func226.trans (congrArg some (by kernel_rfl))
  t0 := Tryz.underlying0
  a0 := Tryz.isAgg0
  z0 := Tryz.sizeOf0
  v0 := Tryz.zeroValue0
  t3 := Tryz.underlying3
  a3 := Tryz.isAgg3
  z3 := Tryz.sizeOf3
  v3 := Tryz.zeroValue3
  t4 := Tryz.underlying4
  a4 := Tryz.isAgg4
  z4 := Tryz.sizeOf4
  v4 := Tryz.zeroValue4
  t5 := Tryz.underlying5
  a5 := Tryz.isAgg5
  z5 := Tryz.sizeOf5
  v5 := Tryz.zeroValue5
  t9 := Tryz.underlying9
  a9 := Tryz.isAgg9
  z9 := Tryz.sizeOf9
  v9 := Tryz.zeroValue9
  t31 := Tryz.underlying49
  a31 := Tryz.isAgg49
  z31 := Tryz.sizeOf49
  v31 := Tryz.zeroValue49
  t46 := Tryz.underlying133
  a46 := Tryz.isAgg133
  z46 := Tryz.sizeOf133
  v46 := Tryz.zeroValue133
  t51 := Tryz.underlying163
  a51 := Tryz.isAgg163
  z51 := Tryz.sizeOf163
  v51 := Tryz.zeroValue163
  t53 := Tryz.underlying165
  a53 := Tryz.isAgg165
  z53 := Tryz.sizeOf165
  v53 := Tryz.zeroValue165
  t131 := Tryz.underlying121
  a131 := Tryz.isAgg121
  z131 := Tryz.sizeOf121
  v131 := Tryz.zeroValue121
  t182 := Tryz.underlying156
  a182 := Tryz.isAgg156
  z182 := Tryz.sizeOf156
  v182 := Tryz.zeroValue156
  t183 := Tryz.underlying157
  a183 := Tryz.isAgg157
  z183 := Tryz.sizeOf157
  v183 := Tryz.zeroValue157
  t218 := Tryz.underlying205
  a218 := Tryz.isAgg205
  z218 := Tryz.sizeOf205
  v218 := Tryz.zeroValue205
  t222 := Tryz.underlying209
  a222 := Tryz.isAgg209
  z222 := Tryz.sizeOf209
  v222 := Tryz.zeroValue209
  t228 := Tryz.underlying225
  a228 := Tryz.isAgg225
  z228 := Tryz.sizeOf225
  v228 := Tryz.zeroValue225
  t229 := Tryz.underlying127
  a229 := Tryz.isAgg127
  z229 := Tryz.sizeOf127
  v229 := Tryz.zeroValue127 }
end Go.Proofs
