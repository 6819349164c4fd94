/-
  DERIVED: THE SHELF's CONTRACTS AT THIS DUMP, IN PLAIN WORDS (tools/lay-plain.mjs out of 'TrydSjn.lean', which tools/lay-shelf.mjs wrote): THE SAME DECLARATIONS UNDER THE SAME NAMES: 'import', 'namespace', 'open', 'def', 'theorem' AND NOTHING ELSE: no command of the shelf's: FOR A HAND-IN. Each laying: the table of numbers ('.._ren') and one theorem, a field a fact of the dump's own or the kernel's comparison; each contract: ONE APPLICATION.
-/
import Derived.Shelf.Strings.OnBuilder
import Derived.Ground.NamesProg
import Derived.Test.YtoeipmepmlikcaaDoorProg
namespace Go.Proofs
open Go.Shelf
def Tryd.lays156_ren : Go.Shelf.Ren := ⟨fun | 156 => 68 | 165 => 141 | 166 => 67 | 169 => 69 | 240 => 140 | 241 => 208 | 276 => 207 | 277 => 257 | n => n, fun | 31 => 25 | 9 => 9 | 3 => 3 | 4 => 4 | 0 => 0 | 20 => 20 | 72 => 105 | 76 => 108 | 70 => 102 | 37 => 103 | 75 => 107 | 127 => 178 | 164 => 217 | 5 => 5 | 80 => 111 | n => n, fun | n => n⟩
theorem Tryd.lays156 : Go.Proofs.Lays.n156 Tryd.prog Tryd.lays156_ren := {
  mixed := by kernel_rfl
  f156 := Tryd.func68.trans (congrArg some (by kernel_rfl))
  f165 := Tryd.func141.trans (congrArg some (by kernel_rfl))
  f166 := Tryd.func67.trans (congrArg some (by kernel_rfl))
  f169 := Tryd.func69.trans (congrArg some (by kernel_rfl))
  f240 := Tryd.func140.trans (congrArg some (by kernel_rfl))
  f241 := Tryd.func208.trans (congrArg some (by kernel_rfl))
  f276 := Tryd.func207.trans (congrArg some (by kernel_rfl))
  f277 := Tryd.func257.trans (congrArg some (by kernel_rfl))
  t0 := Tryd.underlying0
  a0 := Tryd.isAgg0
  z0 := Tryd.sizeOf0
  v0 := Tryd.zeroValue0
  t3 := Tryd.underlying3
  a3 := Tryd.isAgg3
  z3 := Tryd.sizeOf3
  v3 := Tryd.zeroValue3
  t4 := Tryd.underlying4
  a4 := Tryd.isAgg4
  z4 := Tryd.sizeOf4
  v4 := Tryd.zeroValue4
  t9 := Tryd.underlying9
  a9 := Tryd.isAgg9
  z9 := Tryd.sizeOf9
  v9 := Tryd.zeroValue9
  t20 := Tryd.underlying20
  a20 := Tryd.isAgg20
  z20 := Tryd.sizeOf20
  v20 := Tryd.zeroValue20
  t31 := Tryd.underlying25
  a31 := Tryd.isAgg25
  z31 := Tryd.sizeOf25
  v31 := Tryd.zeroValue25
  t37 := Tryd.underlying103
  a37 := Tryd.isAgg103
  z37 := Tryd.sizeOf103
  v37 := Tryd.zeroValue103
  t70 := Tryd.underlying102
  a70 := Tryd.isAgg102
  z70 := Tryd.sizeOf102
  v70 := Tryd.zeroValue102
  t72 := Tryd.underlying105
  a72 := Tryd.isAgg105
  z72 := Tryd.sizeOf105
  v72 := Tryd.zeroValue105
  t75 := Tryd.underlying107
  a75 := Tryd.isAgg107
  z75 := Tryd.sizeOf107
  v75 := Tryd.zeroValue107
  t76 := Tryd.underlying108
  a76 := Tryd.isAgg108
  z76 := Tryd.sizeOf108
  v76 := Tryd.zeroValue108
  t127 := Tryd.underlying178
  a127 := Tryd.isAgg178
  z127 := Tryd.sizeOf178
  v127 := Tryd.zeroValue178
  t164 := Tryd.underlying217
  a164 := Tryd.isAgg217
  z164 := Tryd.sizeOf217
  v164 := Tryd.zeroValue217 }
theorem Tryd.Builder_Extra_156 : Builder.Extra Tryd.prog Tryd.lays156_ren := {
  sizeBuilder := by kernel_rfl
  liesBuilder := by kernel_rfl
  t5 := Tryd.underlying5
  a5 := Tryd.isAgg5
  z5 := Tryd.sizeOf5
  v5 := Tryd.zeroValue5
  infoByte := by kernel_rfl
  cellsByte := by kernel_rfl
  sizeByte := by kernel_rfl
  neB5 := by decide }
end Go.Proofs
