/- Closed facts on this seat's program: sizes, fields, zero values, calls. Written by a program of mine. -/
import Derived.Test.YtdcbiepoghdanaaGreatDoorMore
import Derived.Test.YtdcbiepoghdanaaGreatDoorRows
namespace Go.Proofs.YtdcbiepoghdanaaGreatDoor
open Go.RowKit Go.Eng

theorem z2 : ∀ w, (zeroValue 2).run Tryz.prog w = .ok (.int .i64 0) w := fun _ => by kernel_rfl
theorem sz3 : (Tryz.prog.info? 3).map (·.size) = some 1 := by kernel_rfl
theorem co3 : Tryz.prog.cellsOf 3 = 1 := by kernel_rfl
theorem z3 : ∀ w, (zeroValue 3).run Tryz.prog w = .ok (.int .i64 0) w := fun _ => by kernel_rfl
theorem co4 : Tryz.prog.cellsOf 4 = 1 := by kernel_rfl
theorem z4 : ∀ w, (zeroValue 4).run Tryz.prog w = .ok (.bool false) w := fun _ => by kernel_rfl
theorem sz5 : (Tryz.prog.info? 5).map (·.size) = some 1 := by kernel_rfl
theorem z5 : ∀ w, (zeroValue 5).run Tryz.prog w = .ok (.int .u8 0) w := fun _ => by kernel_rfl
theorem sz9 : (Tryz.prog.info? 9).map (·.size) = some 1 := by kernel_rfl
theorem co9 : Tryz.prog.cellsOf 9 = 1 := by kernel_rfl
theorem bo9 : Tryz.prog.bytesOf 9 = 16 := by kernel_rfl
theorem z9 : ∀ w, (zeroValue 9).run Tryz.prog w = .ok (.string ⟨#[]⟩) w := fun _ => by kernel_rfl
theorem inf9 : (Tryz.prog.info? 9).map (fun i => (i.zero, i.size, i.bytes)) = some (some (.string ⟨#[]⟩), 1, 16) := by kernel_rfl
theorem z20 : ∀ w, (zeroValue 20).run Tryz.prog w = .ok (.nilIface) w := fun _ => by kernel_rfl
theorem z21 : ∀ w, (zeroValue 21).run Tryz.prog w = .ok (.int .i32 0) w := fun _ => by kernel_rfl
theorem z22 : ∀ w, (zeroValue 22).run Tryz.prog w = .ok (.slice none 0 0) w := fun _ => by kernel_rfl
theorem z23 : ∀ w, (zeroValue 23).run Tryz.prog w = .ok (.agg #[.int .i64 0, .slice none 0 0, .int .i64 0, .int .i64 0, .string ⟨#[]⟩, .string ⟨#[]⟩]) w := fun _ => by kernel_rfl
theorem z24 : ∀ w, (zeroValue 24).run Tryz.prog w = .ok (.agg #[.int .i64 0, .slice none 0 0, .int .i64 0, .int .i64 0, .string ⟨#[]⟩, .string ⟨#[]⟩]) w := fun _ => by kernel_rfl
theorem sz26 : (Tryz.prog.info? 26).map (·.size) = some 1 := by kernel_rfl
theorem inf26 : (Tryz.prog.info? 26).map (fun i => (i.zero, i.size, i.bytes)) = some (some (.int .i64 0), 1, 8) := by kernel_rfl
theorem sz41 : (Tryz.prog.info? 41).map (·.size) = some 1 := by kernel_rfl
theorem co41 : Tryz.prog.cellsOf 41 = 1 := by kernel_rfl
theorem sz43 : (Tryz.prog.info? 43).map (·.size) = some 1 := by kernel_rfl
theorem co43 : Tryz.prog.cellsOf 43 = 1 := by kernel_rfl
theorem sz44 : (Tryz.prog.info? 44).map (·.size) = some 1 := by kernel_rfl
theorem co44 : Tryz.prog.cellsOf 44 = 1 := by kernel_rfl
theorem sz45 : (Tryz.prog.info? 45).map (·.size) = some 1 := by kernel_rfl
theorem co45 : Tryz.prog.cellsOf 45 = 1 := by kernel_rfl
theorem sz46 : (Tryz.prog.info? 46).map (·.size) = some 1 := by kernel_rfl
theorem co46 : Tryz.prog.cellsOf 46 = 1 := by kernel_rfl
theorem z46 : ∀ w, (zeroValue 46).run Tryz.prog w = .ok (.slice none 0 0) w := fun _ => by kernel_rfl
theorem sz47 : (Tryz.prog.info? 47).map (·.size) = some 1 := by kernel_rfl
theorem co47 : Tryz.prog.cellsOf 47 = 1 := by kernel_rfl
theorem sz49 : (Tryz.prog.info? 49).map (·.size) = some 4 := by kernel_rfl
theorem co49 : Tryz.prog.cellsOf 49 = 4 := by kernel_rfl
theorem fa49_0 : ∀ a w, (Instr.fieldAt 49 (.pointer (some a)) 0).run Tryz.prog w = .ok (.pointer (some (a.add 0))) w := run_field (b := 1) Tryz.underlying49 rfl rfl (by kernel_rfl) (by decide)
theorem fa49_1 : ∀ a w, (Instr.fieldAt 49 (.pointer (some a)) 1).run Tryz.prog w = .ok (.pointer (some (a.add 1))) w := run_field (b := 1) Tryz.underlying49 rfl rfl (by kernel_rfl) (by decide)
theorem fa49_2 : ∀ a w, (Instr.fieldAt 49 (.pointer (some a)) 2).run Tryz.prog w = .ok (.pointer (some (a.add 2))) w := run_field (b := 1) Tryz.underlying49 rfl rfl (by kernel_rfl) (by decide)
theorem fa49_3 : ∀ a w, (Instr.fieldAt 49 (.pointer (some a)) 3).run Tryz.prog w = .ok (.pointer (some (a.add 3))) w := run_field (b := 1) Tryz.underlying49 rfl rfl (by kernel_rfl) (by decide)
theorem sz50 : (Tryz.prog.info? 50).map (·.size) = some 1 := by kernel_rfl
theorem co50 : Tryz.prog.cellsOf 50 = 1 := by kernel_rfl
theorem z51 : ∀ w, (zeroValue 51).run Tryz.prog w = .ok (.agg #[.slice none 0 0, .slice none 0 0, .slice none 0 0, .slice none 0 0, .slice none 0 0, .int .i64 0, .int .i64 0, .int .i64 0, .int .i64 0, .slice none 0 0, .int .i64 0]) w := fun _ => by kernel_rfl
theorem sz52 : (Tryz.prog.info? 52).map (·.size) = some 11 := by kernel_rfl
theorem co52 : Tryz.prog.cellsOf 52 = 11 := by kernel_rfl
theorem z52 : ∀ w, (zeroValue 52).run Tryz.prog w = .ok (.agg #[.slice none 0 0, .slice none 0 0, .slice none 0 0, .slice none 0 0, .slice none 0 0, .int .i64 0, .int .i64 0, .int .i64 0, .int .i64 0, .slice none 0 0, .int .i64 0]) w := fun _ => by kernel_rfl
theorem fa52_0 : ∀ a w, (Instr.fieldAt 52 (.pointer (some a)) 0).run Tryz.prog w = .ok (.pointer (some (a.add 0))) w := run_field (b := 1) Tryz.underlying52 rfl rfl (by kernel_rfl) (by decide)
theorem fa52_1 : ∀ a w, (Instr.fieldAt 52 (.pointer (some a)) 1).run Tryz.prog w = .ok (.pointer (some (a.add 1))) w := run_field (b := 1) Tryz.underlying52 rfl rfl (by kernel_rfl) (by decide)
theorem fa52_2 : ∀ a w, (Instr.fieldAt 52 (.pointer (some a)) 2).run Tryz.prog w = .ok (.pointer (some (a.add 2))) w := run_field (b := 1) Tryz.underlying52 rfl rfl (by kernel_rfl) (by decide)
theorem fa52_3 : ∀ a w, (Instr.fieldAt 52 (.pointer (some a)) 3).run Tryz.prog w = .ok (.pointer (some (a.add 3))) w := run_field (b := 1) Tryz.underlying52 rfl rfl (by kernel_rfl) (by decide)
theorem fa52_4 : ∀ a w, (Instr.fieldAt 52 (.pointer (some a)) 4).run Tryz.prog w = .ok (.pointer (some (a.add 4))) w := run_field (b := 1) Tryz.underlying52 rfl rfl (by kernel_rfl) (by decide)
theorem fa52_5 : ∀ a w, (Instr.fieldAt 52 (.pointer (some a)) 5).run Tryz.prog w = .ok (.pointer (some (a.add 5))) w := run_field (b := 4) Tryz.underlying52 rfl rfl (by kernel_rfl) (by decide)
theorem fa52_6 : ∀ a w, (Instr.fieldAt 52 (.pointer (some a)) 6).run Tryz.prog w = .ok (.pointer (some (a.add 9))) w := run_field (b := 1) Tryz.underlying52 rfl rfl (by kernel_rfl) (by decide)
theorem fa52_7 : ∀ a w, (Instr.fieldAt 52 (.pointer (some a)) 7).run Tryz.prog w = .ok (.pointer (some (a.add 10))) w := run_field (b := 1) Tryz.underlying52 rfl rfl (by kernel_rfl) (by decide)
theorem z59 : ∀ w, (zeroValue 59).run Tryz.prog w = .ok (.slice none 0 0) w := fun _ => by kernel_rfl
theorem z72 : ∀ w, (zeroValue 72).run Tryz.prog w = .ok (.map none) w := fun _ => by kernel_rfl
theorem z76 : ∀ w, (zeroValue 76).run Tryz.prog w = .ok (.pointer none) w := fun _ => by kernel_rfl
theorem sz82 : (Tryz.prog.info? 82).map (·.size) = some 1 := by kernel_rfl
theorem inf82 : (Tryz.prog.info? 82).map (fun i => (i.zero, i.size, i.bytes)) = some (some (.nilFunc), 1, 8) := by kernel_rfl
theorem sz91 : (Tryz.prog.info? 91).map (·.size) = some 1 := by kernel_rfl
theorem sz104 : (Tryz.prog.info? 104).map (·.size) = some 1 := by kernel_rfl
theorem sz105 : (Tryz.prog.info? 105).map (·.size) = some 1 := by kernel_rfl
theorem z105 : ∀ w, (zeroValue 105).run Tryz.prog w = .ok (.pointer none) w := fun _ => by kernel_rfl
theorem z107 : ∀ w, (zeroValue 107).run Tryz.prog w = .ok (.agg #[.slice none 0 0, .slice none 0 0, .slice none 0 0, .slice none 0 0, .slice none 0 0, .int .i64 0, .int .i64 0, .int .i64 0, .int .i64 0, .slice none 0 0, .int .i64 0, .int .i64 0, .pointer none, .pointer none, .pointer none, .pointer none, .pointer none, .map none, .map none, .map none]) w := fun _ => by kernel_rfl
theorem fa107_1 : ∀ a w, (Instr.fieldAt 107 (.pointer (some a)) 1).run Tryz.prog w = .ok (.pointer (some (a.add 11))) w := run_field (b := 1) Tryz.underlying107 rfl rfl (by kernel_rfl) (by decide)
theorem fa107_2 : ∀ a w, (Instr.fieldAt 107 (.pointer (some a)) 2).run Tryz.prog w = .ok (.pointer (some (a.add 12))) w := run_field (b := 1) Tryz.underlying107 rfl rfl (by kernel_rfl) (by decide)
theorem fa107_3 : ∀ a w, (Instr.fieldAt 107 (.pointer (some a)) 3).run Tryz.prog w = .ok (.pointer (some (a.add 13))) w := run_field (b := 1) Tryz.underlying107 rfl rfl (by kernel_rfl) (by decide)
theorem fa107_5 : ∀ a w, (Instr.fieldAt 107 (.pointer (some a)) 5).run Tryz.prog w = .ok (.pointer (some (a.add 15))) w := run_field (b := 1) Tryz.underlying107 rfl rfl (by kernel_rfl) (by decide)
theorem fa107_6 : ∀ a w, (Instr.fieldAt 107 (.pointer (some a)) 6).run Tryz.prog w = .ok (.pointer (some (a.add 16))) w := run_field (b := 1) Tryz.underlying107 rfl rfl (by kernel_rfl) (by decide)
theorem fa107_9 : ∀ a w, (Instr.fieldAt 107 (.pointer (some a)) 9).run Tryz.prog w = .ok (.pointer (some (a.add 19))) w := run_field (b := 1) Tryz.underlying107 rfl rfl (by kernel_rfl) (by decide)
theorem z124 : ∀ w, (zeroValue 124).run Tryz.prog w = .ok (.slice none 0 0) w := fun _ => by kernel_rfl
theorem z138 : ∀ w, (zeroValue 138).run Tryz.prog w = .ok (.nilIface) w := fun _ => by kernel_rfl
theorem z139 : ∀ w, (zeroValue 139).run Tryz.prog w = .ok (.nilIface) w := fun _ => by kernel_rfl
theorem sz145 : (Tryz.prog.info? 145).map (·.size) = some 1 := by kernel_rfl
theorem sz150 : (Tryz.prog.info? 150).map (·.size) = some 6 := by kernel_rfl
theorem co150 : Tryz.prog.cellsOf 150 = 6 := by kernel_rfl
theorem bo150 : Tryz.prog.bytesOf 150 = 64 := by kernel_rfl
theorem z150 : ∀ w, (zeroValue 150).run Tryz.prog w = .ok (.agg #[.int .i64 0, .string ⟨#[]⟩, .int .i64 0, .int .i64 0, .string ⟨#[]⟩, .int .i64 0]) w := fun _ => by kernel_rfl
theorem inf150 : (Tryz.prog.info? 150).map (fun i => (i.zero, i.size, i.bytes)) = some (some (.agg #[.int .i64 0, .string ⟨#[]⟩, .int .i64 0, .int .i64 0, .string ⟨#[]⟩, .int .i64 0]), 6, 64) := by kernel_rfl
theorem fa150_0 : ∀ a w, (Instr.fieldAt 150 (.pointer (some a)) 0).run Tryz.prog w = .ok (.pointer (some (a.add 0))) w := run_field (b := 1) Tryz.underlying150 rfl rfl (by kernel_rfl) (by decide)
theorem fa150_1 : ∀ a w, (Instr.fieldAt 150 (.pointer (some a)) 1).run Tryz.prog w = .ok (.pointer (some (a.add 1))) w := run_field (b := 1) Tryz.underlying150 rfl rfl (by kernel_rfl) (by decide)
theorem fa150_2 : ∀ a w, (Instr.fieldAt 150 (.pointer (some a)) 2).run Tryz.prog w = .ok (.pointer (some (a.add 2))) w := run_field (b := 1) Tryz.underlying150 rfl rfl (by kernel_rfl) (by decide)
theorem fa150_3 : ∀ a w, (Instr.fieldAt 150 (.pointer (some a)) 3).run Tryz.prog w = .ok (.pointer (some (a.add 3))) w := run_field (b := 1) Tryz.underlying150 rfl rfl (by kernel_rfl) (by decide)
theorem fa150_4 : ∀ a w, (Instr.fieldAt 150 (.pointer (some a)) 4).run Tryz.prog w = .ok (.pointer (some (a.add 4))) w := run_field (b := 1) Tryz.underlying150 rfl rfl (by kernel_rfl) (by decide)
theorem fa150_5 : ∀ a w, (Instr.fieldAt 150 (.pointer (some a)) 5).run Tryz.prog w = .ok (.pointer (some (a.add 5))) w := run_field (b := 1) Tryz.underlying150 rfl rfl (by kernel_rfl) (by decide)
theorem sz151 : (Tryz.prog.info? 151).map (·.size) = some 1 := by kernel_rfl
theorem co151 : Tryz.prog.cellsOf 151 = 1 := by kernel_rfl
theorem sz152 : (Tryz.prog.info? 152).map (·.size) = some 1 := by kernel_rfl
theorem co152 : Tryz.prog.cellsOf 152 = 1 := by kernel_rfl
theorem sz154 : (Tryz.prog.info? 154).map (·.size) = some 2 := by kernel_rfl
theorem co154 : Tryz.prog.cellsOf 154 = 2 := by kernel_rfl
theorem bo154 : Tryz.prog.bytesOf 154 = 48 := by kernel_rfl
theorem z154 : ∀ w, (zeroValue 154).run Tryz.prog w = .ok (.agg #[.slice none 0 0, .slice none 0 0]) w := fun _ => by kernel_rfl
theorem inf154 : (Tryz.prog.info? 154).map (fun i => (i.zero, i.size, i.bytes)) = some (some (.agg #[.slice none 0 0, .slice none 0 0]), 2, 48) := by kernel_rfl
theorem fa154_0 : ∀ a w, (Instr.fieldAt 154 (.pointer (some a)) 0).run Tryz.prog w = .ok (.pointer (some (a.add 0))) w := run_field (b := 1) Tryz.underlying154 rfl rfl (by kernel_rfl) (by decide)
theorem fa154_1 : ∀ a w, (Instr.fieldAt 154 (.pointer (some a)) 1).run Tryz.prog w = .ok (.pointer (some (a.add 1))) w := run_field (b := 1) Tryz.underlying154 rfl rfl (by kernel_rfl) (by decide)
theorem sz156 : (Tryz.prog.info? 156).map (·.size) = some 3 := by kernel_rfl
theorem co156 : Tryz.prog.cellsOf 156 = 3 := by kernel_rfl
theorem bo156 : Tryz.prog.bytesOf 156 = 32 := by kernel_rfl
theorem z156 : ∀ w, (zeroValue 156).run Tryz.prog w = .ok (.agg #[.int .i64 0, .bool false, .string ⟨#[]⟩]) w := fun _ => by kernel_rfl
theorem inf156 : (Tryz.prog.info? 156).map (fun i => (i.zero, i.size, i.bytes)) = some (some (.agg #[.int .i64 0, .bool false, .string ⟨#[]⟩]), 3, 32) := by kernel_rfl
theorem fa156_0 : ∀ a w, (Instr.fieldAt 156 (.pointer (some a)) 0).run Tryz.prog w = .ok (.pointer (some (a.add 0))) w := run_field (b := 1) Tryz.underlying156 rfl rfl (by kernel_rfl) (by decide)
theorem fa156_2 : ∀ a w, (Instr.fieldAt 156 (.pointer (some a)) 2).run Tryz.prog w = .ok (.pointer (some (a.add 2))) w := run_field (b := 1) Tryz.underlying156 rfl rfl (by kernel_rfl) (by decide)
theorem sz158 : (Tryz.prog.info? 158).map (·.size) = some 3 := by kernel_rfl
theorem co158 : Tryz.prog.cellsOf 158 = 3 := by kernel_rfl
theorem bo158 : Tryz.prog.bytesOf 158 = 32 := by kernel_rfl
theorem z158 : ∀ w, (zeroValue 158).run Tryz.prog w = .ok (.agg #[.int .i64 0, .int .i64 0, .string ⟨#[]⟩]) w := fun _ => by kernel_rfl
theorem inf158 : (Tryz.prog.info? 158).map (fun i => (i.zero, i.size, i.bytes)) = some (some (.agg #[.int .i64 0, .int .i64 0, .string ⟨#[]⟩]), 3, 32) := by kernel_rfl
theorem fa158_0 : ∀ a w, (Instr.fieldAt 158 (.pointer (some a)) 0).run Tryz.prog w = .ok (.pointer (some (a.add 0))) w := run_field (b := 1) Tryz.underlying158 rfl rfl (by kernel_rfl) (by decide)
theorem fa158_1 : ∀ a w, (Instr.fieldAt 158 (.pointer (some a)) 1).run Tryz.prog w = .ok (.pointer (some (a.add 1))) w := run_field (b := 1) Tryz.underlying158 rfl rfl (by kernel_rfl) (by decide)
theorem fa158_2 : ∀ a w, (Instr.fieldAt 158 (.pointer (some a)) 2).run Tryz.prog w = .ok (.pointer (some (a.add 2))) w := run_field (b := 1) Tryz.underlying158 rfl rfl (by kernel_rfl) (by decide)
theorem sz160 : (Tryz.prog.info? 160).map (·.size) = some 3 := by kernel_rfl
theorem co160 : Tryz.prog.cellsOf 160 = 3 := by kernel_rfl
theorem fa160_0 : ∀ a w, (Instr.fieldAt 160 (.pointer (some a)) 0).run Tryz.prog w = .ok (.pointer (some (a.add 0))) w := run_field (b := 1) Tryz.underlying160 rfl rfl (by kernel_rfl) (by decide)
theorem fa160_1 : ∀ a w, (Instr.fieldAt 160 (.pointer (some a)) 1).run Tryz.prog w = .ok (.pointer (some (a.add 1))) w := run_field (b := 1) Tryz.underlying160 rfl rfl (by kernel_rfl) (by decide)
theorem fa160_2 : ∀ a w, (Instr.fieldAt 160 (.pointer (some a)) 2).run Tryz.prog w = .ok (.pointer (some (a.add 2))) w := run_field (b := 1) Tryz.underlying160 rfl rfl (by kernel_rfl) (by decide)
theorem sz162 : (Tryz.prog.info? 162).map (·.size) = some 5 := by kernel_rfl
theorem co162 : Tryz.prog.cellsOf 162 = 5 := by kernel_rfl
theorem bo162 : Tryz.prog.bytesOf 162 = 56 := by kernel_rfl
theorem z162 : ∀ w, (zeroValue 162).run Tryz.prog w = .ok (.agg #[.string ⟨#[]⟩, .string ⟨#[]⟩, .int .i64 0, .int .i64 0, .int .i64 0]) w := fun _ => by kernel_rfl
theorem inf162 : (Tryz.prog.info? 162).map (fun i => (i.zero, i.size, i.bytes)) = some (some (.agg #[.string ⟨#[]⟩, .string ⟨#[]⟩, .int .i64 0, .int .i64 0, .int .i64 0]), 5, 56) := by kernel_rfl
theorem fa162_0 : ∀ a w, (Instr.fieldAt 162 (.pointer (some a)) 0).run Tryz.prog w = .ok (.pointer (some (a.add 0))) w := run_field (b := 1) Tryz.underlying162 rfl rfl (by kernel_rfl) (by decide)
theorem fa162_1 : ∀ a w, (Instr.fieldAt 162 (.pointer (some a)) 1).run Tryz.prog w = .ok (.pointer (some (a.add 1))) w := run_field (b := 1) Tryz.underlying162 rfl rfl (by kernel_rfl) (by decide)
theorem fa162_2 : ∀ a w, (Instr.fieldAt 162 (.pointer (some a)) 2).run Tryz.prog w = .ok (.pointer (some (a.add 2))) w := run_field (b := 3) Tryz.underlying162 rfl rfl (by kernel_rfl) (by decide)
theorem sz167 : (Tryz.prog.info? 167).map (·.size) = some 2 := by kernel_rfl
theorem co167 : Tryz.prog.cellsOf 167 = 2 := by kernel_rfl
theorem bo167 : Tryz.prog.bytesOf 167 = 24 := by kernel_rfl
theorem z167 : ∀ w, (zeroValue 167).run Tryz.prog w = .ok (.agg #[.string ⟨#[]⟩, .int .i64 0]) w := fun _ => by kernel_rfl
theorem fa167_0 : ∀ a w, (Instr.fieldAt 167 (.pointer (some a)) 0).run Tryz.prog w = .ok (.pointer (some (a.add 0))) w := run_field (b := 1) Tryz.underlying167 rfl rfl (by kernel_rfl) (by decide)
theorem fa167_1 : ∀ a w, (Instr.fieldAt 167 (.pointer (some a)) 1).run Tryz.prog w = .ok (.pointer (some (a.add 1))) w := run_field (b := 1) Tryz.underlying167 rfl rfl (by kernel_rfl) (by decide)
theorem sz171 : (Tryz.prog.info? 171).map (·.size) = some 7 := by kernel_rfl
theorem co171 : Tryz.prog.cellsOf 171 = 7 := by kernel_rfl
theorem bo171 : Tryz.prog.bytesOf 171 = 72 := by kernel_rfl
theorem z171 : ∀ w, (zeroValue 171).run Tryz.prog w = .ok (.agg #[.string ⟨#[]⟩, .string ⟨#[]⟩, .int .i64 0, .int .i64 0, .int .i64 0, .int .i64 0, .int .i64 0]) w := fun _ => by kernel_rfl
theorem fa171_0 : ∀ a w, (Instr.fieldAt 171 (.pointer (some a)) 0).run Tryz.prog w = .ok (.pointer (some (a.add 0))) w := run_field (b := 1) Tryz.underlying171 rfl rfl (by kernel_rfl) (by decide)
theorem fa171_1 : ∀ a w, (Instr.fieldAt 171 (.pointer (some a)) 1).run Tryz.prog w = .ok (.pointer (some (a.add 1))) w := run_field (b := 1) Tryz.underlying171 rfl rfl (by kernel_rfl) (by decide)
theorem fa171_2 : ∀ a w, (Instr.fieldAt 171 (.pointer (some a)) 2).run Tryz.prog w = .ok (.pointer (some (a.add 2))) w := run_field (b := 1) Tryz.underlying171 rfl rfl (by kernel_rfl) (by decide)
theorem fa171_3 : ∀ a w, (Instr.fieldAt 171 (.pointer (some a)) 3).run Tryz.prog w = .ok (.pointer (some (a.add 3))) w := run_field (b := 1) Tryz.underlying171 rfl rfl (by kernel_rfl) (by decide)
theorem fa171_4 : ∀ a w, (Instr.fieldAt 171 (.pointer (some a)) 4).run Tryz.prog w = .ok (.pointer (some (a.add 4))) w := run_field (b := 1) Tryz.underlying171 rfl rfl (by kernel_rfl) (by decide)
theorem fa171_5 : ∀ a w, (Instr.fieldAt 171 (.pointer (some a)) 5).run Tryz.prog w = .ok (.pointer (some (a.add 5))) w := run_field (b := 1) Tryz.underlying171 rfl rfl (by kernel_rfl) (by decide)
theorem fa171_6 : ∀ a w, (Instr.fieldAt 171 (.pointer (some a)) 6).run Tryz.prog w = .ok (.pointer (some (a.add 6))) w := run_field (b := 1) Tryz.underlying171 rfl rfl (by kernel_rfl) (by decide)
theorem sz175 : (Tryz.prog.info? 175).map (·.size) = some 2 := by kernel_rfl
theorem co175 : Tryz.prog.cellsOf 175 = 2 := by kernel_rfl
theorem bo175 : Tryz.prog.bytesOf 175 = 40 := by kernel_rfl
theorem z175 : ∀ w, (zeroValue 175).run Tryz.prog w = .ok (.agg #[.string ⟨#[]⟩, .slice none 0 0]) w := fun _ => by kernel_rfl
theorem inf175 : (Tryz.prog.info? 175).map (fun i => (i.zero, i.size, i.bytes)) = some (some (.agg #[.string ⟨#[]⟩, .slice none 0 0]), 2, 40) := by kernel_rfl
theorem fa175_0 : ∀ a w, (Instr.fieldAt 175 (.pointer (some a)) 0).run Tryz.prog w = .ok (.pointer (some (a.add 0))) w := run_field (b := 1) Tryz.underlying175 rfl rfl (by kernel_rfl) (by decide)
theorem fa175_1 : ∀ a w, (Instr.fieldAt 175 (.pointer (some a)) 1).run Tryz.prog w = .ok (.pointer (some (a.add 1))) w := run_field (b := 1) Tryz.underlying175 rfl rfl (by kernel_rfl) (by decide)
theorem sz181 : (Tryz.prog.info? 181).map (·.size) = some 1 := by kernel_rfl
theorem z183 : ∀ w, (zeroValue 183).run Tryz.prog w = .ok (.agg #[.slice none 0 0, .slice none 0 0, .map none, .int .i64 0, .map none]) w := fun _ => by kernel_rfl
theorem fa183_1 : ∀ a w, (Instr.fieldAt 183 (.pointer (some a)) 1).run Tryz.prog w = .ok (.pointer (some (a.add 1))) w := run_field (b := 1) Tryz.underlying183 rfl rfl (by kernel_rfl) (by decide)
theorem fa183_2 : ∀ a w, (Instr.fieldAt 183 (.pointer (some a)) 2).run Tryz.prog w = .ok (.pointer (some (a.add 2))) w := run_field (b := 1) Tryz.underlying183 rfl rfl (by kernel_rfl) (by decide)
theorem sz185 : (Tryz.prog.info? 185).map (·.size) = some 3 := by kernel_rfl
theorem z185 : ∀ w, (zeroValue 185).run Tryz.prog w = .ok (.agg #[.int .i64 0, .int .i64 0, .int .i64 0]) w := fun _ => by kernel_rfl
theorem inf185 : (Tryz.prog.info? 185).map (fun i => (i.zero, i.size, i.bytes)) = some (some (.agg #[.int .i64 0, .int .i64 0, .int .i64 0]), 3, 24) := by kernel_rfl
theorem z199 : ∀ w, (zeroValue 199).run Tryz.prog w = .ok (.agg #[.map none, .int .i64 0, .slice none 0 0]) w := fun _ => by kernel_rfl
theorem fa199_0 : ∀ a w, (Instr.fieldAt 199 (.pointer (some a)) 0).run Tryz.prog w = .ok (.pointer (some (a.add 0))) w := run_field (b := 1) Tryz.underlying199 rfl rfl (by kernel_rfl) (by decide)
theorem z202 : ∀ w, (zeroValue 202).run Tryz.prog w = .ok (.agg #[.map none]) w := fun _ => by kernel_rfl
theorem sz203 : (Tryz.prog.info? 203).map (·.size) = some 1 := by kernel_rfl
theorem z207 : ∀ w, (zeroValue 207).run Tryz.prog w = .ok (.agg #[.slice none 0 0, .slice none 0 0, .slice none 0 0, .int .i64 0, .int .i64 0]) w := fun _ => by kernel_rfl
theorem fa207_0 : ∀ a w, (Instr.fieldAt 207 (.pointer (some a)) 0).run Tryz.prog w = .ok (.pointer (some (a.add 0))) w := run_field (b := 1) Tryz.underlying207 rfl rfl (by kernel_rfl) (by decide)
theorem fa207_4 : ∀ a w, (Instr.fieldAt 207 (.pointer (some a)) 4).run Tryz.prog w = .ok (.pointer (some (a.add 4))) w := run_field (b := 1) Tryz.underlying207 rfl rfl (by kernel_rfl) (by decide)
theorem z209 : ∀ w, (zeroValue 209).run Tryz.prog w = .ok (.agg #[.int .i64 0, .int .i64 0]) w := fun _ => by kernel_rfl
theorem sz210 : (Tryz.prog.info? 210).map (·.size) = some 1 := by kernel_rfl
theorem sz212 : (Tryz.prog.info? 212).map (·.size) = some 11 := by kernel_rfl
theorem z212 : ∀ w, (zeroValue 212).run Tryz.prog w = .ok (.agg #[.string ⟨#[]⟩, .string ⟨#[]⟩, .int .i64 0, .int .i64 0, .int .i64 0, .int .i64 0, .int .i64 0, .int .i64 0, .int .i64 0, .int .i64 0, .nilFunc]) w := fun _ => by kernel_rfl
theorem inf212 : (Tryz.prog.info? 212).map (fun i => (i.zero, i.size, i.bytes)) = some (some (.agg #[.string ⟨#[]⟩, .string ⟨#[]⟩, .int .i64 0, .int .i64 0, .int .i64 0, .int .i64 0, .int .i64 0, .int .i64 0, .int .i64 0, .int .i64 0, .nilFunc]), 11, 104) := by kernel_rfl
theorem fa212_3 : ∀ a w, (Instr.fieldAt 212 (.pointer (some a)) 3).run Tryz.prog w = .ok (.pointer (some (a.add 10))) w := run_field (b := 1) Tryz.underlying212 rfl rfl (by kernel_rfl) (by decide)
theorem z213 : ∀ w, (zeroValue 213).run Tryz.prog w = .ok (.map none) w := fun _ => by kernel_rfl
theorem z216 : ∀ w, (zeroValue 216).run Tryz.prog w = .ok (.agg #[.int .i64 0, .int .i64 0, .int .i64 0, .int .i64 0, .map none, .int .i64 0, .slice none 0 0, .int .i64 0, .int .i64 0, .int .i64 0]) w := fun _ => by kernel_rfl
theorem co431 : Tryz.prog.cellsOf 431 = 1 := by kernel_rfl
theorem co432 : Tryz.prog.cellsOf 432 = 1 := by kernel_rfl
theorem co433 : Tryz.prog.cellsOf 433 = 1 := by kernel_rfl
theorem co435 : Tryz.prog.cellsOf 435 = 9 := by kernel_rfl
theorem co460 : Tryz.prog.cellsOf 460 = 1 := by kernel_rfl
theorem co462 : Tryz.prog.cellsOf 462 = 3 := by kernel_rfl
theorem bo462 : Tryz.prog.bytesOf 462 = 56 := by kernel_rfl
theorem co464 : Tryz.prog.cellsOf 464 = 2 := by kernel_rfl
theorem bo464 : Tryz.prog.bytesOf 464 = 32 := by kernel_rfl
theorem co466 : Tryz.prog.cellsOf 466 = 3 := by kernel_rfl
theorem bo466 : Tryz.prog.bytesOf 466 = 40 := by kernel_rfl
theorem co471 : Tryz.prog.cellsOf 471 = 6 := by kernel_rfl
theorem bo471 : Tryz.prog.bytesOf 471 = 72 := by kernel_rfl
theorem cf20 : ∀ args w, (callFunc 20 args).run Tryz.prog w = .ok (.enter 20 args) w := run_cf Tryz.func20 (by kernel_rfl) rfl
theorem cf21 : ∀ args w, (callFunc 21 args).run Tryz.prog w = .ok (.enter 21 args) w := run_cf Tryz.func21 (by kernel_rfl) rfl
theorem cf22 : ∀ args w, (callFunc 22 args).run Tryz.prog w = .ok (.enter 22 args) w := run_cf Tryz.func22 (by kernel_rfl) rfl
theorem cf23 : ∀ args w, (callFunc 23 args).run Tryz.prog w = .ok (.enter 23 args) w := run_cf Tryz.func23 (by kernel_rfl) rfl
theorem cf24 : ∀ args w, (callFunc 24 args).run Tryz.prog w = .ok (.enter 24 args) w := run_cf Tryz.func24 (by kernel_rfl) rfl
theorem cf25 : ∀ args w, (callFunc 25 args).run Tryz.prog w = .ok (.enter 25 args) w := run_cf Tryz.func25 (by kernel_rfl) rfl
theorem cf26 : ∀ args w, (callFunc 26 args).run Tryz.prog w = .ok (.enter 26 args) w := run_cf Tryz.func26 (by kernel_rfl) rfl
theorem cf44 : ∀ args w, (callFunc 44 args).run Tryz.prog w = .ok (.enter 44 args) w := run_cf Tryz.func44 (by kernel_rfl) rfl
theorem cf45 : ∀ args w, (callFunc 45 args).run Tryz.prog w = .ok (.enter 45 args) w := run_cf Tryz.func45 (by kernel_rfl) rfl
theorem cf46 : ∀ args w, (callFunc 46 args).run Tryz.prog w = .ok (.enter 46 args) w := run_cf Tryz.func46 (by kernel_rfl) rfl
theorem cf47 : ∀ args w, (callFunc 47 args).run Tryz.prog w = .ok (.enter 47 args) w := run_cf Tryz.func47 (by kernel_rfl) rfl
theorem cf48 : ∀ args w, (callFunc 48 args).run Tryz.prog w = .ok (.enter 48 args) w := run_cf Tryz.func48 (by kernel_rfl) rfl
theorem cf49 : ∀ args w, (callFunc 49 args).run Tryz.prog w = .ok (.enter 49 args) w := run_cf Tryz.func49 (by kernel_rfl) rfl
theorem cf50 : ∀ args w, (callFunc 50 args).run Tryz.prog w = .ok (.enter 50 args) w := run_cf Tryz.func50 (by kernel_rfl) rfl
theorem cf51 : ∀ args w, (callFunc 51 args).run Tryz.prog w = .ok (.enter 51 args) w := run_cf Tryz.func51 (by kernel_rfl) rfl
theorem cf52 : ∀ args w, (callFunc 52 args).run Tryz.prog w = .ok (.enter 52 args) w := run_cf Tryz.func52 (by kernel_rfl) rfl
theorem cf53 : ∀ args w, (callFunc 53 args).run Tryz.prog w = .ok (.enter 53 args) w := run_cf Tryz.func53 (by kernel_rfl) rfl
theorem cf54 : ∀ args w, (callFunc 54 args).run Tryz.prog w = .ok (.enter 54 args) w := run_cf Tryz.func54 (by kernel_rfl) rfl
theorem cf55 : ∀ args w, (callFunc 55 args).run Tryz.prog w = .ok (.enter 55 args) w := run_cf Tryz.func55 (by kernel_rfl) rfl
theorem cf56 : ∀ args w, (callFunc 56 args).run Tryz.prog w = .ok (.enter 56 args) w := run_cf Tryz.func56 (by kernel_rfl) rfl
theorem cf57 : ∀ args w, (callFunc 57 args).run Tryz.prog w = .ok (.enter 57 args) w := run_cf Tryz.func57 (by kernel_rfl) rfl
theorem cf58 : ∀ args w, (callFunc 58 args).run Tryz.prog w = .ok (.enter 58 args) w := run_cf Tryz.func58 (by kernel_rfl) rfl
theorem cf59 : ∀ args w, (callFunc 59 args).run Tryz.prog w = .ok (.enter 59 args) w := run_cf Tryz.func59 (by kernel_rfl) rfl
theorem cf60 : ∀ args w, (callFunc 60 args).run Tryz.prog w = .ok (.enter 60 args) w := run_cf Tryz.func60 (by kernel_rfl) rfl
theorem cf61 : ∀ args w, (callFunc 61 args).run Tryz.prog w = .ok (.enter 61 args) w := run_cf Tryz.func61 (by kernel_rfl) rfl
theorem cf62 : ∀ args w, (callFunc 62 args).run Tryz.prog w = .ok (.enter 62 args) w := run_cf Tryz.func62 (by kernel_rfl) rfl
theorem cf63 : ∀ args w, (callFunc 63 args).run Tryz.prog w = .ok (.enter 63 args) w := run_cf Tryz.func63 (by kernel_rfl) rfl
theorem cf64 : ∀ args w, (callFunc 64 args).run Tryz.prog w = .ok (.enter 64 args) w := run_cf Tryz.func64 (by kernel_rfl) rfl
theorem cf65 : ∀ args w, (callFunc 65 args).run Tryz.prog w = .ok (.enter 65 args) w := run_cf Tryz.func65 (by kernel_rfl) rfl
theorem cf66 : ∀ args w, (callFunc 66 args).run Tryz.prog w = .ok (.enter 66 args) w := run_cf Tryz.func66 (by kernel_rfl) rfl
theorem cf67 : ∀ args w, (callFunc 67 args).run Tryz.prog w = .ok (.enter 67 args) w := run_cf Tryz.func67 (by kernel_rfl) rfl
theorem cf68 : ∀ args w, (callFunc 68 args).run Tryz.prog w = .ok (.enter 68 args) w := run_cf Tryz.func68 (by kernel_rfl) rfl
theorem cf69 : ∀ args w, (callFunc 69 args).run Tryz.prog w = .ok (.enter 69 args) w := run_cf Tryz.func69 (by kernel_rfl) rfl
theorem cf70 : ∀ args w, (callFunc 70 args).run Tryz.prog w = .ok (.enter 70 args) w := run_cf Tryz.func70 (by kernel_rfl) rfl
theorem cf71 : ∀ args w, (callFunc 71 args).run Tryz.prog w = .ok (.enter 71 args) w := run_cf Tryz.func71 (by kernel_rfl) rfl
theorem cf72 : ∀ args w, (callFunc 72 args).run Tryz.prog w = .ok (.enter 72 args) w := run_cf Tryz.func72 (by kernel_rfl) rfl
theorem cf73 : ∀ args w, (callFunc 73 args).run Tryz.prog w = .ok (.enter 73 args) w := run_cf Tryz.func73 (by kernel_rfl) rfl
theorem cf74 : ∀ args w, (callFunc 74 args).run Tryz.prog w = .ok (.enter 74 args) w := run_cf Tryz.func74 (by kernel_rfl) rfl
theorem cf76 : ∀ args w, (callFunc 76 args).run Tryz.prog w = .ok (.enter 76 args) w := run_cf Tryz.func76 (by kernel_rfl) rfl
theorem cf87 : ∀ args w, (callFunc 87 args).run Tryz.prog w = .ok (.enter 87 args) w := run_cf Tryz.func87 (by kernel_rfl) rfl
theorem cf103 : ∀ args w, (callFunc 103 args).run Tryz.prog w = .ok (.enter 103 args) w := run_cf Tryz.func103 (by kernel_rfl) rfl
theorem cf110 : ∀ args w, (callFunc 110 args).run Tryz.prog w = .ok (.enter 110 args) w := run_cf Tryz.func110 (by kernel_rfl) rfl
theorem cf111 : ∀ args w, (callFunc 111 args).run Tryz.prog w = .ok (.enter 111 args) w := run_cf Tryz.func111 (by kernel_rfl) rfl
theorem cf112 : ∀ args w, (callFunc 112 args).run Tryz.prog w = .ok (.enter 112 args) w := run_cf Tryz.func112 (by kernel_rfl) rfl
theorem cf113 : ∀ args w, (callFunc 113 args).run Tryz.prog w = .ok (.enter 113 args) w := run_cf Tryz.func113 (by kernel_rfl) rfl
theorem cf114 : ∀ args w, (callFunc 114 args).run Tryz.prog w = .ok (.enter 114 args) w := run_cf Tryz.func114 (by kernel_rfl) rfl
theorem cf115 : ∀ args w, (callFunc 115 args).run Tryz.prog w = .ok (.enter 115 args) w := run_cf Tryz.func115 (by kernel_rfl) rfl
theorem cf116 : ∀ args w, (callFunc 116 args).run Tryz.prog w = .ok (.enter 116 args) w := run_cf Tryz.func116 (by kernel_rfl) rfl
theorem cf117 : ∀ args w, (callFunc 117 args).run Tryz.prog w = .ok (.enter 117 args) w := run_cf Tryz.func117 (by kernel_rfl) rfl
theorem cf118 : ∀ args w, (callFunc 118 args).run Tryz.prog w = .ok (.enter 118 args) w := run_cf Tryz.func118 (by kernel_rfl) rfl
theorem cf119 : ∀ args w, (callFunc 119 args).run Tryz.prog w = .ok (.enter 119 args) w := run_cf Tryz.func119 (by kernel_rfl) rfl
theorem cf120 : ∀ args w, (callFunc 120 args).run Tryz.prog w = .ok (.enter 120 args) w := run_cf Tryz.func120 (by kernel_rfl) rfl
theorem cf121 : ∀ args w, (callFunc 121 args).run Tryz.prog w = .ok (.enter 121 args) w := run_cf Tryz.func121 (by kernel_rfl) rfl
theorem cf122 : ∀ args w, (callFunc 122 args).run Tryz.prog w = .ok (.enter 122 args) w := run_cf Tryz.func122 (by kernel_rfl) rfl
theorem cf123 : ∀ args w, (callFunc 123 args).run Tryz.prog w = .ok (.enter 123 args) w := run_cf Tryz.func123 (by kernel_rfl) rfl
theorem cf124 : ∀ args w, (callFunc 124 args).run Tryz.prog w = .ok (.enter 124 args) w := run_cf Tryz.func124 (by kernel_rfl) rfl
theorem cf125 : ∀ args w, (callFunc 125 args).run Tryz.prog w = .ok (.enter 125 args) w := run_cf Tryz.func125 (by kernel_rfl) rfl
theorem cf126 : ∀ args w, (callFunc 126 args).run Tryz.prog w = .ok (.enter 126 args) w := run_cf Tryz.func126 (by kernel_rfl) rfl
theorem cf127 : ∀ args w, (callFunc 127 args).run Tryz.prog w = .ok (.enter 127 args) w := run_cf Tryz.func127 (by kernel_rfl) rfl
theorem cf128 : ∀ args w, (callFunc 128 args).run Tryz.prog w = .ok (.enter 128 args) w := run_cf Tryz.func128 (by kernel_rfl) rfl
theorem cf129 : ∀ args w, (callFunc 129 args).run Tryz.prog w = .ok (.enter 129 args) w := run_cf Tryz.func129 (by kernel_rfl) rfl
theorem cf130 : ∀ args w, (callFunc 130 args).run Tryz.prog w = .ok (.enter 130 args) w := run_cf Tryz.func130 (by kernel_rfl) rfl
theorem cf131 : ∀ args w, (callFunc 131 args).run Tryz.prog w = .ok (.enter 131 args) w := run_cf Tryz.func131 (by kernel_rfl) rfl
theorem cf132 : ∀ args w, (callFunc 132 args).run Tryz.prog w = .ok (.enter 132 args) w := run_cf Tryz.func132 (by kernel_rfl) rfl
theorem cf133 : ∀ args w, (callFunc 133 args).run Tryz.prog w = .ok (.enter 133 args) w := run_cf Tryz.func133 (by kernel_rfl) rfl
theorem cf134 : ∀ args w, (callFunc 134 args).run Tryz.prog w = .ok (.enter 134 args) w := run_cf Tryz.func134 (by kernel_rfl) rfl
theorem cf135 : ∀ args w, (callFunc 135 args).run Tryz.prog w = .ok (.enter 135 args) w := run_cf Tryz.func135 (by kernel_rfl) rfl
theorem cf136 : ∀ args w, (callFunc 136 args).run Tryz.prog w = .ok (.enter 136 args) w := run_cf Tryz.func136 (by kernel_rfl) rfl
theorem cf137 : ∀ args w, (callFunc 137 args).run Tryz.prog w = .ok (.enter 137 args) w := run_cf Tryz.func137 (by kernel_rfl) rfl
theorem cf138 : ∀ args w, (callFunc 138 args).run Tryz.prog w = .ok (.enter 138 args) w := run_cf Tryz.func138 (by kernel_rfl) rfl
theorem cf139 : ∀ args w, (callFunc 139 args).run Tryz.prog w = .ok (.enter 139 args) w := run_cf Tryz.func139 (by kernel_rfl) rfl
theorem cf145 : ∀ args w, (callFunc 145 args).run Tryz.prog w = .ok (.enter 145 args) w := run_cf Tryz.func145 (by kernel_rfl) rfl
theorem cf148 : ∀ args w, (callFunc 148 args).run Tryz.prog w = .ok (.enter 148 args) w := run_cf Tryz.func148 (by kernel_rfl) rfl
theorem cf149 : ∀ args w, (callFunc 149 args).run Tryz.prog w = .ok (.enter 149 args) w := run_cf Tryz.func149 (by kernel_rfl) rfl
theorem cf162 : ∀ args w, (callFunc 162 args).run Tryz.prog w = .ok (.enter 162 args) w := run_cf Tryz.func162 (by kernel_rfl) rfl
theorem cf178 : ∀ args w, (callFunc 178 args).run Tryz.prog w = .ok (.enter 178 args) w := run_cf Tryz.func178 (by kernel_rfl) rfl
theorem cf179 : ∀ args w, (callFunc 179 args).run Tryz.prog w = .ok (.enter 179 args) w := run_cf Tryz.func179 (by kernel_rfl) rfl
theorem cf180 : ∀ args w, (callFunc 180 args).run Tryz.prog w = .ok (.enter 180 args) w := run_cf Tryz.func180 (by kernel_rfl) rfl
theorem cf181 : ∀ args w, (callFunc 181 args).run Tryz.prog w = .ok (.enter 181 args) w := run_cf Tryz.func181 (by kernel_rfl) rfl
theorem cf182 : ∀ args w, (callFunc 182 args).run Tryz.prog w = .ok (.enter 182 args) w := run_cf Tryz.func182 (by kernel_rfl) rfl
theorem cf183 : ∀ args w, (callFunc 183 args).run Tryz.prog w = .ok (.enter 183 args) w := run_cf Tryz.func183 (by kernel_rfl) rfl
theorem cf184 : ∀ args w, (callFunc 184 args).run Tryz.prog w = .ok (.enter 184 args) w := run_cf Tryz.func184 (by kernel_rfl) rfl
theorem cf185 : ∀ args w, (callFunc 185 args).run Tryz.prog w = .ok (.enter 185 args) w := run_cf Tryz.func185 (by kernel_rfl) rfl
theorem cf186 : ∀ args w, (callFunc 186 args).run Tryz.prog w = .ok (.enter 186 args) w := run_cf Tryz.func186 (by kernel_rfl) rfl
theorem cf187 : ∀ args w, (callFunc 187 args).run Tryz.prog w = .ok (.enter 187 args) w := run_cf Tryz.func187 (by kernel_rfl) rfl
theorem cf188 : ∀ args w, (callFunc 188 args).run Tryz.prog w = .ok (.enter 188 args) w := run_cf Tryz.func188 (by kernel_rfl) rfl
theorem cf189 : ∀ args w, (callFunc 189 args).run Tryz.prog w = .ok (.enter 189 args) w := run_cf Tryz.func189 (by kernel_rfl) rfl
theorem cf190 : ∀ args w, (callFunc 190 args).run Tryz.prog w = .ok (.enter 190 args) w := run_cf Tryz.func190 (by kernel_rfl) rfl
theorem cf191 : ∀ args w, (callFunc 191 args).run Tryz.prog w = .ok (.enter 191 args) w := run_cf Tryz.func191 (by kernel_rfl) rfl
theorem cf192 : ∀ args w, (callFunc 192 args).run Tryz.prog w = .ok (.enter 192 args) w := run_cf Tryz.func192 (by kernel_rfl) rfl
theorem cf193 : ∀ args w, (callFunc 193 args).run Tryz.prog w = .ok (.enter 193 args) w := run_cf Tryz.func193 (by kernel_rfl) rfl
theorem cf195 : ∀ args w, (callFunc 195 args).run Tryz.prog w = .ok (.enter 195 args) w := run_cf Tryz.func195 (by kernel_rfl) rfl
theorem cf196 : ∀ args w, (callFunc 196 args).run Tryz.prog w = .ok (.enter 196 args) w := run_cf Tryz.func196 (by kernel_rfl) rfl
theorem cf199 : ∀ args w, (callFunc 199 args).run Tryz.prog w = .ok (.enter 199 args) w := run_cf Tryz.func199 (by kernel_rfl) rfl
theorem cf217 : ∀ args w, (callFunc 217 args).run Tryz.prog w = .ok (.enter 217 args) w := run_cf Tryz.func217 (by kernel_rfl) rfl
theorem cf229 : ∀ args w, (callFunc 229 args).run Tryz.prog w = .ok (.enter 229 args) w := run_cf Tryz.func229 (by kernel_rfl) rfl
theorem cf230 : ∀ args w, (callFunc 230 args).run Tryz.prog w = .ok (.enter 230 args) w := run_cf Tryz.func230 (by kernel_rfl) rfl
theorem cf241 : ∀ args w, (callFunc 241 args).run Tryz.prog w = .ok (.enter 241 args) w := run_cf Tryz.func241 (by kernel_rfl) rfl
theorem cf242 : ∀ args w, (callFunc 242 args).run Tryz.prog w = .ok (.enter 242 args) w := run_cf Tryz.func242 (by kernel_rfl) rfl
theorem cf255 : ∀ args w, (callFunc 255 args).run Tryz.prog w = .ok (.enter 255 args) w := run_cf Tryz.func255 (by kernel_rfl) rfl
theorem cf265 : ∀ args w, (callFunc 265 args).run Tryz.prog w = .ok (.enter 265 args) w := run_cf Tryz.func265 (by kernel_rfl) rfl
theorem cf266 : ∀ args w, (callFunc 266 args).run Tryz.prog w = .ok (.enter 266 args) w := run_cf Tryz.func266 (by kernel_rfl) rfl
theorem cf272 : ∀ args w, (callFunc 272 args).run Tryz.prog w = .ok (.enter 272 args) w := run_cf Tryz.func272 (by kernel_rfl) rfl
theorem cf293 : ∀ args w, (callFunc 293 args).run Tryz.prog w = .ok (.enter 293 args) w := run_cf Tryz.func293 (by kernel_rfl) rfl
theorem cf294 : ∀ args w, (callFunc 294 args).run Tryz.prog w = .ok (.enter 294 args) w := run_cf Tryz.func294 (by kernel_rfl) rfl
theorem cf295 : ∀ args w, (callFunc 295 args).run Tryz.prog w = .ok (.enter 295 args) w := run_cf Tryz.func295 (by kernel_rfl) rfl
theorem cf299 : ∀ args w, (callFunc 299 args).run Tryz.prog w = .ok (.enter 299 args) w := run_cf Tryz.func299 (by kernel_rfl) rfl
theorem cf318 : ∀ args w, (callFunc 318 args).run Tryz.prog w = .ok (.enter 318 args) w := run_cf Tryz.func318 (by kernel_rfl) rfl
theorem cf320 : ∀ args w, (callFunc 320 args).run Tryz.prog w = .ok (.enter 320 args) w := run_cf Tryz.func320 (by kernel_rfl) rfl
end Go.Proofs.YtdcbiepoghdanaaGreatDoor
