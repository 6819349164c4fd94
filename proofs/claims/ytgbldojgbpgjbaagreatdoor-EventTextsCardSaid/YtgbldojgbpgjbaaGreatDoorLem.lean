/- Closed facts on this seat's program: sizes, fields, zero values, calls. Written by a program of mine. -/
import Derived.Test.YtgbldojgbpgjbaaGreatDoorMore
import Derived.Test.YtgbldojgbpgjbaaGreatDoorRows
namespace Go.Proofs.YtgbldojgbpgjbaaGreatDoor
open Go.RowKit Go.Eng
theorem z2 : ∀ w, (zeroValue 2).run Tryz.prog w = .ok (.int .i64 0) w := fun _ => by kernel_rfl
theorem sz3 : (Tryz.prog.info? 3).map (·.size) = some 1 := by kernel_rfl
theorem co3 : Tryz.prog.cellsOf 3 = 1 := by kernel_rfl
theorem z3 : ∀ w, (zeroValue 3).run Tryz.prog w = .ok (.int .i64 0) w := fun _ => by kernel_rfl
theorem inf3 : (Tryz.prog.info? 3).map (fun i => (i.zero, i.size, i.bytes)) = some (some (.int .i64 0), 1, 8) := by kernel_rfl
theorem sz4 : (Tryz.prog.info? 4).map (·.size) = some 1 := by kernel_rfl
theorem co4 : Tryz.prog.cellsOf 4 = 1 := by kernel_rfl
theorem z4 : ∀ w, (zeroValue 4).run Tryz.prog w = .ok (.bool false) w := fun _ => by kernel_rfl
theorem sz5 : (Tryz.prog.info? 5).map (·.size) = some 1 := by kernel_rfl
theorem co5 : Tryz.prog.cellsOf 5 = 1 := by kernel_rfl
theorem z5 : ∀ w, (zeroValue 5).run Tryz.prog w = .ok (.int .u8 0) w := fun _ => by kernel_rfl
theorem inf5 : (Tryz.prog.info? 5).map (fun i => (i.zero, i.size, i.bytes)) = some (some (.int .u8 0), 1, 1) := by kernel_rfl
theorem sz9 : (Tryz.prog.info? 9).map (·.size) = some 1 := by kernel_rfl
theorem co9 : Tryz.prog.cellsOf 9 = 1 := by kernel_rfl
theorem z9 : ∀ w, (zeroValue 9).run Tryz.prog w = .ok (.string ⟨#[]⟩) w := fun _ => by kernel_rfl
theorem inf9 : (Tryz.prog.info? 9).map (fun i => (i.zero, i.size, i.bytes)) = some (some (.string ⟨#[]⟩), 1, 16) := by kernel_rfl
theorem z10 : ∀ w, (zeroValue 10).run Tryz.prog w = .ok (.string ⟨#[]⟩) w := fun _ => by kernel_rfl
theorem z20 : ∀ w, (zeroValue 20).run Tryz.prog w = .ok (.nilIface) w := fun _ => by kernel_rfl
theorem z21 : ∀ w, (zeroValue 21).run Tryz.prog w = .ok (.int .i32 0) w := fun _ => by kernel_rfl
theorem sz22 : (Tryz.prog.info? 22).map (·.size) = some 1 := by kernel_rfl
theorem co22 : Tryz.prog.cellsOf 22 = 1 := by kernel_rfl
theorem sz23 : (Tryz.prog.info? 23).map (·.size) = some 1 := by kernel_rfl
theorem co23 : Tryz.prog.cellsOf 23 = 1 := by kernel_rfl
theorem sz24 : (Tryz.prog.info? 24).map (·.size) = some 1 := by kernel_rfl
theorem co24 : Tryz.prog.cellsOf 24 = 1 := by kernel_rfl
theorem z24 : ∀ w, (zeroValue 24).run Tryz.prog w = .ok (.slice none 0 0) w := fun _ => by kernel_rfl
theorem sz26 : (Tryz.prog.info? 26).map (·.size) = some 9 := by kernel_rfl
theorem co26 : Tryz.prog.cellsOf 26 = 9 := by kernel_rfl
theorem z26 : ∀ w, (zeroValue 26).run Tryz.prog w = .ok (.agg #[.string ⟨#[]⟩, .int .i64 0, .int .i64 0, .slice none 0 0, .slice none 0 0, .slice none 0 0, .string ⟨#[]⟩, .string ⟨#[]⟩, .int .i64 0]) w := fun _ => by kernel_rfl
theorem fa26_0 : ∀ a w, (Instr.fieldAt 26 (.pointer (some a)) 0).run Tryz.prog w = .ok (.pointer (some (a.add 0))) w := run_field (b := 1) Tryz.underlying26 rfl rfl (by kernel_rfl) (by decide)
theorem fa26_1 : ∀ a w, (Instr.fieldAt 26 (.pointer (some a)) 1).run Tryz.prog w = .ok (.pointer (some (a.add 1))) w := run_field (b := 1) Tryz.underlying26 rfl rfl (by kernel_rfl) (by decide)
theorem fa26_2 : ∀ a w, (Instr.fieldAt 26 (.pointer (some a)) 2).run Tryz.prog w = .ok (.pointer (some (a.add 2))) w := run_field (b := 1) Tryz.underlying26 rfl rfl (by kernel_rfl) (by decide)
theorem fa26_3 : ∀ a w, (Instr.fieldAt 26 (.pointer (some a)) 3).run Tryz.prog w = .ok (.pointer (some (a.add 3))) w := run_field (b := 1) Tryz.underlying26 rfl rfl (by kernel_rfl) (by decide)
theorem fa26_4 : ∀ a w, (Instr.fieldAt 26 (.pointer (some a)) 4).run Tryz.prog w = .ok (.pointer (some (a.add 4))) w := run_field (b := 1) Tryz.underlying26 rfl rfl (by kernel_rfl) (by decide)
theorem fa26_5 : ∀ a w, (Instr.fieldAt 26 (.pointer (some a)) 5).run Tryz.prog w = .ok (.pointer (some (a.add 5))) w := run_field (b := 1) Tryz.underlying26 rfl rfl (by kernel_rfl) (by decide)
theorem fa26_6 : ∀ a w, (Instr.fieldAt 26 (.pointer (some a)) 6).run Tryz.prog w = .ok (.pointer (some (a.add 6))) w := run_field (b := 1) Tryz.underlying26 rfl rfl (by kernel_rfl) (by decide)
theorem fa26_7 : ∀ a w, (Instr.fieldAt 26 (.pointer (some a)) 7).run Tryz.prog w = .ok (.pointer (some (a.add 7))) w := run_field (b := 1) Tryz.underlying26 rfl rfl (by kernel_rfl) (by decide)
theorem fa26_8 : ∀ a w, (Instr.fieldAt 26 (.pointer (some a)) 8).run Tryz.prog w = .ok (.pointer (some (a.add 8))) w := run_field (b := 1) Tryz.underlying26 rfl rfl (by kernel_rfl) (by decide)
theorem sz30 : (Tryz.prog.info? 30).map (·.size) = some 1 := by kernel_rfl
theorem inf30 : (Tryz.prog.info? 30).map (fun i => (i.zero, i.size, i.bytes)) = some (some (.int .i64 0), 1, 8) := by kernel_rfl
theorem sz32 : (Tryz.prog.info? 32).map (·.size) = some 1 := by kernel_rfl
theorem co32 : Tryz.prog.cellsOf 32 = 1 := by kernel_rfl
theorem sz36 : (Tryz.prog.info? 36).map (·.size) = some 3 := by kernel_rfl
theorem co36 : Tryz.prog.cellsOf 36 = 3 := by kernel_rfl
theorem bo36 : Tryz.prog.bytesOf 36 = 56 := by kernel_rfl
theorem z36 : ∀ w, (zeroValue 36).run Tryz.prog w = .ok (.agg #[.string ⟨#[]⟩, .string ⟨#[]⟩, .slice none 0 0]) w := fun _ => by kernel_rfl
theorem inf36 : (Tryz.prog.info? 36).map (fun i => (i.zero, i.size, i.bytes)) = some (some (.agg #[.string ⟨#[]⟩, .string ⟨#[]⟩, .slice none 0 0]), 3, 56) := by kernel_rfl
theorem fa36_0 : ∀ a w, (Instr.fieldAt 36 (.pointer (some a)) 0).run Tryz.prog w = .ok (.pointer (some (a.add 0))) w := run_field (b := 1) Tryz.underlying36 rfl rfl (by kernel_rfl) (by decide)
theorem fa36_1 : ∀ a w, (Instr.fieldAt 36 (.pointer (some a)) 1).run Tryz.prog w = .ok (.pointer (some (a.add 1))) w := run_field (b := 1) Tryz.underlying36 rfl rfl (by kernel_rfl) (by decide)
theorem fa36_2 : ∀ a w, (Instr.fieldAt 36 (.pointer (some a)) 2).run Tryz.prog w = .ok (.pointer (some (a.add 2))) w := run_field (b := 1) Tryz.underlying36 rfl rfl (by kernel_rfl) (by decide)
theorem sz45 : (Tryz.prog.info? 45).map (·.size) = some 6 := by kernel_rfl
theorem co45 : Tryz.prog.cellsOf 45 = 6 := by kernel_rfl
theorem bo45 : Tryz.prog.bytesOf 45 = 72 := by kernel_rfl
theorem z45 : ∀ w, (zeroValue 45).run Tryz.prog w = .ok (.agg #[.string ⟨#[]⟩, .string ⟨#[]⟩, .string ⟨#[]⟩, .int .i64 0, .int .i64 0, .bool false]) w := fun _ => by kernel_rfl
theorem inf45 : (Tryz.prog.info? 45).map (fun i => (i.zero, i.size, i.bytes)) = some (some (.agg #[.string ⟨#[]⟩, .string ⟨#[]⟩, .string ⟨#[]⟩, .int .i64 0, .int .i64 0, .bool false]), 6, 72) := by kernel_rfl
theorem fa45_0 : ∀ a w, (Instr.fieldAt 45 (.pointer (some a)) 0).run Tryz.prog w = .ok (.pointer (some (a.add 0))) w := run_field (b := 1) Tryz.underlying45 rfl rfl (by kernel_rfl) (by decide)
theorem fa45_1 : ∀ a w, (Instr.fieldAt 45 (.pointer (some a)) 1).run Tryz.prog w = .ok (.pointer (some (a.add 1))) w := run_field (b := 1) Tryz.underlying45 rfl rfl (by kernel_rfl) (by decide)
theorem fa45_2 : ∀ a w, (Instr.fieldAt 45 (.pointer (some a)) 2).run Tryz.prog w = .ok (.pointer (some (a.add 2))) w := run_field (b := 1) Tryz.underlying45 rfl rfl (by kernel_rfl) (by decide)
theorem fa45_3 : ∀ a w, (Instr.fieldAt 45 (.pointer (some a)) 3).run Tryz.prog w = .ok (.pointer (some (a.add 3))) w := run_field (b := 1) Tryz.underlying45 rfl rfl (by kernel_rfl) (by decide)
theorem fa45_4 : ∀ a w, (Instr.fieldAt 45 (.pointer (some a)) 4).run Tryz.prog w = .ok (.pointer (some (a.add 4))) w := run_field (b := 1) Tryz.underlying45 rfl rfl (by kernel_rfl) (by decide)
theorem fa45_5 : ∀ a w, (Instr.fieldAt 45 (.pointer (some a)) 5).run Tryz.prog w = .ok (.pointer (some (a.add 5))) w := run_field (b := 1) Tryz.underlying45 rfl rfl (by kernel_rfl) (by decide)
theorem z53 : ∀ w, (zeroValue 53).run Tryz.prog w = .ok (.slice none 0 0) w := fun _ => by kernel_rfl
theorem sz70 : (Tryz.prog.info? 70).map (·.size) = some 1 := by kernel_rfl
theorem z70 : ∀ w, (zeroValue 70).run Tryz.prog w = .ok (.pointer none) w := fun _ => by kernel_rfl
theorem sz71 : (Tryz.prog.info? 71).map (·.size) = some 1 := by kernel_rfl
theorem z72 : ∀ w, (zeroValue 72).run Tryz.prog w = .ok (.agg #[.pointer none, .slice none 0 0]) w := fun _ => by kernel_rfl
theorem sz73 : (Tryz.prog.info? 73).map (·.size) = some 2 := by kernel_rfl
theorem z73 : ∀ w, (zeroValue 73).run Tryz.prog w = .ok (.agg #[.pointer none, .slice none 0 0]) w := fun _ => by kernel_rfl
theorem fa73_0 : ∀ a w, (Instr.fieldAt 73 (.pointer (some a)) 0).run Tryz.prog w = .ok (.pointer (some (a.add 0))) w := run_field (b := 1) Tryz.underlying73 rfl rfl (by kernel_rfl) (by decide)
theorem fa73_1 : ∀ a w, (Instr.fieldAt 73 (.pointer (some a)) 1).run Tryz.prog w = .ok (.pointer (some (a.add 1))) w := run_field (b := 1) Tryz.underlying73 rfl rfl (by kernel_rfl) (by decide)
theorem z75 : ∀ w, (zeroValue 75).run Tryz.prog w = .ok (.nilIface) w := fun _ => by kernel_rfl
theorem sz83 : (Tryz.prog.info? 83).map (·.size) = some 2 := by kernel_rfl
theorem co83 : Tryz.prog.cellsOf 83 = 2 := by kernel_rfl
theorem bo83 : Tryz.prog.bytesOf 83 = 32 := by kernel_rfl
theorem z83 : ∀ w, (zeroValue 83).run Tryz.prog w = .ok (.agg #[.string ⟨#[]⟩, .string ⟨#[]⟩]) w := fun _ => by kernel_rfl
theorem inf83 : (Tryz.prog.info? 83).map (fun i => (i.zero, i.size, i.bytes)) = some (some (.agg #[.string ⟨#[]⟩, .string ⟨#[]⟩]), 2, 32) := by kernel_rfl
theorem fa83_0 : ∀ a w, (Instr.fieldAt 83 (.pointer (some a)) 0).run Tryz.prog w = .ok (.pointer (some (a.add 0))) w := run_field (b := 1) Tryz.underlying83 rfl rfl (by kernel_rfl) (by decide)
theorem fa83_1 : ∀ a w, (Instr.fieldAt 83 (.pointer (some a)) 1).run Tryz.prog w = .ok (.pointer (some (a.add 1))) w := run_field (b := 1) Tryz.underlying83 rfl rfl (by kernel_rfl) (by decide)
theorem sz85 : (Tryz.prog.info? 85).map (·.size) = some 3 := by kernel_rfl
theorem co85 : Tryz.prog.cellsOf 85 = 3 := by kernel_rfl
theorem bo85 : Tryz.prog.bytesOf 85 = 40 := by kernel_rfl
theorem z85 : ∀ w, (zeroValue 85).run Tryz.prog w = .ok (.agg #[.int .i64 0, .string ⟨#[]⟩, .string ⟨#[]⟩]) w := fun _ => by kernel_rfl
theorem inf85 : (Tryz.prog.info? 85).map (fun i => (i.zero, i.size, i.bytes)) = some (some (.agg #[.int .i64 0, .string ⟨#[]⟩, .string ⟨#[]⟩]), 3, 40) := by kernel_rfl
theorem fa85_0 : ∀ a w, (Instr.fieldAt 85 (.pointer (some a)) 0).run Tryz.prog w = .ok (.pointer (some (a.add 0))) w := run_field (b := 1) Tryz.underlying85 rfl rfl (by kernel_rfl) (by decide)
theorem fa85_1 : ∀ a w, (Instr.fieldAt 85 (.pointer (some a)) 1).run Tryz.prog w = .ok (.pointer (some (a.add 1))) w := run_field (b := 1) Tryz.underlying85 rfl rfl (by kernel_rfl) (by decide)
theorem fa85_2 : ∀ a w, (Instr.fieldAt 85 (.pointer (some a)) 2).run Tryz.prog w = .ok (.pointer (some (a.add 2))) w := run_field (b := 1) Tryz.underlying85 rfl rfl (by kernel_rfl) (by decide)
theorem z116 : ∀ w, (zeroValue 116).run Tryz.prog w = .ok (.slice none 0 0) w := fun _ => by kernel_rfl
theorem z117 : ∀ w, (zeroValue 117).run Tryz.prog w = .ok (.slice none 0 0) w := fun _ => by kernel_rfl
theorem z119 : ∀ w, (zeroValue 119).run Tryz.prog w = .ok (.agg #[.string ⟨#[]⟩, .int .i64 0, .slice none 0 0, .slice none 0 0, .slice none 0 0, .slice none 0 0]) w := fun _ => by kernel_rfl
theorem z124 : ∀ w, (zeroValue 124).run Tryz.prog w = .ok (.agg #[.string ⟨#[]⟩, .string ⟨#[]⟩, .int .i64 0, .int .i64 0]) w := fun _ => by kernel_rfl
theorem z145 : ∀ w, (zeroValue 145).run Tryz.prog w = .ok (.int .u64 0) w := fun _ => by kernel_rfl
theorem z173 : ∀ w, (zeroValue 173).run Tryz.prog w = .ok (.slice none 0 0) w := fun _ => by kernel_rfl
theorem z175 : ∀ w, (zeroValue 175).run Tryz.prog w = .ok (.agg #[.bool false, .bool false, .bool false, .bool false, .bool false, .bool false, .bool false, .bool false, .bool false, .bool false, .bool false, .bool false, .bool false, .bool false, .bool false, .bool false, .bool false, .bool false, .bool false, .bool false, .bool false, .bool false, .bool false, .bool false, .bool false, .bool false, .bool false, .bool false, .bool false, .bool false, .bool false, .bool false, .bool false, .bool false, .bool false, .bool false, .bool false, .bool false, .bool false, .bool false, .bool false, .bool false, .bool false, .bool false, .bool false, .bool false, .bool false, .bool false, .bool false, .bool false, .bool false, .bool false, .bool false, .bool false, .bool false, .bool false, .bool false, .bool false, .bool false, .bool false, .bool false, .bool false, .bool false, .bool false, .bool false, .bool false, .bool false, .bool false, .bool false, .bool false, .bool false, .bool false, .bool false, .bool false, .bool false, .bool false, .bool false, .bool false, .bool false, .bool false, .bool false, .bool false, .bool false, .bool false, .bool false, .bool false, .bool false, .bool false, .bool false, .bool false, .bool false, .bool false, .bool false, .bool false, .bool false, .bool false, .bool false, .bool false, .bool false, .bool false, .bool false, .bool false, .bool false, .bool false, .bool false, .bool false, .bool false, .bool false, .bool false, .bool false, .bool false, .bool false, .bool false, .bool false, .bool false, .bool false, .bool false, .bool false, .bool false, .bool false, .bool false, .bool false, .bool false, .bool false, .bool false, .bool false, .bool false, .bool false, .bool false, .bool false, .bool false, .bool false, .bool false, .bool false, .bool false, .bool false, .bool false, .bool false, .bool false, .bool false, .bool false, .bool false, .bool false, .bool false, .bool false, .bool false, .bool false, .bool false, .bool false, .bool false, .bool false, .bool false, .bool false, .bool false, .bool false, .bool false, .bool false, .bool false, .bool false, .bool false, .bool false, .bool false, .bool false, .bool false, .bool false, .bool false, .bool false, .bool false, .bool false, .bool false, .bool false, .bool false, .bool false, .bool false, .bool false, .bool false, .bool false, .bool false, .bool false, .bool false, .bool false, .bool false, .bool false, .bool false, .bool false, .bool false, .bool false, .bool false, .bool false, .bool false, .bool false, .bool false, .bool false, .bool false, .bool false, .bool false, .bool false, .bool false, .bool false, .bool false, .bool false, .bool false, .bool false, .bool false, .bool false, .bool false, .bool false, .bool false, .bool false, .bool false, .bool false, .bool false, .bool false, .bool false, .bool false, .bool false, .bool false, .bool false, .bool false, .bool false, .bool false, .bool false, .bool false, .bool false, .bool false, .bool false, .bool false, .bool false, .bool false, .bool false, .bool false, .bool false, .bool false, .bool false, .bool false, .bool false, .bool false, .bool false, .bool false, .bool false, .bool false, .bool false, .bool false, .bool false, .bool false, .bool false, .bool false, .bool false, .bool false, .bool false, .bool false, .bool false, .bool false, .bool false, .bool false, .bool false]) w := fun _ => by kernel_rfl
theorem z203 : ∀ w, (zeroValue 203).run Tryz.prog w = .ok (.agg #[.slice none 0 0, .int .i64 0, .string ⟨#[]⟩]) w := fun _ => by kernel_rfl
theorem fa203_0 : ∀ a w, (Instr.fieldAt 203 (.pointer (some a)) 0).run Tryz.prog w = .ok (.pointer (some (a.add 0))) w := run_field (b := 1) Tryz.underlying203 rfl rfl (by kernel_rfl) (by decide)
theorem fa203_1 : ∀ a w, (Instr.fieldAt 203 (.pointer (some a)) 1).run Tryz.prog w = .ok (.pointer (some (a.add 1))) w := run_field (b := 1) Tryz.underlying203 rfl rfl (by kernel_rfl) (by decide)
theorem fa203_2 : ∀ a w, (Instr.fieldAt 203 (.pointer (some a)) 2).run Tryz.prog w = .ok (.pointer (some (a.add 2))) w := run_field (b := 1) Tryz.underlying203 rfl rfl (by kernel_rfl) (by decide)
theorem z210 : ∀ w, (zeroValue 210).run Tryz.prog w = .ok (.agg #[.slice none 0 0, .slice none 0 0, .slice none 0 0, .int .i64 0, .string ⟨#[]⟩]) w := fun _ => by kernel_rfl
theorem z212 : ∀ w, (zeroValue 212).run Tryz.prog w = .ok (.agg #[.string ⟨#[]⟩, .string ⟨#[]⟩, .string ⟨#[]⟩, .int .i64 0, .int .i64 0, .bool false, .bool false, .bool false]) w := fun _ => by kernel_rfl
theorem z213 : ∀ w, (zeroValue 213).run Tryz.prog w = .ok (.agg #[.string ⟨#[]⟩, .string ⟨#[]⟩, .string ⟨#[]⟩, .int .i64 0, .int .i64 0, .bool false, .bool false, .bool false]) w := fun _ => by kernel_rfl
theorem z284 : ∀ w, (zeroValue 284).run Tryz.prog w = .ok (.agg #[.int .u8 0, .int .u8 0, .int .u8 0, .int .u8 0, .int .u8 0, .int .u8 0, .int .u8 0, .int .u8 0, .int .u8 0, .int .u8 0, .int .u8 0, .int .u8 0, .int .u8 0, .int .u8 0, .int .u8 0, .int .u8 0, .int .u8 0, .int .u8 0, .int .u8 0, .int .u8 0, .int .u8 0, .int .u8 0, .int .u8 0, .int .u8 0, .int .u8 0, .int .u8 0, .int .u8 0, .int .u8 0, .int .u8 0, .int .u8 0, .int .u8 0, .int .u8 0, .int .u8 0, .int .u8 0, .int .u8 0, .int .u8 0, .int .u8 0, .int .u8 0, .int .u8 0, .int .u8 0, .int .u8 0, .int .u8 0, .int .u8 0, .int .u8 0, .int .u8 0, .int .u8 0, .int .u8 0, .int .u8 0, .int .u8 0, .int .u8 0, .int .u8 0, .int .u8 0, .int .u8 0, .int .u8 0, .int .u8 0, .int .u8 0, .int .u8 0, .int .u8 0, .int .u8 0, .int .u8 0, .int .u8 0, .int .u8 0, .int .u8 0, .int .u8 0, .int .u8 0]) w := fun _ => by kernel_rfl
theorem cf6 : ∀ args w, (callFunc 6 args).run Tryz.prog w = .ok (.enter 6 args) w := run_cf Tryz.func6 (by kernel_rfl) rfl
theorem cf9 : ∀ args w, (callFunc 9 args).run Tryz.prog w = .ok (.enter 9 args) w := run_cf Tryz.func9 (by kernel_rfl) rfl
theorem cf10 : ∀ args w, (callFunc 10 args).run Tryz.prog w = .ok (.enter 10 args) w := run_cf Tryz.func10 (by kernel_rfl) rfl
theorem cf14 : ∀ args w, (callFunc 14 args).run Tryz.prog w = .ok (.enter 14 args) w := run_cf Tryz.func14 (by kernel_rfl) rfl
theorem cf15 : ∀ args w, (callFunc 15 args).run Tryz.prog w = .ok (.enter 15 args) w := run_cf Tryz.func15 (by kernel_rfl) rfl
theorem cf16 : ∀ args w, (callFunc 16 args).run Tryz.prog w = .ok (.enter 16 args) w := run_cf Tryz.func16 (by kernel_rfl) rfl
theorem cf17 : ∀ args w, (callFunc 17 args).run Tryz.prog w = .ok (.enter 17 args) w := run_cf Tryz.func17 (by kernel_rfl) rfl
theorem cf18 : ∀ args w, (callFunc 18 args).run Tryz.prog w = .ok (.enter 18 args) w := run_cf Tryz.func18 (by kernel_rfl) rfl
theorem cf20 : ∀ args w, (callFunc 20 args).run Tryz.prog w = .ok (.enter 20 args) w := run_cf Tryz.func20 (by kernel_rfl) rfl
theorem cf21 : ∀ args w, (callFunc 21 args).run Tryz.prog w = .ok (.enter 21 args) w := run_cf Tryz.func21 (by kernel_rfl) rfl
theorem cf22 : ∀ args w, (callFunc 22 args).run Tryz.prog w = .ok (.enter 22 args) w := run_cf Tryz.func22 (by kernel_rfl) rfl
theorem cf23 : ∀ args w, (callFunc 23 args).run Tryz.prog w = .ok (.enter 23 args) w := run_cf Tryz.func23 (by kernel_rfl) rfl
theorem cf24 : ∀ args w, (callFunc 24 args).run Tryz.prog w = .ok (.enter 24 args) w := run_cf Tryz.func24 (by kernel_rfl) rfl
theorem cf25 : ∀ args w, (callFunc 25 args).run Tryz.prog w = .ok (.enter 25 args) w := run_cf Tryz.func25 (by kernel_rfl) rfl
theorem cf26 : ∀ args w, (callFunc 26 args).run Tryz.prog w = .ok (.enter 26 args) w := run_cf Tryz.func26 (by kernel_rfl) rfl
theorem cf29 : ∀ args w, (callFunc 29 args).run Tryz.prog w = .ok (.enter 29 args) w := run_cf Tryz.func29 (by kernel_rfl) rfl
theorem cf30 : ∀ args w, (callFunc 30 args).run Tryz.prog w = .ok (.enter 30 args) w := run_cf Tryz.func30 (by kernel_rfl) rfl
theorem cf31 : ∀ args w, (callFunc 31 args).run Tryz.prog w = .ok (.enter 31 args) w := run_cf Tryz.func31 (by kernel_rfl) rfl
theorem cf32 : ∀ args w, (callFunc 32 args).run Tryz.prog w = .ok (.enter 32 args) w := run_cf Tryz.func32 (by kernel_rfl) rfl
theorem cf33 : ∀ args w, (callFunc 33 args).run Tryz.prog w = .ok (.enter 33 args) w := run_cf Tryz.func33 (by kernel_rfl) rfl
theorem cf34 : ∀ args w, (callFunc 34 args).run Tryz.prog w = .ok (.enter 34 args) w := run_cf Tryz.func34 (by kernel_rfl) rfl
theorem cf35 : ∀ args w, (callFunc 35 args).run Tryz.prog w = .ok (.enter 35 args) w := run_cf Tryz.func35 (by kernel_rfl) rfl
theorem cf36 : ∀ args w, (callFunc 36 args).run Tryz.prog w = .ok (.enter 36 args) w := run_cf Tryz.func36 (by kernel_rfl) rfl
theorem cf37 : ∀ args w, (callFunc 37 args).run Tryz.prog w = .ok (.enter 37 args) w := run_cf Tryz.func37 (by kernel_rfl) rfl
theorem cf38 : ∀ args w, (callFunc 38 args).run Tryz.prog w = .ok (.enter 38 args) w := run_cf Tryz.func38 (by kernel_rfl) rfl
theorem cf40 : ∀ args w, (callFunc 40 args).run Tryz.prog w = .ok (.enter 40 args) w := run_cf Tryz.func40 (by kernel_rfl) rfl
theorem cf41 : ∀ args w, (callFunc 41 args).run Tryz.prog w = .ok (.enter 41 args) w := run_cf Tryz.func41 (by kernel_rfl) rfl
theorem cf46 : ∀ args w, (callFunc 46 args).run Tryz.prog w = .ok (.enter 46 args) w := run_cf Tryz.func46 (by kernel_rfl) rfl
theorem cf47 : ∀ args w, (callFunc 47 args).run Tryz.prog w = .ok (.enter 47 args) w := run_cf Tryz.func47 (by kernel_rfl) rfl
theorem cf48 : ∀ args w, (callFunc 48 args).run Tryz.prog w = .ok (.enter 48 args) w := run_cf Tryz.func48 (by kernel_rfl) rfl
theorem cf49 : ∀ args w, (callFunc 49 args).run Tryz.prog w = .ok (.enter 49 args) w := run_cf Tryz.func49 (by kernel_rfl) rfl
theorem cf50 : ∀ args w, (callFunc 50 args).run Tryz.prog w = .ok (.enter 50 args) w := run_cf Tryz.func50 (by kernel_rfl) rfl
theorem cf51 : ∀ args w, (callFunc 51 args).run Tryz.prog w = .ok (.enter 51 args) w := run_cf Tryz.func51 (by kernel_rfl) rfl
theorem cf52 : ∀ args w, (callFunc 52 args).run Tryz.prog w = .ok (.enter 52 args) w := run_cf Tryz.func52 (by kernel_rfl) rfl
theorem cf53 : ∀ args w, (callFunc 53 args).run Tryz.prog w = .ok (.enter 53 args) w := run_cf Tryz.func53 (by kernel_rfl) rfl
theorem cf54 : ∀ args w, (callFunc 54 args).run Tryz.prog w = .ok (.enter 54 args) w := run_cf Tryz.func54 (by kernel_rfl) rfl
theorem cf55 : ∀ args w, (callFunc 55 args).run Tryz.prog w = .ok (.enter 55 args) w := run_cf Tryz.func55 (by kernel_rfl) rfl
theorem cf56 : ∀ args w, (callFunc 56 args).run Tryz.prog w = .ok (.enter 56 args) w := run_cf Tryz.func56 (by kernel_rfl) rfl
theorem cf57 : ∀ args w, (callFunc 57 args).run Tryz.prog w = .ok (.enter 57 args) w := run_cf Tryz.func57 (by kernel_rfl) rfl
theorem cf58 : ∀ args w, (callFunc 58 args).run Tryz.prog w = .ok (.enter 58 args) w := run_cf Tryz.func58 (by kernel_rfl) rfl
theorem cf60 : ∀ args w, (callFunc 60 args).run Tryz.prog w = .ok (.enter 60 args) w := run_cf Tryz.func60 (by kernel_rfl) rfl
theorem cf61 : ∀ args w, (callFunc 61 args).run Tryz.prog w = .ok (.enter 61 args) w := run_cf Tryz.func61 (by kernel_rfl) rfl
theorem cf62 : ∀ args w, (callFunc 62 args).run Tryz.prog w = .ok (.enter 62 args) w := run_cf Tryz.func62 (by kernel_rfl) rfl
theorem cf63 : ∀ args w, (callFunc 63 args).run Tryz.prog w = .ok (.enter 63 args) w := run_cf Tryz.func63 (by kernel_rfl) rfl
theorem cf71 : ∀ args w, (callFunc 71 args).run Tryz.prog w = .ok (.enter 71 args) w := run_cf Tryz.func71 (by kernel_rfl) rfl
theorem cf72 : ∀ args w, (callFunc 72 args).run Tryz.prog w = .ok (.enter 72 args) w := run_cf Tryz.func72 (by kernel_rfl) rfl
theorem cf73 : ∀ args w, (callFunc 73 args).run Tryz.prog w = .ok (.enter 73 args) w := run_cf Tryz.func73 (by kernel_rfl) rfl
theorem cf76 : ∀ args w, (callFunc 76 args).run Tryz.prog w = .ok (.enter 76 args) w := run_cf Tryz.func76 (by kernel_rfl) rfl
theorem cf79 : ∀ args w, (callFunc 79 args).run Tryz.prog w = .ok (.enter 79 args) w := run_cf Tryz.func79 (by kernel_rfl) rfl
theorem cf80 : ∀ args w, (callFunc 80 args).run Tryz.prog w = .ok (.enter 80 args) w := run_cf Tryz.func80 (by kernel_rfl) rfl
theorem cf81 : ∀ args w, (callFunc 81 args).run Tryz.prog w = .ok (.enter 81 args) w := run_cf Tryz.func81 (by kernel_rfl) rfl
theorem cf82 : ∀ args w, (callFunc 82 args).run Tryz.prog w = .ok (.enter 82 args) w := run_cf Tryz.func82 (by kernel_rfl) rfl
theorem cf83 : ∀ args w, (callFunc 83 args).run Tryz.prog w = .ok (.enter 83 args) w := run_cf Tryz.func83 (by kernel_rfl) rfl
theorem cf84 : ∀ args w, (callFunc 84 args).run Tryz.prog w = .ok (.enter 84 args) w := run_cf Tryz.func84 (by kernel_rfl) rfl
theorem cf86 : ∀ args w, (callFunc 86 args).run Tryz.prog w = .ok (.enter 86 args) w := run_cf Tryz.func86 (by kernel_rfl) rfl
theorem cf122 : ∀ args w, (callFunc 122 args).run Tryz.prog w = .ok (.enter 122 args) w := run_cf Tryz.func122 (by kernel_rfl) rfl
theorem cf123 : ∀ args w, (callFunc 123 args).run Tryz.prog w = .ok (.enter 123 args) w := run_cf Tryz.func123 (by kernel_rfl) rfl
theorem cf124 : ∀ args w, (callFunc 124 args).run Tryz.prog w = .ok (.enter 124 args) w := run_cf Tryz.func124 (by kernel_rfl) rfl
theorem cf125 : ∀ args w, (callFunc 125 args).run Tryz.prog w = .ok (.enter 125 args) w := run_cf Tryz.func125 (by kernel_rfl) rfl
theorem cf126 : ∀ args w, (callFunc 126 args).run Tryz.prog w = .ok (.enter 126 args) w := run_cf Tryz.func126 (by kernel_rfl) rfl
theorem cf127 : ∀ args w, (callFunc 127 args).run Tryz.prog w = .ok (.enter 127 args) w := run_cf Tryz.func127 (by kernel_rfl) rfl
theorem cf128 : ∀ args w, (callFunc 128 args).run Tryz.prog w = .ok (.enter 128 args) w := run_cf Tryz.func128 (by kernel_rfl) rfl
theorem cf129 : ∀ args w, (callFunc 129 args).run Tryz.prog w = .ok (.enter 129 args) w := run_cf Tryz.func129 (by kernel_rfl) rfl
theorem cf130 : ∀ args w, (callFunc 130 args).run Tryz.prog w = .ok (.enter 130 args) w := run_cf Tryz.func130 (by kernel_rfl) rfl
theorem cf131 : ∀ args w, (callFunc 131 args).run Tryz.prog w = .ok (.enter 131 args) w := run_cf Tryz.func131 (by kernel_rfl) rfl
theorem cf132 : ∀ args w, (callFunc 132 args).run Tryz.prog w = .ok (.enter 132 args) w := run_cf Tryz.func132 (by kernel_rfl) rfl
theorem cf133 : ∀ args w, (callFunc 133 args).run Tryz.prog w = .ok (.enter 133 args) w := run_cf Tryz.func133 (by kernel_rfl) rfl
theorem cf134 : ∀ args w, (callFunc 134 args).run Tryz.prog w = .ok (.enter 134 args) w := run_cf Tryz.func134 (by kernel_rfl) rfl
theorem cf135 : ∀ args w, (callFunc 135 args).run Tryz.prog w = .ok (.enter 135 args) w := run_cf Tryz.func135 (by kernel_rfl) rfl
theorem cf136 : ∀ args w, (callFunc 136 args).run Tryz.prog w = .ok (.enter 136 args) w := run_cf Tryz.func136 (by kernel_rfl) rfl
theorem cf139 : ∀ args w, (callFunc 139 args).run Tryz.prog w = .ok (.enter 139 args) w := run_cf Tryz.func139 (by kernel_rfl) rfl
theorem cf140 : ∀ args w, (callFunc 140 args).run Tryz.prog w = .ok (.enter 140 args) w := run_cf Tryz.func140 (by kernel_rfl) rfl
theorem cf148 : ∀ args w, (callFunc 148 args).run Tryz.prog w = .ok (.enter 148 args) w := run_cf Tryz.func148 (by kernel_rfl) rfl
theorem cf149 : ∀ args w, (callFunc 149 args).run Tryz.prog w = .ok (.enter 149 args) w := run_cf Tryz.func149 (by kernel_rfl) rfl
theorem cf152 : ∀ args w, (callFunc 152 args).run Tryz.prog w = .ok (.enter 152 args) w := run_cf Tryz.func152 (by kernel_rfl) rfl
theorem cf163 : ∀ args w, (callFunc 163 args).run Tryz.prog w = .ok (.enter 163 args) w := run_cf Tryz.func163 (by kernel_rfl) rfl
theorem cf164 : ∀ args w, (callFunc 164 args).run Tryz.prog w = .ok (.enter 164 args) w := run_cf Tryz.func164 (by kernel_rfl) rfl
theorem cf165 : ∀ args w, (callFunc 165 args).run Tryz.prog w = .ok (.enter 165 args) w := run_cf Tryz.func165 (by kernel_rfl) rfl
theorem cf166 : ∀ args w, (callFunc 166 args).run Tryz.prog w = .ok (.enter 166 args) w := run_cf Tryz.func166 (by kernel_rfl) rfl
theorem cf167 : ∀ args w, (callFunc 167 args).run Tryz.prog w = .ok (.enter 167 args) w := run_cf Tryz.func167 (by kernel_rfl) rfl
theorem cf171 : ∀ args w, (callFunc 171 args).run Tryz.prog w = .ok (.enter 171 args) w := run_cf Tryz.func171 (by kernel_rfl) rfl
theorem cf172 : ∀ args w, (callFunc 172 args).run Tryz.prog w = .ok (.enter 172 args) w := run_cf Tryz.func172 (by kernel_rfl) rfl
theorem cf173 : ∀ args w, (callFunc 173 args).run Tryz.prog w = .ok (.enter 173 args) w := run_cf Tryz.func173 (by kernel_rfl) rfl
theorem cf174 : ∀ args w, (callFunc 174 args).run Tryz.prog w = .ok (.enter 174 args) w := run_cf Tryz.func174 (by kernel_rfl) rfl
theorem cf175 : ∀ args w, (callFunc 175 args).run Tryz.prog w = .ok (.enter 175 args) w := run_cf Tryz.func175 (by kernel_rfl) rfl
theorem cf183 : ∀ args w, (callFunc 183 args).run Tryz.prog w = .ok (.enter 183 args) w := run_cf Tryz.func183 (by kernel_rfl) rfl
theorem cf194 : ∀ args w, (callFunc 194 args).run Tryz.prog w = .ok (.enter 194 args) w := run_cf Tryz.func194 (by kernel_rfl) rfl
theorem cf195 : ∀ args w, (callFunc 195 args).run Tryz.prog w = .ok (.enter 195 args) w := run_cf Tryz.func195 (by kernel_rfl) rfl
theorem cf196 : ∀ args w, (callFunc 196 args).run Tryz.prog w = .ok (.enter 196 args) w := run_cf Tryz.func196 (by kernel_rfl) rfl
theorem cf197 : ∀ args w, (callFunc 197 args).run Tryz.prog w = .ok (.enter 197 args) w := run_cf Tryz.func197 (by kernel_rfl) rfl
theorem cf198 : ∀ args w, (callFunc 198 args).run Tryz.prog w = .ok (.enter 198 args) w := run_cf Tryz.func198 (by kernel_rfl) rfl
theorem cf199 : ∀ args w, (callFunc 199 args).run Tryz.prog w = .ok (.enter 199 args) w := run_cf Tryz.func199 (by kernel_rfl) rfl
theorem cf200 : ∀ args w, (callFunc 200 args).run Tryz.prog w = .ok (.enter 200 args) w := run_cf Tryz.func200 (by kernel_rfl) rfl
theorem cf201 : ∀ args w, (callFunc 201 args).run Tryz.prog w = .ok (.enter 201 args) w := run_cf Tryz.func201 (by kernel_rfl) rfl
theorem cf202 : ∀ args w, (callFunc 202 args).run Tryz.prog w = .ok (.enter 202 args) w := run_cf Tryz.func202 (by kernel_rfl) rfl
theorem cf203 : ∀ args w, (callFunc 203 args).run Tryz.prog w = .ok (.enter 203 args) w := run_cf Tryz.func203 (by kernel_rfl) rfl
theorem cf204 : ∀ args w, (callFunc 204 args).run Tryz.prog w = .ok (.enter 204 args) w := run_cf Tryz.func204 (by kernel_rfl) rfl
theorem cf205 : ∀ args w, (callFunc 205 args).run Tryz.prog w = .ok (.enter 205 args) w := run_cf Tryz.func205 (by kernel_rfl) rfl
theorem cf210 : ∀ args w, (callFunc 210 args).run Tryz.prog w = .ok (.enter 210 args) w := run_cf Tryz.func210 (by kernel_rfl) rfl
theorem cf219 : ∀ args w, (callFunc 219 args).run Tryz.prog w = .ok (.enter 219 args) w := run_cf Tryz.func219 (by kernel_rfl) rfl
theorem cf220 : ∀ args w, (callFunc 220 args).run Tryz.prog w = .ok (.enter 220 args) w := run_cf Tryz.func220 (by kernel_rfl) rfl
theorem cf226 : ∀ args w, (callFunc 226 args).run Tryz.prog w = .ok (.enter 226 args) w := run_cf Tryz.func226 (by kernel_rfl) rfl
theorem cf227 : ∀ args w, (callFunc 227 args).run Tryz.prog w = .ok (.enter 227 args) w := run_cf Tryz.func227 (by kernel_rfl) rfl
theorem cf228 : ∀ args w, (callFunc 228 args).run Tryz.prog w = .ok (.enter 228 args) w := run_cf Tryz.func228 (by kernel_rfl) rfl
theorem cf229 : ∀ args w, (callFunc 229 args).run Tryz.prog w = .ok (.enter 229 args) w := run_cf Tryz.func229 (by kernel_rfl) rfl
theorem cf230 : ∀ args w, (callFunc 230 args).run Tryz.prog w = .ok (.enter 230 args) w := run_cf Tryz.func230 (by kernel_rfl) rfl
theorem cf231 : ∀ args w, (callFunc 231 args).run Tryz.prog w = .ok (.enter 231 args) w := run_cf Tryz.func231 (by kernel_rfl) rfl
theorem cf232 : ∀ args w, (callFunc 232 args).run Tryz.prog w = .ok (.enter 232 args) w := run_cf Tryz.func232 (by kernel_rfl) rfl
theorem cf233 : ∀ args w, (callFunc 233 args).run Tryz.prog w = .ok (.enter 233 args) w := run_cf Tryz.func233 (by kernel_rfl) rfl
theorem cf236 : ∀ args w, (callFunc 236 args).run Tryz.prog w = .ok (.enter 236 args) w := run_cf Tryz.func236 (by kernel_rfl) rfl
theorem cf237 : ∀ args w, (callFunc 237 args).run Tryz.prog w = .ok (.enter 237 args) w := run_cf Tryz.func237 (by kernel_rfl) rfl
theorem cf250 : ∀ args w, (callFunc 250 args).run Tryz.prog w = .ok (.enter 250 args) w := run_cf Tryz.func250 (by kernel_rfl) rfl
theorem cf252 : ∀ args w, (callFunc 252 args).run Tryz.prog w = .ok (.enter 252 args) w := run_cf Tryz.func252 (by kernel_rfl) rfl
theorem cf254 : ∀ args w, (callFunc 254 args).run Tryz.prog w = .ok (.enter 254 args) w := run_cf Tryz.func254 (by kernel_rfl) rfl
theorem cf255 : ∀ args w, (callFunc 255 args).run Tryz.prog w = .ok (.enter 255 args) w := run_cf Tryz.func255 (by kernel_rfl) rfl
theorem cf256 : ∀ args w, (callFunc 256 args).run Tryz.prog w = .ok (.enter 256 args) w := run_cf Tryz.func256 (by kernel_rfl) rfl
theorem cf270 : ∀ args w, (callFunc 270 args).run Tryz.prog w = .ok (.enter 270 args) w := run_cf Tryz.func270 (by kernel_rfl) rfl
theorem cf271 : ∀ args w, (callFunc 271 args).run Tryz.prog w = .ok (.enter 271 args) w := run_cf Tryz.func271 (by kernel_rfl) rfl
theorem cf272 : ∀ args w, (callFunc 272 args).run Tryz.prog w = .ok (.enter 272 args) w := run_cf Tryz.func272 (by kernel_rfl) rfl
theorem cf274 : ∀ args w, (callFunc 274 args).run Tryz.prog w = .ok (.enter 274 args) w := run_cf Tryz.func274 (by kernel_rfl) rfl
theorem cf275 : ∀ args w, (callFunc 275 args).run Tryz.prog w = .ok (.enter 275 args) w := run_cf Tryz.func275 (by kernel_rfl) rfl
theorem cf276 : ∀ args w, (callFunc 276 args).run Tryz.prog w = .ok (.enter 276 args) w := run_cf Tryz.func276 (by kernel_rfl) rfl
theorem cf287 : ∀ args w, (callFunc 287 args).run Tryz.prog w = .ok (.enter 287 args) w := run_cf Tryz.func287 (by kernel_rfl) rfl
theorem cf292 : ∀ args w, (callFunc 292 args).run Tryz.prog w = .ok (.enter 292 args) w := run_cf Tryz.func292 (by kernel_rfl) rfl
theorem cf293 : ∀ args w, (callFunc 293 args).run Tryz.prog w = .ok (.enter 293 args) w := run_cf Tryz.func293 (by kernel_rfl) rfl
theorem cf313 : ∀ args w, (callFunc 313 args).run Tryz.prog w = .ok (.enter 313 args) w := run_cf Tryz.func313 (by kernel_rfl) rfl
theorem cf317 : ∀ args w, (callFunc 317 args).run Tryz.prog w = .ok (.enter 317 args) w := run_cf Tryz.func317 (by kernel_rfl) rfl
theorem cf318 : ∀ args w, (callFunc 318 args).run Tryz.prog w = .ok (.enter 318 args) w := run_cf Tryz.func318 (by kernel_rfl) rfl
end Go.Proofs.YtgbldojgbpgjbaaGreatDoor
