/- Closed facts on this seat's program: sizes, fields, zero values, calls. Written by a program of mine. -/
import Derived.Test.YtgbldojgbpgjbaaGreatDoorMore
import Derived.Test.YtgbldojgbpgjbaaGreatDoorRows
namespace Go.Proofs.YtgbldojgbpgjbaaGreatDoor
open Go.RowKit Go.Eng
theorem z2 : ∀ w, (zeroValue 2).run Tryz.prog w = .ok (.int .i64 0) w := fun _ => by kernel_rfl
theorem sz3 : (Tryz.prog.info? 3).map (·.size) = some 1 := by kernel_rfl
theorem co3 : Tryz.prog.cellsOf 3 = 1 := by kernel_rfl
theorem z3 : ∀ w, (zeroValue 3).run Tryz.prog w = .ok (.int .i64 0) w := fun _ => by kernel_rfl
theorem inf3 : (Tryz.prog.info? 3).map (fun i => (i.zero, i.size, i.bytes)) = some (some (.int .i64 0), 1, 8) := by kernel_rfl
theorem sz4 : (Tryz.prog.info? 4).map (·.size) = some 1 := by kernel_rfl
theorem co4 : Tryz.prog.cellsOf 4 = 1 := by kernel_rfl
theorem z4 : ∀ w, (zeroValue 4).run Tryz.prog w = .ok (.bool false) w := fun _ => by kernel_rfl
theorem sz5 : (Tryz.prog.info? 5).map (·.size) = some 1 := by kernel_rfl
theorem co5 : Tryz.prog.cellsOf 5 = 1 := by kernel_rfl
theorem z5 : ∀ w, (zeroValue 5).run Tryz.prog w = .ok (.int .u8 0) w := fun _ => by kernel_rfl
theorem inf5 : (Tryz.prog.info? 5).map (fun i => (i.zero, i.size, i.bytes)) = some (some (.int .u8 0), 1, 1) := by kernel_rfl
theorem sz9 : (Tryz.prog.info? 9).map (·.size) = some 1 := by kernel_rfl
theorem co9 : Tryz.prog.cellsOf 9 = 1 := by kernel_rfl
theorem bo9 : Tryz.prog.bytesOf 9 = 16 := by kernel_rfl
theorem z9 : ∀ w, (zeroValue 9).run Tryz.prog w = .ok (.string ⟨#[]⟩) w := fun _ => by kernel_rfl
theorem inf9 : (Tryz.prog.info? 9).map (fun i => (i.zero, i.size, i.bytes)) = some (some (.string ⟨#[]⟩), 1, 16) := by kernel_rfl
theorem z20 : ∀ w, (zeroValue 20).run Tryz.prog w = .ok (.nilIface) w := fun _ => by kernel_rfl
theorem z21 : ∀ w, (zeroValue 21).run Tryz.prog w = .ok (.int .i32 0) w := fun _ => by kernel_rfl
theorem sz22 : (Tryz.prog.info? 22).map (·.size) = some 1 := by kernel_rfl
theorem co22 : Tryz.prog.cellsOf 22 = 1 := by kernel_rfl
theorem sz23 : (Tryz.prog.info? 23).map (·.size) = some 1 := by kernel_rfl
theorem co23 : Tryz.prog.cellsOf 23 = 1 := by kernel_rfl
theorem sz24 : (Tryz.prog.info? 24).map (·.size) = some 1 := by kernel_rfl
theorem co24 : Tryz.prog.cellsOf 24 = 1 := by kernel_rfl
theorem z24 : ∀ w, (zeroValue 24).run Tryz.prog w = .ok (.slice none 0 0) w := fun _ => by kernel_rfl
theorem sz26 : (Tryz.prog.info? 26).map (·.size) = some 9 := by kernel_rfl
theorem co26 : Tryz.prog.cellsOf 26 = 9 := by kernel_rfl
theorem z26 : ∀ w, (zeroValue 26).run Tryz.prog w = .ok (.agg #[.string ⟨#[]⟩, .int .i64 0, .int .i64 0, .slice none 0 0, .slice none 0 0, .slice none 0 0, .string ⟨#[]⟩, .string ⟨#[]⟩, .int .i64 0]) w := fun _ => by kernel_rfl
theorem fa26_0 : ∀ a w, (Instr.fieldAt 26 (.pointer (some a)) 0).run Tryz.prog w = .ok (.pointer (some (a.add 0))) w := run_field (b := 1) Tryz.underlying26 rfl rfl (by kernel_rfl) (by decide)
theorem fa26_1 : ∀ a w, (Instr.fieldAt 26 (.pointer (some a)) 1).run Tryz.prog w = .ok (.pointer (some (a.add 1))) w := run_field (b := 1) Tryz.underlying26 rfl rfl (by kernel_rfl) (by decide)
theorem fa26_2 : ∀ a w, (Instr.fieldAt 26 (.pointer (some a)) 2).run Tryz.prog w = .ok (.pointer (some (a.add 2))) w := run_field (b := 1) Tryz.underlying26 rfl rfl (by kernel_rfl) (by decide)
theorem fa26_3 : ∀ a w, (Instr.fieldAt 26 (.pointer (some a)) 3).run Tryz.prog w = .ok (.pointer (some (a.add 3))) w := run_field (b := 1) Tryz.underlying26 rfl rfl (by kernel_rfl) (by decide)
theorem fa26_4 : ∀ a w, (Instr.fieldAt 26 (.pointer (some a)) 4).run Tryz.prog w = .ok (.pointer (some (a.add 4))) w := run_field (b := 1) Tryz.underlying26 rfl rfl (by kernel_rfl) (by decide)
theorem fa26_5 : ∀ a w, (Instr.fieldAt 26 (.pointer (some a)) 5).run Tryz.prog w = .ok (.pointer (some (a.add 5))) w := run_field (b := 1) Tryz.underlying26 rfl rfl (by kernel_rfl) (by decide)
theorem fa26_6 : ∀ a w, (Instr.fieldAt 26 (.pointer (some a)) 6).run Tryz.prog w = .ok (.pointer (some (a.add 6))) w := run_field (b := 1) Tryz.underlying26 rfl rfl (by kernel_rfl) (by decide)
theorem fa26_7 : ∀ a w, (Instr.fieldAt 26 (.pointer (some a)) 7).run Tryz.prog w = .ok (.pointer (some (a.add 7))) w := run_field (b := 1) Tryz.underlying26 rfl rfl (by kernel_rfl) (by decide)
theorem fa26_8 : ∀ a w, (Instr.fieldAt 26 (.pointer (some a)) 8).run Tryz.prog w = .ok (.pointer (some (a.add 8))) w := run_field (b := 1) Tryz.underlying26 rfl rfl (by kernel_rfl) (by decide)
theorem sz32 : (Tryz.prog.info? 32).map (·.size) = some 1 := by kernel_rfl
theorem co32 : Tryz.prog.cellsOf 32 = 1 := by kernel_rfl
theorem sz36 : (Tryz.prog.info? 36).map (·.size) = some 3 := by kernel_rfl
theorem co36 : Tryz.prog.cellsOf 36 = 3 := by kernel_rfl
theorem bo36 : Tryz.prog.bytesOf 36 = 56 := by kernel_rfl
theorem z36 : ∀ w, (zeroValue 36).run Tryz.prog w = .ok (.agg #[.string ⟨#[]⟩, .string ⟨#[]⟩, .slice none 0 0]) w := fun _ => by kernel_rfl
theorem inf36 : (Tryz.prog.info? 36).map (fun i => (i.zero, i.size, i.bytes)) = some (some (.agg #[.string ⟨#[]⟩, .string ⟨#[]⟩, .slice none 0 0]), 3, 56) := by kernel_rfl
theorem fa36_0 : ∀ a w, (Instr.fieldAt 36 (.pointer (some a)) 0).run Tryz.prog w = .ok (.pointer (some (a.add 0))) w := run_field (b := 1) Tryz.underlying36 rfl rfl (by kernel_rfl) (by decide)
theorem fa36_1 : ∀ a w, (Instr.fieldAt 36 (.pointer (some a)) 1).run Tryz.prog w = .ok (.pointer (some (a.add 1))) w := run_field (b := 1) Tryz.underlying36 rfl rfl (by kernel_rfl) (by decide)
theorem fa36_2 : ∀ a w, (Instr.fieldAt 36 (.pointer (some a)) 2).run Tryz.prog w = .ok (.pointer (some (a.add 2))) w := run_field (b := 1) Tryz.underlying36 rfl rfl (by kernel_rfl) (by decide)
theorem sz45 : (Tryz.prog.info? 45).map (·.size) = some 6 := by kernel_rfl
theorem co45 : Tryz.prog.cellsOf 45 = 6 := by kernel_rfl
theorem bo45 : Tryz.prog.bytesOf 45 = 72 := by kernel_rfl
theorem z45 : ∀ w, (zeroValue 45).run Tryz.prog w = .ok (.agg #[.string ⟨#[]⟩, .string ⟨#[]⟩, .string ⟨#[]⟩, .int .i64 0, .int .i64 0, .bool false]) w := fun _ => by kernel_rfl
theorem inf45 : (Tryz.prog.info? 45).map (fun i => (i.zero, i.size, i.bytes)) = some (some (.agg #[.string ⟨#[]⟩, .string ⟨#[]⟩, .string ⟨#[]⟩, .int .i64 0, .int .i64 0, .bool false]), 6, 72) := by kernel_rfl
theorem fa45_0 : ∀ a w, (Instr.fieldAt 45 (.pointer (some a)) 0).run Tryz.prog w = .ok (.pointer (some (a.add 0))) w := run_field (b := 1) Tryz.underlying45 rfl rfl (by kernel_rfl) (by decide)
theorem fa45_1 : ∀ a w, (Instr.fieldAt 45 (.pointer (some a)) 1).run Tryz.prog w = .ok (.pointer (some (a.add 1))) w := run_field (b := 1) Tryz.underlying45 rfl rfl (by kernel_rfl) (by decide)
theorem fa45_2 : ∀ a w, (Instr.fieldAt 45 (.pointer (some a)) 2).run Tryz.prog w = .ok (.pointer (some (a.add 2))) w := run_field (b := 1) Tryz.underlying45 rfl rfl (by kernel_rfl) (by decide)
theorem fa45_3 : ∀ a w, (Instr.fieldAt 45 (.pointer (some a)) 3).run Tryz.prog w = .ok (.pointer (some (a.add 3))) w := run_field (b := 1) Tryz.underlying45 rfl rfl (by kernel_rfl) (by decide)
theorem fa45_4 : ∀ a w, (Instr.fieldAt 45 (.pointer (some a)) 4).run Tryz.prog w = .ok (.pointer (some (a.add 4))) w := run_field (b := 1) Tryz.underlying45 rfl rfl (by kernel_rfl) (by decide)
theorem fa45_5 : ∀ a w, (Instr.fieldAt 45 (.pointer (some a)) 5).run Tryz.prog w = .ok (.pointer (some (a.add 5))) w := run_field (b := 1) Tryz.underlying45 rfl rfl (by kernel_rfl) (by decide)
theorem sz50 : (Tryz.prog.info? 50).map (·.size) = some 6 := by kernel_rfl
theorem z50 : ∀ w, (zeroValue 50).run Tryz.prog w = .ok (.agg #[.int .i64 0, .slice none 0 0, .int .i64 0, .int .i64 0, .string ⟨#[]⟩, .string ⟨#[]⟩]) w := fun _ => by kernel_rfl
theorem fa50_0 : ∀ a w, (Instr.fieldAt 50 (.pointer (some a)) 0).run Tryz.prog w = .ok (.pointer (some (a.add 0))) w := run_field (b := 1) Tryz.underlying50 rfl rfl (by kernel_rfl) (by decide)
theorem fa50_1 : ∀ a w, (Instr.fieldAt 50 (.pointer (some a)) 1).run Tryz.prog w = .ok (.pointer (some (a.add 1))) w := run_field (b := 1) Tryz.underlying50 rfl rfl (by kernel_rfl) (by decide)
theorem fa50_2 : ∀ a w, (Instr.fieldAt 50 (.pointer (some a)) 2).run Tryz.prog w = .ok (.pointer (some (a.add 2))) w := run_field (b := 1) Tryz.underlying50 rfl rfl (by kernel_rfl) (by decide)
theorem fa50_3 : ∀ a w, (Instr.fieldAt 50 (.pointer (some a)) 3).run Tryz.prog w = .ok (.pointer (some (a.add 3))) w := run_field (b := 1) Tryz.underlying50 rfl rfl (by kernel_rfl) (by decide)
theorem fa50_4 : ∀ a w, (Instr.fieldAt 50 (.pointer (some a)) 4).run Tryz.prog w = .ok (.pointer (some (a.add 4))) w := run_field (b := 1) Tryz.underlying50 rfl rfl (by kernel_rfl) (by decide)
theorem fa50_5 : ∀ a w, (Instr.fieldAt 50 (.pointer (some a)) 5).run Tryz.prog w = .ok (.pointer (some (a.add 5))) w := run_field (b := 1) Tryz.underlying50 rfl rfl (by kernel_rfl) (by decide)
theorem co53 : Tryz.prog.cellsOf 53 = 1 := by kernel_rfl
theorem z53 : ∀ w, (zeroValue 53).run Tryz.prog w = .ok (.slice none 0 0) w := fun _ => by kernel_rfl
theorem sz68 : (Tryz.prog.info? 68).map (·.size) = some 3 := by kernel_rfl
theorem z68 : ∀ w, (zeroValue 68).run Tryz.prog w = .ok (.agg #[.string ⟨#[]⟩, .string ⟨#[]⟩, .int .i64 0]) w := fun _ => by kernel_rfl
theorem inf68 : (Tryz.prog.info? 68).map (fun i => (i.zero, i.size, i.bytes)) = some (some (.agg #[.string ⟨#[]⟩, .string ⟨#[]⟩, .int .i64 0]), 3, 40) := by kernel_rfl
theorem fa68_0 : ∀ a w, (Instr.fieldAt 68 (.pointer (some a)) 0).run Tryz.prog w = .ok (.pointer (some (a.add 0))) w := run_field (b := 1) Tryz.underlying68 rfl rfl (by kernel_rfl) (by decide)
theorem fa68_1 : ∀ a w, (Instr.fieldAt 68 (.pointer (some a)) 1).run Tryz.prog w = .ok (.pointer (some (a.add 1))) w := run_field (b := 1) Tryz.underlying68 rfl rfl (by kernel_rfl) (by decide)
theorem fa68_2 : ∀ a w, (Instr.fieldAt 68 (.pointer (some a)) 2).run Tryz.prog w = .ok (.pointer (some (a.add 2))) w := run_field (b := 1) Tryz.underlying68 rfl rfl (by kernel_rfl) (by decide)
theorem sz70 : (Tryz.prog.info? 70).map (·.size) = some 1 := by kernel_rfl
theorem z70 : ∀ w, (zeroValue 70).run Tryz.prog w = .ok (.pointer none) w := fun _ => by kernel_rfl
theorem sz71 : (Tryz.prog.info? 71).map (·.size) = some 1 := by kernel_rfl
theorem z72 : ∀ w, (zeroValue 72).run Tryz.prog w = .ok (.agg #[.pointer none, .slice none 0 0]) w := fun _ => by kernel_rfl
theorem sz73 : (Tryz.prog.info? 73).map (·.size) = some 2 := by kernel_rfl
theorem z73 : ∀ w, (zeroValue 73).run Tryz.prog w = .ok (.agg #[.pointer none, .slice none 0 0]) w := fun _ => by kernel_rfl
theorem fa73_0 : ∀ a w, (Instr.fieldAt 73 (.pointer (some a)) 0).run Tryz.prog w = .ok (.pointer (some (a.add 0))) w := run_field (b := 1) Tryz.underlying73 rfl rfl (by kernel_rfl) (by decide)
theorem fa73_1 : ∀ a w, (Instr.fieldAt 73 (.pointer (some a)) 1).run Tryz.prog w = .ok (.pointer (some (a.add 1))) w := run_field (b := 1) Tryz.underlying73 rfl rfl (by kernel_rfl) (by decide)
theorem z75 : ∀ w, (zeroValue 75).run Tryz.prog w = .ok (.nilIface) w := fun _ => by kernel_rfl
theorem sz83 : (Tryz.prog.info? 83).map (·.size) = some 2 := by kernel_rfl
theorem co83 : Tryz.prog.cellsOf 83 = 2 := by kernel_rfl
theorem bo83 : Tryz.prog.bytesOf 83 = 32 := by kernel_rfl
theorem z83 : ∀ w, (zeroValue 83).run Tryz.prog w = .ok (.agg #[.string ⟨#[]⟩, .string ⟨#[]⟩]) w := fun _ => by kernel_rfl
theorem inf83 : (Tryz.prog.info? 83).map (fun i => (i.zero, i.size, i.bytes)) = some (some (.agg #[.string ⟨#[]⟩, .string ⟨#[]⟩]), 2, 32) := by kernel_rfl
theorem fa83_0 : ∀ a w, (Instr.fieldAt 83 (.pointer (some a)) 0).run Tryz.prog w = .ok (.pointer (some (a.add 0))) w := run_field (b := 1) Tryz.underlying83 rfl rfl (by kernel_rfl) (by decide)
theorem fa83_1 : ∀ a w, (Instr.fieldAt 83 (.pointer (some a)) 1).run Tryz.prog w = .ok (.pointer (some (a.add 1))) w := run_field (b := 1) Tryz.underlying83 rfl rfl (by kernel_rfl) (by decide)
theorem sz85 : (Tryz.prog.info? 85).map (·.size) = some 3 := by kernel_rfl
theorem co85 : Tryz.prog.cellsOf 85 = 3 := by kernel_rfl
theorem bo85 : Tryz.prog.bytesOf 85 = 40 := by kernel_rfl
theorem z85 : ∀ w, (zeroValue 85).run Tryz.prog w = .ok (.agg #[.int .i64 0, .string ⟨#[]⟩, .string ⟨#[]⟩]) w := fun _ => by kernel_rfl
theorem inf85 : (Tryz.prog.info? 85).map (fun i => (i.zero, i.size, i.bytes)) = some (some (.agg #[.int .i64 0, .string ⟨#[]⟩, .string ⟨#[]⟩]), 3, 40) := by kernel_rfl
theorem fa85_0 : ∀ a w, (Instr.fieldAt 85 (.pointer (some a)) 0).run Tryz.prog w = .ok (.pointer (some (a.add 0))) w := run_field (b := 1) Tryz.underlying85 rfl rfl (by kernel_rfl) (by decide)
theorem fa85_1 : ∀ a w, (Instr.fieldAt 85 (.pointer (some a)) 1).run Tryz.prog w = .ok (.pointer (some (a.add 1))) w := run_field (b := 1) Tryz.underlying85 rfl rfl (by kernel_rfl) (by decide)
theorem fa85_2 : ∀ a w, (Instr.fieldAt 85 (.pointer (some a)) 2).run Tryz.prog w = .ok (.pointer (some (a.add 2))) w := run_field (b := 1) Tryz.underlying85 rfl rfl (by kernel_rfl) (by decide)
theorem co115 : Tryz.prog.cellsOf 115 = 1 := by kernel_rfl
theorem co116 : Tryz.prog.cellsOf 116 = 1 := by kernel_rfl
theorem z116 : ∀ w, (zeroValue 116).run Tryz.prog w = .ok (.slice none 0 0) w := fun _ => by kernel_rfl
theorem co117 : Tryz.prog.cellsOf 117 = 1 := by kernel_rfl
theorem z117 : ∀ w, (zeroValue 117).run Tryz.prog w = .ok (.slice none 0 0) w := fun _ => by kernel_rfl
theorem sz119 : (Tryz.prog.info? 119).map (·.size) = some 6 := by kernel_rfl
theorem co119 : Tryz.prog.cellsOf 119 = 6 := by kernel_rfl
theorem bo119 : Tryz.prog.bytesOf 119 = 120 := by kernel_rfl
theorem z119 : ∀ w, (zeroValue 119).run Tryz.prog w = .ok (.agg #[.string ⟨#[]⟩, .int .i64 0, .slice none 0 0, .slice none 0 0, .slice none 0 0, .slice none 0 0]) w := fun _ => by kernel_rfl
theorem fa119_0 : ∀ a w, (Instr.fieldAt 119 (.pointer (some a)) 0).run Tryz.prog w = .ok (.pointer (some (a.add 0))) w := run_field (b := 1) Tryz.underlying119 rfl rfl (by kernel_rfl) (by decide)
theorem fa119_1 : ∀ a w, (Instr.fieldAt 119 (.pointer (some a)) 1).run Tryz.prog w = .ok (.pointer (some (a.add 1))) w := run_field (b := 1) Tryz.underlying119 rfl rfl (by kernel_rfl) (by decide)
theorem fa119_2 : ∀ a w, (Instr.fieldAt 119 (.pointer (some a)) 2).run Tryz.prog w = .ok (.pointer (some (a.add 2))) w := run_field (b := 1) Tryz.underlying119 rfl rfl (by kernel_rfl) (by decide)
theorem fa119_3 : ∀ a w, (Instr.fieldAt 119 (.pointer (some a)) 3).run Tryz.prog w = .ok (.pointer (some (a.add 3))) w := run_field (b := 1) Tryz.underlying119 rfl rfl (by kernel_rfl) (by decide)
theorem fa119_4 : ∀ a w, (Instr.fieldAt 119 (.pointer (some a)) 4).run Tryz.prog w = .ok (.pointer (some (a.add 4))) w := run_field (b := 1) Tryz.underlying119 rfl rfl (by kernel_rfl) (by decide)
theorem fa119_5 : ∀ a w, (Instr.fieldAt 119 (.pointer (some a)) 5).run Tryz.prog w = .ok (.pointer (some (a.add 5))) w := run_field (b := 1) Tryz.underlying119 rfl rfl (by kernel_rfl) (by decide)
theorem z124 : ∀ w, (zeroValue 124).run Tryz.prog w = .ok (.agg #[.string ⟨#[]⟩, .string ⟨#[]⟩, .int .i64 0, .int .i64 0]) w := fun _ => by kernel_rfl
theorem sz125 : (Tryz.prog.info? 125).map (·.size) = some 4 := by kernel_rfl
theorem co125 : Tryz.prog.cellsOf 125 = 4 := by kernel_rfl
theorem bo125 : Tryz.prog.bytesOf 125 = 48 := by kernel_rfl
theorem z125 : ∀ w, (zeroValue 125).run Tryz.prog w = .ok (.agg #[.string ⟨#[]⟩, .string ⟨#[]⟩, .int .i64 0, .int .i64 0]) w := fun _ => by kernel_rfl
theorem fa125_0 : ∀ a w, (Instr.fieldAt 125 (.pointer (some a)) 0).run Tryz.prog w = .ok (.pointer (some (a.add 0))) w := run_field (b := 1) Tryz.underlying125 rfl rfl (by kernel_rfl) (by decide)
theorem fa125_1 : ∀ a w, (Instr.fieldAt 125 (.pointer (some a)) 1).run Tryz.prog w = .ok (.pointer (some (a.add 1))) w := run_field (b := 1) Tryz.underlying125 rfl rfl (by kernel_rfl) (by decide)
theorem fa125_2 : ∀ a w, (Instr.fieldAt 125 (.pointer (some a)) 2).run Tryz.prog w = .ok (.pointer (some (a.add 2))) w := run_field (b := 1) Tryz.underlying125 rfl rfl (by kernel_rfl) (by decide)
theorem fa125_3 : ∀ a w, (Instr.fieldAt 125 (.pointer (some a)) 3).run Tryz.prog w = .ok (.pointer (some (a.add 3))) w := run_field (b := 1) Tryz.underlying125 rfl rfl (by kernel_rfl) (by decide)
theorem sz145 : (Tryz.prog.info? 145).map (·.size) = some 1 := by kernel_rfl
theorem z145 : ∀ w, (zeroValue 145).run Tryz.prog w = .ok (.int .u64 0) w := fun _ => by kernel_rfl
theorem sz153 : (Tryz.prog.info? 153).map (·.size) = some 1 := by kernel_rfl
theorem z159 : ∀ w, (zeroValue 159).run Tryz.prog w = .ok (.slice none 0 0) w := fun _ => by kernel_rfl
theorem z173 : ∀ w, (zeroValue 173).run Tryz.prog w = .ok (.slice none 0 0) w := fun _ => by kernel_rfl
theorem sz191 : (Tryz.prog.info? 191).map (·.size) = some 5 := by kernel_rfl
theorem co191 : Tryz.prog.cellsOf 191 = 5 := by kernel_rfl
theorem bo191 : Tryz.prog.bytesOf 191 = 48 := by kernel_rfl
theorem z191 : ∀ w, (zeroValue 191).run Tryz.prog w = .ok (.agg #[.string ⟨#[]⟩, .int .i64 0, .int .i64 0, .int .i64 0, .int .i64 0]) w := fun _ => by kernel_rfl
theorem fa191_0 : ∀ a w, (Instr.fieldAt 191 (.pointer (some a)) 0).run Tryz.prog w = .ok (.pointer (some (a.add 0))) w := run_field (b := 1) Tryz.underlying191 rfl rfl (by kernel_rfl) (by decide)
theorem fa191_1 : ∀ a w, (Instr.fieldAt 191 (.pointer (some a)) 1).run Tryz.prog w = .ok (.pointer (some (a.add 1))) w := run_field (b := 1) Tryz.underlying191 rfl rfl (by kernel_rfl) (by decide)
theorem fa191_2 : ∀ a w, (Instr.fieldAt 191 (.pointer (some a)) 2).run Tryz.prog w = .ok (.pointer (some (a.add 2))) w := run_field (b := 1) Tryz.underlying191 rfl rfl (by kernel_rfl) (by decide)
theorem fa191_3 : ∀ a w, (Instr.fieldAt 191 (.pointer (some a)) 3).run Tryz.prog w = .ok (.pointer (some (a.add 3))) w := run_field (b := 1) Tryz.underlying191 rfl rfl (by kernel_rfl) (by decide)
theorem fa191_4 : ∀ a w, (Instr.fieldAt 191 (.pointer (some a)) 4).run Tryz.prog w = .ok (.pointer (some (a.add 4))) w := run_field (b := 1) Tryz.underlying191 rfl rfl (by kernel_rfl) (by decide)
theorem sz193 : (Tryz.prog.info? 193).map (·.size) = some 3 := by kernel_rfl
theorem co193 : Tryz.prog.cellsOf 193 = 3 := by kernel_rfl
theorem bo193 : Tryz.prog.bytesOf 193 = 32 := by kernel_rfl
theorem z193 : ∀ w, (zeroValue 193).run Tryz.prog w = .ok (.agg #[.string ⟨#[]⟩, .int .i64 0, .int .i64 0]) w := fun _ => by kernel_rfl
theorem fa193_0 : ∀ a w, (Instr.fieldAt 193 (.pointer (some a)) 0).run Tryz.prog w = .ok (.pointer (some (a.add 0))) w := run_field (b := 1) Tryz.underlying193 rfl rfl (by kernel_rfl) (by decide)
theorem fa193_1 : ∀ a w, (Instr.fieldAt 193 (.pointer (some a)) 1).run Tryz.prog w = .ok (.pointer (some (a.add 1))) w := run_field (b := 1) Tryz.underlying193 rfl rfl (by kernel_rfl) (by decide)
theorem fa193_2 : ∀ a w, (Instr.fieldAt 193 (.pointer (some a)) 2).run Tryz.prog w = .ok (.pointer (some (a.add 2))) w := run_field (b := 1) Tryz.underlying193 rfl rfl (by kernel_rfl) (by decide)
theorem z203 : ∀ w, (zeroValue 203).run Tryz.prog w = .ok (.agg #[.slice none 0 0, .int .i64 0, .string ⟨#[]⟩]) w := fun _ => by kernel_rfl
theorem fa203_0 : ∀ a w, (Instr.fieldAt 203 (.pointer (some a)) 0).run Tryz.prog w = .ok (.pointer (some (a.add 0))) w := run_field (b := 1) Tryz.underlying203 rfl rfl (by kernel_rfl) (by decide)
theorem fa203_1 : ∀ a w, (Instr.fieldAt 203 (.pointer (some a)) 1).run Tryz.prog w = .ok (.pointer (some (a.add 1))) w := run_field (b := 1) Tryz.underlying203 rfl rfl (by kernel_rfl) (by decide)
theorem fa203_2 : ∀ a w, (Instr.fieldAt 203 (.pointer (some a)) 2).run Tryz.prog w = .ok (.pointer (some (a.add 2))) w := run_field (b := 1) Tryz.underlying203 rfl rfl (by kernel_rfl) (by decide)
theorem sz207 : (Tryz.prog.info? 207).map (·.size) = some 1 := by kernel_rfl
theorem sz208 : (Tryz.prog.info? 208).map (·.size) = some 1 := by kernel_rfl
theorem z210 : ∀ w, (zeroValue 210).run Tryz.prog w = .ok (.agg #[.slice none 0 0, .slice none 0 0, .slice none 0 0, .int .i64 0, .string ⟨#[]⟩]) w := fun _ => by kernel_rfl
theorem fa210_1 : ∀ a w, (Instr.fieldAt 210 (.pointer (some a)) 1).run Tryz.prog w = .ok (.pointer (some (a.add 1))) w := run_field (b := 1) Tryz.underlying210 rfl rfl (by kernel_rfl) (by decide)
theorem fa210_2 : ∀ a w, (Instr.fieldAt 210 (.pointer (some a)) 2).run Tryz.prog w = .ok (.pointer (some (a.add 2))) w := run_field (b := 1) Tryz.underlying210 rfl rfl (by kernel_rfl) (by decide)
theorem fa210_3 : ∀ a w, (Instr.fieldAt 210 (.pointer (some a)) 3).run Tryz.prog w = .ok (.pointer (some (a.add 3))) w := run_field (b := 1) Tryz.underlying210 rfl rfl (by kernel_rfl) (by decide)
theorem fa210_4 : ∀ a w, (Instr.fieldAt 210 (.pointer (some a)) 4).run Tryz.prog w = .ok (.pointer (some (a.add 4))) w := run_field (b := 1) Tryz.underlying210 rfl rfl (by kernel_rfl) (by decide)
theorem sz211 : (Tryz.prog.info? 211).map (·.size) = some 1 := by kernel_rfl
theorem inf211 : (Tryz.prog.info? 211).map (fun i => (i.zero, i.size, i.bytes)) = some (some (.slice none 0 0), 1, 24) := by kernel_rfl
theorem z212 : ∀ w, (zeroValue 212).run Tryz.prog w = .ok (.agg #[.string ⟨#[]⟩, .string ⟨#[]⟩, .string ⟨#[]⟩, .int .i64 0, .int .i64 0, .bool false, .bool false, .bool false]) w := fun _ => by kernel_rfl
theorem sz213 : (Tryz.prog.info? 213).map (·.size) = some 8 := by kernel_rfl
theorem z213 : ∀ w, (zeroValue 213).run Tryz.prog w = .ok (.agg #[.string ⟨#[]⟩, .string ⟨#[]⟩, .string ⟨#[]⟩, .int .i64 0, .int .i64 0, .bool false, .bool false, .bool false]) w := fun _ => by kernel_rfl
theorem inf213 : (Tryz.prog.info? 213).map (fun i => (i.zero, i.size, i.bytes)) = some (some (.agg #[.string ⟨#[]⟩, .string ⟨#[]⟩, .string ⟨#[]⟩, .int .i64 0, .int .i64 0, .bool false, .bool false, .bool false]), 8, 80) := by kernel_rfl
theorem fa213_0 : ∀ a w, (Instr.fieldAt 213 (.pointer (some a)) 0).run Tryz.prog w = .ok (.pointer (some (a.add 0))) w := run_field (b := 6) Tryz.underlying213 rfl rfl (by kernel_rfl) (by decide)
theorem fa213_1 : ∀ a w, (Instr.fieldAt 213 (.pointer (some a)) 1).run Tryz.prog w = .ok (.pointer (some (a.add 6))) w := run_field (b := 1) Tryz.underlying213 rfl rfl (by kernel_rfl) (by decide)
theorem fa213_2 : ∀ a w, (Instr.fieldAt 213 (.pointer (some a)) 2).run Tryz.prog w = .ok (.pointer (some (a.add 7))) w := run_field (b := 1) Tryz.underlying213 rfl rfl (by kernel_rfl) (by decide)
theorem sz225 : (Tryz.prog.info? 225).map (·.size) = some 1 := by kernel_rfl
theorem inf225 : (Tryz.prog.info? 225).map (fun i => (i.zero, i.size, i.bytes)) = some (some (.slice none 0 0), 1, 24) := by kernel_rfl
theorem sz242 : (Tryz.prog.info? 242).map (·.size) = some 3 := by kernel_rfl
theorem co242 : Tryz.prog.cellsOf 242 = 3 := by kernel_rfl
theorem bo242 : Tryz.prog.bytesOf 242 = 24 := by kernel_rfl
theorem z242 : ∀ w, (zeroValue 242).run Tryz.prog w = .ok (.agg #[.int .i64 0, .int .i64 0, .int .i64 0]) w := fun _ => by kernel_rfl
theorem fa242_0 : ∀ a w, (Instr.fieldAt 242 (.pointer (some a)) 0).run Tryz.prog w = .ok (.pointer (some (a.add 0))) w := run_field (b := 1) Tryz.underlying242 rfl rfl (by kernel_rfl) (by decide)
theorem fa242_1 : ∀ a w, (Instr.fieldAt 242 (.pointer (some a)) 1).run Tryz.prog w = .ok (.pointer (some (a.add 1))) w := run_field (b := 1) Tryz.underlying242 rfl rfl (by kernel_rfl) (by decide)
theorem fa242_2 : ∀ a w, (Instr.fieldAt 242 (.pointer (some a)) 2).run Tryz.prog w = .ok (.pointer (some (a.add 2))) w := run_field (b := 1) Tryz.underlying242 rfl rfl (by kernel_rfl) (by decide)
theorem z284 : ∀ w, (zeroValue 284).run Tryz.prog w = .ok (.agg #[.int .u8 0, .int .u8 0, .int .u8 0, .int .u8 0, .int .u8 0, .int .u8 0, .int .u8 0, .int .u8 0, .int .u8 0, .int .u8 0, .int .u8 0, .int .u8 0, .int .u8 0, .int .u8 0, .int .u8 0, .int .u8 0, .int .u8 0, .int .u8 0, .int .u8 0, .int .u8 0, .int .u8 0, .int .u8 0, .int .u8 0, .int .u8 0, .int .u8 0, .int .u8 0, .int .u8 0, .int .u8 0, .int .u8 0, .int .u8 0, .int .u8 0, .int .u8 0, .int .u8 0, .int .u8 0, .int .u8 0, .int .u8 0, .int .u8 0, .int .u8 0, .int .u8 0, .int .u8 0, .int .u8 0, .int .u8 0, .int .u8 0, .int .u8 0, .int .u8 0, .int .u8 0, .int .u8 0, .int .u8 0, .int .u8 0, .int .u8 0, .int .u8 0, .int .u8 0, .int .u8 0, .int .u8 0, .int .u8 0, .int .u8 0, .int .u8 0, .int .u8 0, .int .u8 0, .int .u8 0, .int .u8 0, .int .u8 0, .int .u8 0, .int .u8 0, .int .u8 0]) w := fun _ => by kernel_rfl
theorem cf5 : ∀ args w, (callFunc 5 args).run Tryz.prog w = .ok (.enter 5 args) w := run_cf Tryz.func5 (by kernel_rfl) rfl
theorem cf6 : ∀ args w, (callFunc 6 args).run Tryz.prog w = .ok (.enter 6 args) w := run_cf Tryz.func6 (by kernel_rfl) rfl
theorem cf7 : ∀ args w, (callFunc 7 args).run Tryz.prog w = .ok (.enter 7 args) w := run_cf Tryz.func7 (by kernel_rfl) rfl
theorem cf8 : ∀ args w, (callFunc 8 args).run Tryz.prog w = .ok (.enter 8 args) w := run_cf Tryz.func8 (by kernel_rfl) rfl
theorem cf9 : ∀ args w, (callFunc 9 args).run Tryz.prog w = .ok (.enter 9 args) w := run_cf Tryz.func9 (by kernel_rfl) rfl
theorem cf10 : ∀ args w, (callFunc 10 args).run Tryz.prog w = .ok (.enter 10 args) w := run_cf Tryz.func10 (by kernel_rfl) rfl
theorem cf11 : ∀ args w, (callFunc 11 args).run Tryz.prog w = .ok (.enter 11 args) w := run_cf Tryz.func11 (by kernel_rfl) rfl
theorem cf12 : ∀ args w, (callFunc 12 args).run Tryz.prog w = .ok (.enter 12 args) w := run_cf Tryz.func12 (by kernel_rfl) rfl
theorem cf13 : ∀ args w, (callFunc 13 args).run Tryz.prog w = .ok (.enter 13 args) w := run_cf Tryz.func13 (by kernel_rfl) rfl
theorem cf19 : ∀ args w, (callFunc 19 args).run Tryz.prog w = .ok (.enter 19 args) w := run_cf Tryz.func19 (by kernel_rfl) rfl
theorem cf20 : ∀ args w, (callFunc 20 args).run Tryz.prog w = .ok (.enter 20 args) w := run_cf Tryz.func20 (by kernel_rfl) rfl
theorem cf21 : ∀ args w, (callFunc 21 args).run Tryz.prog w = .ok (.enter 21 args) w := run_cf Tryz.func21 (by kernel_rfl) rfl
theorem cf22 : ∀ args w, (callFunc 22 args).run Tryz.prog w = .ok (.enter 22 args) w := run_cf Tryz.func22 (by kernel_rfl) rfl
theorem cf23 : ∀ args w, (callFunc 23 args).run Tryz.prog w = .ok (.enter 23 args) w := run_cf Tryz.func23 (by kernel_rfl) rfl
theorem cf24 : ∀ args w, (callFunc 24 args).run Tryz.prog w = .ok (.enter 24 args) w := run_cf Tryz.func24 (by kernel_rfl) rfl
theorem cf25 : ∀ args w, (callFunc 25 args).run Tryz.prog w = .ok (.enter 25 args) w := run_cf Tryz.func25 (by kernel_rfl) rfl
theorem cf26 : ∀ args w, (callFunc 26 args).run Tryz.prog w = .ok (.enter 26 args) w := run_cf Tryz.func26 (by kernel_rfl) rfl
theorem cf27 : ∀ args w, (callFunc 27 args).run Tryz.prog w = .ok (.enter 27 args) w := run_cf Tryz.func27 (by kernel_rfl) rfl
theorem cf28 : ∀ args w, (callFunc 28 args).run Tryz.prog w = .ok (.enter 28 args) w := run_cf Tryz.func28 (by kernel_rfl) rfl
theorem cf29 : ∀ args w, (callFunc 29 args).run Tryz.prog w = .ok (.enter 29 args) w := run_cf Tryz.func29 (by kernel_rfl) rfl
theorem cf30 : ∀ args w, (callFunc 30 args).run Tryz.prog w = .ok (.enter 30 args) w := run_cf Tryz.func30 (by kernel_rfl) rfl
theorem cf31 : ∀ args w, (callFunc 31 args).run Tryz.prog w = .ok (.enter 31 args) w := run_cf Tryz.func31 (by kernel_rfl) rfl
theorem cf32 : ∀ args w, (callFunc 32 args).run Tryz.prog w = .ok (.enter 32 args) w := run_cf Tryz.func32 (by kernel_rfl) rfl
theorem cf33 : ∀ args w, (callFunc 33 args).run Tryz.prog w = .ok (.enter 33 args) w := run_cf Tryz.func33 (by kernel_rfl) rfl
theorem cf34 : ∀ args w, (callFunc 34 args).run Tryz.prog w = .ok (.enter 34 args) w := run_cf Tryz.func34 (by kernel_rfl) rfl
theorem cf35 : ∀ args w, (callFunc 35 args).run Tryz.prog w = .ok (.enter 35 args) w := run_cf Tryz.func35 (by kernel_rfl) rfl
theorem cf36 : ∀ args w, (callFunc 36 args).run Tryz.prog w = .ok (.enter 36 args) w := run_cf Tryz.func36 (by kernel_rfl) rfl
theorem cf37 : ∀ args w, (callFunc 37 args).run Tryz.prog w = .ok (.enter 37 args) w := run_cf Tryz.func37 (by kernel_rfl) rfl
theorem cf38 : ∀ args w, (callFunc 38 args).run Tryz.prog w = .ok (.enter 38 args) w := run_cf Tryz.func38 (by kernel_rfl) rfl
theorem cf39 : ∀ args w, (callFunc 39 args).run Tryz.prog w = .ok (.enter 39 args) w := run_cf Tryz.func39 (by kernel_rfl) rfl
theorem cf40 : ∀ args w, (callFunc 40 args).run Tryz.prog w = .ok (.enter 40 args) w := run_cf Tryz.func40 (by kernel_rfl) rfl
theorem cf41 : ∀ args w, (callFunc 41 args).run Tryz.prog w = .ok (.enter 41 args) w := run_cf Tryz.func41 (by kernel_rfl) rfl
theorem cf42 : ∀ args w, (callFunc 42 args).run Tryz.prog w = .ok (.enter 42 args) w := run_cf Tryz.func42 (by kernel_rfl) rfl
theorem cf43 : ∀ args w, (callFunc 43 args).run Tryz.prog w = .ok (.enter 43 args) w := run_cf Tryz.func43 (by kernel_rfl) rfl
theorem cf44 : ∀ args w, (callFunc 44 args).run Tryz.prog w = .ok (.enter 44 args) w := run_cf Tryz.func44 (by kernel_rfl) rfl
theorem cf45 : ∀ args w, (callFunc 45 args).run Tryz.prog w = .ok (.enter 45 args) w := run_cf Tryz.func45 (by kernel_rfl) rfl
theorem cf59 : ∀ args w, (callFunc 59 args).run Tryz.prog w = .ok (.enter 59 args) w := run_cf Tryz.func59 (by kernel_rfl) rfl
theorem cf60 : ∀ args w, (callFunc 60 args).run Tryz.prog w = .ok (.enter 60 args) w := run_cf Tryz.func60 (by kernel_rfl) rfl
theorem cf61 : ∀ args w, (callFunc 61 args).run Tryz.prog w = .ok (.enter 61 args) w := run_cf Tryz.func61 (by kernel_rfl) rfl
theorem cf62 : ∀ args w, (callFunc 62 args).run Tryz.prog w = .ok (.enter 62 args) w := run_cf Tryz.func62 (by kernel_rfl) rfl
theorem cf63 : ∀ args w, (callFunc 63 args).run Tryz.prog w = .ok (.enter 63 args) w := run_cf Tryz.func63 (by kernel_rfl) rfl
theorem cf64 : ∀ args w, (callFunc 64 args).run Tryz.prog w = .ok (.enter 64 args) w := run_cf Tryz.func64 (by kernel_rfl) rfl
theorem cf65 : ∀ args w, (callFunc 65 args).run Tryz.prog w = .ok (.enter 65 args) w := run_cf Tryz.func65 (by kernel_rfl) rfl
theorem cf66 : ∀ args w, (callFunc 66 args).run Tryz.prog w = .ok (.enter 66 args) w := run_cf Tryz.func66 (by kernel_rfl) rfl
theorem cf67 : ∀ args w, (callFunc 67 args).run Tryz.prog w = .ok (.enter 67 args) w := run_cf Tryz.func67 (by kernel_rfl) rfl
theorem cf68 : ∀ args w, (callFunc 68 args).run Tryz.prog w = .ok (.enter 68 args) w := run_cf Tryz.func68 (by kernel_rfl) rfl
theorem cf69 : ∀ args w, (callFunc 69 args).run Tryz.prog w = .ok (.enter 69 args) w := run_cf Tryz.func69 (by kernel_rfl) rfl
theorem cf70 : ∀ args w, (callFunc 70 args).run Tryz.prog w = .ok (.enter 70 args) w := run_cf Tryz.func70 (by kernel_rfl) rfl
theorem cf71 : ∀ args w, (callFunc 71 args).run Tryz.prog w = .ok (.enter 71 args) w := run_cf Tryz.func71 (by kernel_rfl) rfl
theorem cf72 : ∀ args w, (callFunc 72 args).run Tryz.prog w = .ok (.enter 72 args) w := run_cf Tryz.func72 (by kernel_rfl) rfl
theorem cf73 : ∀ args w, (callFunc 73 args).run Tryz.prog w = .ok (.enter 73 args) w := run_cf Tryz.func73 (by kernel_rfl) rfl
theorem cf76 : ∀ args w, (callFunc 76 args).run Tryz.prog w = .ok (.enter 76 args) w := run_cf Tryz.func76 (by kernel_rfl) rfl
theorem cf79 : ∀ args w, (callFunc 79 args).run Tryz.prog w = .ok (.enter 79 args) w := run_cf Tryz.func79 (by kernel_rfl) rfl
theorem cf80 : ∀ args w, (callFunc 80 args).run Tryz.prog w = .ok (.enter 80 args) w := run_cf Tryz.func80 (by kernel_rfl) rfl
theorem cf81 : ∀ args w, (callFunc 81 args).run Tryz.prog w = .ok (.enter 81 args) w := run_cf Tryz.func81 (by kernel_rfl) rfl
theorem cf82 : ∀ args w, (callFunc 82 args).run Tryz.prog w = .ok (.enter 82 args) w := run_cf Tryz.func82 (by kernel_rfl) rfl
theorem cf83 : ∀ args w, (callFunc 83 args).run Tryz.prog w = .ok (.enter 83 args) w := run_cf Tryz.func83 (by kernel_rfl) rfl
theorem cf84 : ∀ args w, (callFunc 84 args).run Tryz.prog w = .ok (.enter 84 args) w := run_cf Tryz.func84 (by kernel_rfl) rfl
theorem cf85 : ∀ args w, (callFunc 85 args).run Tryz.prog w = .ok (.enter 85 args) w := run_cf Tryz.func85 (by kernel_rfl) rfl
theorem cf86 : ∀ args w, (callFunc 86 args).run Tryz.prog w = .ok (.enter 86 args) w := run_cf Tryz.func86 (by kernel_rfl) rfl
theorem cf87 : ∀ args w, (callFunc 87 args).run Tryz.prog w = .ok (.enter 87 args) w := run_cf Tryz.func87 (by kernel_rfl) rfl
theorem cf88 : ∀ args w, (callFunc 88 args).run Tryz.prog w = .ok (.enter 88 args) w := run_cf Tryz.func88 (by kernel_rfl) rfl
theorem cf89 : ∀ args w, (callFunc 89 args).run Tryz.prog w = .ok (.enter 89 args) w := run_cf Tryz.func89 (by kernel_rfl) rfl
theorem cf90 : ∀ args w, (callFunc 90 args).run Tryz.prog w = .ok (.enter 90 args) w := run_cf Tryz.func90 (by kernel_rfl) rfl
theorem cf91 : ∀ args w, (callFunc 91 args).run Tryz.prog w = .ok (.enter 91 args) w := run_cf Tryz.func91 (by kernel_rfl) rfl
theorem cf92 : ∀ args w, (callFunc 92 args).run Tryz.prog w = .ok (.enter 92 args) w := run_cf Tryz.func92 (by kernel_rfl) rfl
theorem cf93 : ∀ args w, (callFunc 93 args).run Tryz.prog w = .ok (.enter 93 args) w := run_cf Tryz.func93 (by kernel_rfl) rfl
theorem cf94 : ∀ args w, (callFunc 94 args).run Tryz.prog w = .ok (.enter 94 args) w := run_cf Tryz.func94 (by kernel_rfl) rfl
theorem cf95 : ∀ args w, (callFunc 95 args).run Tryz.prog w = .ok (.enter 95 args) w := run_cf Tryz.func95 (by kernel_rfl) rfl
theorem cf96 : ∀ args w, (callFunc 96 args).run Tryz.prog w = .ok (.enter 96 args) w := run_cf Tryz.func96 (by kernel_rfl) rfl
theorem cf97 : ∀ args w, (callFunc 97 args).run Tryz.prog w = .ok (.enter 97 args) w := run_cf Tryz.func97 (by kernel_rfl) rfl
theorem cf98 : ∀ args w, (callFunc 98 args).run Tryz.prog w = .ok (.enter 98 args) w := run_cf Tryz.func98 (by kernel_rfl) rfl
theorem cf99 : ∀ args w, (callFunc 99 args).run Tryz.prog w = .ok (.enter 99 args) w := run_cf Tryz.func99 (by kernel_rfl) rfl
theorem cf100 : ∀ args w, (callFunc 100 args).run Tryz.prog w = .ok (.enter 100 args) w := run_cf Tryz.func100 (by kernel_rfl) rfl
theorem cf103 : ∀ args w, (callFunc 103 args).run Tryz.prog w = .ok (.enter 103 args) w := run_cf Tryz.func103 (by kernel_rfl) rfl
theorem cf120 : ∀ args w, (callFunc 120 args).run Tryz.prog w = .ok (.enter 120 args) w := run_cf Tryz.func120 (by kernel_rfl) rfl
theorem cf132 : ∀ args w, (callFunc 132 args).run Tryz.prog w = .ok (.enter 132 args) w := run_cf Tryz.func132 (by kernel_rfl) rfl
theorem cf135 : ∀ args w, (callFunc 135 args).run Tryz.prog w = .ok (.enter 135 args) w := run_cf Tryz.func135 (by kernel_rfl) rfl
theorem cf148 : ∀ args w, (callFunc 148 args).run Tryz.prog w = .ok (.enter 148 args) w := run_cf Tryz.func148 (by kernel_rfl) rfl
theorem cf149 : ∀ args w, (callFunc 149 args).run Tryz.prog w = .ok (.enter 149 args) w := run_cf Tryz.func149 (by kernel_rfl) rfl
theorem cf150 : ∀ args w, (callFunc 150 args).run Tryz.prog w = .ok (.enter 150 args) w := run_cf Tryz.func150 (by kernel_rfl) rfl
theorem cf152 : ∀ args w, (callFunc 152 args).run Tryz.prog w = .ok (.enter 152 args) w := run_cf Tryz.func152 (by kernel_rfl) rfl
theorem cf153 : ∀ args w, (callFunc 153 args).run Tryz.prog w = .ok (.enter 153 args) w := run_cf Tryz.func153 (by kernel_rfl) rfl
theorem cf154 : ∀ args w, (callFunc 154 args).run Tryz.prog w = .ok (.enter 154 args) w := run_cf Tryz.func154 (by kernel_rfl) rfl
theorem cf155 : ∀ args w, (callFunc 155 args).run Tryz.prog w = .ok (.enter 155 args) w := run_cf Tryz.func155 (by kernel_rfl) rfl
theorem cf156 : ∀ args w, (callFunc 156 args).run Tryz.prog w = .ok (.enter 156 args) w := run_cf Tryz.func156 (by kernel_rfl) rfl
theorem cf157 : ∀ args w, (callFunc 157 args).run Tryz.prog w = .ok (.enter 157 args) w := run_cf Tryz.func157 (by kernel_rfl) rfl
theorem cf158 : ∀ args w, (callFunc 158 args).run Tryz.prog w = .ok (.enter 158 args) w := run_cf Tryz.func158 (by kernel_rfl) rfl
theorem cf159 : ∀ args w, (callFunc 159 args).run Tryz.prog w = .ok (.enter 159 args) w := run_cf Tryz.func159 (by kernel_rfl) rfl
theorem cf160 : ∀ args w, (callFunc 160 args).run Tryz.prog w = .ok (.enter 160 args) w := run_cf Tryz.func160 (by kernel_rfl) rfl
theorem cf161 : ∀ args w, (callFunc 161 args).run Tryz.prog w = .ok (.enter 161 args) w := run_cf Tryz.func161 (by kernel_rfl) rfl
theorem cf162 : ∀ args w, (callFunc 162 args).run Tryz.prog w = .ok (.enter 162 args) w := run_cf Tryz.func162 (by kernel_rfl) rfl
theorem cf163 : ∀ args w, (callFunc 163 args).run Tryz.prog w = .ok (.enter 163 args) w := run_cf Tryz.func163 (by kernel_rfl) rfl
theorem cf164 : ∀ args w, (callFunc 164 args).run Tryz.prog w = .ok (.enter 164 args) w := run_cf Tryz.func164 (by kernel_rfl) rfl
theorem cf165 : ∀ args w, (callFunc 165 args).run Tryz.prog w = .ok (.enter 165 args) w := run_cf Tryz.func165 (by kernel_rfl) rfl
theorem cf166 : ∀ args w, (callFunc 166 args).run Tryz.prog w = .ok (.enter 166 args) w := run_cf Tryz.func166 (by kernel_rfl) rfl
theorem cf167 : ∀ args w, (callFunc 167 args).run Tryz.prog w = .ok (.enter 167 args) w := run_cf Tryz.func167 (by kernel_rfl) rfl
theorem cf171 : ∀ args w, (callFunc 171 args).run Tryz.prog w = .ok (.enter 171 args) w := run_cf Tryz.func171 (by kernel_rfl) rfl
theorem cf172 : ∀ args w, (callFunc 172 args).run Tryz.prog w = .ok (.enter 172 args) w := run_cf Tryz.func172 (by kernel_rfl) rfl
theorem cf173 : ∀ args w, (callFunc 173 args).run Tryz.prog w = .ok (.enter 173 args) w := run_cf Tryz.func173 (by kernel_rfl) rfl
theorem cf174 : ∀ args w, (callFunc 174 args).run Tryz.prog w = .ok (.enter 174 args) w := run_cf Tryz.func174 (by kernel_rfl) rfl
theorem cf175 : ∀ args w, (callFunc 175 args).run Tryz.prog w = .ok (.enter 175 args) w := run_cf Tryz.func175 (by kernel_rfl) rfl
theorem cf178 : ∀ args w, (callFunc 178 args).run Tryz.prog w = .ok (.enter 178 args) w := run_cf Tryz.func178 (by kernel_rfl) rfl
theorem cf179 : ∀ args w, (callFunc 179 args).run Tryz.prog w = .ok (.enter 179 args) w := run_cf Tryz.func179 (by kernel_rfl) rfl
theorem cf180 : ∀ args w, (callFunc 180 args).run Tryz.prog w = .ok (.enter 180 args) w := run_cf Tryz.func180 (by kernel_rfl) rfl
theorem cf181 : ∀ args w, (callFunc 181 args).run Tryz.prog w = .ok (.enter 181 args) w := run_cf Tryz.func181 (by kernel_rfl) rfl
theorem cf182 : ∀ args w, (callFunc 182 args).run Tryz.prog w = .ok (.enter 182 args) w := run_cf Tryz.func182 (by kernel_rfl) rfl
theorem cf183 : ∀ args w, (callFunc 183 args).run Tryz.prog w = .ok (.enter 183 args) w := run_cf Tryz.func183 (by kernel_rfl) rfl
theorem cf184 : ∀ args w, (callFunc 184 args).run Tryz.prog w = .ok (.enter 184 args) w := run_cf Tryz.func184 (by kernel_rfl) rfl
theorem cf185 : ∀ args w, (callFunc 185 args).run Tryz.prog w = .ok (.enter 185 args) w := run_cf Tryz.func185 (by kernel_rfl) rfl
theorem cf186 : ∀ args w, (callFunc 186 args).run Tryz.prog w = .ok (.enter 186 args) w := run_cf Tryz.func186 (by kernel_rfl) rfl
theorem cf187 : ∀ args w, (callFunc 187 args).run Tryz.prog w = .ok (.enter 187 args) w := run_cf Tryz.func187 (by kernel_rfl) rfl
theorem cf188 : ∀ args w, (callFunc 188 args).run Tryz.prog w = .ok (.enter 188 args) w := run_cf Tryz.func188 (by kernel_rfl) rfl
theorem cf189 : ∀ args w, (callFunc 189 args).run Tryz.prog w = .ok (.enter 189 args) w := run_cf Tryz.func189 (by kernel_rfl) rfl
theorem cf190 : ∀ args w, (callFunc 190 args).run Tryz.prog w = .ok (.enter 190 args) w := run_cf Tryz.func190 (by kernel_rfl) rfl
theorem cf191 : ∀ args w, (callFunc 191 args).run Tryz.prog w = .ok (.enter 191 args) w := run_cf Tryz.func191 (by kernel_rfl) rfl
theorem cf192 : ∀ args w, (callFunc 192 args).run Tryz.prog w = .ok (.enter 192 args) w := run_cf Tryz.func192 (by kernel_rfl) rfl
theorem cf197 : ∀ args w, (callFunc 197 args).run Tryz.prog w = .ok (.enter 197 args) w := run_cf Tryz.func197 (by kernel_rfl) rfl
theorem cf198 : ∀ args w, (callFunc 198 args).run Tryz.prog w = .ok (.enter 198 args) w := run_cf Tryz.func198 (by kernel_rfl) rfl
theorem cf202 : ∀ args w, (callFunc 202 args).run Tryz.prog w = .ok (.enter 202 args) w := run_cf Tryz.func202 (by kernel_rfl) rfl
theorem cf210 : ∀ args w, (callFunc 210 args).run Tryz.prog w = .ok (.enter 210 args) w := run_cf Tryz.func210 (by kernel_rfl) rfl
theorem cf212 : ∀ args w, (callFunc 212 args).run Tryz.prog w = .ok (.enter 212 args) w := run_cf Tryz.func212 (by kernel_rfl) rfl
theorem cf213 : ∀ args w, (callFunc 213 args).run Tryz.prog w = .ok (.enter 213 args) w := run_cf Tryz.func213 (by kernel_rfl) rfl
theorem cf214 : ∀ args w, (callFunc 214 args).run Tryz.prog w = .ok (.enter 214 args) w := run_cf Tryz.func214 (by kernel_rfl) rfl
theorem cf215 : ∀ args w, (callFunc 215 args).run Tryz.prog w = .ok (.enter 215 args) w := run_cf Tryz.func215 (by kernel_rfl) rfl
theorem cf216 : ∀ args w, (callFunc 216 args).run Tryz.prog w = .ok (.enter 216 args) w := run_cf Tryz.func216 (by kernel_rfl) rfl
theorem cf217 : ∀ args w, (callFunc 217 args).run Tryz.prog w = .ok (.enter 217 args) w := run_cf Tryz.func217 (by kernel_rfl) rfl
theorem cf218 : ∀ args w, (callFunc 218 args).run Tryz.prog w = .ok (.enter 218 args) w := run_cf Tryz.func218 (by kernel_rfl) rfl
theorem cf219 : ∀ args w, (callFunc 219 args).run Tryz.prog w = .ok (.enter 219 args) w := run_cf Tryz.func219 (by kernel_rfl) rfl
theorem cf220 : ∀ args w, (callFunc 220 args).run Tryz.prog w = .ok (.enter 220 args) w := run_cf Tryz.func220 (by kernel_rfl) rfl
theorem cf226 : ∀ args w, (callFunc 226 args).run Tryz.prog w = .ok (.enter 226 args) w := run_cf Tryz.func226 (by kernel_rfl) rfl
theorem cf227 : ∀ args w, (callFunc 227 args).run Tryz.prog w = .ok (.enter 227 args) w := run_cf Tryz.func227 (by kernel_rfl) rfl
theorem cf228 : ∀ args w, (callFunc 228 args).run Tryz.prog w = .ok (.enter 228 args) w := run_cf Tryz.func228 (by kernel_rfl) rfl
theorem cf229 : ∀ args w, (callFunc 229 args).run Tryz.prog w = .ok (.enter 229 args) w := run_cf Tryz.func229 (by kernel_rfl) rfl
theorem cf230 : ∀ args w, (callFunc 230 args).run Tryz.prog w = .ok (.enter 230 args) w := run_cf Tryz.func230 (by kernel_rfl) rfl
theorem cf231 : ∀ args w, (callFunc 231 args).run Tryz.prog w = .ok (.enter 231 args) w := run_cf Tryz.func231 (by kernel_rfl) rfl
theorem cf232 : ∀ args w, (callFunc 232 args).run Tryz.prog w = .ok (.enter 232 args) w := run_cf Tryz.func232 (by kernel_rfl) rfl
theorem cf233 : ∀ args w, (callFunc 233 args).run Tryz.prog w = .ok (.enter 233 args) w := run_cf Tryz.func233 (by kernel_rfl) rfl
theorem cf236 : ∀ args w, (callFunc 236 args).run Tryz.prog w = .ok (.enter 236 args) w := run_cf Tryz.func236 (by kernel_rfl) rfl
theorem cf237 : ∀ args w, (callFunc 237 args).run Tryz.prog w = .ok (.enter 237 args) w := run_cf Tryz.func237 (by kernel_rfl) rfl
theorem cf240 : ∀ args w, (callFunc 240 args).run Tryz.prog w = .ok (.enter 240 args) w := run_cf Tryz.func240 (by kernel_rfl) rfl
theorem cf241 : ∀ args w, (callFunc 241 args).run Tryz.prog w = .ok (.enter 241 args) w := run_cf Tryz.func241 (by kernel_rfl) rfl
theorem cf242 : ∀ args w, (callFunc 242 args).run Tryz.prog w = .ok (.enter 242 args) w := run_cf Tryz.func242 (by kernel_rfl) rfl
theorem cf243 : ∀ args w, (callFunc 243 args).run Tryz.prog w = .ok (.enter 243 args) w := run_cf Tryz.func243 (by kernel_rfl) rfl
theorem cf244 : ∀ args w, (callFunc 244 args).run Tryz.prog w = .ok (.enter 244 args) w := run_cf Tryz.func244 (by kernel_rfl) rfl
theorem cf248 : ∀ args w, (callFunc 248 args).run Tryz.prog w = .ok (.enter 248 args) w := run_cf Tryz.func248 (by kernel_rfl) rfl
theorem cf250 : ∀ args w, (callFunc 250 args).run Tryz.prog w = .ok (.enter 250 args) w := run_cf Tryz.func250 (by kernel_rfl) rfl
theorem cf261 : ∀ args w, (callFunc 261 args).run Tryz.prog w = .ok (.enter 261 args) w := run_cf Tryz.func261 (by kernel_rfl) rfl
theorem cf262 : ∀ args w, (callFunc 262 args).run Tryz.prog w = .ok (.enter 262 args) w := run_cf Tryz.func262 (by kernel_rfl) rfl
theorem cf263 : ∀ args w, (callFunc 263 args).run Tryz.prog w = .ok (.enter 263 args) w := run_cf Tryz.func263 (by kernel_rfl) rfl
theorem cf270 : ∀ args w, (callFunc 270 args).run Tryz.prog w = .ok (.enter 270 args) w := run_cf Tryz.func270 (by kernel_rfl) rfl
theorem cf271 : ∀ args w, (callFunc 271 args).run Tryz.prog w = .ok (.enter 271 args) w := run_cf Tryz.func271 (by kernel_rfl) rfl
theorem cf272 : ∀ args w, (callFunc 272 args).run Tryz.prog w = .ok (.enter 272 args) w := run_cf Tryz.func272 (by kernel_rfl) rfl
theorem cf274 : ∀ args w, (callFunc 274 args).run Tryz.prog w = .ok (.enter 274 args) w := run_cf Tryz.func274 (by kernel_rfl) rfl
theorem cf275 : ∀ args w, (callFunc 275 args).run Tryz.prog w = .ok (.enter 275 args) w := run_cf Tryz.func275 (by kernel_rfl) rfl
theorem cf276 : ∀ args w, (callFunc 276 args).run Tryz.prog w = .ok (.enter 276 args) w := run_cf Tryz.func276 (by kernel_rfl) rfl
theorem cf282 : ∀ args w, (callFunc 282 args).run Tryz.prog w = .ok (.enter 282 args) w := run_cf Tryz.func282 (by kernel_rfl) rfl
theorem cf283 : ∀ args w, (callFunc 283 args).run Tryz.prog w = .ok (.enter 283 args) w := run_cf Tryz.func283 (by kernel_rfl) rfl
theorem cf292 : ∀ args w, (callFunc 292 args).run Tryz.prog w = .ok (.enter 292 args) w := run_cf Tryz.func292 (by kernel_rfl) rfl
theorem cf293 : ∀ args w, (callFunc 293 args).run Tryz.prog w = .ok (.enter 293 args) w := run_cf Tryz.func293 (by kernel_rfl) rfl
theorem cf313 : ∀ args w, (callFunc 313 args).run Tryz.prog w = .ok (.enter 313 args) w := run_cf Tryz.func313 (by kernel_rfl) rfl
theorem cf317 : ∀ args w, (callFunc 317 args).run Tryz.prog w = .ok (.enter 317 args) w := run_cf Tryz.func317 (by kernel_rfl) rfl
theorem cf318 : ∀ args w, (callFunc 318 args).run Tryz.prog w = .ok (.enter 318 args) w := run_cf Tryz.func318 (by kernel_rfl) rfl
end Go.Proofs.YtgbldojgbpgjbaaGreatDoor
