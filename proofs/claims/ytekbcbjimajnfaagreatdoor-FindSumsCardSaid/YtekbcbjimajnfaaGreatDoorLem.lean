/- Closed facts on this seat's program: sizes, fields, zero values, calls. Written by a program of mine. -/
import Derived.Test.YtekbcbjimajnfaaGreatDoorMore
import Derived.Test.YtekbcbjimajnfaaGreatDoorRows
namespace Go.Proofs.YtekbcbjimajnfaaGreatDoor
open Go.RowKit Go.Eng
theorem sz3 : (Tryz.prog.info? 3).map (·.size) = some 1 := by kernel_rfl
theorem co3 : Tryz.prog.cellsOf 3 = 1 := by kernel_rfl
theorem z3 : ∀ w, (zeroValue 3).run Tryz.prog w = .ok (.int .i64 0) w := fun _ => by kernel_rfl
theorem inf3 : (Tryz.prog.info? 3).map (fun i => (i.zero, i.size, i.bytes)) = some (some (.int .i64 0), 1, 8) := by kernel_rfl
theorem co4 : Tryz.prog.cellsOf 4 = 1 := by kernel_rfl
theorem z4 : ∀ w, (zeroValue 4).run Tryz.prog w = .ok (.bool false) w := fun _ => by kernel_rfl
theorem sz5 : (Tryz.prog.info? 5).map (·.size) = some 1 := by kernel_rfl
theorem z5 : ∀ w, (zeroValue 5).run Tryz.prog w = .ok (.int .u8 0) w := fun _ => by kernel_rfl
theorem sz9 : (Tryz.prog.info? 9).map (·.size) = some 1 := by kernel_rfl
theorem co9 : Tryz.prog.cellsOf 9 = 1 := by kernel_rfl
theorem z9 : ∀ w, (zeroValue 9).run Tryz.prog w = .ok (.string ⟨#[]⟩) w := fun _ => by kernel_rfl
theorem inf9 : (Tryz.prog.info? 9).map (fun i => (i.zero, i.size, i.bytes)) = some (some (.string ⟨#[]⟩), 1, 16) := by kernel_rfl
theorem z21 : ∀ w, (zeroValue 21).run Tryz.prog w = .ok (.int .i32 0) w := fun _ => by kernel_rfl
theorem z22 : ∀ w, (zeroValue 22).run Tryz.prog w = .ok (.slice none 0 0) w := fun _ => by kernel_rfl
theorem z25 : ∀ w, (zeroValue 25).run Tryz.prog w = .ok (.slice none 0 0) w := fun _ => by kernel_rfl
theorem sz27 : (Tryz.prog.info? 27).map (·.size) = some 1 := by kernel_rfl
theorem co27 : Tryz.prog.cellsOf 27 = 1 := by kernel_rfl
theorem sz28 : (Tryz.prog.info? 28).map (·.size) = some 1 := by kernel_rfl
theorem co28 : Tryz.prog.cellsOf 28 = 1 := by kernel_rfl
theorem sz29 : (Tryz.prog.info? 29).map (·.size) = some 1 := by kernel_rfl
theorem co29 : Tryz.prog.cellsOf 29 = 1 := by kernel_rfl
theorem sz31 : (Tryz.prog.info? 31).map (·.size) = some 9 := by kernel_rfl
theorem co31 : Tryz.prog.cellsOf 31 = 9 := by kernel_rfl
theorem bo31 : Tryz.prog.bytesOf 31 = 144 := by kernel_rfl
theorem z31 : ∀ w, (zeroValue 31).run Tryz.prog w = .ok (.agg #[.string ⟨#[]⟩, .int .i64 0, .int .i64 0, .slice none 0 0, .slice none 0 0, .slice none 0 0, .string ⟨#[]⟩, .string ⟨#[]⟩, .int .i64 0]) w := fun _ => by kernel_rfl
theorem inf31 : (Tryz.prog.info? 31).map (fun i => (i.zero, i.size, i.bytes)) = some (some (.agg #[.string ⟨#[]⟩, .int .i64 0, .int .i64 0, .slice none 0 0, .slice none 0 0, .slice none 0 0, .string ⟨#[]⟩, .string ⟨#[]⟩, .int .i64 0]), 9, 144) := by kernel_rfl
theorem fa31_0 : ∀ a w, (Instr.fieldAt 31 (.pointer (some a)) 0).run Tryz.prog w = .ok (.pointer (some (a.add 0))) w := run_field (b := 1) Tryz.underlying31 rfl rfl (by kernel_rfl) (by decide)
theorem fa31_1 : ∀ a w, (Instr.fieldAt 31 (.pointer (some a)) 1).run Tryz.prog w = .ok (.pointer (some (a.add 1))) w := run_field (b := 1) Tryz.underlying31 rfl rfl (by kernel_rfl) (by decide)
theorem fa31_2 : ∀ a w, (Instr.fieldAt 31 (.pointer (some a)) 2).run Tryz.prog w = .ok (.pointer (some (a.add 2))) w := run_field (b := 1) Tryz.underlying31 rfl rfl (by kernel_rfl) (by decide)
theorem fa31_3 : ∀ a w, (Instr.fieldAt 31 (.pointer (some a)) 3).run Tryz.prog w = .ok (.pointer (some (a.add 3))) w := run_field (b := 1) Tryz.underlying31 rfl rfl (by kernel_rfl) (by decide)
theorem fa31_4 : ∀ a w, (Instr.fieldAt 31 (.pointer (some a)) 4).run Tryz.prog w = .ok (.pointer (some (a.add 4))) w := run_field (b := 1) Tryz.underlying31 rfl rfl (by kernel_rfl) (by decide)
theorem fa31_5 : ∀ a w, (Instr.fieldAt 31 (.pointer (some a)) 5).run Tryz.prog w = .ok (.pointer (some (a.add 5))) w := run_field (b := 1) Tryz.underlying31 rfl rfl (by kernel_rfl) (by decide)
theorem fa31_6 : ∀ a w, (Instr.fieldAt 31 (.pointer (some a)) 6).run Tryz.prog w = .ok (.pointer (some (a.add 6))) w := run_field (b := 1) Tryz.underlying31 rfl rfl (by kernel_rfl) (by decide)
theorem fa31_7 : ∀ a w, (Instr.fieldAt 31 (.pointer (some a)) 7).run Tryz.prog w = .ok (.pointer (some (a.add 7))) w := run_field (b := 1) Tryz.underlying31 rfl rfl (by kernel_rfl) (by decide)
theorem fa31_8 : ∀ a w, (Instr.fieldAt 31 (.pointer (some a)) 8).run Tryz.prog w = .ok (.pointer (some (a.add 8))) w := run_field (b := 1) Tryz.underlying31 rfl rfl (by kernel_rfl) (by decide)
theorem sz32 : (Tryz.prog.info? 32).map (·.size) = some 1 := by kernel_rfl
theorem inf32 : (Tryz.prog.info? 32).map (fun i => (i.zero, i.size, i.bytes)) = some (some (.nilFunc), 1, 8) := by kernel_rfl
theorem co34 : Tryz.prog.cellsOf 34 = 1 := by kernel_rfl
theorem sz36 : (Tryz.prog.info? 36).map (·.size) = some 6 := by kernel_rfl
theorem co36 : Tryz.prog.cellsOf 36 = 6 := by kernel_rfl
theorem bo36 : Tryz.prog.bytesOf 36 = 80 := by kernel_rfl
theorem z36 : ∀ w, (zeroValue 36).run Tryz.prog w = .ok (.agg #[.int .i64 0, .slice none 0 0, .int .i64 0, .int .i64 0, .string ⟨#[]⟩, .string ⟨#[]⟩]) w := fun _ => by kernel_rfl
theorem fa36_0 : ∀ a w, (Instr.fieldAt 36 (.pointer (some a)) 0).run Tryz.prog w = .ok (.pointer (some (a.add 0))) w := run_field (b := 1) Tryz.underlying36 rfl rfl (by kernel_rfl) (by decide)
theorem fa36_1 : ∀ a w, (Instr.fieldAt 36 (.pointer (some a)) 1).run Tryz.prog w = .ok (.pointer (some (a.add 1))) w := run_field (b := 1) Tryz.underlying36 rfl rfl (by kernel_rfl) (by decide)
theorem fa36_2 : ∀ a w, (Instr.fieldAt 36 (.pointer (some a)) 2).run Tryz.prog w = .ok (.pointer (some (a.add 2))) w := run_field (b := 1) Tryz.underlying36 rfl rfl (by kernel_rfl) (by decide)
theorem fa36_3 : ∀ a w, (Instr.fieldAt 36 (.pointer (some a)) 3).run Tryz.prog w = .ok (.pointer (some (a.add 3))) w := run_field (b := 1) Tryz.underlying36 rfl rfl (by kernel_rfl) (by decide)
theorem fa36_4 : ∀ a w, (Instr.fieldAt 36 (.pointer (some a)) 4).run Tryz.prog w = .ok (.pointer (some (a.add 4))) w := run_field (b := 1) Tryz.underlying36 rfl rfl (by kernel_rfl) (by decide)
theorem fa36_5 : ∀ a w, (Instr.fieldAt 36 (.pointer (some a)) 5).run Tryz.prog w = .ok (.pointer (some (a.add 5))) w := run_field (b := 1) Tryz.underlying36 rfl rfl (by kernel_rfl) (by decide)
theorem z38 : ∀ w, (zeroValue 38).run Tryz.prog w = .ok (.agg #[.int .i64 0, .slice none 0 0, .int .i64 0, .int .i64 0, .string ⟨#[]⟩, .string ⟨#[]⟩, .int .i64 0, .bool false, .int .i64 0, .int .i64 0]) w := fun _ => by kernel_rfl
theorem fa38_0 : ∀ a w, (Instr.fieldAt 38 (.pointer (some a)) 0).run Tryz.prog w = .ok (.pointer (some (a.add 0))) w := run_field (b := 6) Tryz.underlying38 rfl rfl (by kernel_rfl) (by decide)
theorem fa38_1 : ∀ a w, (Instr.fieldAt 38 (.pointer (some a)) 1).run Tryz.prog w = .ok (.pointer (some (a.add 6))) w := run_field (b := 1) Tryz.underlying38 rfl rfl (by kernel_rfl) (by decide)
theorem fa38_2 : ∀ a w, (Instr.fieldAt 38 (.pointer (some a)) 2).run Tryz.prog w = .ok (.pointer (some (a.add 7))) w := run_field (b := 1) Tryz.underlying38 rfl rfl (by kernel_rfl) (by decide)
theorem fa38_3 : ∀ a w, (Instr.fieldAt 38 (.pointer (some a)) 3).run Tryz.prog w = .ok (.pointer (some (a.add 8))) w := run_field (b := 1) Tryz.underlying38 rfl rfl (by kernel_rfl) (by decide)
theorem fa38_4 : ∀ a w, (Instr.fieldAt 38 (.pointer (some a)) 4).run Tryz.prog w = .ok (.pointer (some (a.add 9))) w := run_field (b := 1) Tryz.underlying38 rfl rfl (by kernel_rfl) (by decide)
theorem z39 : ∀ w, (zeroValue 39).run Tryz.prog w = .ok (.agg #[.int .i64 0, .string ⟨#[]⟩, .int .i64 0, .int .i64 0, .slice none 0 0, .slice none 0 0, .slice none 0 0, .string ⟨#[]⟩, .string ⟨#[]⟩, .int .i64 0, .string ⟨#[]⟩, .string ⟨#[]⟩, .int .i64 0, .slice none 0 0, .int .i64 0, .int .i64 0, .string ⟨#[]⟩, .string ⟨#[]⟩, .int .i64 0, .bool false, .int .i64 0, .int .i64 0, .int .i64 0, .int .i64 0, .int .i64 0, .int .i64 0, .int .i64 0]) w := fun _ => by kernel_rfl
theorem sz63 : (Tryz.prog.info? 63).map (·.size) = some 3 := by kernel_rfl
theorem z63 : ∀ w, (zeroValue 63).run Tryz.prog w = .ok (.agg #[.string ⟨#[]⟩, .int .i64 0, .int .i64 0]) w := fun _ => by kernel_rfl
theorem inf63 : (Tryz.prog.info? 63).map (fun i => (i.zero, i.size, i.bytes)) = some (some (.agg #[.string ⟨#[]⟩, .int .i64 0, .int .i64 0]), 3, 32) := by kernel_rfl
theorem fa63_0 : ∀ a w, (Instr.fieldAt 63 (.pointer (some a)) 0).run Tryz.prog w = .ok (.pointer (some (a.add 0))) w := run_field (b := 1) Tryz.underlying63 rfl rfl (by kernel_rfl) (by decide)
theorem fa63_1 : ∀ a w, (Instr.fieldAt 63 (.pointer (some a)) 1).run Tryz.prog w = .ok (.pointer (some (a.add 1))) w := run_field (b := 1) Tryz.underlying63 rfl rfl (by kernel_rfl) (by decide)
theorem fa63_2 : ∀ a w, (Instr.fieldAt 63 (.pointer (some a)) 2).run Tryz.prog w = .ok (.pointer (some (a.add 2))) w := run_field (b := 1) Tryz.underlying63 rfl rfl (by kernel_rfl) (by decide)
theorem z70 : ∀ w, (zeroValue 70).run Tryz.prog w = .ok (.agg #[.int .i64 0, .int .i64 0, .int .i64 0]) w := fun _ => by kernel_rfl
theorem z89 : ∀ w, (zeroValue 89).run Tryz.prog w = .ok (.agg #[.map none]) w := fun _ => by kernel_rfl
theorem fa89_0 : ∀ a w, (Instr.fieldAt 89 (.pointer (some a)) 0).run Tryz.prog w = .ok (.pointer (some (a.add 0))) w := run_field (b := 1) Tryz.underlying89 rfl rfl (by kernel_rfl) (by decide)
theorem sz92 : (Tryz.prog.info? 92).map (·.size) = some 2 := by kernel_rfl
theorem co92 : Tryz.prog.cellsOf 92 = 2 := by kernel_rfl
theorem bo92 : Tryz.prog.bytesOf 92 = 32 := by kernel_rfl
theorem z92 : ∀ w, (zeroValue 92).run Tryz.prog w = .ok (.agg #[.string ⟨#[]⟩, .string ⟨#[]⟩]) w := fun _ => by kernel_rfl
theorem inf92 : (Tryz.prog.info? 92).map (fun i => (i.zero, i.size, i.bytes)) = some (some (.agg #[.string ⟨#[]⟩, .string ⟨#[]⟩]), 2, 32) := by kernel_rfl
theorem fa92_0 : ∀ a w, (Instr.fieldAt 92 (.pointer (some a)) 0).run Tryz.prog w = .ok (.pointer (some (a.add 0))) w := run_field (b := 1) Tryz.underlying92 rfl rfl (by kernel_rfl) (by decide)
theorem fa92_1 : ∀ a w, (Instr.fieldAt 92 (.pointer (some a)) 1).run Tryz.prog w = .ok (.pointer (some (a.add 1))) w := run_field (b := 1) Tryz.underlying92 rfl rfl (by kernel_rfl) (by decide)
theorem sz95 : (Tryz.prog.info? 95).map (·.size) = some 3 := by kernel_rfl
theorem co95 : Tryz.prog.cellsOf 95 = 3 := by kernel_rfl
theorem bo95 : Tryz.prog.bytesOf 95 = 40 := by kernel_rfl
theorem z95 : ∀ w, (zeroValue 95).run Tryz.prog w = .ok (.agg #[.int .i64 0, .string ⟨#[]⟩, .string ⟨#[]⟩]) w := fun _ => by kernel_rfl
theorem inf95 : (Tryz.prog.info? 95).map (fun i => (i.zero, i.size, i.bytes)) = some (some (.agg #[.int .i64 0, .string ⟨#[]⟩, .string ⟨#[]⟩]), 3, 40) := by kernel_rfl
theorem fa95_0 : ∀ a w, (Instr.fieldAt 95 (.pointer (some a)) 0).run Tryz.prog w = .ok (.pointer (some (a.add 0))) w := run_field (b := 1) Tryz.underlying95 rfl rfl (by kernel_rfl) (by decide)
theorem fa95_1 : ∀ a w, (Instr.fieldAt 95 (.pointer (some a)) 1).run Tryz.prog w = .ok (.pointer (some (a.add 1))) w := run_field (b := 1) Tryz.underlying95 rfl rfl (by kernel_rfl) (by decide)
theorem fa95_2 : ∀ a w, (Instr.fieldAt 95 (.pointer (some a)) 2).run Tryz.prog w = .ok (.pointer (some (a.add 2))) w := run_field (b := 1) Tryz.underlying95 rfl rfl (by kernel_rfl) (by decide)
theorem sz98 : (Tryz.prog.info? 98).map (·.size) = some 1 := by kernel_rfl
theorem co98 : Tryz.prog.cellsOf 98 = 1 := by kernel_rfl
theorem sz100 : (Tryz.prog.info? 100).map (·.size) = some 3 := by kernel_rfl
theorem co100 : Tryz.prog.cellsOf 100 = 3 := by kernel_rfl
theorem bo100 : Tryz.prog.bytesOf 100 = 56 := by kernel_rfl
theorem z100 : ∀ w, (zeroValue 100).run Tryz.prog w = .ok (.agg #[.string ⟨#[]⟩, .string ⟨#[]⟩, .slice none 0 0]) w := fun _ => by kernel_rfl
theorem inf100 : (Tryz.prog.info? 100).map (fun i => (i.zero, i.size, i.bytes)) = some (some (.agg #[.string ⟨#[]⟩, .string ⟨#[]⟩, .slice none 0 0]), 3, 56) := by kernel_rfl
theorem fa100_0 : ∀ a w, (Instr.fieldAt 100 (.pointer (some a)) 0).run Tryz.prog w = .ok (.pointer (some (a.add 0))) w := run_field (b := 1) Tryz.underlying100 rfl rfl (by kernel_rfl) (by decide)
theorem fa100_1 : ∀ a w, (Instr.fieldAt 100 (.pointer (some a)) 1).run Tryz.prog w = .ok (.pointer (some (a.add 1))) w := run_field (b := 1) Tryz.underlying100 rfl rfl (by kernel_rfl) (by decide)
theorem fa100_2 : ∀ a w, (Instr.fieldAt 100 (.pointer (some a)) 2).run Tryz.prog w = .ok (.pointer (some (a.add 2))) w := run_field (b := 1) Tryz.underlying100 rfl rfl (by kernel_rfl) (by decide)
theorem sz105 : (Tryz.prog.info? 105).map (·.size) = some 6 := by kernel_rfl
theorem co105 : Tryz.prog.cellsOf 105 = 6 := by kernel_rfl
theorem bo105 : Tryz.prog.bytesOf 105 = 72 := by kernel_rfl
theorem z105 : ∀ w, (zeroValue 105).run Tryz.prog w = .ok (.agg #[.string ⟨#[]⟩, .string ⟨#[]⟩, .string ⟨#[]⟩, .int .i64 0, .int .i64 0, .bool false]) w := fun _ => by kernel_rfl
theorem inf105 : (Tryz.prog.info? 105).map (fun i => (i.zero, i.size, i.bytes)) = some (some (.agg #[.string ⟨#[]⟩, .string ⟨#[]⟩, .string ⟨#[]⟩, .int .i64 0, .int .i64 0, .bool false]), 6, 72) := by kernel_rfl
theorem fa105_0 : ∀ a w, (Instr.fieldAt 105 (.pointer (some a)) 0).run Tryz.prog w = .ok (.pointer (some (a.add 0))) w := run_field (b := 1) Tryz.underlying105 rfl rfl (by kernel_rfl) (by decide)
theorem fa105_1 : ∀ a w, (Instr.fieldAt 105 (.pointer (some a)) 1).run Tryz.prog w = .ok (.pointer (some (a.add 1))) w := run_field (b := 1) Tryz.underlying105 rfl rfl (by kernel_rfl) (by decide)
theorem fa105_2 : ∀ a w, (Instr.fieldAt 105 (.pointer (some a)) 2).run Tryz.prog w = .ok (.pointer (some (a.add 2))) w := run_field (b := 1) Tryz.underlying105 rfl rfl (by kernel_rfl) (by decide)
theorem fa105_3 : ∀ a w, (Instr.fieldAt 105 (.pointer (some a)) 3).run Tryz.prog w = .ok (.pointer (some (a.add 3))) w := run_field (b := 1) Tryz.underlying105 rfl rfl (by kernel_rfl) (by decide)
theorem fa105_4 : ∀ a w, (Instr.fieldAt 105 (.pointer (some a)) 4).run Tryz.prog w = .ok (.pointer (some (a.add 4))) w := run_field (b := 1) Tryz.underlying105 rfl rfl (by kernel_rfl) (by decide)
theorem z119 : ∀ w, (zeroValue 119).run Tryz.prog w = .ok (.map none) w := fun _ => by kernel_rfl
theorem sz180 : (Tryz.prog.info? 180).map (·.size) = some 1 := by kernel_rfl
theorem sz186 : (Tryz.prog.info? 186).map (·.size) = some 1 := by kernel_rfl
theorem z186 : ∀ w, (zeroValue 186).run Tryz.prog w = .ok (.slice none 0 0) w := fun _ => by kernel_rfl
theorem z229 : ∀ w, (zeroValue 229).run Tryz.prog w = .ok (.slice none 0 0) w := fun _ => by kernel_rfl
theorem cf5 : ∀ args w, (callFunc 5 args).run Tryz.prog w = .ok (.enter 5 args) w := run_cf Tryz.func5 (by kernel_rfl) rfl
theorem cf10 : ∀ args w, (callFunc 10 args).run Tryz.prog w = .ok (.enter 10 args) w := run_cf Tryz.func10 (by kernel_rfl) rfl
theorem cf14 : ∀ args w, (callFunc 14 args).run Tryz.prog w = .ok (.enter 14 args) w := run_cf Tryz.func14 (by kernel_rfl) rfl
theorem cf16 : ∀ args w, (callFunc 16 args).run Tryz.prog w = .ok (.enter 16 args) w := run_cf Tryz.func16 (by kernel_rfl) rfl
theorem cf20 : ∀ args w, (callFunc 20 args).run Tryz.prog w = .ok (.enter 20 args) w := run_cf Tryz.func20 (by kernel_rfl) rfl
theorem cf32 : ∀ args w, (callFunc 32 args).run Tryz.prog w = .ok (.enter 32 args) w := run_cf Tryz.func32 (by kernel_rfl) rfl
theorem cf33 : ∀ args w, (callFunc 33 args).run Tryz.prog w = .ok (.enter 33 args) w := run_cf Tryz.func33 (by kernel_rfl) rfl
theorem cf34 : ∀ args w, (callFunc 34 args).run Tryz.prog w = .ok (.enter 34 args) w := run_cf Tryz.func34 (by kernel_rfl) rfl
theorem cf35 : ∀ args w, (callFunc 35 args).run Tryz.prog w = .ok (.enter 35 args) w := run_cf Tryz.func35 (by kernel_rfl) rfl
theorem cf36 : ∀ args w, (callFunc 36 args).run Tryz.prog w = .ok (.enter 36 args) w := run_cf Tryz.func36 (by kernel_rfl) rfl
theorem cf37 : ∀ args w, (callFunc 37 args).run Tryz.prog w = .ok (.enter 37 args) w := run_cf Tryz.func37 (by kernel_rfl) rfl
theorem cf44 : ∀ args w, (callFunc 44 args).run Tryz.prog w = .ok (.enter 44 args) w := run_cf Tryz.func44 (by kernel_rfl) rfl
theorem cf45 : ∀ args w, (callFunc 45 args).run Tryz.prog w = .ok (.enter 45 args) w := run_cf Tryz.func45 (by kernel_rfl) rfl
theorem cf46 : ∀ args w, (callFunc 46 args).run Tryz.prog w = .ok (.enter 46 args) w := run_cf Tryz.func46 (by kernel_rfl) rfl
theorem cf47 : ∀ args w, (callFunc 47 args).run Tryz.prog w = .ok (.enter 47 args) w := run_cf Tryz.func47 (by kernel_rfl) rfl
theorem cf48 : ∀ args w, (callFunc 48 args).run Tryz.prog w = .ok (.enter 48 args) w := run_cf Tryz.func48 (by kernel_rfl) rfl
theorem cf54 : ∀ args w, (callFunc 54 args).run Tryz.prog w = .ok (.enter 54 args) w := run_cf Tryz.func54 (by kernel_rfl) rfl
theorem cf55 : ∀ args w, (callFunc 55 args).run Tryz.prog w = .ok (.enter 55 args) w := run_cf Tryz.func55 (by kernel_rfl) rfl
theorem cf56 : ∀ args w, (callFunc 56 args).run Tryz.prog w = .ok (.enter 56 args) w := run_cf Tryz.func56 (by kernel_rfl) rfl
theorem cf57 : ∀ args w, (callFunc 57 args).run Tryz.prog w = .ok (.enter 57 args) w := run_cf Tryz.func57 (by kernel_rfl) rfl
theorem cf58 : ∀ args w, (callFunc 58 args).run Tryz.prog w = .ok (.enter 58 args) w := run_cf Tryz.func58 (by kernel_rfl) rfl
theorem cf59 : ∀ args w, (callFunc 59 args).run Tryz.prog w = .ok (.enter 59 args) w := run_cf Tryz.func59 (by kernel_rfl) rfl
theorem cf60 : ∀ args w, (callFunc 60 args).run Tryz.prog w = .ok (.enter 60 args) w := run_cf Tryz.func60 (by kernel_rfl) rfl
theorem cf63 : ∀ args w, (callFunc 63 args).run Tryz.prog w = .ok (.enter 63 args) w := run_cf Tryz.func63 (by kernel_rfl) rfl
theorem cf65 : ∀ args w, (callFunc 65 args).run Tryz.prog w = .ok (.enter 65 args) w := run_cf Tryz.func65 (by kernel_rfl) rfl
theorem cf66 : ∀ args w, (callFunc 66 args).run Tryz.prog w = .ok (.enter 66 args) w := run_cf Tryz.func66 (by kernel_rfl) rfl
theorem cf67 : ∀ args w, (callFunc 67 args).run Tryz.prog w = .ok (.enter 67 args) w := run_cf Tryz.func67 (by kernel_rfl) rfl
theorem cf68 : ∀ args w, (callFunc 68 args).run Tryz.prog w = .ok (.enter 68 args) w := run_cf Tryz.func68 (by kernel_rfl) rfl
theorem cf69 : ∀ args w, (callFunc 69 args).run Tryz.prog w = .ok (.enter 69 args) w := run_cf Tryz.func69 (by kernel_rfl) rfl
theorem cf70 : ∀ args w, (callFunc 70 args).run Tryz.prog w = .ok (.enter 70 args) w := run_cf Tryz.func70 (by kernel_rfl) rfl
theorem cf71 : ∀ args w, (callFunc 71 args).run Tryz.prog w = .ok (.enter 71 args) w := run_cf Tryz.func71 (by kernel_rfl) rfl
theorem cf77 : ∀ args w, (callFunc 77 args).run Tryz.prog w = .ok (.enter 77 args) w := run_cf Tryz.func77 (by kernel_rfl) rfl
theorem cf80 : ∀ args w, (callFunc 80 args).run Tryz.prog w = .ok (.enter 80 args) w := run_cf Tryz.func80 (by kernel_rfl) rfl
theorem cf84 : ∀ args w, (callFunc 84 args).run Tryz.prog w = .ok (.enter 84 args) w := run_cf Tryz.func84 (by kernel_rfl) rfl
theorem cf85 : ∀ args w, (callFunc 85 args).run Tryz.prog w = .ok (.enter 85 args) w := run_cf Tryz.func85 (by kernel_rfl) rfl
theorem cf86 : ∀ args w, (callFunc 86 args).run Tryz.prog w = .ok (.enter 86 args) w := run_cf Tryz.func86 (by kernel_rfl) rfl
theorem cf87 : ∀ args w, (callFunc 87 args).run Tryz.prog w = .ok (.enter 87 args) w := run_cf Tryz.func87 (by kernel_rfl) rfl
theorem cf88 : ∀ args w, (callFunc 88 args).run Tryz.prog w = .ok (.enter 88 args) w := run_cf Tryz.func88 (by kernel_rfl) rfl
theorem cf89 : ∀ args w, (callFunc 89 args).run Tryz.prog w = .ok (.enter 89 args) w := run_cf Tryz.func89 (by kernel_rfl) rfl
theorem cf90 : ∀ args w, (callFunc 90 args).run Tryz.prog w = .ok (.enter 90 args) w := run_cf Tryz.func90 (by kernel_rfl) rfl
theorem cf92 : ∀ args w, (callFunc 92 args).run Tryz.prog w = .ok (.enter 92 args) w := run_cf Tryz.func92 (by kernel_rfl) rfl
theorem cf93 : ∀ args w, (callFunc 93 args).run Tryz.prog w = .ok (.enter 93 args) w := run_cf Tryz.func93 (by kernel_rfl) rfl
theorem cf94 : ∀ args w, (callFunc 94 args).run Tryz.prog w = .ok (.enter 94 args) w := run_cf Tryz.func94 (by kernel_rfl) rfl
theorem cf95 : ∀ args w, (callFunc 95 args).run Tryz.prog w = .ok (.enter 95 args) w := run_cf Tryz.func95 (by kernel_rfl) rfl
theorem cf96 : ∀ args w, (callFunc 96 args).run Tryz.prog w = .ok (.enter 96 args) w := run_cf Tryz.func96 (by kernel_rfl) rfl
theorem cf97 : ∀ args w, (callFunc 97 args).run Tryz.prog w = .ok (.enter 97 args) w := run_cf Tryz.func97 (by kernel_rfl) rfl
theorem cf98 : ∀ args w, (callFunc 98 args).run Tryz.prog w = .ok (.enter 98 args) w := run_cf Tryz.func98 (by kernel_rfl) rfl
theorem cf104 : ∀ args w, (callFunc 104 args).run Tryz.prog w = .ok (.enter 104 args) w := run_cf Tryz.func104 (by kernel_rfl) rfl
theorem cf105 : ∀ args w, (callFunc 105 args).run Tryz.prog w = .ok (.enter 105 args) w := run_cf Tryz.func105 (by kernel_rfl) rfl
theorem cf106 : ∀ args w, (callFunc 106 args).run Tryz.prog w = .ok (.enter 106 args) w := run_cf Tryz.func106 (by kernel_rfl) rfl
theorem cf107 : ∀ args w, (callFunc 107 args).run Tryz.prog w = .ok (.enter 107 args) w := run_cf Tryz.func107 (by kernel_rfl) rfl
theorem cf112 : ∀ args w, (callFunc 112 args).run Tryz.prog w = .ok (.enter 112 args) w := run_cf Tryz.func112 (by kernel_rfl) rfl
theorem cf124 : ∀ args w, (callFunc 124 args).run Tryz.prog w = .ok (.enter 124 args) w := run_cf Tryz.func124 (by kernel_rfl) rfl
theorem cf133 : ∀ args w, (callFunc 133 args).run Tryz.prog w = .ok (.enter 133 args) w := run_cf Tryz.func133 (by kernel_rfl) rfl
theorem cf134 : ∀ args w, (callFunc 134 args).run Tryz.prog w = .ok (.enter 134 args) w := run_cf Tryz.func134 (by kernel_rfl) rfl
theorem cf135 : ∀ args w, (callFunc 135 args).run Tryz.prog w = .ok (.enter 135 args) w := run_cf Tryz.func135 (by kernel_rfl) rfl
theorem cf136 : ∀ args w, (callFunc 136 args).run Tryz.prog w = .ok (.enter 136 args) w := run_cf Tryz.func136 (by kernel_rfl) rfl
theorem cf137 : ∀ args w, (callFunc 137 args).run Tryz.prog w = .ok (.enter 137 args) w := run_cf Tryz.func137 (by kernel_rfl) rfl
theorem cf138 : ∀ args w, (callFunc 138 args).run Tryz.prog w = .ok (.enter 138 args) w := run_cf Tryz.func138 (by kernel_rfl) rfl
theorem cf139 : ∀ args w, (callFunc 139 args).run Tryz.prog w = .ok (.enter 139 args) w := run_cf Tryz.func139 (by kernel_rfl) rfl
theorem cf140 : ∀ args w, (callFunc 140 args).run Tryz.prog w = .ok (.enter 140 args) w := run_cf Tryz.func140 (by kernel_rfl) rfl
theorem cf141 : ∀ args w, (callFunc 141 args).run Tryz.prog w = .ok (.enter 141 args) w := run_cf Tryz.func141 (by kernel_rfl) rfl
theorem cf142 : ∀ args w, (callFunc 142 args).run Tryz.prog w = .ok (.enter 142 args) w := run_cf Tryz.func142 (by kernel_rfl) rfl
theorem cf143 : ∀ args w, (callFunc 143 args).run Tryz.prog w = .ok (.enter 143 args) w := run_cf Tryz.func143 (by kernel_rfl) rfl
theorem cf144 : ∀ args w, (callFunc 144 args).run Tryz.prog w = .ok (.enter 144 args) w := run_cf Tryz.func144 (by kernel_rfl) rfl
theorem cf145 : ∀ args w, (callFunc 145 args).run Tryz.prog w = .ok (.enter 145 args) w := run_cf Tryz.func145 (by kernel_rfl) rfl
theorem cf146 : ∀ args w, (callFunc 146 args).run Tryz.prog w = .ok (.enter 146 args) w := run_cf Tryz.func146 (by kernel_rfl) rfl
theorem cf147 : ∀ args w, (callFunc 147 args).run Tryz.prog w = .ok (.enter 147 args) w := run_cf Tryz.func147 (by kernel_rfl) rfl
theorem cf148 : ∀ args w, (callFunc 148 args).run Tryz.prog w = .ok (.enter 148 args) w := run_cf Tryz.func148 (by kernel_rfl) rfl
theorem cf149 : ∀ args w, (callFunc 149 args).run Tryz.prog w = .ok (.enter 149 args) w := run_cf Tryz.func149 (by kernel_rfl) rfl
theorem cf150 : ∀ args w, (callFunc 150 args).run Tryz.prog w = .ok (.enter 150 args) w := run_cf Tryz.func150 (by kernel_rfl) rfl
theorem cf151 : ∀ args w, (callFunc 151 args).run Tryz.prog w = .ok (.enter 151 args) w := run_cf Tryz.func151 (by kernel_rfl) rfl
theorem cf152 : ∀ args w, (callFunc 152 args).run Tryz.prog w = .ok (.enter 152 args) w := run_cf Tryz.func152 (by kernel_rfl) rfl
theorem cf153 : ∀ args w, (callFunc 153 args).run Tryz.prog w = .ok (.enter 153 args) w := run_cf Tryz.func153 (by kernel_rfl) rfl
theorem cf154 : ∀ args w, (callFunc 154 args).run Tryz.prog w = .ok (.enter 154 args) w := run_cf Tryz.func154 (by kernel_rfl) rfl
theorem cf155 : ∀ args w, (callFunc 155 args).run Tryz.prog w = .ok (.enter 155 args) w := run_cf Tryz.func155 (by kernel_rfl) rfl
theorem cf156 : ∀ args w, (callFunc 156 args).run Tryz.prog w = .ok (.enter 156 args) w := run_cf Tryz.func156 (by kernel_rfl) rfl
theorem cf157 : ∀ args w, (callFunc 157 args).run Tryz.prog w = .ok (.enter 157 args) w := run_cf Tryz.func157 (by kernel_rfl) rfl
theorem cf158 : ∀ args w, (callFunc 158 args).run Tryz.prog w = .ok (.enter 158 args) w := run_cf Tryz.func158 (by kernel_rfl) rfl
theorem cf159 : ∀ args w, (callFunc 159 args).run Tryz.prog w = .ok (.enter 159 args) w := run_cf Tryz.func159 (by kernel_rfl) rfl
theorem cf160 : ∀ args w, (callFunc 160 args).run Tryz.prog w = .ok (.enter 160 args) w := run_cf Tryz.func160 (by kernel_rfl) rfl
theorem cf161 : ∀ args w, (callFunc 161 args).run Tryz.prog w = .ok (.enter 161 args) w := run_cf Tryz.func161 (by kernel_rfl) rfl
theorem cf162 : ∀ args w, (callFunc 162 args).run Tryz.prog w = .ok (.enter 162 args) w := run_cf Tryz.func162 (by kernel_rfl) rfl
theorem cf163 : ∀ args w, (callFunc 163 args).run Tryz.prog w = .ok (.enter 163 args) w := run_cf Tryz.func163 (by kernel_rfl) rfl
theorem cf164 : ∀ args w, (callFunc 164 args).run Tryz.prog w = .ok (.enter 164 args) w := run_cf Tryz.func164 (by kernel_rfl) rfl
theorem cf165 : ∀ args w, (callFunc 165 args).run Tryz.prog w = .ok (.enter 165 args) w := run_cf Tryz.func165 (by kernel_rfl) rfl
theorem cf166 : ∀ args w, (callFunc 166 args).run Tryz.prog w = .ok (.enter 166 args) w := run_cf Tryz.func166 (by kernel_rfl) rfl
theorem cf167 : ∀ args w, (callFunc 167 args).run Tryz.prog w = .ok (.enter 167 args) w := run_cf Tryz.func167 (by kernel_rfl) rfl
theorem cf168 : ∀ args w, (callFunc 168 args).run Tryz.prog w = .ok (.enter 168 args) w := run_cf Tryz.func168 (by kernel_rfl) rfl
theorem cf169 : ∀ args w, (callFunc 169 args).run Tryz.prog w = .ok (.enter 169 args) w := run_cf Tryz.func169 (by kernel_rfl) rfl
theorem cf170 : ∀ args w, (callFunc 170 args).run Tryz.prog w = .ok (.enter 170 args) w := run_cf Tryz.func170 (by kernel_rfl) rfl
theorem cf192 : ∀ args w, (callFunc 192 args).run Tryz.prog w = .ok (.enter 192 args) w := run_cf Tryz.func192 (by kernel_rfl) rfl
theorem cf206 : ∀ args w, (callFunc 206 args).run Tryz.prog w = .ok (.enter 206 args) w := run_cf Tryz.func206 (by kernel_rfl) rfl
theorem cf211 : ∀ args w, (callFunc 211 args).run Tryz.prog w = .ok (.enter 211 args) w := run_cf Tryz.func211 (by kernel_rfl) rfl
theorem cf212 : ∀ args w, (callFunc 212 args).run Tryz.prog w = .ok (.enter 212 args) w := run_cf Tryz.func212 (by kernel_rfl) rfl
theorem cf213 : ∀ args w, (callFunc 213 args).run Tryz.prog w = .ok (.enter 213 args) w := run_cf Tryz.func213 (by kernel_rfl) rfl
theorem cf214 : ∀ args w, (callFunc 214 args).run Tryz.prog w = .ok (.enter 214 args) w := run_cf Tryz.func214 (by kernel_rfl) rfl
theorem cf215 : ∀ args w, (callFunc 215 args).run Tryz.prog w = .ok (.enter 215 args) w := run_cf Tryz.func215 (by kernel_rfl) rfl
theorem cf216 : ∀ args w, (callFunc 216 args).run Tryz.prog w = .ok (.enter 216 args) w := run_cf Tryz.func216 (by kernel_rfl) rfl
theorem cf218 : ∀ args w, (callFunc 218 args).run Tryz.prog w = .ok (.enter 218 args) w := run_cf Tryz.func218 (by kernel_rfl) rfl
theorem cf231 : ∀ args w, (callFunc 231 args).run Tryz.prog w = .ok (.enter 231 args) w := run_cf Tryz.func231 (by kernel_rfl) rfl
theorem cf233 : ∀ args w, (callFunc 233 args).run Tryz.prog w = .ok (.enter 233 args) w := run_cf Tryz.func233 (by kernel_rfl) rfl
theorem cf240 : ∀ args w, (callFunc 240 args).run Tryz.prog w = .ok (.enter 240 args) w := run_cf Tryz.func240 (by kernel_rfl) rfl
end Go.Proofs.YtekbcbjimajnfaaGreatDoor
