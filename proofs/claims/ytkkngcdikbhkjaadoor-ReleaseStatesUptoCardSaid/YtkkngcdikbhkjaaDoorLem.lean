/- Closed facts on this seat's program: sizes, fields, zero values, calls. Written by a program of mine. -/
import Derived.Test.YtkkngcdikbhkjaaDoorMore
import Derived.Test.YtkkngcdikbhkjaaDoorRows
namespace Go.Proofs.YtkkngcdikbhkjaaDoor
open Go.RowKit Go.Eng

theorem z2 : ∀ w, (zeroValue 2).run Tryd.prog w = .ok (.int .i64 0) w := fun _ => by kernel_rfl
theorem sz3 : (Tryd.prog.info? 3).map (·.size) = some 1 := by kernel_rfl
theorem co3 : Tryd.prog.cellsOf 3 = 1 := by kernel_rfl
theorem z3 : ∀ w, (zeroValue 3).run Tryd.prog w = .ok (.int .i64 0) w := fun _ => by kernel_rfl
theorem inf3 : (Tryd.prog.info? 3).map (fun i => (i.zero, i.size, i.bytes)) = some (some (.int .i64 0), 1, 8) := by kernel_rfl
theorem sz4 : (Tryd.prog.info? 4).map (·.size) = some 1 := by kernel_rfl
theorem co4 : Tryd.prog.cellsOf 4 = 1 := by kernel_rfl
theorem z4 : ∀ w, (zeroValue 4).run Tryd.prog w = .ok (.bool false) w := fun _ => by kernel_rfl
theorem sz5 : (Tryd.prog.info? 5).map (·.size) = some 1 := by kernel_rfl
theorem z5 : ∀ w, (zeroValue 5).run Tryd.prog w = .ok (.int .u8 0) w := fun _ => by kernel_rfl
theorem sz9 : (Tryd.prog.info? 9).map (·.size) = some 1 := by kernel_rfl
theorem co9 : Tryd.prog.cellsOf 9 = 1 := by kernel_rfl
theorem z9 : ∀ w, (zeroValue 9).run Tryd.prog w = .ok (.string ⟨#[]⟩) w := fun _ => by kernel_rfl
theorem inf9 : (Tryd.prog.info? 9).map (fun i => (i.zero, i.size, i.bytes)) = some (some (.string ⟨#[]⟩), 1, 16) := by kernel_rfl
theorem z20 : ∀ w, (zeroValue 20).run Tryd.prog w = .ok (.nilIface) w := fun _ => by kernel_rfl
theorem z21 : ∀ w, (zeroValue 21).run Tryd.prog w = .ok (.int .i32 0) w := fun _ => by kernel_rfl
theorem co31 : Tryd.prog.cellsOf 31 = 1 := by kernel_rfl
theorem z31 : ∀ w, (zeroValue 31).run Tryd.prog w = .ok (.slice none 0 0) w := fun _ => by kernel_rfl
theorem co32 : Tryd.prog.cellsOf 32 = 1 := by kernel_rfl
theorem co33 : Tryd.prog.cellsOf 33 = 1 := by kernel_rfl
theorem sz35 : (Tryd.prog.info? 35).map (·.size) = some 9 := by kernel_rfl
theorem co35 : Tryd.prog.cellsOf 35 = 9 := by kernel_rfl
theorem fa35_0 : ∀ a w, (Instr.fieldAt 35 (.pointer (some a)) 0).run Tryd.prog w = .ok (.pointer (some (a.add 0))) w := run_field (b := 1) Tryd.underlying35 rfl rfl (by kernel_rfl) (by decide)
theorem fa35_1 : ∀ a w, (Instr.fieldAt 35 (.pointer (some a)) 1).run Tryd.prog w = .ok (.pointer (some (a.add 1))) w := run_field (b := 1) Tryd.underlying35 rfl rfl (by kernel_rfl) (by decide)
theorem fa35_2 : ∀ a w, (Instr.fieldAt 35 (.pointer (some a)) 2).run Tryd.prog w = .ok (.pointer (some (a.add 2))) w := run_field (b := 1) Tryd.underlying35 rfl rfl (by kernel_rfl) (by decide)
theorem fa35_3 : ∀ a w, (Instr.fieldAt 35 (.pointer (some a)) 3).run Tryd.prog w = .ok (.pointer (some (a.add 3))) w := run_field (b := 1) Tryd.underlying35 rfl rfl (by kernel_rfl) (by decide)
theorem fa35_4 : ∀ a w, (Instr.fieldAt 35 (.pointer (some a)) 4).run Tryd.prog w = .ok (.pointer (some (a.add 4))) w := run_field (b := 1) Tryd.underlying35 rfl rfl (by kernel_rfl) (by decide)
theorem fa35_5 : ∀ a w, (Instr.fieldAt 35 (.pointer (some a)) 5).run Tryd.prog w = .ok (.pointer (some (a.add 5))) w := run_field (b := 1) Tryd.underlying35 rfl rfl (by kernel_rfl) (by decide)
theorem fa35_6 : ∀ a w, (Instr.fieldAt 35 (.pointer (some a)) 6).run Tryd.prog w = .ok (.pointer (some (a.add 6))) w := run_field (b := 1) Tryd.underlying35 rfl rfl (by kernel_rfl) (by decide)
theorem fa35_7 : ∀ a w, (Instr.fieldAt 35 (.pointer (some a)) 7).run Tryd.prog w = .ok (.pointer (some (a.add 7))) w := run_field (b := 1) Tryd.underlying35 rfl rfl (by kernel_rfl) (by decide)
theorem fa35_8 : ∀ a w, (Instr.fieldAt 35 (.pointer (some a)) 8).run Tryd.prog w = .ok (.pointer (some (a.add 8))) w := run_field (b := 1) Tryd.underlying35 rfl rfl (by kernel_rfl) (by decide)
theorem sz40 : (Tryd.prog.info? 40).map (·.size) = some 8 := by kernel_rfl
theorem co40 : Tryd.prog.cellsOf 40 = 8 := by kernel_rfl
theorem z40 : ∀ w, (zeroValue 40).run Tryd.prog w = .ok (.agg #[.int .i64 0, .int .i64 0, .string ⟨#[]⟩, .bool false, .int .i64 0, .int .i64 0, .int .i64 0, .int .i64 0]) w := fun _ => by kernel_rfl
theorem fa40_0 : ∀ a w, (Instr.fieldAt 40 (.pointer (some a)) 0).run Tryd.prog w = .ok (.pointer (some (a.add 0))) w := run_field (b := 1) Tryd.underlying40 rfl rfl (by kernel_rfl) (by decide)
theorem fa40_1 : ∀ a w, (Instr.fieldAt 40 (.pointer (some a)) 1).run Tryd.prog w = .ok (.pointer (some (a.add 1))) w := run_field (b := 1) Tryd.underlying40 rfl rfl (by kernel_rfl) (by decide)
theorem fa40_2 : ∀ a w, (Instr.fieldAt 40 (.pointer (some a)) 2).run Tryd.prog w = .ok (.pointer (some (a.add 2))) w := run_field (b := 1) Tryd.underlying40 rfl rfl (by kernel_rfl) (by decide)
theorem fa40_3 : ∀ a w, (Instr.fieldAt 40 (.pointer (some a)) 3).run Tryd.prog w = .ok (.pointer (some (a.add 3))) w := run_field (b := 1) Tryd.underlying40 rfl rfl (by kernel_rfl) (by decide)
theorem fa40_4 : ∀ a w, (Instr.fieldAt 40 (.pointer (some a)) 4).run Tryd.prog w = .ok (.pointer (some (a.add 4))) w := run_field (b := 1) Tryd.underlying40 rfl rfl (by kernel_rfl) (by decide)
theorem fa40_5 : ∀ a w, (Instr.fieldAt 40 (.pointer (some a)) 5).run Tryd.prog w = .ok (.pointer (some (a.add 5))) w := run_field (b := 1) Tryd.underlying40 rfl rfl (by kernel_rfl) (by decide)
theorem fa40_6 : ∀ a w, (Instr.fieldAt 40 (.pointer (some a)) 6).run Tryd.prog w = .ok (.pointer (some (a.add 6))) w := run_field (b := 1) Tryd.underlying40 rfl rfl (by kernel_rfl) (by decide)
theorem fa40_7 : ∀ a w, (Instr.fieldAt 40 (.pointer (some a)) 7).run Tryd.prog w = .ok (.pointer (some (a.add 7))) w := run_field (b := 1) Tryd.underlying40 rfl rfl (by kernel_rfl) (by decide)
theorem sz46 : (Tryd.prog.info? 46).map (·.size) = some 1 := by kernel_rfl
theorem z46 : ∀ w, (zeroValue 46).run Tryd.prog w = .ok (.slice none 0 0) w := fun _ => by kernel_rfl
theorem z59 : ∀ w, (zeroValue 59).run Tryd.prog w = .ok (.agg #[.string ⟨#[]⟩, .int .i64 0, .int .i64 0, .int .i64 0, .slice none 0 0]) w := fun _ => by kernel_rfl
theorem sz60 : (Tryd.prog.info? 60).map (·.size) = some 5 := by kernel_rfl
theorem z60 : ∀ w, (zeroValue 60).run Tryd.prog w = .ok (.agg #[.string ⟨#[]⟩, .int .i64 0, .int .i64 0, .int .i64 0, .slice none 0 0]) w := fun _ => by kernel_rfl
theorem fa60_0 : ∀ a w, (Instr.fieldAt 60 (.pointer (some a)) 0).run Tryd.prog w = .ok (.pointer (some (a.add 0))) w := run_field (b := 1) Tryd.underlying60 rfl rfl (by kernel_rfl) (by decide)
theorem fa60_1 : ∀ a w, (Instr.fieldAt 60 (.pointer (some a)) 1).run Tryd.prog w = .ok (.pointer (some (a.add 1))) w := run_field (b := 1) Tryd.underlying60 rfl rfl (by kernel_rfl) (by decide)
theorem fa60_2 : ∀ a w, (Instr.fieldAt 60 (.pointer (some a)) 2).run Tryd.prog w = .ok (.pointer (some (a.add 2))) w := run_field (b := 1) Tryd.underlying60 rfl rfl (by kernel_rfl) (by decide)
theorem fa60_3 : ∀ a w, (Instr.fieldAt 60 (.pointer (some a)) 3).run Tryd.prog w = .ok (.pointer (some (a.add 3))) w := run_field (b := 1) Tryd.underlying60 rfl rfl (by kernel_rfl) (by decide)
theorem fa60_4 : ∀ a w, (Instr.fieldAt 60 (.pointer (some a)) 4).run Tryd.prog w = .ok (.pointer (some (a.add 4))) w := run_field (b := 1) Tryd.underlying60 rfl rfl (by kernel_rfl) (by decide)
theorem z74 : ∀ w, (zeroValue 74).run Tryd.prog w = .ok (.pointer none) w := fun _ => by kernel_rfl
theorem z75 : ∀ w, (zeroValue 75).run Tryd.prog w = .ok (.map none) w := fun _ => by kernel_rfl
theorem sz83 : (Tryd.prog.info? 83).map (·.size) = some 1 := by kernel_rfl
theorem co87 : Tryd.prog.cellsOf 87 = 1 := by kernel_rfl
theorem sz89 : (Tryd.prog.info? 89).map (·.size) = some 3 := by kernel_rfl
theorem co89 : Tryd.prog.cellsOf 89 = 3 := by kernel_rfl
theorem bo89 : Tryd.prog.bytesOf 89 = 56 := by kernel_rfl
theorem z89 : ∀ w, (zeroValue 89).run Tryd.prog w = .ok (.agg #[.string ⟨#[]⟩, .string ⟨#[]⟩, .slice none 0 0]) w := fun _ => by kernel_rfl
theorem fa89_0 : ∀ a w, (Instr.fieldAt 89 (.pointer (some a)) 0).run Tryd.prog w = .ok (.pointer (some (a.add 0))) w := run_field (b := 1) Tryd.underlying89 rfl rfl (by kernel_rfl) (by decide)
theorem fa89_1 : ∀ a w, (Instr.fieldAt 89 (.pointer (some a)) 1).run Tryd.prog w = .ok (.pointer (some (a.add 1))) w := run_field (b := 1) Tryd.underlying89 rfl rfl (by kernel_rfl) (by decide)
theorem fa89_2 : ∀ a w, (Instr.fieldAt 89 (.pointer (some a)) 2).run Tryd.prog w = .ok (.pointer (some (a.add 2))) w := run_field (b := 1) Tryd.underlying89 rfl rfl (by kernel_rfl) (by decide)
theorem sz94 : (Tryd.prog.info? 94).map (·.size) = some 6 := by kernel_rfl
theorem co94 : Tryd.prog.cellsOf 94 = 6 := by kernel_rfl
theorem bo94 : Tryd.prog.bytesOf 94 = 72 := by kernel_rfl
theorem z94 : ∀ w, (zeroValue 94).run Tryd.prog w = .ok (.agg #[.string ⟨#[]⟩, .string ⟨#[]⟩, .string ⟨#[]⟩, .int .i64 0, .int .i64 0, .bool false]) w := fun _ => by kernel_rfl
theorem fa94_0 : ∀ a w, (Instr.fieldAt 94 (.pointer (some a)) 0).run Tryd.prog w = .ok (.pointer (some (a.add 0))) w := run_field (b := 1) Tryd.underlying94 rfl rfl (by kernel_rfl) (by decide)
theorem fa94_1 : ∀ a w, (Instr.fieldAt 94 (.pointer (some a)) 1).run Tryd.prog w = .ok (.pointer (some (a.add 1))) w := run_field (b := 1) Tryd.underlying94 rfl rfl (by kernel_rfl) (by decide)
theorem fa94_2 : ∀ a w, (Instr.fieldAt 94 (.pointer (some a)) 2).run Tryd.prog w = .ok (.pointer (some (a.add 2))) w := run_field (b := 1) Tryd.underlying94 rfl rfl (by kernel_rfl) (by decide)
theorem fa94_3 : ∀ a w, (Instr.fieldAt 94 (.pointer (some a)) 3).run Tryd.prog w = .ok (.pointer (some (a.add 3))) w := run_field (b := 1) Tryd.underlying94 rfl rfl (by kernel_rfl) (by decide)
theorem fa94_4 : ∀ a w, (Instr.fieldAt 94 (.pointer (some a)) 4).run Tryd.prog w = .ok (.pointer (some (a.add 4))) w := run_field (b := 1) Tryd.underlying94 rfl rfl (by kernel_rfl) (by decide)
theorem sz112 : (Tryd.prog.info? 112).map (·.size) = some 1 := by kernel_rfl
theorem z116 : ∀ w, (zeroValue 116).run Tryd.prog w = .ok (.nilIface) w := fun _ => by kernel_rfl
theorem sz131 : (Tryd.prog.info? 131).map (·.size) = some 2 := by kernel_rfl
theorem co131 : Tryd.prog.cellsOf 131 = 2 := by kernel_rfl
theorem bo131 : Tryd.prog.bytesOf 131 = 32 := by kernel_rfl
theorem z131 : ∀ w, (zeroValue 131).run Tryd.prog w = .ok (.agg #[.string ⟨#[]⟩, .string ⟨#[]⟩]) w := fun _ => by kernel_rfl
theorem fa131_0 : ∀ a w, (Instr.fieldAt 131 (.pointer (some a)) 0).run Tryd.prog w = .ok (.pointer (some (a.add 0))) w := run_field (b := 1) Tryd.underlying131 rfl rfl (by kernel_rfl) (by decide)
theorem fa131_1 : ∀ a w, (Instr.fieldAt 131 (.pointer (some a)) 1).run Tryd.prog w = .ok (.pointer (some (a.add 1))) w := run_field (b := 1) Tryd.underlying131 rfl rfl (by kernel_rfl) (by decide)
theorem sz133 : (Tryd.prog.info? 133).map (·.size) = some 3 := by kernel_rfl
theorem co133 : Tryd.prog.cellsOf 133 = 3 := by kernel_rfl
theorem bo133 : Tryd.prog.bytesOf 133 = 40 := by kernel_rfl
theorem z133 : ∀ w, (zeroValue 133).run Tryd.prog w = .ok (.agg #[.int .i64 0, .string ⟨#[]⟩, .string ⟨#[]⟩]) w := fun _ => by kernel_rfl
theorem fa133_0 : ∀ a w, (Instr.fieldAt 133 (.pointer (some a)) 0).run Tryd.prog w = .ok (.pointer (some (a.add 0))) w := run_field (b := 1) Tryd.underlying133 rfl rfl (by kernel_rfl) (by decide)
theorem fa133_1 : ∀ a w, (Instr.fieldAt 133 (.pointer (some a)) 1).run Tryd.prog w = .ok (.pointer (some (a.add 1))) w := run_field (b := 1) Tryd.underlying133 rfl rfl (by kernel_rfl) (by decide)
theorem fa133_2 : ∀ a w, (Instr.fieldAt 133 (.pointer (some a)) 2).run Tryd.prog w = .ok (.pointer (some (a.add 2))) w := run_field (b := 1) Tryd.underlying133 rfl rfl (by kernel_rfl) (by decide)
theorem z167 : ∀ w, (zeroValue 167).run Tryd.prog w = .ok (.agg #[.int .u64 0, .int .u64 0, .int .u64 0, .int .u64 0, .int .u64 0, .int .u64 0, .int .u64 0, .int .u64 0, .int .u64 0, .int .u64 0, .int .u64 0, .int .u64 0, .int .u64 0, .int .u64 0, .int .u64 0, .int .u64 0, .int .u64 0, .int .u64 0, .int .u64 0, .int .u64 0]) w := fun _ => by kernel_rfl
theorem z168 : ∀ w, (zeroValue 168).run Tryd.prog w = .ok (.int .u32 0) w := fun _ => by kernel_rfl
theorem z169 : ∀ w, (zeroValue 169).run Tryd.prog w = .ok (.agg #[.int .u8 0, .int .u8 0, .int .u8 0, .int .u8 0, .int .u8 0, .int .u8 0, .int .u8 0, .int .u8 0, .int .u8 0, .int .u8 0, .int .u8 0, .int .u8 0, .int .u8 0, .int .u8 0, .int .u8 0, .int .u8 0, .int .u8 0, .int .u8 0, .int .u8 0, .int .u8 0, .int .u8 0, .int .u8 0, .int .u8 0, .int .u8 0, .int .u8 0, .int .u8 0, .int .u8 0, .int .u8 0, .int .u8 0, .int .u8 0, .int .u8 0, .int .u8 0, .int .u8 0, .int .u8 0, .int .u8 0, .int .u8 0, .int .u8 0, .int .u8 0, .int .u8 0, .int .u8 0, .int .u8 0, .int .u8 0, .int .u8 0, .int .u8 0, .int .u8 0, .int .u8 0, .int .u8 0, .int .u8 0, .int .u8 0, .int .u8 0, .int .u8 0, .int .u8 0, .int .u8 0, .int .u8 0, .int .u8 0, .int .u8 0, .int .u8 0, .int .u8 0, .int .u8 0, .int .u8 0, .int .u8 0, .int .u8 0, .int .u8 0, .int .u8 0, .int .u8 0]) w := fun _ => by kernel_rfl
theorem z173 : ∀ w, (zeroValue 173).run Tryd.prog w = .ok (.agg #[.string ⟨#[]⟩, .string ⟨#[]⟩, .nilIface]) w := fun _ => by kernel_rfl
theorem cf9 : ∀ args w, (callFunc 9 args).run Tryd.prog w = .ok (.enter 9 args) w := run_cf Tryd.func9 (by kernel_rfl) rfl
theorem cf10 : ∀ args w, (callFunc 10 args).run Tryd.prog w = .ok (.enter 10 args) w := run_cf Tryd.func10 (by kernel_rfl) rfl
theorem cf11 : ∀ args w, (callFunc 11 args).run Tryd.prog w = .ok (.enter 11 args) w := run_cf Tryd.func11 (by kernel_rfl) rfl
theorem cf12 : ∀ args w, (callFunc 12 args).run Tryd.prog w = .ok (.enter 12 args) w := run_cf Tryd.func12 (by kernel_rfl) rfl
theorem cf13 : ∀ args w, (callFunc 13 args).run Tryd.prog w = .ok (.enter 13 args) w := run_cf Tryd.func13 (by kernel_rfl) rfl
theorem cf14 : ∀ args w, (callFunc 14 args).run Tryd.prog w = .ok (.enter 14 args) w := run_cf Tryd.func14 (by kernel_rfl) rfl
theorem cf15 : ∀ args w, (callFunc 15 args).run Tryd.prog w = .ok (.enter 15 args) w := run_cf Tryd.func15 (by kernel_rfl) rfl
theorem cf16 : ∀ args w, (callFunc 16 args).run Tryd.prog w = .ok (.enter 16 args) w := run_cf Tryd.func16 (by kernel_rfl) rfl
theorem cf23 : ∀ args w, (callFunc 23 args).run Tryd.prog w = .ok (.enter 23 args) w := run_cf Tryd.func23 (by kernel_rfl) rfl
theorem cf24 : ∀ args w, (callFunc 24 args).run Tryd.prog w = .ok (.enter 24 args) w := run_cf Tryd.func24 (by kernel_rfl) rfl
theorem cf25 : ∀ args w, (callFunc 25 args).run Tryd.prog w = .ok (.enter 25 args) w := run_cf Tryd.func25 (by kernel_rfl) rfl
theorem cf26 : ∀ args w, (callFunc 26 args).run Tryd.prog w = .ok (.enter 26 args) w := run_cf Tryd.func26 (by kernel_rfl) rfl
theorem cf27 : ∀ args w, (callFunc 27 args).run Tryd.prog w = .ok (.enter 27 args) w := run_cf Tryd.func27 (by kernel_rfl) rfl
theorem cf28 : ∀ args w, (callFunc 28 args).run Tryd.prog w = .ok (.enter 28 args) w := run_cf Tryd.func28 (by kernel_rfl) rfl
theorem cf29 : ∀ args w, (callFunc 29 args).run Tryd.prog w = .ok (.enter 29 args) w := run_cf Tryd.func29 (by kernel_rfl) rfl
theorem cf30 : ∀ args w, (callFunc 30 args).run Tryd.prog w = .ok (.enter 30 args) w := run_cf Tryd.func30 (by kernel_rfl) rfl
theorem cf31 : ∀ args w, (callFunc 31 args).run Tryd.prog w = .ok (.enter 31 args) w := run_cf Tryd.func31 (by kernel_rfl) rfl
theorem cf32 : ∀ args w, (callFunc 32 args).run Tryd.prog w = .ok (.enter 32 args) w := run_cf Tryd.func32 (by kernel_rfl) rfl
theorem cf34 : ∀ args w, (callFunc 34 args).run Tryd.prog w = .ok (.enter 34 args) w := run_cf Tryd.func34 (by kernel_rfl) rfl
theorem cf38 : ∀ args w, (callFunc 38 args).run Tryd.prog w = .ok (.enter 38 args) w := run_cf Tryd.func38 (by kernel_rfl) rfl
theorem cf39 : ∀ args w, (callFunc 39 args).run Tryd.prog w = .ok (.enter 39 args) w := run_cf Tryd.func39 (by kernel_rfl) rfl
theorem cf40 : ∀ args w, (callFunc 40 args).run Tryd.prog w = .ok (.enter 40 args) w := run_cf Tryd.func40 (by kernel_rfl) rfl
theorem cf41 : ∀ args w, (callFunc 41 args).run Tryd.prog w = .ok (.enter 41 args) w := run_cf Tryd.func41 (by kernel_rfl) rfl
theorem cf42 : ∀ args w, (callFunc 42 args).run Tryd.prog w = .ok (.enter 42 args) w := run_cf Tryd.func42 (by kernel_rfl) rfl
theorem cf43 : ∀ args w, (callFunc 43 args).run Tryd.prog w = .ok (.enter 43 args) w := run_cf Tryd.func43 (by kernel_rfl) rfl
theorem cf44 : ∀ args w, (callFunc 44 args).run Tryd.prog w = .ok (.enter 44 args) w := run_cf Tryd.func44 (by kernel_rfl) rfl
theorem cf70 : ∀ args w, (callFunc 70 args).run Tryd.prog w = .ok (.enter 70 args) w := run_cf Tryd.func70 (by kernel_rfl) rfl
theorem cf73 : ∀ args w, (callFunc 73 args).run Tryd.prog w = .ok (.enter 73 args) w := run_cf Tryd.func73 (by kernel_rfl) rfl
theorem cf74 : ∀ args w, (callFunc 74 args).run Tryd.prog w = .ok (.enter 74 args) w := run_cf Tryd.func74 (by kernel_rfl) rfl
theorem cf75 : ∀ args w, (callFunc 75 args).run Tryd.prog w = .ok (.enter 75 args) w := run_cf Tryd.func75 (by kernel_rfl) rfl
theorem cf76 : ∀ args w, (callFunc 76 args).run Tryd.prog w = .ok (.enter 76 args) w := run_cf Tryd.func76 (by kernel_rfl) rfl
theorem cf77 : ∀ args w, (callFunc 77 args).run Tryd.prog w = .ok (.enter 77 args) w := run_cf Tryd.func77 (by kernel_rfl) rfl
theorem cf78 : ∀ args w, (callFunc 78 args).run Tryd.prog w = .ok (.enter 78 args) w := run_cf Tryd.func78 (by kernel_rfl) rfl
theorem cf79 : ∀ args w, (callFunc 79 args).run Tryd.prog w = .ok (.enter 79 args) w := run_cf Tryd.func79 (by kernel_rfl) rfl
theorem cf80 : ∀ args w, (callFunc 80 args).run Tryd.prog w = .ok (.enter 80 args) w := run_cf Tryd.func80 (by kernel_rfl) rfl
theorem cf81 : ∀ args w, (callFunc 81 args).run Tryd.prog w = .ok (.enter 81 args) w := run_cf Tryd.func81 (by kernel_rfl) rfl
theorem cf83 : ∀ args w, (callFunc 83 args).run Tryd.prog w = .ok (.enter 83 args) w := run_cf Tryd.func83 (by kernel_rfl) rfl
theorem cf84 : ∀ args w, (callFunc 84 args).run Tryd.prog w = .ok (.enter 84 args) w := run_cf Tryd.func84 (by kernel_rfl) rfl
theorem cf85 : ∀ args w, (callFunc 85 args).run Tryd.prog w = .ok (.enter 85 args) w := run_cf Tryd.func85 (by kernel_rfl) rfl
theorem cf86 : ∀ args w, (callFunc 86 args).run Tryd.prog w = .ok (.enter 86 args) w := run_cf Tryd.func86 (by kernel_rfl) rfl
theorem cf87 : ∀ args w, (callFunc 87 args).run Tryd.prog w = .ok (.enter 87 args) w := run_cf Tryd.func87 (by kernel_rfl) rfl
theorem cf88 : ∀ args w, (callFunc 88 args).run Tryd.prog w = .ok (.enter 88 args) w := run_cf Tryd.func88 (by kernel_rfl) rfl
theorem cf89 : ∀ args w, (callFunc 89 args).run Tryd.prog w = .ok (.enter 89 args) w := run_cf Tryd.func89 (by kernel_rfl) rfl
theorem cf90 : ∀ args w, (callFunc 90 args).run Tryd.prog w = .ok (.enter 90 args) w := run_cf Tryd.func90 (by kernel_rfl) rfl
theorem cf91 : ∀ args w, (callFunc 91 args).run Tryd.prog w = .ok (.enter 91 args) w := run_cf Tryd.func91 (by kernel_rfl) rfl
theorem cf92 : ∀ args w, (callFunc 92 args).run Tryd.prog w = .ok (.enter 92 args) w := run_cf Tryd.func92 (by kernel_rfl) rfl
theorem cf107 : ∀ args w, (callFunc 107 args).run Tryd.prog w = .ok (.enter 107 args) w := run_cf Tryd.func107 (by kernel_rfl) rfl
theorem cf108 : ∀ args w, (callFunc 108 args).run Tryd.prog w = .ok (.enter 108 args) w := run_cf Tryd.func108 (by kernel_rfl) rfl
theorem cf109 : ∀ args w, (callFunc 109 args).run Tryd.prog w = .ok (.enter 109 args) w := run_cf Tryd.func109 (by kernel_rfl) rfl
theorem cf113 : ∀ args w, (callFunc 113 args).run Tryd.prog w = .ok (.enter 113 args) w := run_cf Tryd.func113 (by kernel_rfl) rfl
theorem cf115 : ∀ args w, (callFunc 115 args).run Tryd.prog w = .ok (.enter 115 args) w := run_cf Tryd.func115 (by kernel_rfl) rfl
theorem cf116 : ∀ args w, (callFunc 116 args).run Tryd.prog w = .ok (.enter 116 args) w := run_cf Tryd.func116 (by kernel_rfl) rfl
theorem cf117 : ∀ args w, (callFunc 117 args).run Tryd.prog w = .ok (.enter 117 args) w := run_cf Tryd.func117 (by kernel_rfl) rfl
theorem cf119 : ∀ args w, (callFunc 119 args).run Tryd.prog w = .ok (.enter 119 args) w := run_cf Tryd.func119 (by kernel_rfl) rfl
theorem cf121 : ∀ args w, (callFunc 121 args).run Tryd.prog w = .ok (.enter 121 args) w := run_cf Tryd.func121 (by kernel_rfl) rfl
theorem cf122 : ∀ args w, (callFunc 122 args).run Tryd.prog w = .ok (.enter 122 args) w := run_cf Tryd.func122 (by kernel_rfl) rfl
theorem cf129 : ∀ args w, (callFunc 129 args).run Tryd.prog w = .ok (.enter 129 args) w := run_cf Tryd.func129 (by kernel_rfl) rfl
theorem cf130 : ∀ args w, (callFunc 130 args).run Tryd.prog w = .ok (.enter 130 args) w := run_cf Tryd.func130 (by kernel_rfl) rfl
theorem cf131 : ∀ args w, (callFunc 131 args).run Tryd.prog w = .ok (.enter 131 args) w := run_cf Tryd.func131 (by kernel_rfl) rfl
theorem cf147 : ∀ args w, (callFunc 147 args).run Tryd.prog w = .ok (.enter 147 args) w := run_cf Tryd.func147 (by kernel_rfl) rfl
theorem cf154 : ∀ args w, (callFunc 154 args).run Tryd.prog w = .ok (.enter 154 args) w := run_cf Tryd.func154 (by kernel_rfl) rfl
theorem cf155 : ∀ args w, (callFunc 155 args).run Tryd.prog w = .ok (.enter 155 args) w := run_cf Tryd.func155 (by kernel_rfl) rfl
theorem cf160 : ∀ args w, (callFunc 160 args).run Tryd.prog w = .ok (.enter 160 args) w := run_cf Tryd.func160 (by kernel_rfl) rfl
theorem cf163 : ∀ args w, (callFunc 163 args).run Tryd.prog w = .ok (.enter 163 args) w := run_cf Tryd.func163 (by kernel_rfl) rfl
end Go.Proofs.YtkkngcdikbhkjaaDoor
