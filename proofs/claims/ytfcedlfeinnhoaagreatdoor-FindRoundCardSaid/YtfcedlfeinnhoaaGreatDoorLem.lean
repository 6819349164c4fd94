/- Closed facts on this seat's program: sizes, fields, zero values, calls. Written by a program of mine. -/
import Derived.Test.YtfcedlfeinnhoaaGreatDoorMore
import Derived.Test.YtfcedlfeinnhoaaGreatDoorRows
namespace Go.Proofs.YtfcedlfeinnhoaaGreatDoor
open Go.RowKit Go.Eng
theorem z2 : ∀ w, (zeroValue 2).run Tryz.prog w = .ok (.int .i64 0) w := fun _ => by kernel_rfl
theorem sz3 : (Tryz.prog.info? 3).map (·.size) = some 1 := by kernel_rfl
theorem co3 : Tryz.prog.cellsOf 3 = 1 := by kernel_rfl
theorem z3 : ∀ w, (zeroValue 3).run Tryz.prog w = .ok (.int .i64 0) w := fun _ => by kernel_rfl
theorem z4 : ∀ w, (zeroValue 4).run Tryz.prog w = .ok (.bool false) w := fun _ => by kernel_rfl
theorem sz5 : (Tryz.prog.info? 5).map (·.size) = some 1 := by kernel_rfl
theorem z5 : ∀ w, (zeroValue 5).run Tryz.prog w = .ok (.int .u8 0) w := fun _ => by kernel_rfl
theorem inf5 : (Tryz.prog.info? 5).map (fun i => (i.zero, i.size, i.bytes)) = some (some (.int .u8 0), 1, 1) := by kernel_rfl
theorem sz9 : (Tryz.prog.info? 9).map (·.size) = some 1 := by kernel_rfl
theorem co9 : Tryz.prog.cellsOf 9 = 1 := by kernel_rfl
theorem z9 : ∀ w, (zeroValue 9).run Tryz.prog w = .ok (.string ⟨#[]⟩) w := fun _ => by kernel_rfl
theorem inf9 : (Tryz.prog.info? 9).map (fun i => (i.zero, i.size, i.bytes)) = some (some (.string ⟨#[]⟩), 1, 16) := by kernel_rfl
theorem z20 : ∀ w, (zeroValue 20).run Tryz.prog w = .ok (.nilIface) w := fun _ => by kernel_rfl
theorem z21 : ∀ w, (zeroValue 21).run Tryz.prog w = .ok (.int .i32 0) w := fun _ => by kernel_rfl
theorem sz22 : (Tryz.prog.info? 22).map (·.size) = some 1 := by kernel_rfl
theorem co22 : Tryz.prog.cellsOf 22 = 1 := by kernel_rfl
theorem sz24 : (Tryz.prog.info? 24).map (·.size) = some 6 := by kernel_rfl
theorem co24 : Tryz.prog.cellsOf 24 = 6 := by kernel_rfl
theorem bo24 : Tryz.prog.bytesOf 24 = 80 := by kernel_rfl
theorem z24 : ∀ w, (zeroValue 24).run Tryz.prog w = .ok (.agg #[.int .i64 0, .slice none 0 0, .int .i64 0, .int .i64 0, .string ⟨#[]⟩, .string ⟨#[]⟩]) w := fun _ => by kernel_rfl
theorem inf24 : (Tryz.prog.info? 24).map (fun i => (i.zero, i.size, i.bytes)) = some (some (.agg #[.int .i64 0, .slice none 0 0, .int .i64 0, .int .i64 0, .string ⟨#[]⟩, .string ⟨#[]⟩]), 6, 80) := by kernel_rfl
theorem fa24_0 : ∀ a w, (Instr.fieldAt 24 (.pointer (some a)) 0).run Tryz.prog w = .ok (.pointer (some (a.add 0))) w := run_field (b := 1) Tryz.underlying24 rfl rfl (by kernel_rfl) (by decide)
theorem fa24_1 : ∀ a w, (Instr.fieldAt 24 (.pointer (some a)) 1).run Tryz.prog w = .ok (.pointer (some (a.add 1))) w := run_field (b := 1) Tryz.underlying24 rfl rfl (by kernel_rfl) (by decide)
theorem fa24_2 : ∀ a w, (Instr.fieldAt 24 (.pointer (some a)) 2).run Tryz.prog w = .ok (.pointer (some (a.add 2))) w := run_field (b := 1) Tryz.underlying24 rfl rfl (by kernel_rfl) (by decide)
theorem fa24_3 : ∀ a w, (Instr.fieldAt 24 (.pointer (some a)) 3).run Tryz.prog w = .ok (.pointer (some (a.add 3))) w := run_field (b := 1) Tryz.underlying24 rfl rfl (by kernel_rfl) (by decide)
theorem fa24_4 : ∀ a w, (Instr.fieldAt 24 (.pointer (some a)) 4).run Tryz.prog w = .ok (.pointer (some (a.add 4))) w := run_field (b := 1) Tryz.underlying24 rfl rfl (by kernel_rfl) (by decide)
theorem fa24_5 : ∀ a w, (Instr.fieldAt 24 (.pointer (some a)) 5).run Tryz.prog w = .ok (.pointer (some (a.add 5))) w := run_field (b := 1) Tryz.underlying24 rfl rfl (by kernel_rfl) (by decide)
theorem sz41 : (Tryz.prog.info? 41).map (·.size) = some 1 := by kernel_rfl
theorem z46 : ∀ w, (zeroValue 46).run Tryz.prog w = .ok (.agg #[.string ⟨#[]⟩, .int .i64 0, .int .i64 0]) w := fun _ => by kernel_rfl
theorem fa46_0 : ∀ a w, (Instr.fieldAt 46 (.pointer (some a)) 0).run Tryz.prog w = .ok (.pointer (some (a.add 0))) w := run_field (b := 1) Tryz.underlying46 rfl rfl (by kernel_rfl) (by decide)
theorem fa46_1 : ∀ a w, (Instr.fieldAt 46 (.pointer (some a)) 1).run Tryz.prog w = .ok (.pointer (some (a.add 1))) w := run_field (b := 1) Tryz.underlying46 rfl rfl (by kernel_rfl) (by decide)
theorem fa46_2 : ∀ a w, (Instr.fieldAt 46 (.pointer (some a)) 2).run Tryz.prog w = .ok (.pointer (some (a.add 2))) w := run_field (b := 1) Tryz.underlying46 rfl rfl (by kernel_rfl) (by decide)
theorem sz66 : (Tryz.prog.info? 66).map (·.size) = some 3 := by kernel_rfl
theorem z66 : ∀ w, (zeroValue 66).run Tryz.prog w = .ok (.agg #[.int .i64 0, .bool false, .slice none 0 0]) w := fun _ => by kernel_rfl
theorem inf66 : (Tryz.prog.info? 66).map (fun i => (i.zero, i.size, i.bytes)) = some (some (.agg #[.int .i64 0, .bool false, .slice none 0 0]), 3, 40) := by kernel_rfl
theorem fa66_0 : ∀ a w, (Instr.fieldAt 66 (.pointer (some a)) 0).run Tryz.prog w = .ok (.pointer (some (a.add 0))) w := run_field (b := 1) Tryz.underlying66 rfl rfl (by kernel_rfl) (by decide)
theorem fa66_1 : ∀ a w, (Instr.fieldAt 66 (.pointer (some a)) 1).run Tryz.prog w = .ok (.pointer (some (a.add 1))) w := run_field (b := 1) Tryz.underlying66 rfl rfl (by kernel_rfl) (by decide)
theorem fa66_2 : ∀ a w, (Instr.fieldAt 66 (.pointer (some a)) 2).run Tryz.prog w = .ok (.pointer (some (a.add 2))) w := run_field (b := 1) Tryz.underlying66 rfl rfl (by kernel_rfl) (by decide)
theorem sz79 : (Tryz.prog.info? 79).map (·.size) = some 1 := by kernel_rfl
theorem z80 : ∀ w, (zeroValue 80).run Tryz.prog w = .ok (.agg #[.pointer none, .slice none 0 0]) w := fun _ => by kernel_rfl
theorem z116 : ∀ w, (zeroValue 116).run Tryz.prog w = .ok (.agg #[.int .i32 0, .int .u32 0]) w := fun _ => by kernel_rfl
theorem z117 : ∀ w, (zeroValue 117).run Tryz.prog w = .ok (.agg #[.int .i32 0, .int .u32 0]) w := fun _ => by kernel_rfl
theorem z119 : ∀ w, (zeroValue 119).run Tryz.prog w = .ok (.agg #[.int .u32 0, .int .i32 0, .int .u32 0]) w := fun _ => by kernel_rfl
theorem sz121 : (Tryz.prog.info? 121).map (·.size) = some 1 := by kernel_rfl
theorem z123 : ∀ w, (zeroValue 123).run Tryz.prog w = .ok (.agg #[.int .u32 0, .int .i32 0, .int .u32 0, .nilIface, .slice none 0 0]) w := fun _ => by kernel_rfl
theorem fa123_0 : ∀ a w, (Instr.fieldAt 123 (.pointer (some a)) 0).run Tryz.prog w = .ok (.pointer (some (a.add 0))) w := run_field (b := 3) Tryz.underlying123 rfl rfl (by kernel_rfl) (by decide)
theorem fa123_1 : ∀ a w, (Instr.fieldAt 123 (.pointer (some a)) 1).run Tryz.prog w = .ok (.pointer (some (a.add 3))) w := run_field (b := 1) Tryz.underlying123 rfl rfl (by kernel_rfl) (by decide)
theorem fa123_2 : ∀ a w, (Instr.fieldAt 123 (.pointer (some a)) 2).run Tryz.prog w = .ok (.pointer (some (a.add 4))) w := run_field (b := 1) Tryz.underlying123 rfl rfl (by kernel_rfl) (by decide)
theorem z139 : ∀ w, (zeroValue 139).run Tryz.prog w = .ok (.agg #[.int .u8 0, .int .u8 0, .int .u8 0, .int .u8 0, .int .u8 0, .int .u8 0, .int .u8 0, .int .u8 0, .int .u8 0, .int .u8 0, .int .u8 0, .int .u8 0, .int .u8 0, .int .u8 0, .int .u8 0, .int .u8 0, .int .u8 0, .int .u8 0, .int .u8 0, .int .u8 0, .int .u8 0, .int .u8 0, .int .u8 0, .int .u8 0]) w := fun _ => by kernel_rfl
theorem sz160 : (Tryz.prog.info? 160).map (·.size) = some 257 := by kernel_rfl
theorem z160 : ∀ w, (zeroValue 160).run Tryz.prog w = .ok (.agg #[.slice none 0 0, .slice none 0 0, .slice none 0 0, .slice none 0 0, .slice none 0 0, .slice none 0 0, .slice none 0 0, .slice none 0 0, .slice none 0 0, .slice none 0 0, .slice none 0 0, .slice none 0 0, .slice none 0 0, .slice none 0 0, .slice none 0 0, .slice none 0 0, .slice none 0 0, .slice none 0 0, .slice none 0 0, .slice none 0 0, .slice none 0 0, .slice none 0 0, .slice none 0 0, .slice none 0 0, .slice none 0 0, .slice none 0 0, .slice none 0 0, .slice none 0 0, .slice none 0 0, .slice none 0 0, .slice none 0 0, .slice none 0 0, .slice none 0 0, .slice none 0 0, .slice none 0 0, .slice none 0 0, .slice none 0 0, .slice none 0 0, .slice none 0 0, .slice none 0 0, .slice none 0 0, .slice none 0 0, .slice none 0 0, .slice none 0 0, .slice none 0 0, .slice none 0 0, .slice none 0 0, .slice none 0 0, .slice none 0 0, .slice none 0 0, .slice none 0 0, .slice none 0 0, .slice none 0 0, .slice none 0 0, .slice none 0 0, .slice none 0 0, .slice none 0 0, .slice none 0 0, .slice none 0 0, .slice none 0 0, .slice none 0 0, .slice none 0 0, .slice none 0 0, .slice none 0 0, .slice none 0 0, .slice none 0 0, .slice none 0 0, .slice none 0 0, .slice none 0 0, .slice none 0 0, .slice none 0 0, .slice none 0 0, .slice none 0 0, .slice none 0 0, .slice none 0 0, .slice none 0 0, .slice none 0 0, .slice none 0 0, .slice none 0 0, .slice none 0 0, .slice none 0 0, .slice none 0 0, .slice none 0 0, .slice none 0 0, .slice none 0 0, .slice none 0 0, .slice none 0 0, .slice none 0 0, .slice none 0 0, .slice none 0 0, .slice none 0 0, .slice none 0 0, .slice none 0 0, .slice none 0 0, .slice none 0 0, .slice none 0 0, .slice none 0 0, .slice none 0 0, .slice none 0 0, .slice none 0 0, .slice none 0 0, .slice none 0 0, .slice none 0 0, .slice none 0 0, .slice none 0 0, .slice none 0 0, .slice none 0 0, .slice none 0 0, .slice none 0 0, .slice none 0 0, .slice none 0 0, .slice none 0 0, .slice none 0 0, .slice none 0 0, .slice none 0 0, .slice none 0 0, .slice none 0 0, .slice none 0 0, .slice none 0 0, .slice none 0 0, .slice none 0 0, .slice none 0 0, .slice none 0 0, .slice none 0 0, .slice none 0 0, .slice none 0 0, .slice none 0 0, .slice none 0 0, .slice none 0 0, .slice none 0 0, .slice none 0 0, .slice none 0 0, .slice none 0 0, .slice none 0 0, .slice none 0 0, .slice none 0 0, .slice none 0 0, .slice none 0 0, .slice none 0 0, .slice none 0 0, .slice none 0 0, .slice none 0 0, .slice none 0 0, .slice none 0 0, .slice none 0 0, .slice none 0 0, .slice none 0 0, .slice none 0 0, .slice none 0 0, .slice none 0 0, .slice none 0 0, .slice none 0 0, .slice none 0 0, .slice none 0 0, .slice none 0 0, .slice none 0 0, .slice none 0 0, .slice none 0 0, .slice none 0 0, .slice none 0 0, .slice none 0 0, .slice none 0 0, .slice none 0 0, .slice none 0 0, .slice none 0 0, .slice none 0 0, .slice none 0 0, .slice none 0 0, .slice none 0 0, .slice none 0 0, .slice none 0 0, .slice none 0 0, .slice none 0 0, .slice none 0 0, .slice none 0 0, .slice none 0 0, .slice none 0 0, .slice none 0 0, .slice none 0 0, .slice none 0 0, .slice none 0 0, .slice none 0 0, .slice none 0 0, .slice none 0 0, .slice none 0 0, .slice none 0 0, .slice none 0 0, .slice none 0 0, .slice none 0 0, .slice none 0 0, .slice none 0 0, .slice none 0 0, .slice none 0 0, .slice none 0 0, .slice none 0 0, .slice none 0 0, .slice none 0 0, .slice none 0 0, .slice none 0 0, .slice none 0 0, .slice none 0 0, .slice none 0 0, .slice none 0 0, .slice none 0 0, .slice none 0 0, .slice none 0 0, .slice none 0 0, .slice none 0 0, .slice none 0 0, .slice none 0 0, .slice none 0 0, .slice none 0 0, .slice none 0 0, .slice none 0 0, .slice none 0 0, .slice none 0 0, .slice none 0 0, .slice none 0 0, .slice none 0 0, .slice none 0 0, .slice none 0 0, .slice none 0 0, .slice none 0 0, .slice none 0 0, .slice none 0 0, .slice none 0 0, .slice none 0 0, .slice none 0 0, .slice none 0 0, .slice none 0 0, .slice none 0 0, .slice none 0 0, .slice none 0 0, .slice none 0 0, .slice none 0 0, .slice none 0 0, .slice none 0 0, .slice none 0 0, .slice none 0 0, .slice none 0 0, .slice none 0 0, .slice none 0 0, .slice none 0 0, .slice none 0 0, .slice none 0 0, .slice none 0 0, .slice none 0 0, .slice none 0 0, .slice none 0 0, .slice none 0 0, .slice none 0 0, .slice none 0 0, .slice none 0 0, .slice none 0 0, .slice none 0 0, .slice none 0 0, .slice none 0 0]) w := fun _ => by kernel_rfl
theorem fa160_0 : ∀ a w, (Instr.fieldAt 160 (.pointer (some a)) 0).run Tryz.prog w = .ok (.pointer (some (a.add 0))) w := run_field (b := 256) Tryz.underlying160 rfl rfl (by kernel_rfl) (by decide)
theorem fa160_1 : ∀ a w, (Instr.fieldAt 160 (.pointer (some a)) 1).run Tryz.prog w = .ok (.pointer (some (a.add 256))) w := run_field (b := 1) Tryz.underlying160 rfl rfl (by kernel_rfl) (by decide)
theorem z164 : ∀ w, (zeroValue 164).run Tryz.prog w = .ok (.agg #[.int .u64 0, .int .u64 0, .int .u64 0, .int .u64 0, .int .u64 0, .int .u64 0, .int .u64 0, .int .u64 0, .int .u64 0, .int .u64 0, .int .u64 0, .int .u64 0, .int .u64 0, .int .u64 0, .int .u64 0, .int .u64 0, .int .u64 0, .int .u64 0, .int .u64 0, .int .u64 0]) w := fun _ => by kernel_rfl
theorem z168 : ∀ w, (zeroValue 168).run Tryz.prog w = .ok (.agg #[.int .u8 0, .int .u8 0]) w := fun _ => by kernel_rfl
theorem z175 : ∀ w, (zeroValue 175).run Tryz.prog w = .ok (.pointer none) w := fun _ => by kernel_rfl
theorem z210 : ∀ w, (zeroValue 210).run Tryz.prog w = .ok (.pointer none) w := fun _ => by kernel_rfl
theorem z212 : ∀ w, (zeroValue 212).run Tryz.prog w = .ok (.agg #[.string ⟨#[]⟩]) w := fun _ => by kernel_rfl
theorem z232 : ∀ w, (zeroValue 232).run Tryz.prog w = .ok (.nilIface) w := fun _ => by kernel_rfl
theorem z233 : ∀ w, (zeroValue 233).run Tryz.prog w = .ok (.nilIface) w := fun _ => by kernel_rfl
theorem cf5 : ∀ args w, (callFunc 5 args).run Tryz.prog w = .ok (.enter 5 args) w := run_cf Tryz.func5 (by kernel_rfl) rfl
theorem cf6 : ∀ args w, (callFunc 6 args).run Tryz.prog w = .ok (.enter 6 args) w := run_cf Tryz.func6 (by kernel_rfl) rfl
theorem cf7 : ∀ args w, (callFunc 7 args).run Tryz.prog w = .ok (.enter 7 args) w := run_cf Tryz.func7 (by kernel_rfl) rfl
theorem cf8 : ∀ args w, (callFunc 8 args).run Tryz.prog w = .ok (.enter 8 args) w := run_cf Tryz.func8 (by kernel_rfl) rfl
theorem cf14 : ∀ args w, (callFunc 14 args).run Tryz.prog w = .ok (.enter 14 args) w := run_cf Tryz.func14 (by kernel_rfl) rfl
theorem cf19 : ∀ args w, (callFunc 19 args).run Tryz.prog w = .ok (.enter 19 args) w := run_cf Tryz.func19 (by kernel_rfl) rfl
theorem cf20 : ∀ args w, (callFunc 20 args).run Tryz.prog w = .ok (.enter 20 args) w := run_cf Tryz.func20 (by kernel_rfl) rfl
theorem cf21 : ∀ args w, (callFunc 21 args).run Tryz.prog w = .ok (.enter 21 args) w := run_cf Tryz.func21 (by kernel_rfl) rfl
theorem cf22 : ∀ args w, (callFunc 22 args).run Tryz.prog w = .ok (.enter 22 args) w := run_cf Tryz.func22 (by kernel_rfl) rfl
theorem cf27 : ∀ args w, (callFunc 27 args).run Tryz.prog w = .ok (.enter 27 args) w := run_cf Tryz.func27 (by kernel_rfl) rfl
theorem cf30 : ∀ args w, (callFunc 30 args).run Tryz.prog w = .ok (.enter 30 args) w := run_cf Tryz.func30 (by kernel_rfl) rfl
theorem cf32 : ∀ args w, (callFunc 32 args).run Tryz.prog w = .ok (.enter 32 args) w := run_cf Tryz.func32 (by kernel_rfl) rfl
theorem cf33 : ∀ args w, (callFunc 33 args).run Tryz.prog w = .ok (.enter 33 args) w := run_cf Tryz.func33 (by kernel_rfl) rfl
theorem cf34 : ∀ args w, (callFunc 34 args).run Tryz.prog w = .ok (.enter 34 args) w := run_cf Tryz.func34 (by kernel_rfl) rfl
theorem cf36 : ∀ args w, (callFunc 36 args).run Tryz.prog w = .ok (.enter 36 args) w := run_cf Tryz.func36 (by kernel_rfl) rfl
theorem cf37 : ∀ args w, (callFunc 37 args).run Tryz.prog w = .ok (.enter 37 args) w := run_cf Tryz.func37 (by kernel_rfl) rfl
theorem cf38 : ∀ args w, (callFunc 38 args).run Tryz.prog w = .ok (.enter 38 args) w := run_cf Tryz.func38 (by kernel_rfl) rfl
theorem cf39 : ∀ args w, (callFunc 39 args).run Tryz.prog w = .ok (.enter 39 args) w := run_cf Tryz.func39 (by kernel_rfl) rfl
theorem cf40 : ∀ args w, (callFunc 40 args).run Tryz.prog w = .ok (.enter 40 args) w := run_cf Tryz.func40 (by kernel_rfl) rfl
theorem cf41 : ∀ args w, (callFunc 41 args).run Tryz.prog w = .ok (.enter 41 args) w := run_cf Tryz.func41 (by kernel_rfl) rfl
theorem cf42 : ∀ args w, (callFunc 42 args).run Tryz.prog w = .ok (.enter 42 args) w := run_cf Tryz.func42 (by kernel_rfl) rfl
theorem cf43 : ∀ args w, (callFunc 43 args).run Tryz.prog w = .ok (.enter 43 args) w := run_cf Tryz.func43 (by kernel_rfl) rfl
theorem cf44 : ∀ args w, (callFunc 44 args).run Tryz.prog w = .ok (.enter 44 args) w := run_cf Tryz.func44 (by kernel_rfl) rfl
theorem cf45 : ∀ args w, (callFunc 45 args).run Tryz.prog w = .ok (.enter 45 args) w := run_cf Tryz.func45 (by kernel_rfl) rfl
theorem cf55 : ∀ args w, (callFunc 55 args).run Tryz.prog w = .ok (.enter 55 args) w := run_cf Tryz.func55 (by kernel_rfl) rfl
theorem cf56 : ∀ args w, (callFunc 56 args).run Tryz.prog w = .ok (.enter 56 args) w := run_cf Tryz.func56 (by kernel_rfl) rfl
theorem cf59 : ∀ args w, (callFunc 59 args).run Tryz.prog w = .ok (.enter 59 args) w := run_cf Tryz.func59 (by kernel_rfl) rfl
theorem cf60 : ∀ args w, (callFunc 60 args).run Tryz.prog w = .ok (.enter 60 args) w := run_cf Tryz.func60 (by kernel_rfl) rfl
theorem cf61 : ∀ args w, (callFunc 61 args).run Tryz.prog w = .ok (.enter 61 args) w := run_cf Tryz.func61 (by kernel_rfl) rfl
theorem cf62 : ∀ args w, (callFunc 62 args).run Tryz.prog w = .ok (.enter 62 args) w := run_cf Tryz.func62 (by kernel_rfl) rfl
theorem cf63 : ∀ args w, (callFunc 63 args).run Tryz.prog w = .ok (.enter 63 args) w := run_cf Tryz.func63 (by kernel_rfl) rfl
theorem cf64 : ∀ args w, (callFunc 64 args).run Tryz.prog w = .ok (.enter 64 args) w := run_cf Tryz.func64 (by kernel_rfl) rfl
theorem cf65 : ∀ args w, (callFunc 65 args).run Tryz.prog w = .ok (.enter 65 args) w := run_cf Tryz.func65 (by kernel_rfl) rfl
theorem cf66 : ∀ args w, (callFunc 66 args).run Tryz.prog w = .ok (.enter 66 args) w := run_cf Tryz.func66 (by kernel_rfl) rfl
theorem cf79 : ∀ args w, (callFunc 79 args).run Tryz.prog w = .ok (.enter 79 args) w := run_cf Tryz.func79 (by kernel_rfl) rfl
theorem cf80 : ∀ args w, (callFunc 80 args).run Tryz.prog w = .ok (.enter 80 args) w := run_cf Tryz.func80 (by kernel_rfl) rfl
theorem cf81 : ∀ args w, (callFunc 81 args).run Tryz.prog w = .ok (.enter 81 args) w := run_cf Tryz.func81 (by kernel_rfl) rfl
theorem cf82 : ∀ args w, (callFunc 82 args).run Tryz.prog w = .ok (.enter 82 args) w := run_cf Tryz.func82 (by kernel_rfl) rfl
theorem cf83 : ∀ args w, (callFunc 83 args).run Tryz.prog w = .ok (.enter 83 args) w := run_cf Tryz.func83 (by kernel_rfl) rfl
theorem cf84 : ∀ args w, (callFunc 84 args).run Tryz.prog w = .ok (.enter 84 args) w := run_cf Tryz.func84 (by kernel_rfl) rfl
theorem cf85 : ∀ args w, (callFunc 85 args).run Tryz.prog w = .ok (.enter 85 args) w := run_cf Tryz.func85 (by kernel_rfl) rfl
theorem cf86 : ∀ args w, (callFunc 86 args).run Tryz.prog w = .ok (.enter 86 args) w := run_cf Tryz.func86 (by kernel_rfl) rfl
theorem cf91 : ∀ args w, (callFunc 91 args).run Tryz.prog w = .ok (.enter 91 args) w := run_cf Tryz.func91 (by kernel_rfl) rfl
theorem cf102 : ∀ args w, (callFunc 102 args).run Tryz.prog w = .ok (.enter 102 args) w := run_cf Tryz.func102 (by kernel_rfl) rfl
theorem cf103 : ∀ args w, (callFunc 103 args).run Tryz.prog w = .ok (.enter 103 args) w := run_cf Tryz.func103 (by kernel_rfl) rfl
theorem cf104 : ∀ args w, (callFunc 104 args).run Tryz.prog w = .ok (.enter 104 args) w := run_cf Tryz.func104 (by kernel_rfl) rfl
theorem cf105 : ∀ args w, (callFunc 105 args).run Tryz.prog w = .ok (.enter 105 args) w := run_cf Tryz.func105 (by kernel_rfl) rfl
theorem cf106 : ∀ args w, (callFunc 106 args).run Tryz.prog w = .ok (.enter 106 args) w := run_cf Tryz.func106 (by kernel_rfl) rfl
theorem cf110 : ∀ args w, (callFunc 110 args).run Tryz.prog w = .ok (.enter 110 args) w := run_cf Tryz.func110 (by kernel_rfl) rfl
theorem cf113 : ∀ args w, (callFunc 113 args).run Tryz.prog w = .ok (.enter 113 args) w := run_cf Tryz.func113 (by kernel_rfl) rfl
theorem cf121 : ∀ args w, (callFunc 121 args).run Tryz.prog w = .ok (.enter 121 args) w := run_cf Tryz.func121 (by kernel_rfl) rfl
theorem cf122 : ∀ args w, (callFunc 122 args).run Tryz.prog w = .ok (.enter 122 args) w := run_cf Tryz.func122 (by kernel_rfl) rfl
theorem cf199 : ∀ args w, (callFunc 199 args).run Tryz.prog w = .ok (.enter 199 args) w := run_cf Tryz.func199 (by kernel_rfl) rfl
theorem cf201 : ∀ args w, (callFunc 201 args).run Tryz.prog w = .ok (.enter 201 args) w := run_cf Tryz.func201 (by kernel_rfl) rfl
end Go.Proofs.YtfcedlfeinnhoaaGreatDoor
