/- Closed facts on this seat's program: sizes, fields, zero values, calls. Written by a program of mine. -/
import Derived.Test.YtfmbgaaonfgenaaDoorMore
import Derived.Test.YtfmbgaaonfgenaaDoorRows
namespace Go.Proofs.YtfmbgaaonfgenaaDoor
open Go.RowKit Go.Eng

theorem co3 : Tryd.prog.cellsOf 3 = 1 := by kernel_rfl
theorem z3 : ∀ w, (zeroValue 3).run Tryd.prog w = .ok (.int .i64 0) w := fun _ => by kernel_rfl
theorem co4 : Tryd.prog.cellsOf 4 = 1 := by kernel_rfl
theorem z4 : ∀ w, (zeroValue 4).run Tryd.prog w = .ok (.bool false) w := fun _ => by kernel_rfl
theorem sz5 : (Tryd.prog.info? 5).map (·.size) = some 1 := by kernel_rfl
theorem z5 : ∀ w, (zeroValue 5).run Tryd.prog w = .ok (.int .u8 0) w := fun _ => by kernel_rfl
theorem sz9 : (Tryd.prog.info? 9).map (·.size) = some 1 := by kernel_rfl
theorem co9 : Tryd.prog.cellsOf 9 = 1 := by kernel_rfl
theorem z9 : ∀ w, (zeroValue 9).run Tryd.prog w = .ok (.string ⟨#[]⟩) w := fun _ => by kernel_rfl
theorem z21 : ∀ w, (zeroValue 21).run Tryd.prog w = .ok (.int .i32 0) w := fun _ => by kernel_rfl
theorem sz22 : (Tryd.prog.info? 22).map (·.size) = some 1 := by kernel_rfl
theorem co22 : Tryd.prog.cellsOf 22 = 1 := by kernel_rfl
theorem sz24 : (Tryd.prog.info? 24).map (·.size) = some 6 := by kernel_rfl
theorem co24 : Tryd.prog.cellsOf 24 = 6 := by kernel_rfl
theorem bo24 : Tryd.prog.bytesOf 24 = 80 := by kernel_rfl
theorem z24 : ∀ w, (zeroValue 24).run Tryd.prog w = .ok (.agg #[.int .i64 0, .slice none 0 0, .int .i64 0, .int .i64 0, .string ⟨#[]⟩, .string ⟨#[]⟩]) w := fun _ => by kernel_rfl
theorem inf24 : (Tryd.prog.info? 24).map (fun i => (i.zero, i.size, i.bytes)) = some (some (.agg #[.int .i64 0, .slice none 0 0, .int .i64 0, .int .i64 0, .string ⟨#[]⟩, .string ⟨#[]⟩]), 6, 80) := by kernel_rfl
theorem fa24_0 : ∀ a w, (Instr.fieldAt 24 (.pointer (some a)) 0).run Tryd.prog w = .ok (.pointer (some (a.add 0))) w := run_field (b := 1) Tryd.underlying24 rfl rfl (by kernel_rfl) (by decide)
theorem fa24_1 : ∀ a w, (Instr.fieldAt 24 (.pointer (some a)) 1).run Tryd.prog w = .ok (.pointer (some (a.add 1))) w := run_field (b := 1) Tryd.underlying24 rfl rfl (by kernel_rfl) (by decide)
theorem fa24_2 : ∀ a w, (Instr.fieldAt 24 (.pointer (some a)) 2).run Tryd.prog w = .ok (.pointer (some (a.add 2))) w := run_field (b := 1) Tryd.underlying24 rfl rfl (by kernel_rfl) (by decide)
theorem fa24_3 : ∀ a w, (Instr.fieldAt 24 (.pointer (some a)) 3).run Tryd.prog w = .ok (.pointer (some (a.add 3))) w := run_field (b := 1) Tryd.underlying24 rfl rfl (by kernel_rfl) (by decide)
theorem fa24_4 : ∀ a w, (Instr.fieldAt 24 (.pointer (some a)) 4).run Tryd.prog w = .ok (.pointer (some (a.add 4))) w := run_field (b := 1) Tryd.underlying24 rfl rfl (by kernel_rfl) (by decide)
theorem fa24_5 : ∀ a w, (Instr.fieldAt 24 (.pointer (some a)) 5).run Tryd.prog w = .ok (.pointer (some (a.add 5))) w := run_field (b := 1) Tryd.underlying24 rfl rfl (by kernel_rfl) (by decide)
theorem co31 : Tryd.prog.cellsOf 31 = 1 := by kernel_rfl
theorem co32 : Tryd.prog.cellsOf 32 = 1 := by kernel_rfl
theorem co33 : Tryd.prog.cellsOf 33 = 1 := by kernel_rfl
theorem sz35 : (Tryd.prog.info? 35).map (·.size) = some 9 := by kernel_rfl
theorem co35 : Tryd.prog.cellsOf 35 = 9 := by kernel_rfl
theorem bo35 : Tryd.prog.bytesOf 35 = 144 := by kernel_rfl
theorem z35 : ∀ w, (zeroValue 35).run Tryd.prog w = .ok (.agg #[.string ⟨#[]⟩, .int .i64 0, .int .i64 0, .slice none 0 0, .slice none 0 0, .slice none 0 0, .string ⟨#[]⟩, .string ⟨#[]⟩, .int .i64 0]) w := fun _ => by kernel_rfl
theorem fa35_0 : ∀ a w, (Instr.fieldAt 35 (.pointer (some a)) 0).run Tryd.prog w = .ok (.pointer (some (a.add 0))) w := run_field (b := 1) Tryd.underlying35 rfl rfl (by kernel_rfl) (by decide)
theorem fa35_1 : ∀ a w, (Instr.fieldAt 35 (.pointer (some a)) 1).run Tryd.prog w = .ok (.pointer (some (a.add 1))) w := run_field (b := 1) Tryd.underlying35 rfl rfl (by kernel_rfl) (by decide)
theorem fa35_2 : ∀ a w, (Instr.fieldAt 35 (.pointer (some a)) 2).run Tryd.prog w = .ok (.pointer (some (a.add 2))) w := run_field (b := 1) Tryd.underlying35 rfl rfl (by kernel_rfl) (by decide)
theorem fa35_3 : ∀ a w, (Instr.fieldAt 35 (.pointer (some a)) 3).run Tryd.prog w = .ok (.pointer (some (a.add 3))) w := run_field (b := 1) Tryd.underlying35 rfl rfl (by kernel_rfl) (by decide)
theorem fa35_4 : ∀ a w, (Instr.fieldAt 35 (.pointer (some a)) 4).run Tryd.prog w = .ok (.pointer (some (a.add 4))) w := run_field (b := 1) Tryd.underlying35 rfl rfl (by kernel_rfl) (by decide)
theorem fa35_5 : ∀ a w, (Instr.fieldAt 35 (.pointer (some a)) 5).run Tryd.prog w = .ok (.pointer (some (a.add 5))) w := run_field (b := 1) Tryd.underlying35 rfl rfl (by kernel_rfl) (by decide)
theorem fa35_6 : ∀ a w, (Instr.fieldAt 35 (.pointer (some a)) 6).run Tryd.prog w = .ok (.pointer (some (a.add 6))) w := run_field (b := 1) Tryd.underlying35 rfl rfl (by kernel_rfl) (by decide)
theorem fa35_7 : ∀ a w, (Instr.fieldAt 35 (.pointer (some a)) 7).run Tryd.prog w = .ok (.pointer (some (a.add 7))) w := run_field (b := 1) Tryd.underlying35 rfl rfl (by kernel_rfl) (by decide)
theorem fa35_8 : ∀ a w, (Instr.fieldAt 35 (.pointer (some a)) 8).run Tryd.prog w = .ok (.pointer (some (a.add 8))) w := run_field (b := 1) Tryd.underlying35 rfl rfl (by kernel_rfl) (by decide)
theorem sz44 : (Tryd.prog.info? 44).map (·.size) = some 1 := by kernel_rfl
theorem inf44 : (Tryd.prog.info? 44).map (fun i => (i.zero, i.size, i.bytes)) = some (some (.nilFunc), 1, 8) := by kernel_rfl
theorem co58 : Tryd.prog.cellsOf 58 = 1 := by kernel_rfl
theorem sz60 : (Tryd.prog.info? 60).map (·.size) = some 3 := by kernel_rfl
theorem co60 : Tryd.prog.cellsOf 60 = 3 := by kernel_rfl
theorem bo60 : Tryd.prog.bytesOf 60 = 56 := by kernel_rfl
theorem z60 : ∀ w, (zeroValue 60).run Tryd.prog w = .ok (.agg #[.string ⟨#[]⟩, .string ⟨#[]⟩, .slice none 0 0]) w := fun _ => by kernel_rfl
theorem fa60_0 : ∀ a w, (Instr.fieldAt 60 (.pointer (some a)) 0).run Tryd.prog w = .ok (.pointer (some (a.add 0))) w := run_field (b := 1) Tryd.underlying60 rfl rfl (by kernel_rfl) (by decide)
theorem fa60_1 : ∀ a w, (Instr.fieldAt 60 (.pointer (some a)) 1).run Tryd.prog w = .ok (.pointer (some (a.add 1))) w := run_field (b := 1) Tryd.underlying60 rfl rfl (by kernel_rfl) (by decide)
theorem fa60_2 : ∀ a w, (Instr.fieldAt 60 (.pointer (some a)) 2).run Tryd.prog w = .ok (.pointer (some (a.add 2))) w := run_field (b := 1) Tryd.underlying60 rfl rfl (by kernel_rfl) (by decide)
theorem sz61 : (Tryd.prog.info? 61).map (·.size) = some 1 := by kernel_rfl
theorem sz65 : (Tryd.prog.info? 65).map (·.size) = some 6 := by kernel_rfl
theorem co65 : Tryd.prog.cellsOf 65 = 6 := by kernel_rfl
theorem bo65 : Tryd.prog.bytesOf 65 = 72 := by kernel_rfl
theorem z65 : ∀ w, (zeroValue 65).run Tryd.prog w = .ok (.agg #[.string ⟨#[]⟩, .string ⟨#[]⟩, .string ⟨#[]⟩, .int .i64 0, .int .i64 0, .bool false]) w := fun _ => by kernel_rfl
theorem fa65_0 : ∀ a w, (Instr.fieldAt 65 (.pointer (some a)) 0).run Tryd.prog w = .ok (.pointer (some (a.add 0))) w := run_field (b := 1) Tryd.underlying65 rfl rfl (by kernel_rfl) (by decide)
theorem fa65_1 : ∀ a w, (Instr.fieldAt 65 (.pointer (some a)) 1).run Tryd.prog w = .ok (.pointer (some (a.add 1))) w := run_field (b := 1) Tryd.underlying65 rfl rfl (by kernel_rfl) (by decide)
theorem fa65_2 : ∀ a w, (Instr.fieldAt 65 (.pointer (some a)) 2).run Tryd.prog w = .ok (.pointer (some (a.add 2))) w := run_field (b := 1) Tryd.underlying65 rfl rfl (by kernel_rfl) (by decide)
theorem fa65_3 : ∀ a w, (Instr.fieldAt 65 (.pointer (some a)) 3).run Tryd.prog w = .ok (.pointer (some (a.add 3))) w := run_field (b := 1) Tryd.underlying65 rfl rfl (by kernel_rfl) (by decide)
theorem fa65_4 : ∀ a w, (Instr.fieldAt 65 (.pointer (some a)) 4).run Tryd.prog w = .ok (.pointer (some (a.add 4))) w := run_field (b := 1) Tryd.underlying65 rfl rfl (by kernel_rfl) (by decide)
theorem sz69 : (Tryd.prog.info? 69).map (·.size) = some 1 := by kernel_rfl
theorem z69 : ∀ w, (zeroValue 69).run Tryd.prog w = .ok (.slice none 0 0) w := fun _ => by kernel_rfl
theorem sz87 : (Tryd.prog.info? 87).map (·.size) = some 2 := by kernel_rfl
theorem co87 : Tryd.prog.cellsOf 87 = 2 := by kernel_rfl
theorem bo87 : Tryd.prog.bytesOf 87 = 32 := by kernel_rfl
theorem z87 : ∀ w, (zeroValue 87).run Tryd.prog w = .ok (.agg #[.string ⟨#[]⟩, .string ⟨#[]⟩]) w := fun _ => by kernel_rfl
theorem fa87_0 : ∀ a w, (Instr.fieldAt 87 (.pointer (some a)) 0).run Tryd.prog w = .ok (.pointer (some (a.add 0))) w := run_field (b := 1) Tryd.underlying87 rfl rfl (by kernel_rfl) (by decide)
theorem fa87_1 : ∀ a w, (Instr.fieldAt 87 (.pointer (some a)) 1).run Tryd.prog w = .ok (.pointer (some (a.add 1))) w := run_field (b := 1) Tryd.underlying87 rfl rfl (by kernel_rfl) (by decide)
theorem sz89 : (Tryd.prog.info? 89).map (·.size) = some 3 := by kernel_rfl
theorem co89 : Tryd.prog.cellsOf 89 = 3 := by kernel_rfl
theorem bo89 : Tryd.prog.bytesOf 89 = 40 := by kernel_rfl
theorem z89 : ∀ w, (zeroValue 89).run Tryd.prog w = .ok (.agg #[.int .i64 0, .string ⟨#[]⟩, .string ⟨#[]⟩]) w := fun _ => by kernel_rfl
theorem fa89_0 : ∀ a w, (Instr.fieldAt 89 (.pointer (some a)) 0).run Tryd.prog w = .ok (.pointer (some (a.add 0))) w := run_field (b := 1) Tryd.underlying89 rfl rfl (by kernel_rfl) (by decide)
theorem fa89_1 : ∀ a w, (Instr.fieldAt 89 (.pointer (some a)) 1).run Tryd.prog w = .ok (.pointer (some (a.add 1))) w := run_field (b := 1) Tryd.underlying89 rfl rfl (by kernel_rfl) (by decide)
theorem fa89_2 : ∀ a w, (Instr.fieldAt 89 (.pointer (some a)) 2).run Tryd.prog w = .ok (.pointer (some (a.add 2))) w := run_field (b := 1) Tryd.underlying89 rfl rfl (by kernel_rfl) (by decide)
theorem z105 : ∀ w, (zeroValue 105).run Tryd.prog w = .ok (.int .u64 0) w := fun _ => by kernel_rfl
theorem z116 : ∀ w, (zeroValue 116).run Tryd.prog w = .ok (.agg #[.pointer none, .pointer none, .pointer none, .string ⟨#[]⟩]) w := fun _ => by kernel_rfl
theorem z117 : ∀ w, (zeroValue 117).run Tryd.prog w = .ok (.agg #[]) w := fun _ => by kernel_rfl
theorem z119 : ∀ w, (zeroValue 119).run Tryd.prog w = .ok (.agg #[]) w := fun _ => by kernel_rfl
theorem z124 : ∀ w, (zeroValue 124).run Tryd.prog w = .ok (.pointer none) w := fun _ => by kernel_rfl
theorem cf4 : ∀ args w, (callFunc 4 args).run Tryd.prog w = .ok (.enter 4 args) w := run_cf Tryd.func4 (by kernel_rfl) rfl
theorem cf5 : ∀ args w, (callFunc 5 args).run Tryd.prog w = .ok (.enter 5 args) w := run_cf Tryd.func5 (by kernel_rfl) rfl
theorem cf6 : ∀ args w, (callFunc 6 args).run Tryd.prog w = .ok (.enter 6 args) w := run_cf Tryd.func6 (by kernel_rfl) rfl
theorem cf7 : ∀ args w, (callFunc 7 args).run Tryd.prog w = .ok (.enter 7 args) w := run_cf Tryd.func7 (by kernel_rfl) rfl
theorem cf8 : ∀ args w, (callFunc 8 args).run Tryd.prog w = .ok (.enter 8 args) w := run_cf Tryd.func8 (by kernel_rfl) rfl
theorem cf9 : ∀ args w, (callFunc 9 args).run Tryd.prog w = .ok (.enter 9 args) w := run_cf Tryd.func9 (by kernel_rfl) rfl
theorem cf10 : ∀ args w, (callFunc 10 args).run Tryd.prog w = .ok (.enter 10 args) w := run_cf Tryd.func10 (by kernel_rfl) rfl
theorem cf11 : ∀ args w, (callFunc 11 args).run Tryd.prog w = .ok (.enter 11 args) w := run_cf Tryd.func11 (by kernel_rfl) rfl
theorem cf12 : ∀ args w, (callFunc 12 args).run Tryd.prog w = .ok (.enter 12 args) w := run_cf Tryd.func12 (by kernel_rfl) rfl
theorem cf13 : ∀ args w, (callFunc 13 args).run Tryd.prog w = .ok (.enter 13 args) w := run_cf Tryd.func13 (by kernel_rfl) rfl
theorem cf14 : ∀ args w, (callFunc 14 args).run Tryd.prog w = .ok (.enter 14 args) w := run_cf Tryd.func14 (by kernel_rfl) rfl
theorem cf15 : ∀ args w, (callFunc 15 args).run Tryd.prog w = .ok (.enter 15 args) w := run_cf Tryd.func15 (by kernel_rfl) rfl
theorem cf16 : ∀ args w, (callFunc 16 args).run Tryd.prog w = .ok (.enter 16 args) w := run_cf Tryd.func16 (by kernel_rfl) rfl
theorem cf17 : ∀ args w, (callFunc 17 args).run Tryd.prog w = .ok (.enter 17 args) w := run_cf Tryd.func17 (by kernel_rfl) rfl
theorem cf18 : ∀ args w, (callFunc 18 args).run Tryd.prog w = .ok (.enter 18 args) w := run_cf Tryd.func18 (by kernel_rfl) rfl
theorem cf19 : ∀ args w, (callFunc 19 args).run Tryd.prog w = .ok (.enter 19 args) w := run_cf Tryd.func19 (by kernel_rfl) rfl
theorem cf20 : ∀ args w, (callFunc 20 args).run Tryd.prog w = .ok (.enter 20 args) w := run_cf Tryd.func20 (by kernel_rfl) rfl
theorem cf21 : ∀ args w, (callFunc 21 args).run Tryd.prog w = .ok (.enter 21 args) w := run_cf Tryd.func21 (by kernel_rfl) rfl
theorem cf22 : ∀ args w, (callFunc 22 args).run Tryd.prog w = .ok (.enter 22 args) w := run_cf Tryd.func22 (by kernel_rfl) rfl
theorem cf23 : ∀ args w, (callFunc 23 args).run Tryd.prog w = .ok (.enter 23 args) w := run_cf Tryd.func23 (by kernel_rfl) rfl
theorem cf24 : ∀ args w, (callFunc 24 args).run Tryd.prog w = .ok (.enter 24 args) w := run_cf Tryd.func24 (by kernel_rfl) rfl
theorem cf25 : ∀ args w, (callFunc 25 args).run Tryd.prog w = .ok (.enter 25 args) w := run_cf Tryd.func25 (by kernel_rfl) rfl
theorem cf26 : ∀ args w, (callFunc 26 args).run Tryd.prog w = .ok (.enter 26 args) w := run_cf Tryd.func26 (by kernel_rfl) rfl
theorem cf27 : ∀ args w, (callFunc 27 args).run Tryd.prog w = .ok (.enter 27 args) w := run_cf Tryd.func27 (by kernel_rfl) rfl
theorem cf28 : ∀ args w, (callFunc 28 args).run Tryd.prog w = .ok (.enter 28 args) w := run_cf Tryd.func28 (by kernel_rfl) rfl
theorem cf29 : ∀ args w, (callFunc 29 args).run Tryd.prog w = .ok (.enter 29 args) w := run_cf Tryd.func29 (by kernel_rfl) rfl
theorem cf30 : ∀ args w, (callFunc 30 args).run Tryd.prog w = .ok (.enter 30 args) w := run_cf Tryd.func30 (by kernel_rfl) rfl
theorem cf31 : ∀ args w, (callFunc 31 args).run Tryd.prog w = .ok (.enter 31 args) w := run_cf Tryd.func31 (by kernel_rfl) rfl
theorem cf32 : ∀ args w, (callFunc 32 args).run Tryd.prog w = .ok (.enter 32 args) w := run_cf Tryd.func32 (by kernel_rfl) rfl
theorem cf33 : ∀ args w, (callFunc 33 args).run Tryd.prog w = .ok (.enter 33 args) w := run_cf Tryd.func33 (by kernel_rfl) rfl
theorem cf34 : ∀ args w, (callFunc 34 args).run Tryd.prog w = .ok (.enter 34 args) w := run_cf Tryd.func34 (by kernel_rfl) rfl
theorem cf35 : ∀ args w, (callFunc 35 args).run Tryd.prog w = .ok (.enter 35 args) w := run_cf Tryd.func35 (by kernel_rfl) rfl
theorem cf36 : ∀ args w, (callFunc 36 args).run Tryd.prog w = .ok (.enter 36 args) w := run_cf Tryd.func36 (by kernel_rfl) rfl
theorem cf37 : ∀ args w, (callFunc 37 args).run Tryd.prog w = .ok (.enter 37 args) w := run_cf Tryd.func37 (by kernel_rfl) rfl
theorem cf38 : ∀ args w, (callFunc 38 args).run Tryd.prog w = .ok (.enter 38 args) w := run_cf Tryd.func38 (by kernel_rfl) rfl
theorem cf39 : ∀ args w, (callFunc 39 args).run Tryd.prog w = .ok (.enter 39 args) w := run_cf Tryd.func39 (by kernel_rfl) rfl
theorem cf40 : ∀ args w, (callFunc 40 args).run Tryd.prog w = .ok (.enter 40 args) w := run_cf Tryd.func40 (by kernel_rfl) rfl
theorem cf41 : ∀ args w, (callFunc 41 args).run Tryd.prog w = .ok (.enter 41 args) w := run_cf Tryd.func41 (by kernel_rfl) rfl
theorem cf42 : ∀ args w, (callFunc 42 args).run Tryd.prog w = .ok (.enter 42 args) w := run_cf Tryd.func42 (by kernel_rfl) rfl
theorem cf43 : ∀ args w, (callFunc 43 args).run Tryd.prog w = .ok (.enter 43 args) w := run_cf Tryd.func43 (by kernel_rfl) rfl
theorem cf44 : ∀ args w, (callFunc 44 args).run Tryd.prog w = .ok (.enter 44 args) w := run_cf Tryd.func44 (by kernel_rfl) rfl
theorem cf45 : ∀ args w, (callFunc 45 args).run Tryd.prog w = .ok (.enter 45 args) w := run_cf Tryd.func45 (by kernel_rfl) rfl
theorem cf46 : ∀ args w, (callFunc 46 args).run Tryd.prog w = .ok (.enter 46 args) w := run_cf Tryd.func46 (by kernel_rfl) rfl
theorem cf47 : ∀ args w, (callFunc 47 args).run Tryd.prog w = .ok (.enter 47 args) w := run_cf Tryd.func47 (by kernel_rfl) rfl
theorem cf48 : ∀ args w, (callFunc 48 args).run Tryd.prog w = .ok (.enter 48 args) w := run_cf Tryd.func48 (by kernel_rfl) rfl
theorem cf49 : ∀ args w, (callFunc 49 args).run Tryd.prog w = .ok (.enter 49 args) w := run_cf Tryd.func49 (by kernel_rfl) rfl
theorem cf50 : ∀ args w, (callFunc 50 args).run Tryd.prog w = .ok (.enter 50 args) w := run_cf Tryd.func50 (by kernel_rfl) rfl
theorem cf51 : ∀ args w, (callFunc 51 args).run Tryd.prog w = .ok (.enter 51 args) w := run_cf Tryd.func51 (by kernel_rfl) rfl
theorem cf52 : ∀ args w, (callFunc 52 args).run Tryd.prog w = .ok (.enter 52 args) w := run_cf Tryd.func52 (by kernel_rfl) rfl
theorem cf53 : ∀ args w, (callFunc 53 args).run Tryd.prog w = .ok (.enter 53 args) w := run_cf Tryd.func53 (by kernel_rfl) rfl
theorem cf61 : ∀ args w, (callFunc 61 args).run Tryd.prog w = .ok (.enter 61 args) w := run_cf Tryd.func61 (by kernel_rfl) rfl
theorem cf62 : ∀ args w, (callFunc 62 args).run Tryd.prog w = .ok (.enter 62 args) w := run_cf Tryd.func62 (by kernel_rfl) rfl
theorem cf63 : ∀ args w, (callFunc 63 args).run Tryd.prog w = .ok (.enter 63 args) w := run_cf Tryd.func63 (by kernel_rfl) rfl
theorem cf64 : ∀ args w, (callFunc 64 args).run Tryd.prog w = .ok (.enter 64 args) w := run_cf Tryd.func64 (by kernel_rfl) rfl
theorem cf65 : ∀ args w, (callFunc 65 args).run Tryd.prog w = .ok (.enter 65 args) w := run_cf Tryd.func65 (by kernel_rfl) rfl
theorem cf66 : ∀ args w, (callFunc 66 args).run Tryd.prog w = .ok (.enter 66 args) w := run_cf Tryd.func66 (by kernel_rfl) rfl
theorem cf67 : ∀ args w, (callFunc 67 args).run Tryd.prog w = .ok (.enter 67 args) w := run_cf Tryd.func67 (by kernel_rfl) rfl
theorem cf68 : ∀ args w, (callFunc 68 args).run Tryd.prog w = .ok (.enter 68 args) w := run_cf Tryd.func68 (by kernel_rfl) rfl
theorem cf69 : ∀ args w, (callFunc 69 args).run Tryd.prog w = .ok (.enter 69 args) w := run_cf Tryd.func69 (by kernel_rfl) rfl
theorem cf70 : ∀ args w, (callFunc 70 args).run Tryd.prog w = .ok (.enter 70 args) w := run_cf Tryd.func70 (by kernel_rfl) rfl
theorem cf71 : ∀ args w, (callFunc 71 args).run Tryd.prog w = .ok (.enter 71 args) w := run_cf Tryd.func71 (by kernel_rfl) rfl
theorem cf72 : ∀ args w, (callFunc 72 args).run Tryd.prog w = .ok (.enter 72 args) w := run_cf Tryd.func72 (by kernel_rfl) rfl
theorem cf73 : ∀ args w, (callFunc 73 args).run Tryd.prog w = .ok (.enter 73 args) w := run_cf Tryd.func73 (by kernel_rfl) rfl
theorem cf79 : ∀ args w, (callFunc 79 args).run Tryd.prog w = .ok (.enter 79 args) w := run_cf Tryd.func79 (by kernel_rfl) rfl
theorem cf80 : ∀ args w, (callFunc 80 args).run Tryd.prog w = .ok (.enter 80 args) w := run_cf Tryd.func80 (by kernel_rfl) rfl
theorem cf81 : ∀ args w, (callFunc 81 args).run Tryd.prog w = .ok (.enter 81 args) w := run_cf Tryd.func81 (by kernel_rfl) rfl
theorem cf86 : ∀ args w, (callFunc 86 args).run Tryd.prog w = .ok (.enter 86 args) w := run_cf Tryd.func86 (by kernel_rfl) rfl
theorem cf87 : ∀ args w, (callFunc 87 args).run Tryd.prog w = .ok (.enter 87 args) w := run_cf Tryd.func87 (by kernel_rfl) rfl
theorem cf93 : ∀ args w, (callFunc 93 args).run Tryd.prog w = .ok (.enter 93 args) w := run_cf Tryd.func93 (by kernel_rfl) rfl
end Go.Proofs.YtfmbgaaonfgenaaDoor
