/- Closed facts on this seat's program: sizes, fields, zero values, calls. Written by a program of mine. -/
import Derived.Test.YtfmbgaaonfgenaaGreatDoorMore
import Derived.Test.YtfmbgaaonfgenaaGreatDoorRows
namespace Go.Proofs.YtfmbgaaonfgenaaGreatDoor
open Go.RowKit Go.Eng

theorem co3 : Tryz.prog.cellsOf 3 = 1 := by kernel_rfl
theorem z3 : ∀ w, (zeroValue 3).run Tryz.prog w = .ok (.int .i64 0) w := fun _ => by kernel_rfl
theorem sz4 : (Tryz.prog.info? 4).map (·.size) = some 1 := by kernel_rfl
theorem co4 : Tryz.prog.cellsOf 4 = 1 := by kernel_rfl
theorem z4 : ∀ w, (zeroValue 4).run Tryz.prog w = .ok (.bool false) w := fun _ => by kernel_rfl
theorem inf4 : (Tryz.prog.info? 4).map (fun i => (i.zero, i.size, i.bytes)) = some (some (.bool false), 1, 1) := by kernel_rfl
theorem sz5 : (Tryz.prog.info? 5).map (·.size) = some 1 := by kernel_rfl
theorem z5 : ∀ w, (zeroValue 5).run Tryz.prog w = .ok (.int .u8 0) w := fun _ => by kernel_rfl
theorem sz9 : (Tryz.prog.info? 9).map (·.size) = some 1 := by kernel_rfl
theorem co9 : Tryz.prog.cellsOf 9 = 1 := by kernel_rfl
theorem z9 : ∀ w, (zeroValue 9).run Tryz.prog w = .ok (.string ⟨#[]⟩) w := fun _ => by kernel_rfl
theorem inf9 : (Tryz.prog.info? 9).map (fun i => (i.zero, i.size, i.bytes)) = some (some (.string ⟨#[]⟩), 1, 16) := by kernel_rfl
theorem z20 : ∀ w, (zeroValue 20).run Tryz.prog w = .ok (.nilIface) w := fun _ => by kernel_rfl
theorem z21 : ∀ w, (zeroValue 21).run Tryz.prog w = .ok (.int .i32 0) w := fun _ => by kernel_rfl
theorem co22 : Tryz.prog.cellsOf 22 = 1 := by kernel_rfl
theorem sz24 : (Tryz.prog.info? 24).map (·.size) = some 6 := by kernel_rfl
theorem co24 : Tryz.prog.cellsOf 24 = 6 := by kernel_rfl
theorem bo24 : Tryz.prog.bytesOf 24 = 80 := by kernel_rfl
theorem z24 : ∀ w, (zeroValue 24).run Tryz.prog w = .ok (.agg #[.int .i64 0, .slice none 0 0, .int .i64 0, .int .i64 0, .string ⟨#[]⟩, .string ⟨#[]⟩]) w := fun _ => by kernel_rfl
theorem fa24_0 : ∀ a w, (Instr.fieldAt 24 (.pointer (some a)) 0).run Tryz.prog w = .ok (.pointer (some (a.add 0))) w := run_field (b := 1) Tryz.underlying24 rfl rfl (by kernel_rfl) (by decide)
theorem fa24_1 : ∀ a w, (Instr.fieldAt 24 (.pointer (some a)) 1).run Tryz.prog w = .ok (.pointer (some (a.add 1))) w := run_field (b := 1) Tryz.underlying24 rfl rfl (by kernel_rfl) (by decide)
theorem fa24_2 : ∀ a w, (Instr.fieldAt 24 (.pointer (some a)) 2).run Tryz.prog w = .ok (.pointer (some (a.add 2))) w := run_field (b := 1) Tryz.underlying24 rfl rfl (by kernel_rfl) (by decide)
theorem fa24_3 : ∀ a w, (Instr.fieldAt 24 (.pointer (some a)) 3).run Tryz.prog w = .ok (.pointer (some (a.add 3))) w := run_field (b := 1) Tryz.underlying24 rfl rfl (by kernel_rfl) (by decide)
theorem fa24_4 : ∀ a w, (Instr.fieldAt 24 (.pointer (some a)) 4).run Tryz.prog w = .ok (.pointer (some (a.add 4))) w := run_field (b := 1) Tryz.underlying24 rfl rfl (by kernel_rfl) (by decide)
theorem fa24_5 : ∀ a w, (Instr.fieldAt 24 (.pointer (some a)) 5).run Tryz.prog w = .ok (.pointer (some (a.add 5))) w := run_field (b := 1) Tryz.underlying24 rfl rfl (by kernel_rfl) (by decide)
theorem co25 : Tryz.prog.cellsOf 25 = 1 := by kernel_rfl
theorem co26 : Tryz.prog.cellsOf 26 = 1 := by kernel_rfl
theorem co27 : Tryz.prog.cellsOf 27 = 1 := by kernel_rfl
theorem sz29 : (Tryz.prog.info? 29).map (·.size) = some 9 := by kernel_rfl
theorem co29 : Tryz.prog.cellsOf 29 = 9 := by kernel_rfl
theorem fa29_0 : ∀ a w, (Instr.fieldAt 29 (.pointer (some a)) 0).run Tryz.prog w = .ok (.pointer (some (a.add 0))) w := run_field (b := 1) Tryz.underlying29 rfl rfl (by kernel_rfl) (by decide)
theorem fa29_1 : ∀ a w, (Instr.fieldAt 29 (.pointer (some a)) 1).run Tryz.prog w = .ok (.pointer (some (a.add 1))) w := run_field (b := 1) Tryz.underlying29 rfl rfl (by kernel_rfl) (by decide)
theorem fa29_2 : ∀ a w, (Instr.fieldAt 29 (.pointer (some a)) 2).run Tryz.prog w = .ok (.pointer (some (a.add 2))) w := run_field (b := 1) Tryz.underlying29 rfl rfl (by kernel_rfl) (by decide)
theorem fa29_3 : ∀ a w, (Instr.fieldAt 29 (.pointer (some a)) 3).run Tryz.prog w = .ok (.pointer (some (a.add 3))) w := run_field (b := 1) Tryz.underlying29 rfl rfl (by kernel_rfl) (by decide)
theorem fa29_4 : ∀ a w, (Instr.fieldAt 29 (.pointer (some a)) 4).run Tryz.prog w = .ok (.pointer (some (a.add 4))) w := run_field (b := 1) Tryz.underlying29 rfl rfl (by kernel_rfl) (by decide)
theorem fa29_5 : ∀ a w, (Instr.fieldAt 29 (.pointer (some a)) 5).run Tryz.prog w = .ok (.pointer (some (a.add 5))) w := run_field (b := 1) Tryz.underlying29 rfl rfl (by kernel_rfl) (by decide)
theorem fa29_6 : ∀ a w, (Instr.fieldAt 29 (.pointer (some a)) 6).run Tryz.prog w = .ok (.pointer (some (a.add 6))) w := run_field (b := 1) Tryz.underlying29 rfl rfl (by kernel_rfl) (by decide)
theorem fa29_7 : ∀ a w, (Instr.fieldAt 29 (.pointer (some a)) 7).run Tryz.prog w = .ok (.pointer (some (a.add 7))) w := run_field (b := 1) Tryz.underlying29 rfl rfl (by kernel_rfl) (by decide)
theorem fa29_8 : ∀ a w, (Instr.fieldAt 29 (.pointer (some a)) 8).run Tryz.prog w = .ok (.pointer (some (a.add 8))) w := run_field (b := 1) Tryz.underlying29 rfl rfl (by kernel_rfl) (by decide)
theorem sz30 : (Tryz.prog.info? 30).map (·.size) = some 1 := by kernel_rfl
theorem inf30 : (Tryz.prog.info? 30).map (fun i => (i.zero, i.size, i.bytes)) = some (some (.int .i64 0), 1, 8) := by kernel_rfl
theorem co48 : Tryz.prog.cellsOf 48 = 1 := by kernel_rfl
theorem sz50 : (Tryz.prog.info? 50).map (·.size) = some 3 := by kernel_rfl
theorem co50 : Tryz.prog.cellsOf 50 = 3 := by kernel_rfl
theorem bo50 : Tryz.prog.bytesOf 50 = 56 := by kernel_rfl
theorem z50 : ∀ w, (zeroValue 50).run Tryz.prog w = .ok (.agg #[.string ⟨#[]⟩, .string ⟨#[]⟩, .slice none 0 0]) w := fun _ => by kernel_rfl
theorem fa50_0 : ∀ a w, (Instr.fieldAt 50 (.pointer (some a)) 0).run Tryz.prog w = .ok (.pointer (some (a.add 0))) w := run_field (b := 1) Tryz.underlying50 rfl rfl (by kernel_rfl) (by decide)
theorem fa50_1 : ∀ a w, (Instr.fieldAt 50 (.pointer (some a)) 1).run Tryz.prog w = .ok (.pointer (some (a.add 1))) w := run_field (b := 1) Tryz.underlying50 rfl rfl (by kernel_rfl) (by decide)
theorem fa50_2 : ∀ a w, (Instr.fieldAt 50 (.pointer (some a)) 2).run Tryz.prog w = .ok (.pointer (some (a.add 2))) w := run_field (b := 1) Tryz.underlying50 rfl rfl (by kernel_rfl) (by decide)
theorem z53 : ∀ w, (zeroValue 53).run Tryz.prog w = .ok (.pointer none) w := fun _ => by kernel_rfl
theorem sz57 : (Tryz.prog.info? 57).map (·.size) = some 1 := by kernel_rfl
theorem inf57 : (Tryz.prog.info? 57).map (fun i => (i.zero, i.size, i.bytes)) = some (some (.nilFunc), 1, 8) := by kernel_rfl
theorem sz104 : (Tryz.prog.info? 104).map (·.size) = some 2 := by kernel_rfl
theorem co104 : Tryz.prog.cellsOf 104 = 2 := by kernel_rfl
theorem bo104 : Tryz.prog.bytesOf 104 = 32 := by kernel_rfl
theorem z104 : ∀ w, (zeroValue 104).run Tryz.prog w = .ok (.agg #[.string ⟨#[]⟩, .string ⟨#[]⟩]) w := fun _ => by kernel_rfl
theorem fa104_0 : ∀ a w, (Instr.fieldAt 104 (.pointer (some a)) 0).run Tryz.prog w = .ok (.pointer (some (a.add 0))) w := run_field (b := 1) Tryz.underlying104 rfl rfl (by kernel_rfl) (by decide)
theorem fa104_1 : ∀ a w, (Instr.fieldAt 104 (.pointer (some a)) 1).run Tryz.prog w = .ok (.pointer (some (a.add 1))) w := run_field (b := 1) Tryz.underlying104 rfl rfl (by kernel_rfl) (by decide)
theorem sz107 : (Tryz.prog.info? 107).map (·.size) = some 3 := by kernel_rfl
theorem co107 : Tryz.prog.cellsOf 107 = 3 := by kernel_rfl
theorem bo107 : Tryz.prog.bytesOf 107 = 40 := by kernel_rfl
theorem z107 : ∀ w, (zeroValue 107).run Tryz.prog w = .ok (.agg #[.int .i64 0, .string ⟨#[]⟩, .string ⟨#[]⟩]) w := fun _ => by kernel_rfl
theorem fa107_0 : ∀ a w, (Instr.fieldAt 107 (.pointer (some a)) 0).run Tryz.prog w = .ok (.pointer (some (a.add 0))) w := run_field (b := 1) Tryz.underlying107 rfl rfl (by kernel_rfl) (by decide)
theorem fa107_1 : ∀ a w, (Instr.fieldAt 107 (.pointer (some a)) 1).run Tryz.prog w = .ok (.pointer (some (a.add 1))) w := run_field (b := 1) Tryz.underlying107 rfl rfl (by kernel_rfl) (by decide)
theorem fa107_2 : ∀ a w, (Instr.fieldAt 107 (.pointer (some a)) 2).run Tryz.prog w = .ok (.pointer (some (a.add 2))) w := run_field (b := 1) Tryz.underlying107 rfl rfl (by kernel_rfl) (by decide)
theorem sz112 : (Tryz.prog.info? 112).map (·.size) = some 1 := by kernel_rfl
theorem sz116 : (Tryz.prog.info? 116).map (·.size) = some 6 := by kernel_rfl
theorem co116 : Tryz.prog.cellsOf 116 = 6 := by kernel_rfl
theorem bo116 : Tryz.prog.bytesOf 116 = 72 := by kernel_rfl
theorem z116 : ∀ w, (zeroValue 116).run Tryz.prog w = .ok (.agg #[.string ⟨#[]⟩, .string ⟨#[]⟩, .string ⟨#[]⟩, .int .i64 0, .int .i64 0, .bool false]) w := fun _ => by kernel_rfl
theorem inf116 : (Tryz.prog.info? 116).map (fun i => (i.zero, i.size, i.bytes)) = some (some (.agg #[.string ⟨#[]⟩, .string ⟨#[]⟩, .string ⟨#[]⟩, .int .i64 0, .int .i64 0, .bool false]), 6, 72) := by kernel_rfl
theorem fa116_0 : ∀ a w, (Instr.fieldAt 116 (.pointer (some a)) 0).run Tryz.prog w = .ok (.pointer (some (a.add 0))) w := run_field (b := 1) Tryz.underlying116 rfl rfl (by kernel_rfl) (by decide)
theorem fa116_1 : ∀ a w, (Instr.fieldAt 116 (.pointer (some a)) 1).run Tryz.prog w = .ok (.pointer (some (a.add 1))) w := run_field (b := 1) Tryz.underlying116 rfl rfl (by kernel_rfl) (by decide)
theorem fa116_2 : ∀ a w, (Instr.fieldAt 116 (.pointer (some a)) 2).run Tryz.prog w = .ok (.pointer (some (a.add 2))) w := run_field (b := 1) Tryz.underlying116 rfl rfl (by kernel_rfl) (by decide)
theorem fa116_3 : ∀ a w, (Instr.fieldAt 116 (.pointer (some a)) 3).run Tryz.prog w = .ok (.pointer (some (a.add 3))) w := run_field (b := 1) Tryz.underlying116 rfl rfl (by kernel_rfl) (by decide)
theorem fa116_4 : ∀ a w, (Instr.fieldAt 116 (.pointer (some a)) 4).run Tryz.prog w = .ok (.pointer (some (a.add 4))) w := run_field (b := 1) Tryz.underlying116 rfl rfl (by kernel_rfl) (by decide)
theorem z138 : ∀ w, (zeroValue 138).run Tryz.prog w = .ok (.map none) w := fun _ => by kernel_rfl
theorem z139 : ∀ w, (zeroValue 139).run Tryz.prog w = .ok (.agg #[.map none]) w := fun _ => by kernel_rfl
theorem sz170 : (Tryz.prog.info? 170).map (·.size) = some 1 := by kernel_rfl
theorem sz174 : (Tryz.prog.info? 174).map (·.size) = some 1 := by kernel_rfl
theorem z174 : ∀ w, (zeroValue 174).run Tryz.prog w = .ok (.slice none 0 0) w := fun _ => by kernel_rfl
theorem cf6 : ∀ args w, (callFunc 6 args).run Tryz.prog w = .ok (.enter 6 args) w := run_cf Tryz.func6 (by kernel_rfl) rfl
theorem cf7 : ∀ args w, (callFunc 7 args).run Tryz.prog w = .ok (.enter 7 args) w := run_cf Tryz.func7 (by kernel_rfl) rfl
theorem cf8 : ∀ args w, (callFunc 8 args).run Tryz.prog w = .ok (.enter 8 args) w := run_cf Tryz.func8 (by kernel_rfl) rfl
theorem cf9 : ∀ args w, (callFunc 9 args).run Tryz.prog w = .ok (.enter 9 args) w := run_cf Tryz.func9 (by kernel_rfl) rfl
theorem cf10 : ∀ args w, (callFunc 10 args).run Tryz.prog w = .ok (.enter 10 args) w := run_cf Tryz.func10 (by kernel_rfl) rfl
theorem cf11 : ∀ args w, (callFunc 11 args).run Tryz.prog w = .ok (.enter 11 args) w := run_cf Tryz.func11 (by kernel_rfl) rfl
theorem cf12 : ∀ args w, (callFunc 12 args).run Tryz.prog w = .ok (.enter 12 args) w := run_cf Tryz.func12 (by kernel_rfl) rfl
theorem cf13 : ∀ args w, (callFunc 13 args).run Tryz.prog w = .ok (.enter 13 args) w := run_cf Tryz.func13 (by kernel_rfl) rfl
theorem cf43 : ∀ args w, (callFunc 43 args).run Tryz.prog w = .ok (.enter 43 args) w := run_cf Tryz.func43 (by kernel_rfl) rfl
theorem cf44 : ∀ args w, (callFunc 44 args).run Tryz.prog w = .ok (.enter 44 args) w := run_cf Tryz.func44 (by kernel_rfl) rfl
theorem cf45 : ∀ args w, (callFunc 45 args).run Tryz.prog w = .ok (.enter 45 args) w := run_cf Tryz.func45 (by kernel_rfl) rfl
theorem cf46 : ∀ args w, (callFunc 46 args).run Tryz.prog w = .ok (.enter 46 args) w := run_cf Tryz.func46 (by kernel_rfl) rfl
theorem cf47 : ∀ args w, (callFunc 47 args).run Tryz.prog w = .ok (.enter 47 args) w := run_cf Tryz.func47 (by kernel_rfl) rfl
theorem cf48 : ∀ args w, (callFunc 48 args).run Tryz.prog w = .ok (.enter 48 args) w := run_cf Tryz.func48 (by kernel_rfl) rfl
theorem cf49 : ∀ args w, (callFunc 49 args).run Tryz.prog w = .ok (.enter 49 args) w := run_cf Tryz.func49 (by kernel_rfl) rfl
theorem cf50 : ∀ args w, (callFunc 50 args).run Tryz.prog w = .ok (.enter 50 args) w := run_cf Tryz.func50 (by kernel_rfl) rfl
theorem cf51 : ∀ args w, (callFunc 51 args).run Tryz.prog w = .ok (.enter 51 args) w := run_cf Tryz.func51 (by kernel_rfl) rfl
theorem cf52 : ∀ args w, (callFunc 52 args).run Tryz.prog w = .ok (.enter 52 args) w := run_cf Tryz.func52 (by kernel_rfl) rfl
theorem cf53 : ∀ args w, (callFunc 53 args).run Tryz.prog w = .ok (.enter 53 args) w := run_cf Tryz.func53 (by kernel_rfl) rfl
theorem cf54 : ∀ args w, (callFunc 54 args).run Tryz.prog w = .ok (.enter 54 args) w := run_cf Tryz.func54 (by kernel_rfl) rfl
theorem cf55 : ∀ args w, (callFunc 55 args).run Tryz.prog w = .ok (.enter 55 args) w := run_cf Tryz.func55 (by kernel_rfl) rfl
theorem cf56 : ∀ args w, (callFunc 56 args).run Tryz.prog w = .ok (.enter 56 args) w := run_cf Tryz.func56 (by kernel_rfl) rfl
theorem cf57 : ∀ args w, (callFunc 57 args).run Tryz.prog w = .ok (.enter 57 args) w := run_cf Tryz.func57 (by kernel_rfl) rfl
theorem cf58 : ∀ args w, (callFunc 58 args).run Tryz.prog w = .ok (.enter 58 args) w := run_cf Tryz.func58 (by kernel_rfl) rfl
theorem cf59 : ∀ args w, (callFunc 59 args).run Tryz.prog w = .ok (.enter 59 args) w := run_cf Tryz.func59 (by kernel_rfl) rfl
theorem cf60 : ∀ args w, (callFunc 60 args).run Tryz.prog w = .ok (.enter 60 args) w := run_cf Tryz.func60 (by kernel_rfl) rfl
theorem cf61 : ∀ args w, (callFunc 61 args).run Tryz.prog w = .ok (.enter 61 args) w := run_cf Tryz.func61 (by kernel_rfl) rfl
theorem cf62 : ∀ args w, (callFunc 62 args).run Tryz.prog w = .ok (.enter 62 args) w := run_cf Tryz.func62 (by kernel_rfl) rfl
theorem cf63 : ∀ args w, (callFunc 63 args).run Tryz.prog w = .ok (.enter 63 args) w := run_cf Tryz.func63 (by kernel_rfl) rfl
theorem cf64 : ∀ args w, (callFunc 64 args).run Tryz.prog w = .ok (.enter 64 args) w := run_cf Tryz.func64 (by kernel_rfl) rfl
theorem cf65 : ∀ args w, (callFunc 65 args).run Tryz.prog w = .ok (.enter 65 args) w := run_cf Tryz.func65 (by kernel_rfl) rfl
theorem cf66 : ∀ args w, (callFunc 66 args).run Tryz.prog w = .ok (.enter 66 args) w := run_cf Tryz.func66 (by kernel_rfl) rfl
theorem cf67 : ∀ args w, (callFunc 67 args).run Tryz.prog w = .ok (.enter 67 args) w := run_cf Tryz.func67 (by kernel_rfl) rfl
theorem cf68 : ∀ args w, (callFunc 68 args).run Tryz.prog w = .ok (.enter 68 args) w := run_cf Tryz.func68 (by kernel_rfl) rfl
theorem cf69 : ∀ args w, (callFunc 69 args).run Tryz.prog w = .ok (.enter 69 args) w := run_cf Tryz.func69 (by kernel_rfl) rfl
theorem cf70 : ∀ args w, (callFunc 70 args).run Tryz.prog w = .ok (.enter 70 args) w := run_cf Tryz.func70 (by kernel_rfl) rfl
theorem cf71 : ∀ args w, (callFunc 71 args).run Tryz.prog w = .ok (.enter 71 args) w := run_cf Tryz.func71 (by kernel_rfl) rfl
theorem cf72 : ∀ args w, (callFunc 72 args).run Tryz.prog w = .ok (.enter 72 args) w := run_cf Tryz.func72 (by kernel_rfl) rfl
theorem cf73 : ∀ args w, (callFunc 73 args).run Tryz.prog w = .ok (.enter 73 args) w := run_cf Tryz.func73 (by kernel_rfl) rfl
theorem cf79 : ∀ args w, (callFunc 79 args).run Tryz.prog w = .ok (.enter 79 args) w := run_cf Tryz.func79 (by kernel_rfl) rfl
theorem cf80 : ∀ args w, (callFunc 80 args).run Tryz.prog w = .ok (.enter 80 args) w := run_cf Tryz.func80 (by kernel_rfl) rfl
theorem cf81 : ∀ args w, (callFunc 81 args).run Tryz.prog w = .ok (.enter 81 args) w := run_cf Tryz.func81 (by kernel_rfl) rfl
theorem cf86 : ∀ args w, (callFunc 86 args).run Tryz.prog w = .ok (.enter 86 args) w := run_cf Tryz.func86 (by kernel_rfl) rfl
theorem cf87 : ∀ args w, (callFunc 87 args).run Tryz.prog w = .ok (.enter 87 args) w := run_cf Tryz.func87 (by kernel_rfl) rfl
theorem cf88 : ∀ args w, (callFunc 88 args).run Tryz.prog w = .ok (.enter 88 args) w := run_cf Tryz.func88 (by kernel_rfl) rfl
theorem cf100 : ∀ args w, (callFunc 100 args).run Tryz.prog w = .ok (.enter 100 args) w := run_cf Tryz.func100 (by kernel_rfl) rfl
theorem cf110 : ∀ args w, (callFunc 110 args).run Tryz.prog w = .ok (.enter 110 args) w := run_cf Tryz.func110 (by kernel_rfl) rfl
theorem cf111 : ∀ args w, (callFunc 111 args).run Tryz.prog w = .ok (.enter 111 args) w := run_cf Tryz.func111 (by kernel_rfl) rfl
theorem cf112 : ∀ args w, (callFunc 112 args).run Tryz.prog w = .ok (.enter 112 args) w := run_cf Tryz.func112 (by kernel_rfl) rfl
theorem cf113 : ∀ args w, (callFunc 113 args).run Tryz.prog w = .ok (.enter 113 args) w := run_cf Tryz.func113 (by kernel_rfl) rfl
theorem cf114 : ∀ args w, (callFunc 114 args).run Tryz.prog w = .ok (.enter 114 args) w := run_cf Tryz.func114 (by kernel_rfl) rfl
theorem cf115 : ∀ args w, (callFunc 115 args).run Tryz.prog w = .ok (.enter 115 args) w := run_cf Tryz.func115 (by kernel_rfl) rfl
theorem cf116 : ∀ args w, (callFunc 116 args).run Tryz.prog w = .ok (.enter 116 args) w := run_cf Tryz.func116 (by kernel_rfl) rfl
theorem cf117 : ∀ args w, (callFunc 117 args).run Tryz.prog w = .ok (.enter 117 args) w := run_cf Tryz.func117 (by kernel_rfl) rfl
theorem cf118 : ∀ args w, (callFunc 118 args).run Tryz.prog w = .ok (.enter 118 args) w := run_cf Tryz.func118 (by kernel_rfl) rfl
theorem cf119 : ∀ args w, (callFunc 119 args).run Tryz.prog w = .ok (.enter 119 args) w := run_cf Tryz.func119 (by kernel_rfl) rfl
theorem cf120 : ∀ args w, (callFunc 120 args).run Tryz.prog w = .ok (.enter 120 args) w := run_cf Tryz.func120 (by kernel_rfl) rfl
theorem cf121 : ∀ args w, (callFunc 121 args).run Tryz.prog w = .ok (.enter 121 args) w := run_cf Tryz.func121 (by kernel_rfl) rfl
theorem cf122 : ∀ args w, (callFunc 122 args).run Tryz.prog w = .ok (.enter 122 args) w := run_cf Tryz.func122 (by kernel_rfl) rfl
theorem cf123 : ∀ args w, (callFunc 123 args).run Tryz.prog w = .ok (.enter 123 args) w := run_cf Tryz.func123 (by kernel_rfl) rfl
theorem cf124 : ∀ args w, (callFunc 124 args).run Tryz.prog w = .ok (.enter 124 args) w := run_cf Tryz.func124 (by kernel_rfl) rfl
theorem cf125 : ∀ args w, (callFunc 125 args).run Tryz.prog w = .ok (.enter 125 args) w := run_cf Tryz.func125 (by kernel_rfl) rfl
theorem cf126 : ∀ args w, (callFunc 126 args).run Tryz.prog w = .ok (.enter 126 args) w := run_cf Tryz.func126 (by kernel_rfl) rfl
theorem cf127 : ∀ args w, (callFunc 127 args).run Tryz.prog w = .ok (.enter 127 args) w := run_cf Tryz.func127 (by kernel_rfl) rfl
theorem cf128 : ∀ args w, (callFunc 128 args).run Tryz.prog w = .ok (.enter 128 args) w := run_cf Tryz.func128 (by kernel_rfl) rfl
theorem cf129 : ∀ args w, (callFunc 129 args).run Tryz.prog w = .ok (.enter 129 args) w := run_cf Tryz.func129 (by kernel_rfl) rfl
theorem cf130 : ∀ args w, (callFunc 130 args).run Tryz.prog w = .ok (.enter 130 args) w := run_cf Tryz.func130 (by kernel_rfl) rfl
theorem cf131 : ∀ args w, (callFunc 131 args).run Tryz.prog w = .ok (.enter 131 args) w := run_cf Tryz.func131 (by kernel_rfl) rfl
theorem cf132 : ∀ args w, (callFunc 132 args).run Tryz.prog w = .ok (.enter 132 args) w := run_cf Tryz.func132 (by kernel_rfl) rfl
theorem cf133 : ∀ args w, (callFunc 133 args).run Tryz.prog w = .ok (.enter 133 args) w := run_cf Tryz.func133 (by kernel_rfl) rfl
theorem cf134 : ∀ args w, (callFunc 134 args).run Tryz.prog w = .ok (.enter 134 args) w := run_cf Tryz.func134 (by kernel_rfl) rfl
theorem cf135 : ∀ args w, (callFunc 135 args).run Tryz.prog w = .ok (.enter 135 args) w := run_cf Tryz.func135 (by kernel_rfl) rfl
theorem cf136 : ∀ args w, (callFunc 136 args).run Tryz.prog w = .ok (.enter 136 args) w := run_cf Tryz.func136 (by kernel_rfl) rfl
theorem cf137 : ∀ args w, (callFunc 137 args).run Tryz.prog w = .ok (.enter 137 args) w := run_cf Tryz.func137 (by kernel_rfl) rfl
theorem cf138 : ∀ args w, (callFunc 138 args).run Tryz.prog w = .ok (.enter 138 args) w := run_cf Tryz.func138 (by kernel_rfl) rfl
theorem cf139 : ∀ args w, (callFunc 139 args).run Tryz.prog w = .ok (.enter 139 args) w := run_cf Tryz.func139 (by kernel_rfl) rfl
theorem cf140 : ∀ args w, (callFunc 140 args).run Tryz.prog w = .ok (.enter 140 args) w := run_cf Tryz.func140 (by kernel_rfl) rfl
theorem cf141 : ∀ args w, (callFunc 141 args).run Tryz.prog w = .ok (.enter 141 args) w := run_cf Tryz.func141 (by kernel_rfl) rfl
theorem cf142 : ∀ args w, (callFunc 142 args).run Tryz.prog w = .ok (.enter 142 args) w := run_cf Tryz.func142 (by kernel_rfl) rfl
theorem cf143 : ∀ args w, (callFunc 143 args).run Tryz.prog w = .ok (.enter 143 args) w := run_cf Tryz.func143 (by kernel_rfl) rfl
theorem cf144 : ∀ args w, (callFunc 144 args).run Tryz.prog w = .ok (.enter 144 args) w := run_cf Tryz.func144 (by kernel_rfl) rfl
theorem cf145 : ∀ args w, (callFunc 145 args).run Tryz.prog w = .ok (.enter 145 args) w := run_cf Tryz.func145 (by kernel_rfl) rfl
theorem cf146 : ∀ args w, (callFunc 146 args).run Tryz.prog w = .ok (.enter 146 args) w := run_cf Tryz.func146 (by kernel_rfl) rfl
theorem cf147 : ∀ args w, (callFunc 147 args).run Tryz.prog w = .ok (.enter 147 args) w := run_cf Tryz.func147 (by kernel_rfl) rfl
theorem cf148 : ∀ args w, (callFunc 148 args).run Tryz.prog w = .ok (.enter 148 args) w := run_cf Tryz.func148 (by kernel_rfl) rfl
theorem cf149 : ∀ args w, (callFunc 149 args).run Tryz.prog w = .ok (.enter 149 args) w := run_cf Tryz.func149 (by kernel_rfl) rfl
theorem cf175 : ∀ args w, (callFunc 175 args).run Tryz.prog w = .ok (.enter 175 args) w := run_cf Tryz.func175 (by kernel_rfl) rfl
theorem cf176 : ∀ args w, (callFunc 176 args).run Tryz.prog w = .ok (.enter 176 args) w := run_cf Tryz.func176 (by kernel_rfl) rfl
theorem cf188 : ∀ args w, (callFunc 188 args).run Tryz.prog w = .ok (.enter 188 args) w := run_cf Tryz.func188 (by kernel_rfl) rfl
theorem cf189 : ∀ args w, (callFunc 189 args).run Tryz.prog w = .ok (.enter 189 args) w := run_cf Tryz.func189 (by kernel_rfl) rfl
theorem cf190 : ∀ args w, (callFunc 190 args).run Tryz.prog w = .ok (.enter 190 args) w := run_cf Tryz.func190 (by kernel_rfl) rfl
theorem cf191 : ∀ args w, (callFunc 191 args).run Tryz.prog w = .ok (.enter 191 args) w := run_cf Tryz.func191 (by kernel_rfl) rfl
theorem cf192 : ∀ args w, (callFunc 192 args).run Tryz.prog w = .ok (.enter 192 args) w := run_cf Tryz.func192 (by kernel_rfl) rfl
theorem cf193 : ∀ args w, (callFunc 193 args).run Tryz.prog w = .ok (.enter 193 args) w := run_cf Tryz.func193 (by kernel_rfl) rfl
theorem cf194 : ∀ args w, (callFunc 194 args).run Tryz.prog w = .ok (.enter 194 args) w := run_cf Tryz.func194 (by kernel_rfl) rfl
theorem cf195 : ∀ args w, (callFunc 195 args).run Tryz.prog w = .ok (.enter 195 args) w := run_cf Tryz.func195 (by kernel_rfl) rfl
theorem cf196 : ∀ args w, (callFunc 196 args).run Tryz.prog w = .ok (.enter 196 args) w := run_cf Tryz.func196 (by kernel_rfl) rfl
theorem cf197 : ∀ args w, (callFunc 197 args).run Tryz.prog w = .ok (.enter 197 args) w := run_cf Tryz.func197 (by kernel_rfl) rfl
theorem cf198 : ∀ args w, (callFunc 198 args).run Tryz.prog w = .ok (.enter 198 args) w := run_cf Tryz.func198 (by kernel_rfl) rfl
theorem cf236 : ∀ args w, (callFunc 236 args).run Tryz.prog w = .ok (.enter 236 args) w := run_cf Tryz.func236 (by kernel_rfl) rfl
theorem cf237 : ∀ args w, (callFunc 237 args).run Tryz.prog w = .ok (.enter 237 args) w := run_cf Tryz.func237 (by kernel_rfl) rfl
theorem cf238 : ∀ args w, (callFunc 238 args).run Tryz.prog w = .ok (.enter 238 args) w := run_cf Tryz.func238 (by kernel_rfl) rfl
theorem cf265 : ∀ args w, (callFunc 265 args).run Tryz.prog w = .ok (.enter 265 args) w := run_cf Tryz.func265 (by kernel_rfl) rfl
theorem cf278 : ∀ args w, (callFunc 278 args).run Tryz.prog w = .ok (.enter 278 args) w := run_cf Tryz.func278 (by kernel_rfl) rfl
end Go.Proofs.YtfmbgaaonfgenaaGreatDoor
