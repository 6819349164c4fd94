/- Closed facts on this seat's program: sizes, fields, zero values, calls. Written by a program of mine. -/
import Derived.Test.YtkkngcdikbhkjaaGreatDoorMore
import Derived.Test.YtkkngcdikbhkjaaGreatDoorRows
namespace Go.Proofs.YtkkngcdikbhkjaaGreatDoor
open Go.RowKit Go.Eng

theorem z2 : ∀ w, (zeroValue 2).run Tryz.prog w = .ok (.int .i64 0) w := fun _ => by kernel_rfl
theorem sz3 : (Tryz.prog.info? 3).map (·.size) = some 1 := by kernel_rfl
theorem co3 : Tryz.prog.cellsOf 3 = 1 := by kernel_rfl
theorem z3 : ∀ w, (zeroValue 3).run Tryz.prog w = .ok (.int .i64 0) w := fun _ => by kernel_rfl
theorem inf3 : (Tryz.prog.info? 3).map (fun i => (i.zero, i.size, i.bytes)) = some (some (.int .i64 0), 1, 8) := by kernel_rfl
theorem sz4 : (Tryz.prog.info? 4).map (·.size) = some 1 := by kernel_rfl
theorem z4 : ∀ w, (zeroValue 4).run Tryz.prog w = .ok (.bool false) w := fun _ => by kernel_rfl
theorem sz5 : (Tryz.prog.info? 5).map (·.size) = some 1 := by kernel_rfl
theorem co5 : Tryz.prog.cellsOf 5 = 1 := by kernel_rfl
theorem z5 : ∀ w, (zeroValue 5).run Tryz.prog w = .ok (.int .u8 0) w := fun _ => by kernel_rfl
theorem inf5 : (Tryz.prog.info? 5).map (fun i => (i.zero, i.size, i.bytes)) = some (some (.int .u8 0), 1, 1) := by kernel_rfl
theorem sz9 : (Tryz.prog.info? 9).map (·.size) = some 1 := by kernel_rfl
theorem co9 : Tryz.prog.cellsOf 9 = 1 := by kernel_rfl
theorem bo9 : Tryz.prog.bytesOf 9 = 16 := by kernel_rfl
theorem z9 : ∀ w, (zeroValue 9).run Tryz.prog w = .ok (.string ⟨#[]⟩) w := fun _ => by kernel_rfl
theorem inf9 : (Tryz.prog.info? 9).map (fun i => (i.zero, i.size, i.bytes)) = some (some (.string ⟨#[]⟩), 1, 16) := by kernel_rfl
theorem z20 : ∀ w, (zeroValue 20).run Tryz.prog w = .ok (.nilIface) w := fun _ => by kernel_rfl
theorem z21 : ∀ w, (zeroValue 21).run Tryz.prog w = .ok (.int .i32 0) w := fun _ => by kernel_rfl
theorem z22 : ∀ w, (zeroValue 22).run Tryz.prog w = .ok (.slice none 0 0) w := fun _ => by kernel_rfl
theorem z51 : ∀ w, (zeroValue 51).run Tryz.prog w = .ok (.agg #[.int .i64 0, .string ⟨#[]⟩, .int .i64 0, .int .i64 0, .string ⟨#[]⟩, .int .i64 0]) w := fun _ => by kernel_rfl
theorem sz57 : (Tryz.prog.info? 57).map (·.size) = some 1 := by kernel_rfl
theorem co57 : Tryz.prog.cellsOf 57 = 1 := by kernel_rfl
theorem sz58 : (Tryz.prog.info? 58).map (·.size) = some 1 := by kernel_rfl
theorem co58 : Tryz.prog.cellsOf 58 = 1 := by kernel_rfl
theorem sz59 : (Tryz.prog.info? 59).map (·.size) = some 1 := by kernel_rfl
theorem co59 : Tryz.prog.cellsOf 59 = 1 := by kernel_rfl
theorem z59 : ∀ w, (zeroValue 59).run Tryz.prog w = .ok (.slice none 0 0) w := fun _ => by kernel_rfl
theorem sz60 : (Tryz.prog.info? 60).map (·.size) = some 1 := by kernel_rfl
theorem co60 : Tryz.prog.cellsOf 60 = 1 := by kernel_rfl
theorem sz62 : (Tryz.prog.info? 62).map (·.size) = some 6 := by kernel_rfl
theorem co62 : Tryz.prog.cellsOf 62 = 6 := by kernel_rfl
theorem z62 : ∀ w, (zeroValue 62).run Tryz.prog w = .ok (.agg #[.string ⟨#[]⟩, .int .i64 0, .slice none 0 0, .slice none 0 0, .slice none 0 0, .slice none 0 0]) w := fun _ => by kernel_rfl
theorem fa62_0 : ∀ a w, (Instr.fieldAt 62 (.pointer (some a)) 0).run Tryz.prog w = .ok (.pointer (some (a.add 0))) w := run_field (b := 1) Tryz.underlying62 rfl rfl (by kernel_rfl) (by decide)
theorem fa62_1 : ∀ a w, (Instr.fieldAt 62 (.pointer (some a)) 1).run Tryz.prog w = .ok (.pointer (some (a.add 1))) w := run_field (b := 1) Tryz.underlying62 rfl rfl (by kernel_rfl) (by decide)
theorem fa62_2 : ∀ a w, (Instr.fieldAt 62 (.pointer (some a)) 2).run Tryz.prog w = .ok (.pointer (some (a.add 2))) w := run_field (b := 1) Tryz.underlying62 rfl rfl (by kernel_rfl) (by decide)
theorem fa62_3 : ∀ a w, (Instr.fieldAt 62 (.pointer (some a)) 3).run Tryz.prog w = .ok (.pointer (some (a.add 3))) w := run_field (b := 1) Tryz.underlying62 rfl rfl (by kernel_rfl) (by decide)
theorem fa62_4 : ∀ a w, (Instr.fieldAt 62 (.pointer (some a)) 4).run Tryz.prog w = .ok (.pointer (some (a.add 4))) w := run_field (b := 1) Tryz.underlying62 rfl rfl (by kernel_rfl) (by decide)
theorem fa62_5 : ∀ a w, (Instr.fieldAt 62 (.pointer (some a)) 5).run Tryz.prog w = .ok (.pointer (some (a.add 5))) w := run_field (b := 1) Tryz.underlying62 rfl rfl (by kernel_rfl) (by decide)
theorem sz63 : (Tryz.prog.info? 63).map (·.size) = some 1 := by kernel_rfl
theorem inf63 : (Tryz.prog.info? 63).map (fun i => (i.zero, i.size, i.bytes)) = some (some (.nilFunc), 1, 8) := by kernel_rfl
theorem z75 : ∀ w, (zeroValue 75).run Tryz.prog w = .ok (.slice none 0 0) w := fun _ => by kernel_rfl
theorem z76 : ∀ w, (zeroValue 76).run Tryz.prog w = .ok (.pointer none) w := fun _ => by kernel_rfl
theorem sz117 : (Tryz.prog.info? 117).map (·.size) = some 1 := by kernel_rfl
theorem z119 : ∀ w, (zeroValue 119).run Tryz.prog w = .ok (.slice none 0 0) w := fun _ => by kernel_rfl
theorem z134 : ∀ w, (zeroValue 134).run Tryz.prog w = .ok (.agg #[.string ⟨#[]⟩, .string ⟨#[]⟩, .int .i64 0]) w := fun _ => by kernel_rfl
theorem inf134 : (Tryz.prog.info? 134).map (fun i => (i.zero, i.size, i.bytes)) = some (some (.agg #[.string ⟨#[]⟩, .string ⟨#[]⟩, .int .i64 0]), 3, 40) := by kernel_rfl
theorem sz137 : (Tryz.prog.info? 137).map (·.size) = some 2 := by kernel_rfl
theorem z137 : ∀ w, (zeroValue 137).run Tryz.prog w = .ok (.agg #[.int .i64 0, .int .i64 0]) w := fun _ => by kernel_rfl
theorem inf137 : (Tryz.prog.info? 137).map (fun i => (i.zero, i.size, i.bytes)) = some (some (.agg #[.int .i64 0, .int .i64 0]), 2, 16) := by kernel_rfl
theorem fa137_1 : ∀ a w, (Instr.fieldAt 137 (.pointer (some a)) 1).run Tryz.prog w = .ok (.pointer (some (a.add 1))) w := run_field (b := 1) Tryz.underlying137 rfl rfl (by kernel_rfl) (by decide)
theorem z139 : ∀ w, (zeroValue 139).run Tryz.prog w = .ok (.agg #[.string ⟨#[]⟩, .int .i64 0]) w := fun _ => by kernel_rfl
theorem z148 : ∀ w, (zeroValue 148).run Tryz.prog w = .ok (.agg #[.string ⟨#[]⟩, .string ⟨#[]⟩]) w := fun _ => by kernel_rfl
theorem z160 : ∀ w, (zeroValue 160).run Tryz.prog w = .ok (.agg #[.string ⟨#[]⟩, .string ⟨#[]⟩, .string ⟨#[]⟩, .int .i64 0, .int .i64 0, .bool false]) w := fun _ => by kernel_rfl
theorem fa160_0 : ∀ a w, (Instr.fieldAt 160 (.pointer (some a)) 0).run Tryz.prog w = .ok (.pointer (some (a.add 0))) w := run_field (b := 1) Tryz.underlying160 rfl rfl (by kernel_rfl) (by decide)
theorem fa160_1 : ∀ a w, (Instr.fieldAt 160 (.pointer (some a)) 1).run Tryz.prog w = .ok (.pointer (some (a.add 1))) w := run_field (b := 1) Tryz.underlying160 rfl rfl (by kernel_rfl) (by decide)
theorem fa160_2 : ∀ a w, (Instr.fieldAt 160 (.pointer (some a)) 2).run Tryz.prog w = .ok (.pointer (some (a.add 2))) w := run_field (b := 1) Tryz.underlying160 rfl rfl (by kernel_rfl) (by decide)
theorem fa160_3 : ∀ a w, (Instr.fieldAt 160 (.pointer (some a)) 3).run Tryz.prog w = .ok (.pointer (some (a.add 3))) w := run_field (b := 1) Tryz.underlying160 rfl rfl (by kernel_rfl) (by decide)
theorem fa160_4 : ∀ a w, (Instr.fieldAt 160 (.pointer (some a)) 4).run Tryz.prog w = .ok (.pointer (some (a.add 4))) w := run_field (b := 1) Tryz.underlying160 rfl rfl (by kernel_rfl) (by decide)
theorem sz186 : (Tryz.prog.info? 186).map (·.size) = some 1 := by kernel_rfl
theorem sz187 : (Tryz.prog.info? 187).map (·.size) = some 1 := by kernel_rfl
theorem sz189 : (Tryz.prog.info? 189).map (·.size) = some 2 := by kernel_rfl
theorem z189 : ∀ w, (zeroValue 189).run Tryz.prog w = .ok (.agg #[.pointer none, .slice none 0 0]) w := fun _ => by kernel_rfl
theorem fa189_0 : ∀ a w, (Instr.fieldAt 189 (.pointer (some a)) 0).run Tryz.prog w = .ok (.pointer (some (a.add 0))) w := run_field (b := 1) Tryz.underlying189 rfl rfl (by kernel_rfl) (by decide)
theorem fa189_1 : ∀ a w, (Instr.fieldAt 189 (.pointer (some a)) 1).run Tryz.prog w = .ok (.pointer (some (a.add 1))) w := run_field (b := 1) Tryz.underlying189 rfl rfl (by kernel_rfl) (by decide)
theorem sz196 : (Tryz.prog.info? 196).map (·.size) = some 3 := by kernel_rfl
theorem co196 : Tryz.prog.cellsOf 196 = 3 := by kernel_rfl
theorem bo196 : Tryz.prog.bytesOf 196 = 32 := by kernel_rfl
theorem z196 : ∀ w, (zeroValue 196).run Tryz.prog w = .ok (.agg #[.string ⟨#[]⟩, .int .i64 0, .int .i64 0]) w := fun _ => by kernel_rfl
theorem inf196 : (Tryz.prog.info? 196).map (fun i => (i.zero, i.size, i.bytes)) = some (some (.agg #[.string ⟨#[]⟩, .int .i64 0, .int .i64 0]), 3, 32) := by kernel_rfl
theorem fa196_0 : ∀ a w, (Instr.fieldAt 196 (.pointer (some a)) 0).run Tryz.prog w = .ok (.pointer (some (a.add 0))) w := run_field (b := 1) Tryz.underlying196 rfl rfl (by kernel_rfl) (by decide)
theorem fa196_1 : ∀ a w, (Instr.fieldAt 196 (.pointer (some a)) 1).run Tryz.prog w = .ok (.pointer (some (a.add 1))) w := run_field (b := 1) Tryz.underlying196 rfl rfl (by kernel_rfl) (by decide)
theorem fa196_2 : ∀ a w, (Instr.fieldAt 196 (.pointer (some a)) 2).run Tryz.prog w = .ok (.pointer (some (a.add 2))) w := run_field (b := 1) Tryz.underlying196 rfl rfl (by kernel_rfl) (by decide)
theorem sz198 : (Tryz.prog.info? 198).map (·.size) = some 3 := by kernel_rfl
theorem co198 : Tryz.prog.cellsOf 198 = 3 := by kernel_rfl
theorem bo198 : Tryz.prog.bytesOf 198 = 24 := by kernel_rfl
theorem z198 : ∀ w, (zeroValue 198).run Tryz.prog w = .ok (.agg #[.int .i64 0, .int .i64 0, .int .i64 0]) w := fun _ => by kernel_rfl
theorem inf198 : (Tryz.prog.info? 198).map (fun i => (i.zero, i.size, i.bytes)) = some (some (.agg #[.int .i64 0, .int .i64 0, .int .i64 0]), 3, 24) := by kernel_rfl
theorem fa198_0 : ∀ a w, (Instr.fieldAt 198 (.pointer (some a)) 0).run Tryz.prog w = .ok (.pointer (some (a.add 0))) w := run_field (b := 1) Tryz.underlying198 rfl rfl (by kernel_rfl) (by decide)
theorem fa198_1 : ∀ a w, (Instr.fieldAt 198 (.pointer (some a)) 1).run Tryz.prog w = .ok (.pointer (some (a.add 1))) w := run_field (b := 1) Tryz.underlying198 rfl rfl (by kernel_rfl) (by decide)
theorem fa198_2 : ∀ a w, (Instr.fieldAt 198 (.pointer (some a)) 2).run Tryz.prog w = .ok (.pointer (some (a.add 2))) w := run_field (b := 1) Tryz.underlying198 rfl rfl (by kernel_rfl) (by decide)
theorem sz200 : (Tryz.prog.info? 200).map (·.size) = some 5 := by kernel_rfl
theorem co200 : Tryz.prog.cellsOf 200 = 5 := by kernel_rfl
theorem bo200 : Tryz.prog.bytesOf 200 = 48 := by kernel_rfl
theorem z200 : ∀ w, (zeroValue 200).run Tryz.prog w = .ok (.agg #[.string ⟨#[]⟩, .int .i64 0, .int .i64 0, .int .i64 0, .int .i64 0]) w := fun _ => by kernel_rfl
theorem inf200 : (Tryz.prog.info? 200).map (fun i => (i.zero, i.size, i.bytes)) = some (some (.agg #[.string ⟨#[]⟩, .int .i64 0, .int .i64 0, .int .i64 0, .int .i64 0]), 5, 48) := by kernel_rfl
theorem fa200_0 : ∀ a w, (Instr.fieldAt 200 (.pointer (some a)) 0).run Tryz.prog w = .ok (.pointer (some (a.add 0))) w := run_field (b := 1) Tryz.underlying200 rfl rfl (by kernel_rfl) (by decide)
theorem fa200_1 : ∀ a w, (Instr.fieldAt 200 (.pointer (some a)) 1).run Tryz.prog w = .ok (.pointer (some (a.add 1))) w := run_field (b := 1) Tryz.underlying200 rfl rfl (by kernel_rfl) (by decide)
theorem fa200_2 : ∀ a w, (Instr.fieldAt 200 (.pointer (some a)) 2).run Tryz.prog w = .ok (.pointer (some (a.add 2))) w := run_field (b := 1) Tryz.underlying200 rfl rfl (by kernel_rfl) (by decide)
theorem fa200_3 : ∀ a w, (Instr.fieldAt 200 (.pointer (some a)) 3).run Tryz.prog w = .ok (.pointer (some (a.add 3))) w := run_field (b := 1) Tryz.underlying200 rfl rfl (by kernel_rfl) (by decide)
theorem fa200_4 : ∀ a w, (Instr.fieldAt 200 (.pointer (some a)) 4).run Tryz.prog w = .ok (.pointer (some (a.add 4))) w := run_field (b := 1) Tryz.underlying200 rfl rfl (by kernel_rfl) (by decide)
theorem sz201 : (Tryz.prog.info? 201).map (·.size) = some 1 := by kernel_rfl
theorem sz202 : (Tryz.prog.info? 202).map (·.size) = some 1 := by kernel_rfl
theorem z212 : ∀ w, (zeroValue 212).run Tryz.prog w = .ok (.slice none 0 0) w := fun _ => by kernel_rfl
theorem z308 : ∀ w, (zeroValue 308).run Tryz.prog w = .ok (.agg #[.int .i64 0, .int .i64 0, .int .i64 0, .int .i64 0, .int .i64 0]) w := fun _ => by kernel_rfl
theorem cf28 : ∀ args w, (callFunc 28 args).run Tryz.prog w = .ok (.enter 28 args) w := run_cf Tryz.func28 (by kernel_rfl) rfl
theorem cf30 : ∀ args w, (callFunc 30 args).run Tryz.prog w = .ok (.enter 30 args) w := run_cf Tryz.func30 (by kernel_rfl) rfl
theorem cf33 : ∀ args w, (callFunc 33 args).run Tryz.prog w = .ok (.enter 33 args) w := run_cf Tryz.func33 (by kernel_rfl) rfl
theorem cf34 : ∀ args w, (callFunc 34 args).run Tryz.prog w = .ok (.enter 34 args) w := run_cf Tryz.func34 (by kernel_rfl) rfl
theorem cf35 : ∀ args w, (callFunc 35 args).run Tryz.prog w = .ok (.enter 35 args) w := run_cf Tryz.func35 (by kernel_rfl) rfl
theorem cf83 : ∀ args w, (callFunc 83 args).run Tryz.prog w = .ok (.enter 83 args) w := run_cf Tryz.func83 (by kernel_rfl) rfl
theorem cf97 : ∀ args w, (callFunc 97 args).run Tryz.prog w = .ok (.enter 97 args) w := run_cf Tryz.func97 (by kernel_rfl) rfl
theorem cf102 : ∀ args w, (callFunc 102 args).run Tryz.prog w = .ok (.enter 102 args) w := run_cf Tryz.func102 (by kernel_rfl) rfl
theorem cf114 : ∀ args w, (callFunc 114 args).run Tryz.prog w = .ok (.enter 114 args) w := run_cf Tryz.func114 (by kernel_rfl) rfl
theorem cf115 : ∀ args w, (callFunc 115 args).run Tryz.prog w = .ok (.enter 115 args) w := run_cf Tryz.func115 (by kernel_rfl) rfl
theorem cf116 : ∀ args w, (callFunc 116 args).run Tryz.prog w = .ok (.enter 116 args) w := run_cf Tryz.func116 (by kernel_rfl) rfl
theorem cf117 : ∀ args w, (callFunc 117 args).run Tryz.prog w = .ok (.enter 117 args) w := run_cf Tryz.func117 (by kernel_rfl) rfl
theorem cf118 : ∀ args w, (callFunc 118 args).run Tryz.prog w = .ok (.enter 118 args) w := run_cf Tryz.func118 (by kernel_rfl) rfl
theorem cf119 : ∀ args w, (callFunc 119 args).run Tryz.prog w = .ok (.enter 119 args) w := run_cf Tryz.func119 (by kernel_rfl) rfl
theorem cf120 : ∀ args w, (callFunc 120 args).run Tryz.prog w = .ok (.enter 120 args) w := run_cf Tryz.func120 (by kernel_rfl) rfl
theorem cf121 : ∀ args w, (callFunc 121 args).run Tryz.prog w = .ok (.enter 121 args) w := run_cf Tryz.func121 (by kernel_rfl) rfl
theorem cf122 : ∀ args w, (callFunc 122 args).run Tryz.prog w = .ok (.enter 122 args) w := run_cf Tryz.func122 (by kernel_rfl) rfl
theorem cf123 : ∀ args w, (callFunc 123 args).run Tryz.prog w = .ok (.enter 123 args) w := run_cf Tryz.func123 (by kernel_rfl) rfl
theorem cf124 : ∀ args w, (callFunc 124 args).run Tryz.prog w = .ok (.enter 124 args) w := run_cf Tryz.func124 (by kernel_rfl) rfl
theorem cf125 : ∀ args w, (callFunc 125 args).run Tryz.prog w = .ok (.enter 125 args) w := run_cf Tryz.func125 (by kernel_rfl) rfl
theorem cf126 : ∀ args w, (callFunc 126 args).run Tryz.prog w = .ok (.enter 126 args) w := run_cf Tryz.func126 (by kernel_rfl) rfl
theorem cf127 : ∀ args w, (callFunc 127 args).run Tryz.prog w = .ok (.enter 127 args) w := run_cf Tryz.func127 (by kernel_rfl) rfl
theorem cf128 : ∀ args w, (callFunc 128 args).run Tryz.prog w = .ok (.enter 128 args) w := run_cf Tryz.func128 (by kernel_rfl) rfl
theorem cf129 : ∀ args w, (callFunc 129 args).run Tryz.prog w = .ok (.enter 129 args) w := run_cf Tryz.func129 (by kernel_rfl) rfl
theorem cf130 : ∀ args w, (callFunc 130 args).run Tryz.prog w = .ok (.enter 130 args) w := run_cf Tryz.func130 (by kernel_rfl) rfl
theorem cf132 : ∀ args w, (callFunc 132 args).run Tryz.prog w = .ok (.enter 132 args) w := run_cf Tryz.func132 (by kernel_rfl) rfl
theorem cf133 : ∀ args w, (callFunc 133 args).run Tryz.prog w = .ok (.enter 133 args) w := run_cf Tryz.func133 (by kernel_rfl) rfl
theorem cf134 : ∀ args w, (callFunc 134 args).run Tryz.prog w = .ok (.enter 134 args) w := run_cf Tryz.func134 (by kernel_rfl) rfl
theorem cf135 : ∀ args w, (callFunc 135 args).run Tryz.prog w = .ok (.enter 135 args) w := run_cf Tryz.func135 (by kernel_rfl) rfl
theorem cf136 : ∀ args w, (callFunc 136 args).run Tryz.prog w = .ok (.enter 136 args) w := run_cf Tryz.func136 (by kernel_rfl) rfl
theorem cf137 : ∀ args w, (callFunc 137 args).run Tryz.prog w = .ok (.enter 137 args) w := run_cf Tryz.func137 (by kernel_rfl) rfl
theorem cf148 : ∀ args w, (callFunc 148 args).run Tryz.prog w = .ok (.enter 148 args) w := run_cf Tryz.func148 (by kernel_rfl) rfl
theorem cf155 : ∀ args w, (callFunc 155 args).run Tryz.prog w = .ok (.enter 155 args) w := run_cf Tryz.func155 (by kernel_rfl) rfl
theorem cf166 : ∀ args w, (callFunc 166 args).run Tryz.prog w = .ok (.enter 166 args) w := run_cf Tryz.func166 (by kernel_rfl) rfl
theorem cf167 : ∀ args w, (callFunc 167 args).run Tryz.prog w = .ok (.enter 167 args) w := run_cf Tryz.func167 (by kernel_rfl) rfl
theorem cf168 : ∀ args w, (callFunc 168 args).run Tryz.prog w = .ok (.enter 168 args) w := run_cf Tryz.func168 (by kernel_rfl) rfl
theorem cf222 : ∀ args w, (callFunc 222 args).run Tryz.prog w = .ok (.enter 222 args) w := run_cf Tryz.func222 (by kernel_rfl) rfl
theorem cf251 : ∀ args w, (callFunc 251 args).run Tryz.prog w = .ok (.enter 251 args) w := run_cf Tryz.func251 (by kernel_rfl) rfl
theorem cf252 : ∀ args w, (callFunc 252 args).run Tryz.prog w = .ok (.enter 252 args) w := run_cf Tryz.func252 (by kernel_rfl) rfl
theorem cf253 : ∀ args w, (callFunc 253 args).run Tryz.prog w = .ok (.enter 253 args) w := run_cf Tryz.func253 (by kernel_rfl) rfl
theorem cf254 : ∀ args w, (callFunc 254 args).run Tryz.prog w = .ok (.enter 254 args) w := run_cf Tryz.func254 (by kernel_rfl) rfl
theorem cf255 : ∀ args w, (callFunc 255 args).run Tryz.prog w = .ok (.enter 255 args) w := run_cf Tryz.func255 (by kernel_rfl) rfl
theorem cf256 : ∀ args w, (callFunc 256 args).run Tryz.prog w = .ok (.enter 256 args) w := run_cf Tryz.func256 (by kernel_rfl) rfl
theorem cf257 : ∀ args w, (callFunc 257 args).run Tryz.prog w = .ok (.enter 257 args) w := run_cf Tryz.func257 (by kernel_rfl) rfl
theorem cf258 : ∀ args w, (callFunc 258 args).run Tryz.prog w = .ok (.enter 258 args) w := run_cf Tryz.func258 (by kernel_rfl) rfl
theorem cf259 : ∀ args w, (callFunc 259 args).run Tryz.prog w = .ok (.enter 259 args) w := run_cf Tryz.func259 (by kernel_rfl) rfl
theorem cf260 : ∀ args w, (callFunc 260 args).run Tryz.prog w = .ok (.enter 260 args) w := run_cf Tryz.func260 (by kernel_rfl) rfl
theorem cf261 : ∀ args w, (callFunc 261 args).run Tryz.prog w = .ok (.enter 261 args) w := run_cf Tryz.func261 (by kernel_rfl) rfl
theorem cf263 : ∀ args w, (callFunc 263 args).run Tryz.prog w = .ok (.enter 263 args) w := run_cf Tryz.func263 (by kernel_rfl) rfl
theorem cf264 : ∀ args w, (callFunc 264 args).run Tryz.prog w = .ok (.enter 264 args) w := run_cf Tryz.func264 (by kernel_rfl) rfl
theorem cf265 : ∀ args w, (callFunc 265 args).run Tryz.prog w = .ok (.enter 265 args) w := run_cf Tryz.func265 (by kernel_rfl) rfl
theorem cf266 : ∀ args w, (callFunc 266 args).run Tryz.prog w = .ok (.enter 266 args) w := run_cf Tryz.func266 (by kernel_rfl) rfl
theorem cf267 : ∀ args w, (callFunc 267 args).run Tryz.prog w = .ok (.enter 267 args) w := run_cf Tryz.func267 (by kernel_rfl) rfl
theorem cf268 : ∀ args w, (callFunc 268 args).run Tryz.prog w = .ok (.enter 268 args) w := run_cf Tryz.func268 (by kernel_rfl) rfl
theorem cf269 : ∀ args w, (callFunc 269 args).run Tryz.prog w = .ok (.enter 269 args) w := run_cf Tryz.func269 (by kernel_rfl) rfl
theorem cf270 : ∀ args w, (callFunc 270 args).run Tryz.prog w = .ok (.enter 270 args) w := run_cf Tryz.func270 (by kernel_rfl) rfl
theorem cf271 : ∀ args w, (callFunc 271 args).run Tryz.prog w = .ok (.enter 271 args) w := run_cf Tryz.func271 (by kernel_rfl) rfl
theorem cf272 : ∀ args w, (callFunc 272 args).run Tryz.prog w = .ok (.enter 272 args) w := run_cf Tryz.func272 (by kernel_rfl) rfl
theorem cf273 : ∀ args w, (callFunc 273 args).run Tryz.prog w = .ok (.enter 273 args) w := run_cf Tryz.func273 (by kernel_rfl) rfl
theorem cf274 : ∀ args w, (callFunc 274 args).run Tryz.prog w = .ok (.enter 274 args) w := run_cf Tryz.func274 (by kernel_rfl) rfl
theorem cf275 : ∀ args w, (callFunc 275 args).run Tryz.prog w = .ok (.enter 275 args) w := run_cf Tryz.func275 (by kernel_rfl) rfl
theorem cf276 : ∀ args w, (callFunc 276 args).run Tryz.prog w = .ok (.enter 276 args) w := run_cf Tryz.func276 (by kernel_rfl) rfl
theorem cf277 : ∀ args w, (callFunc 277 args).run Tryz.prog w = .ok (.enter 277 args) w := run_cf Tryz.func277 (by kernel_rfl) rfl
theorem cf278 : ∀ args w, (callFunc 278 args).run Tryz.prog w = .ok (.enter 278 args) w := run_cf Tryz.func278 (by kernel_rfl) rfl
theorem cf279 : ∀ args w, (callFunc 279 args).run Tryz.prog w = .ok (.enter 279 args) w := run_cf Tryz.func279 (by kernel_rfl) rfl
theorem cf280 : ∀ args w, (callFunc 280 args).run Tryz.prog w = .ok (.enter 280 args) w := run_cf Tryz.func280 (by kernel_rfl) rfl
theorem cf281 : ∀ args w, (callFunc 281 args).run Tryz.prog w = .ok (.enter 281 args) w := run_cf Tryz.func281 (by kernel_rfl) rfl
theorem cf282 : ∀ args w, (callFunc 282 args).run Tryz.prog w = .ok (.enter 282 args) w := run_cf Tryz.func282 (by kernel_rfl) rfl
theorem cf285 : ∀ args w, (callFunc 285 args).run Tryz.prog w = .ok (.enter 285 args) w := run_cf Tryz.func285 (by kernel_rfl) rfl
theorem cf293 : ∀ args w, (callFunc 293 args).run Tryz.prog w = .ok (.enter 293 args) w := run_cf Tryz.func293 (by kernel_rfl) rfl
theorem cf294 : ∀ args w, (callFunc 294 args).run Tryz.prog w = .ok (.enter 294 args) w := run_cf Tryz.func294 (by kernel_rfl) rfl
theorem cf309 : ∀ args w, (callFunc 309 args).run Tryz.prog w = .ok (.enter 309 args) w := run_cf Tryz.func309 (by kernel_rfl) rfl
theorem cf329 : ∀ args w, (callFunc 329 args).run Tryz.prog w = .ok (.enter 329 args) w := run_cf Tryz.func329 (by kernel_rfl) rfl
theorem cf330 : ∀ args w, (callFunc 330 args).run Tryz.prog w = .ok (.enter 330 args) w := run_cf Tryz.func330 (by kernel_rfl) rfl
theorem cf331 : ∀ args w, (callFunc 331 args).run Tryz.prog w = .ok (.enter 331 args) w := run_cf Tryz.func331 (by kernel_rfl) rfl
theorem cf334 : ∀ args w, (callFunc 334 args).run Tryz.prog w = .ok (.enter 334 args) w := run_cf Tryz.func334 (by kernel_rfl) rfl
theorem cf335 : ∀ args w, (callFunc 335 args).run Tryz.prog w = .ok (.enter 335 args) w := run_cf Tryz.func335 (by kernel_rfl) rfl
theorem cf355 : ∀ args w, (callFunc 355 args).run Tryz.prog w = .ok (.enter 355 args) w := run_cf Tryz.func355 (by kernel_rfl) rfl
theorem cf356 : ∀ args w, (callFunc 356 args).run Tryz.prog w = .ok (.enter 356 args) w := run_cf Tryz.func356 (by kernel_rfl) rfl
theorem cf357 : ∀ args w, (callFunc 357 args).run Tryz.prog w = .ok (.enter 357 args) w := run_cf Tryz.func357 (by kernel_rfl) rfl
theorem cf384 : ∀ args w, (callFunc 384 args).run Tryz.prog w = .ok (.enter 384 args) w := run_cf Tryz.func384 (by kernel_rfl) rfl
theorem cf402 : ∀ args w, (callFunc 402 args).run Tryz.prog w = .ok (.enter 402 args) w := run_cf Tryz.func402 (by kernel_rfl) rfl
theorem cf403 : ∀ args w, (callFunc 403 args).run Tryz.prog w = .ok (.enter 403 args) w := run_cf Tryz.func403 (by kernel_rfl) rfl
theorem cf406 : ∀ args w, (callFunc 406 args).run Tryz.prog w = .ok (.enter 406 args) w := run_cf Tryz.func406 (by kernel_rfl) rfl
end Go.Proofs.YtkkngcdikbhkjaaGreatDoor
