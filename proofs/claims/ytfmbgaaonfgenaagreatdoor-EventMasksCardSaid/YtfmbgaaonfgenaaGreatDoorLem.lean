/- Closed facts on this seat's program: sizes, fields, zero values, calls. Written by a program of mine. -/
import Derived.Test.YtfmbgaaonfgenaaGreatDoorMore
import Derived.Test.YtfmbgaaonfgenaaGreatDoorRows
namespace Go.Proofs.YtfmbgaaonfgenaaGreatDoor
open Go.RowKit Go.Eng

theorem z2 : ∀ w, (zeroValue 2).run Tryz.prog w = .ok (.int .i64 0) w := fun _ => by kernel_rfl
theorem sz3 : (Tryz.prog.info? 3).map (·.size) = some 1 := by kernel_rfl
theorem co3 : Tryz.prog.cellsOf 3 = 1 := by kernel_rfl
theorem z3 : ∀ w, (zeroValue 3).run Tryz.prog w = .ok (.int .i64 0) w := fun _ => by kernel_rfl
theorem sz4 : (Tryz.prog.info? 4).map (·.size) = some 1 := by kernel_rfl
theorem co4 : Tryz.prog.cellsOf 4 = 1 := by kernel_rfl
theorem z4 : ∀ w, (zeroValue 4).run Tryz.prog w = .ok (.bool false) w := fun _ => by kernel_rfl
theorem inf4 : (Tryz.prog.info? 4).map (fun i => (i.zero, i.size, i.bytes)) = some (some (.bool false), 1, 1) := by kernel_rfl
theorem sz5 : (Tryz.prog.info? 5).map (·.size) = some 1 := by kernel_rfl
theorem co5 : Tryz.prog.cellsOf 5 = 1 := by kernel_rfl
theorem z5 : ∀ w, (zeroValue 5).run Tryz.prog w = .ok (.int .u8 0) w := fun _ => by kernel_rfl
theorem inf5 : (Tryz.prog.info? 5).map (fun i => (i.zero, i.size, i.bytes)) = some (some (.int .u8 0), 1, 1) := by kernel_rfl
theorem sz9 : (Tryz.prog.info? 9).map (·.size) = some 1 := by kernel_rfl
theorem co9 : Tryz.prog.cellsOf 9 = 1 := by kernel_rfl
theorem z9 : ∀ w, (zeroValue 9).run Tryz.prog w = .ok (.string ⟨#[]⟩) w := fun _ => by kernel_rfl
theorem inf9 : (Tryz.prog.info? 9).map (fun i => (i.zero, i.size, i.bytes)) = some (some (.string ⟨#[]⟩), 1, 16) := by kernel_rfl
theorem z20 : ∀ w, (zeroValue 20).run Tryz.prog w = .ok (.nilIface) w := fun _ => by kernel_rfl
theorem z21 : ∀ w, (zeroValue 21).run Tryz.prog w = .ok (.int .i32 0) w := fun _ => by kernel_rfl
theorem co22 : Tryz.prog.cellsOf 22 = 1 := by kernel_rfl
theorem sz24 : (Tryz.prog.info? 24).map (·.size) = some 6 := by kernel_rfl
theorem co24 : Tryz.prog.cellsOf 24 = 6 := by kernel_rfl
theorem bo24 : Tryz.prog.bytesOf 24 = 80 := by kernel_rfl
theorem z24 : ∀ w, (zeroValue 24).run Tryz.prog w = .ok (.agg #[.int .i64 0, .slice none 0 0, .int .i64 0, .int .i64 0, .string ⟨#[]⟩, .string ⟨#[]⟩]) w := fun _ => by kernel_rfl
theorem fa24_0 : ∀ a w, (Instr.fieldAt 24 (.pointer (some a)) 0).run Tryz.prog w = .ok (.pointer (some (a.add 0))) w := run_field (b := 1) Tryz.underlying24 rfl rfl (by kernel_rfl) (by decide)
theorem fa24_1 : ∀ a w, (Instr.fieldAt 24 (.pointer (some a)) 1).run Tryz.prog w = .ok (.pointer (some (a.add 1))) w := run_field (b := 1) Tryz.underlying24 rfl rfl (by kernel_rfl) (by decide)
theorem fa24_2 : ∀ a w, (Instr.fieldAt 24 (.pointer (some a)) 2).run Tryz.prog w = .ok (.pointer (some (a.add 2))) w := run_field (b := 1) Tryz.underlying24 rfl rfl (by kernel_rfl) (by decide)
theorem fa24_3 : ∀ a w, (Instr.fieldAt 24 (.pointer (some a)) 3).run Tryz.prog w = .ok (.pointer (some (a.add 3))) w := run_field (b := 1) Tryz.underlying24 rfl rfl (by kernel_rfl) (by decide)
theorem fa24_4 : ∀ a w, (Instr.fieldAt 24 (.pointer (some a)) 4).run Tryz.prog w = .ok (.pointer (some (a.add 4))) w := run_field (b := 1) Tryz.underlying24 rfl rfl (by kernel_rfl) (by decide)
theorem fa24_5 : ∀ a w, (Instr.fieldAt 24 (.pointer (some a)) 5).run Tryz.prog w = .ok (.pointer (some (a.add 5))) w := run_field (b := 1) Tryz.underlying24 rfl rfl (by kernel_rfl) (by decide)
theorem sz25 : (Tryz.prog.info? 25).map (·.size) = some 1 := by kernel_rfl
theorem co25 : Tryz.prog.cellsOf 25 = 1 := by kernel_rfl
theorem sz26 : (Tryz.prog.info? 26).map (·.size) = some 1 := by kernel_rfl
theorem co26 : Tryz.prog.cellsOf 26 = 1 := by kernel_rfl
theorem sz27 : (Tryz.prog.info? 27).map (·.size) = some 1 := by kernel_rfl
theorem co27 : Tryz.prog.cellsOf 27 = 1 := by kernel_rfl
theorem sz29 : (Tryz.prog.info? 29).map (·.size) = some 9 := by kernel_rfl
theorem co29 : Tryz.prog.cellsOf 29 = 9 := by kernel_rfl
theorem z29 : ∀ w, (zeroValue 29).run Tryz.prog w = .ok (.agg #[.string ⟨#[]⟩, .int .i64 0, .int .i64 0, .slice none 0 0, .slice none 0 0, .slice none 0 0, .string ⟨#[]⟩, .string ⟨#[]⟩, .int .i64 0]) w := fun _ => by kernel_rfl
theorem fa29_0 : ∀ a w, (Instr.fieldAt 29 (.pointer (some a)) 0).run Tryz.prog w = .ok (.pointer (some (a.add 0))) w := run_field (b := 1) Tryz.underlying29 rfl rfl (by kernel_rfl) (by decide)
theorem fa29_1 : ∀ a w, (Instr.fieldAt 29 (.pointer (some a)) 1).run Tryz.prog w = .ok (.pointer (some (a.add 1))) w := run_field (b := 1) Tryz.underlying29 rfl rfl (by kernel_rfl) (by decide)
theorem fa29_2 : ∀ a w, (Instr.fieldAt 29 (.pointer (some a)) 2).run Tryz.prog w = .ok (.pointer (some (a.add 2))) w := run_field (b := 1) Tryz.underlying29 rfl rfl (by kernel_rfl) (by decide)
theorem fa29_3 : ∀ a w, (Instr.fieldAt 29 (.pointer (some a)) 3).run Tryz.prog w = .ok (.pointer (some (a.add 3))) w := run_field (b := 1) Tryz.underlying29 rfl rfl (by kernel_rfl) (by decide)
theorem fa29_4 : ∀ a w, (Instr.fieldAt 29 (.pointer (some a)) 4).run Tryz.prog w = .ok (.pointer (some (a.add 4))) w := run_field (b := 1) Tryz.underlying29 rfl rfl (by kernel_rfl) (by decide)
theorem fa29_5 : ∀ a w, (Instr.fieldAt 29 (.pointer (some a)) 5).run Tryz.prog w = .ok (.pointer (some (a.add 5))) w := run_field (b := 1) Tryz.underlying29 rfl rfl (by kernel_rfl) (by decide)
theorem fa29_6 : ∀ a w, (Instr.fieldAt 29 (.pointer (some a)) 6).run Tryz.prog w = .ok (.pointer (some (a.add 6))) w := run_field (b := 1) Tryz.underlying29 rfl rfl (by kernel_rfl) (by decide)
theorem fa29_7 : ∀ a w, (Instr.fieldAt 29 (.pointer (some a)) 7).run Tryz.prog w = .ok (.pointer (some (a.add 7))) w := run_field (b := 1) Tryz.underlying29 rfl rfl (by kernel_rfl) (by decide)
theorem fa29_8 : ∀ a w, (Instr.fieldAt 29 (.pointer (some a)) 8).run Tryz.prog w = .ok (.pointer (some (a.add 8))) w := run_field (b := 1) Tryz.underlying29 rfl rfl (by kernel_rfl) (by decide)
theorem sz43 : (Tryz.prog.info? 43).map (·.size) = some 6 := by kernel_rfl
theorem co43 : Tryz.prog.cellsOf 43 = 6 := by kernel_rfl
theorem bo43 : Tryz.prog.bytesOf 43 = 64 := by kernel_rfl
theorem z43 : ∀ w, (zeroValue 43).run Tryz.prog w = .ok (.agg #[.int .i64 0, .string ⟨#[]⟩, .int .i64 0, .int .i64 0, .string ⟨#[]⟩, .int .i64 0]) w := fun _ => by kernel_rfl
theorem inf43 : (Tryz.prog.info? 43).map (fun i => (i.zero, i.size, i.bytes)) = some (some (.agg #[.int .i64 0, .string ⟨#[]⟩, .int .i64 0, .int .i64 0, .string ⟨#[]⟩, .int .i64 0]), 6, 64) := by kernel_rfl
theorem fa43_0 : ∀ a w, (Instr.fieldAt 43 (.pointer (some a)) 0).run Tryz.prog w = .ok (.pointer (some (a.add 0))) w := run_field (b := 1) Tryz.underlying43 rfl rfl (by kernel_rfl) (by decide)
theorem fa43_1 : ∀ a w, (Instr.fieldAt 43 (.pointer (some a)) 1).run Tryz.prog w = .ok (.pointer (some (a.add 1))) w := run_field (b := 1) Tryz.underlying43 rfl rfl (by kernel_rfl) (by decide)
theorem fa43_2 : ∀ a w, (Instr.fieldAt 43 (.pointer (some a)) 2).run Tryz.prog w = .ok (.pointer (some (a.add 2))) w := run_field (b := 1) Tryz.underlying43 rfl rfl (by kernel_rfl) (by decide)
theorem fa43_3 : ∀ a w, (Instr.fieldAt 43 (.pointer (some a)) 3).run Tryz.prog w = .ok (.pointer (some (a.add 3))) w := run_field (b := 1) Tryz.underlying43 rfl rfl (by kernel_rfl) (by decide)
theorem fa43_4 : ∀ a w, (Instr.fieldAt 43 (.pointer (some a)) 4).run Tryz.prog w = .ok (.pointer (some (a.add 4))) w := run_field (b := 1) Tryz.underlying43 rfl rfl (by kernel_rfl) (by decide)
theorem fa43_5 : ∀ a w, (Instr.fieldAt 43 (.pointer (some a)) 5).run Tryz.prog w = .ok (.pointer (some (a.add 5))) w := run_field (b := 1) Tryz.underlying43 rfl rfl (by kernel_rfl) (by decide)
theorem sz48 : (Tryz.prog.info? 48).map (·.size) = some 1 := by kernel_rfl
theorem co48 : Tryz.prog.cellsOf 48 = 1 := by kernel_rfl
theorem sz50 : (Tryz.prog.info? 50).map (·.size) = some 3 := by kernel_rfl
theorem co50 : Tryz.prog.cellsOf 50 = 3 := by kernel_rfl
theorem bo50 : Tryz.prog.bytesOf 50 = 56 := by kernel_rfl
theorem z50 : ∀ w, (zeroValue 50).run Tryz.prog w = .ok (.agg #[.string ⟨#[]⟩, .string ⟨#[]⟩, .slice none 0 0]) w := fun _ => by kernel_rfl
theorem inf50 : (Tryz.prog.info? 50).map (fun i => (i.zero, i.size, i.bytes)) = some (some (.agg #[.string ⟨#[]⟩, .string ⟨#[]⟩, .slice none 0 0]), 3, 56) := by kernel_rfl
theorem fa50_0 : ∀ a w, (Instr.fieldAt 50 (.pointer (some a)) 0).run Tryz.prog w = .ok (.pointer (some (a.add 0))) w := run_field (b := 1) Tryz.underlying50 rfl rfl (by kernel_rfl) (by decide)
theorem fa50_1 : ∀ a w, (Instr.fieldAt 50 (.pointer (some a)) 1).run Tryz.prog w = .ok (.pointer (some (a.add 1))) w := run_field (b := 1) Tryz.underlying50 rfl rfl (by kernel_rfl) (by decide)
theorem fa50_2 : ∀ a w, (Instr.fieldAt 50 (.pointer (some a)) 2).run Tryz.prog w = .ok (.pointer (some (a.add 2))) w := run_field (b := 1) Tryz.underlying50 rfl rfl (by kernel_rfl) (by decide)
theorem z53 : ∀ w, (zeroValue 53).run Tryz.prog w = .ok (.pointer none) w := fun _ => by kernel_rfl
theorem sz104 : (Tryz.prog.info? 104).map (·.size) = some 2 := by kernel_rfl
theorem co104 : Tryz.prog.cellsOf 104 = 2 := by kernel_rfl
theorem bo104 : Tryz.prog.bytesOf 104 = 32 := by kernel_rfl
theorem z104 : ∀ w, (zeroValue 104).run Tryz.prog w = .ok (.agg #[.string ⟨#[]⟩, .string ⟨#[]⟩]) w := fun _ => by kernel_rfl
theorem inf104 : (Tryz.prog.info? 104).map (fun i => (i.zero, i.size, i.bytes)) = some (some (.agg #[.string ⟨#[]⟩, .string ⟨#[]⟩]), 2, 32) := by kernel_rfl
theorem fa104_0 : ∀ a w, (Instr.fieldAt 104 (.pointer (some a)) 0).run Tryz.prog w = .ok (.pointer (some (a.add 0))) w := run_field (b := 1) Tryz.underlying104 rfl rfl (by kernel_rfl) (by decide)
theorem fa104_1 : ∀ a w, (Instr.fieldAt 104 (.pointer (some a)) 1).run Tryz.prog w = .ok (.pointer (some (a.add 1))) w := run_field (b := 1) Tryz.underlying104 rfl rfl (by kernel_rfl) (by decide)
theorem sz107 : (Tryz.prog.info? 107).map (·.size) = some 3 := by kernel_rfl
theorem co107 : Tryz.prog.cellsOf 107 = 3 := by kernel_rfl
theorem bo107 : Tryz.prog.bytesOf 107 = 40 := by kernel_rfl
theorem z107 : ∀ w, (zeroValue 107).run Tryz.prog w = .ok (.agg #[.int .i64 0, .string ⟨#[]⟩, .string ⟨#[]⟩]) w := fun _ => by kernel_rfl
theorem inf107 : (Tryz.prog.info? 107).map (fun i => (i.zero, i.size, i.bytes)) = some (some (.agg #[.int .i64 0, .string ⟨#[]⟩, .string ⟨#[]⟩]), 3, 40) := by kernel_rfl
theorem fa107_0 : ∀ a w, (Instr.fieldAt 107 (.pointer (some a)) 0).run Tryz.prog w = .ok (.pointer (some (a.add 0))) w := run_field (b := 1) Tryz.underlying107 rfl rfl (by kernel_rfl) (by decide)
theorem fa107_1 : ∀ a w, (Instr.fieldAt 107 (.pointer (some a)) 1).run Tryz.prog w = .ok (.pointer (some (a.add 1))) w := run_field (b := 1) Tryz.underlying107 rfl rfl (by kernel_rfl) (by decide)
theorem fa107_2 : ∀ a w, (Instr.fieldAt 107 (.pointer (some a)) 2).run Tryz.prog w = .ok (.pointer (some (a.add 2))) w := run_field (b := 1) Tryz.underlying107 rfl rfl (by kernel_rfl) (by decide)
theorem sz116 : (Tryz.prog.info? 116).map (·.size) = some 6 := by kernel_rfl
theorem co116 : Tryz.prog.cellsOf 116 = 6 := by kernel_rfl
theorem bo116 : Tryz.prog.bytesOf 116 = 72 := by kernel_rfl
theorem z116 : ∀ w, (zeroValue 116).run Tryz.prog w = .ok (.agg #[.string ⟨#[]⟩, .string ⟨#[]⟩, .string ⟨#[]⟩, .int .i64 0, .int .i64 0, .bool false]) w := fun _ => by kernel_rfl
theorem inf116 : (Tryz.prog.info? 116).map (fun i => (i.zero, i.size, i.bytes)) = some (some (.agg #[.string ⟨#[]⟩, .string ⟨#[]⟩, .string ⟨#[]⟩, .int .i64 0, .int .i64 0, .bool false]), 6, 72) := by kernel_rfl
theorem fa116_0 : ∀ a w, (Instr.fieldAt 116 (.pointer (some a)) 0).run Tryz.prog w = .ok (.pointer (some (a.add 0))) w := run_field (b := 1) Tryz.underlying116 rfl rfl (by kernel_rfl) (by decide)
theorem fa116_1 : ∀ a w, (Instr.fieldAt 116 (.pointer (some a)) 1).run Tryz.prog w = .ok (.pointer (some (a.add 1))) w := run_field (b := 1) Tryz.underlying116 rfl rfl (by kernel_rfl) (by decide)
theorem fa116_2 : ∀ a w, (Instr.fieldAt 116 (.pointer (some a)) 2).run Tryz.prog w = .ok (.pointer (some (a.add 2))) w := run_field (b := 1) Tryz.underlying116 rfl rfl (by kernel_rfl) (by decide)
theorem fa116_3 : ∀ a w, (Instr.fieldAt 116 (.pointer (some a)) 3).run Tryz.prog w = .ok (.pointer (some (a.add 3))) w := run_field (b := 1) Tryz.underlying116 rfl rfl (by kernel_rfl) (by decide)
theorem fa116_4 : ∀ a w, (Instr.fieldAt 116 (.pointer (some a)) 4).run Tryz.prog w = .ok (.pointer (some (a.add 4))) w := run_field (b := 1) Tryz.underlying116 rfl rfl (by kernel_rfl) (by decide)
theorem sz122 : (Tryz.prog.info? 122).map (·.size) = some 1 := by kernel_rfl
theorem sz130 : (Tryz.prog.info? 130).map (·.size) = some 1 := by kernel_rfl
theorem z132 : ∀ w, (zeroValue 132).run Tryz.prog w = .ok (.agg #[.nilFunc, .nilFunc, .int .i64 0]) w := fun _ => by kernel_rfl
theorem fa132_0 : ∀ a w, (Instr.fieldAt 132 (.pointer (some a)) 0).run Tryz.prog w = .ok (.pointer (some (a.add 0))) w := run_field (b := 1) Tryz.underlying132 rfl rfl (by kernel_rfl) (by decide)
theorem fa132_1 : ∀ a w, (Instr.fieldAt 132 (.pointer (some a)) 1).run Tryz.prog w = .ok (.pointer (some (a.add 1))) w := run_field (b := 1) Tryz.underlying132 rfl rfl (by kernel_rfl) (by decide)
theorem fa132_2 : ∀ a w, (Instr.fieldAt 132 (.pointer (some a)) 2).run Tryz.prog w = .ok (.pointer (some (a.add 2))) w := run_field (b := 1) Tryz.underlying132 rfl rfl (by kernel_rfl) (by decide)
theorem z134 : ∀ w, (zeroValue 134).run Tryz.prog w = .ok (.agg #[.int .i64 0, .int .i64 0]) w := fun _ => by kernel_rfl
theorem inf134 : (Tryz.prog.info? 134).map (fun i => (i.zero, i.size, i.bytes)) = some (some (.agg #[.int .i64 0, .int .i64 0]), 2, 16) := by kernel_rfl
theorem z138 : ∀ w, (zeroValue 138).run Tryz.prog w = .ok (.map none) w := fun _ => by kernel_rfl
theorem z139 : ∀ w, (zeroValue 139).run Tryz.prog w = .ok (.agg #[.map none]) w := fun _ => by kernel_rfl
theorem sz183 : (Tryz.prog.info? 183).map (·.size) = some 1 := by kernel_rfl
theorem sz199 : (Tryz.prog.info? 199).map (·.size) = some 2 := by kernel_rfl
theorem z199 : ∀ w, (zeroValue 199).run Tryz.prog w = .ok (.agg #[.int .i64 0, .int .i64 0]) w := fun _ => by kernel_rfl
theorem inf199 : (Tryz.prog.info? 199).map (fun i => (i.zero, i.size, i.bytes)) = some (some (.agg #[.int .i64 0, .int .i64 0]), 2, 16) := by kernel_rfl
theorem fa199_0 : ∀ a w, (Instr.fieldAt 199 (.pointer (some a)) 0).run Tryz.prog w = .ok (.pointer (some (a.add 0))) w := run_field (b := 1) Tryz.underlying199 rfl rfl (by kernel_rfl) (by decide)
theorem fa199_1 : ∀ a w, (Instr.fieldAt 199 (.pointer (some a)) 1).run Tryz.prog w = .ok (.pointer (some (a.add 1))) w := run_field (b := 1) Tryz.underlying199 rfl rfl (by kernel_rfl) (by decide)
theorem sz224 : (Tryz.prog.info? 224).map (·.size) = some 1 := by kernel_rfl
theorem sz226 : (Tryz.prog.info? 226).map (·.size) = some 2 := by kernel_rfl
theorem z226 : ∀ w, (zeroValue 226).run Tryz.prog w = .ok (.agg #[.pointer none, .slice none 0 0]) w := fun _ => by kernel_rfl
theorem fa226_0 : ∀ a w, (Instr.fieldAt 226 (.pointer (some a)) 0).run Tryz.prog w = .ok (.pointer (some (a.add 0))) w := run_field (b := 1) Tryz.underlying226 rfl rfl (by kernel_rfl) (by decide)
theorem fa226_1 : ∀ a w, (Instr.fieldAt 226 (.pointer (some a)) 1).run Tryz.prog w = .ok (.pointer (some (a.add 1))) w := run_field (b := 1) Tryz.underlying226 rfl rfl (by kernel_rfl) (by decide)
theorem z282 : ∀ w, (zeroValue 282).run Tryz.prog w = .ok (.agg #[.int .u8 0, .int .u8 0, .int .u8 0, .int .u8 0, .int .u8 0, .int .u8 0, .int .u8 0, .int .u8 0, .int .u8 0, .int .u8 0, .int .u8 0, .int .u8 0, .int .u8 0, .int .u8 0, .int .u8 0, .int .u8 0, .int .u8 0, .int .u8 0, .int .u8 0, .int .u8 0, .int .u8 0, .int .u8 0, .int .u8 0, .int .u8 0, .int .u8 0, .int .u8 0, .int .u8 0, .int .u8 0, .int .u8 0, .int .u8 0, .int .u8 0, .int .u8 0, .int .u8 0, .int .u8 0, .int .u8 0, .int .u8 0, .int .u8 0, .int .u8 0, .int .u8 0, .int .u8 0, .int .u8 0, .int .u8 0, .int .u8 0, .int .u8 0, .int .u8 0, .int .u8 0, .int .u8 0, .int .u8 0, .int .u8 0, .int .u8 0, .int .u8 0, .int .u8 0, .int .u8 0, .int .u8 0, .int .u8 0, .int .u8 0, .int .u8 0, .int .u8 0, .int .u8 0, .int .u8 0, .int .u8 0, .int .u8 0, .int .u8 0, .int .u8 0, .int .u8 0]) w := fun _ => by kernel_rfl
theorem cf14 : ∀ args w, (callFunc 14 args).run Tryz.prog w = .ok (.enter 14 args) w := run_cf Tryz.func14 (by kernel_rfl) rfl
theorem cf15 : ∀ args w, (callFunc 15 args).run Tryz.prog w = .ok (.enter 15 args) w := run_cf Tryz.func15 (by kernel_rfl) rfl
theorem cf16 : ∀ args w, (callFunc 16 args).run Tryz.prog w = .ok (.enter 16 args) w := run_cf Tryz.func16 (by kernel_rfl) rfl
theorem cf44 : ∀ args w, (callFunc 44 args).run Tryz.prog w = .ok (.enter 44 args) w := run_cf Tryz.func44 (by kernel_rfl) rfl
theorem cf49 : ∀ args w, (callFunc 49 args).run Tryz.prog w = .ok (.enter 49 args) w := run_cf Tryz.func49 (by kernel_rfl) rfl
theorem cf50 : ∀ args w, (callFunc 50 args).run Tryz.prog w = .ok (.enter 50 args) w := run_cf Tryz.func50 (by kernel_rfl) rfl
theorem cf51 : ∀ args w, (callFunc 51 args).run Tryz.prog w = .ok (.enter 51 args) w := run_cf Tryz.func51 (by kernel_rfl) rfl
theorem cf52 : ∀ args w, (callFunc 52 args).run Tryz.prog w = .ok (.enter 52 args) w := run_cf Tryz.func52 (by kernel_rfl) rfl
theorem cf53 : ∀ args w, (callFunc 53 args).run Tryz.prog w = .ok (.enter 53 args) w := run_cf Tryz.func53 (by kernel_rfl) rfl
theorem cf54 : ∀ args w, (callFunc 54 args).run Tryz.prog w = .ok (.enter 54 args) w := run_cf Tryz.func54 (by kernel_rfl) rfl
theorem cf61 : ∀ args w, (callFunc 61 args).run Tryz.prog w = .ok (.enter 61 args) w := run_cf Tryz.func61 (by kernel_rfl) rfl
theorem cf68 : ∀ args w, (callFunc 68 args).run Tryz.prog w = .ok (.enter 68 args) w := run_cf Tryz.func68 (by kernel_rfl) rfl
theorem cf71 : ∀ args w, (callFunc 71 args).run Tryz.prog w = .ok (.enter 71 args) w := run_cf Tryz.func71 (by kernel_rfl) rfl
theorem cf72 : ∀ args w, (callFunc 72 args).run Tryz.prog w = .ok (.enter 72 args) w := run_cf Tryz.func72 (by kernel_rfl) rfl
theorem cf73 : ∀ args w, (callFunc 73 args).run Tryz.prog w = .ok (.enter 73 args) w := run_cf Tryz.func73 (by kernel_rfl) rfl
theorem cf74 : ∀ args w, (callFunc 74 args).run Tryz.prog w = .ok (.enter 74 args) w := run_cf Tryz.func74 (by kernel_rfl) rfl
theorem cf75 : ∀ args w, (callFunc 75 args).run Tryz.prog w = .ok (.enter 75 args) w := run_cf Tryz.func75 (by kernel_rfl) rfl
theorem cf76 : ∀ args w, (callFunc 76 args).run Tryz.prog w = .ok (.enter 76 args) w := run_cf Tryz.func76 (by kernel_rfl) rfl
theorem cf77 : ∀ args w, (callFunc 77 args).run Tryz.prog w = .ok (.enter 77 args) w := run_cf Tryz.func77 (by kernel_rfl) rfl
theorem cf78 : ∀ args w, (callFunc 78 args).run Tryz.prog w = .ok (.enter 78 args) w := run_cf Tryz.func78 (by kernel_rfl) rfl
theorem cf79 : ∀ args w, (callFunc 79 args).run Tryz.prog w = .ok (.enter 79 args) w := run_cf Tryz.func79 (by kernel_rfl) rfl
theorem cf80 : ∀ args w, (callFunc 80 args).run Tryz.prog w = .ok (.enter 80 args) w := run_cf Tryz.func80 (by kernel_rfl) rfl
theorem cf81 : ∀ args w, (callFunc 81 args).run Tryz.prog w = .ok (.enter 81 args) w := run_cf Tryz.func81 (by kernel_rfl) rfl
theorem cf82 : ∀ args w, (callFunc 82 args).run Tryz.prog w = .ok (.enter 82 args) w := run_cf Tryz.func82 (by kernel_rfl) rfl
theorem cf83 : ∀ args w, (callFunc 83 args).run Tryz.prog w = .ok (.enter 83 args) w := run_cf Tryz.func83 (by kernel_rfl) rfl
theorem cf84 : ∀ args w, (callFunc 84 args).run Tryz.prog w = .ok (.enter 84 args) w := run_cf Tryz.func84 (by kernel_rfl) rfl
theorem cf86 : ∀ args w, (callFunc 86 args).run Tryz.prog w = .ok (.enter 86 args) w := run_cf Tryz.func86 (by kernel_rfl) rfl
theorem cf87 : ∀ args w, (callFunc 87 args).run Tryz.prog w = .ok (.enter 87 args) w := run_cf Tryz.func87 (by kernel_rfl) rfl
theorem cf88 : ∀ args w, (callFunc 88 args).run Tryz.prog w = .ok (.enter 88 args) w := run_cf Tryz.func88 (by kernel_rfl) rfl
theorem cf100 : ∀ args w, (callFunc 100 args).run Tryz.prog w = .ok (.enter 100 args) w := run_cf Tryz.func100 (by kernel_rfl) rfl
theorem cf110 : ∀ args w, (callFunc 110 args).run Tryz.prog w = .ok (.enter 110 args) w := run_cf Tryz.func110 (by kernel_rfl) rfl
theorem cf111 : ∀ args w, (callFunc 111 args).run Tryz.prog w = .ok (.enter 111 args) w := run_cf Tryz.func111 (by kernel_rfl) rfl
theorem cf112 : ∀ args w, (callFunc 112 args).run Tryz.prog w = .ok (.enter 112 args) w := run_cf Tryz.func112 (by kernel_rfl) rfl
theorem cf113 : ∀ args w, (callFunc 113 args).run Tryz.prog w = .ok (.enter 113 args) w := run_cf Tryz.func113 (by kernel_rfl) rfl
theorem cf114 : ∀ args w, (callFunc 114 args).run Tryz.prog w = .ok (.enter 114 args) w := run_cf Tryz.func114 (by kernel_rfl) rfl
theorem cf115 : ∀ args w, (callFunc 115 args).run Tryz.prog w = .ok (.enter 115 args) w := run_cf Tryz.func115 (by kernel_rfl) rfl
theorem cf116 : ∀ args w, (callFunc 116 args).run Tryz.prog w = .ok (.enter 116 args) w := run_cf Tryz.func116 (by kernel_rfl) rfl
theorem cf117 : ∀ args w, (callFunc 117 args).run Tryz.prog w = .ok (.enter 117 args) w := run_cf Tryz.func117 (by kernel_rfl) rfl
theorem cf118 : ∀ args w, (callFunc 118 args).run Tryz.prog w = .ok (.enter 118 args) w := run_cf Tryz.func118 (by kernel_rfl) rfl
theorem cf145 : ∀ args w, (callFunc 145 args).run Tryz.prog w = .ok (.enter 145 args) w := run_cf Tryz.func145 (by kernel_rfl) rfl
theorem cf146 : ∀ args w, (callFunc 146 args).run Tryz.prog w = .ok (.enter 146 args) w := run_cf Tryz.func146 (by kernel_rfl) rfl
theorem cf149 : ∀ args w, (callFunc 149 args).run Tryz.prog w = .ok (.enter 149 args) w := run_cf Tryz.func149 (by kernel_rfl) rfl
theorem cf158 : ∀ args w, (callFunc 158 args).run Tryz.prog w = .ok (.enter 158 args) w := run_cf Tryz.func158 (by kernel_rfl) rfl
theorem cf159 : ∀ args w, (callFunc 159 args).run Tryz.prog w = .ok (.enter 159 args) w := run_cf Tryz.func159 (by kernel_rfl) rfl
theorem cf160 : ∀ args w, (callFunc 160 args).run Tryz.prog w = .ok (.enter 160 args) w := run_cf Tryz.func160 (by kernel_rfl) rfl
theorem cf162 : ∀ args w, (callFunc 162 args).run Tryz.prog w = .ok (.enter 162 args) w := run_cf Tryz.func162 (by kernel_rfl) rfl
theorem cf163 : ∀ args w, (callFunc 163 args).run Tryz.prog w = .ok (.enter 163 args) w := run_cf Tryz.func163 (by kernel_rfl) rfl
theorem cf164 : ∀ args w, (callFunc 164 args).run Tryz.prog w = .ok (.enter 164 args) w := run_cf Tryz.func164 (by kernel_rfl) rfl
theorem cf165 : ∀ args w, (callFunc 165 args).run Tryz.prog w = .ok (.enter 165 args) w := run_cf Tryz.func165 (by kernel_rfl) rfl
theorem cf166 : ∀ args w, (callFunc 166 args).run Tryz.prog w = .ok (.enter 166 args) w := run_cf Tryz.func166 (by kernel_rfl) rfl
theorem cf167 : ∀ args w, (callFunc 167 args).run Tryz.prog w = .ok (.enter 167 args) w := run_cf Tryz.func167 (by kernel_rfl) rfl
theorem cf168 : ∀ args w, (callFunc 168 args).run Tryz.prog w = .ok (.enter 168 args) w := run_cf Tryz.func168 (by kernel_rfl) rfl
theorem cf172 : ∀ args w, (callFunc 172 args).run Tryz.prog w = .ok (.enter 172 args) w := run_cf Tryz.func172 (by kernel_rfl) rfl
theorem cf173 : ∀ args w, (callFunc 173 args).run Tryz.prog w = .ok (.enter 173 args) w := run_cf Tryz.func173 (by kernel_rfl) rfl
theorem cf174 : ∀ args w, (callFunc 174 args).run Tryz.prog w = .ok (.enter 174 args) w := run_cf Tryz.func174 (by kernel_rfl) rfl
theorem cf175 : ∀ args w, (callFunc 175 args).run Tryz.prog w = .ok (.enter 175 args) w := run_cf Tryz.func175 (by kernel_rfl) rfl
theorem cf176 : ∀ args w, (callFunc 176 args).run Tryz.prog w = .ok (.enter 176 args) w := run_cf Tryz.func176 (by kernel_rfl) rfl
theorem cf188 : ∀ args w, (callFunc 188 args).run Tryz.prog w = .ok (.enter 188 args) w := run_cf Tryz.func188 (by kernel_rfl) rfl
theorem cf189 : ∀ args w, (callFunc 189 args).run Tryz.prog w = .ok (.enter 189 args) w := run_cf Tryz.func189 (by kernel_rfl) rfl
theorem cf190 : ∀ args w, (callFunc 190 args).run Tryz.prog w = .ok (.enter 190 args) w := run_cf Tryz.func190 (by kernel_rfl) rfl
theorem cf191 : ∀ args w, (callFunc 191 args).run Tryz.prog w = .ok (.enter 191 args) w := run_cf Tryz.func191 (by kernel_rfl) rfl
theorem cf192 : ∀ args w, (callFunc 192 args).run Tryz.prog w = .ok (.enter 192 args) w := run_cf Tryz.func192 (by kernel_rfl) rfl
theorem cf193 : ∀ args w, (callFunc 193 args).run Tryz.prog w = .ok (.enter 193 args) w := run_cf Tryz.func193 (by kernel_rfl) rfl
theorem cf194 : ∀ args w, (callFunc 194 args).run Tryz.prog w = .ok (.enter 194 args) w := run_cf Tryz.func194 (by kernel_rfl) rfl
theorem cf195 : ∀ args w, (callFunc 195 args).run Tryz.prog w = .ok (.enter 195 args) w := run_cf Tryz.func195 (by kernel_rfl) rfl
theorem cf196 : ∀ args w, (callFunc 196 args).run Tryz.prog w = .ok (.enter 196 args) w := run_cf Tryz.func196 (by kernel_rfl) rfl
theorem cf198 : ∀ args w, (callFunc 198 args).run Tryz.prog w = .ok (.enter 198 args) w := run_cf Tryz.func198 (by kernel_rfl) rfl
theorem cf204 : ∀ args w, (callFunc 204 args).run Tryz.prog w = .ok (.enter 204 args) w := run_cf Tryz.func204 (by kernel_rfl) rfl
theorem cf205 : ∀ args w, (callFunc 205 args).run Tryz.prog w = .ok (.enter 205 args) w := run_cf Tryz.func205 (by kernel_rfl) rfl
theorem cf206 : ∀ args w, (callFunc 206 args).run Tryz.prog w = .ok (.enter 206 args) w := run_cf Tryz.func206 (by kernel_rfl) rfl
theorem cf207 : ∀ args w, (callFunc 207 args).run Tryz.prog w = .ok (.enter 207 args) w := run_cf Tryz.func207 (by kernel_rfl) rfl
theorem cf208 : ∀ args w, (callFunc 208 args).run Tryz.prog w = .ok (.enter 208 args) w := run_cf Tryz.func208 (by kernel_rfl) rfl
theorem cf209 : ∀ args w, (callFunc 209 args).run Tryz.prog w = .ok (.enter 209 args) w := run_cf Tryz.func209 (by kernel_rfl) rfl
theorem cf210 : ∀ args w, (callFunc 210 args).run Tryz.prog w = .ok (.enter 210 args) w := run_cf Tryz.func210 (by kernel_rfl) rfl
theorem cf211 : ∀ args w, (callFunc 211 args).run Tryz.prog w = .ok (.enter 211 args) w := run_cf Tryz.func211 (by kernel_rfl) rfl
theorem cf212 : ∀ args w, (callFunc 212 args).run Tryz.prog w = .ok (.enter 212 args) w := run_cf Tryz.func212 (by kernel_rfl) rfl
theorem cf213 : ∀ args w, (callFunc 213 args).run Tryz.prog w = .ok (.enter 213 args) w := run_cf Tryz.func213 (by kernel_rfl) rfl
theorem cf214 : ∀ args w, (callFunc 214 args).run Tryz.prog w = .ok (.enter 214 args) w := run_cf Tryz.func214 (by kernel_rfl) rfl
theorem cf215 : ∀ args w, (callFunc 215 args).run Tryz.prog w = .ok (.enter 215 args) w := run_cf Tryz.func215 (by kernel_rfl) rfl
theorem cf236 : ∀ args w, (callFunc 236 args).run Tryz.prog w = .ok (.enter 236 args) w := run_cf Tryz.func236 (by kernel_rfl) rfl
theorem cf237 : ∀ args w, (callFunc 237 args).run Tryz.prog w = .ok (.enter 237 args) w := run_cf Tryz.func237 (by kernel_rfl) rfl
theorem cf238 : ∀ args w, (callFunc 238 args).run Tryz.prog w = .ok (.enter 238 args) w := run_cf Tryz.func238 (by kernel_rfl) rfl
theorem cf249 : ∀ args w, (callFunc 249 args).run Tryz.prog w = .ok (.enter 249 args) w := run_cf Tryz.func249 (by kernel_rfl) rfl
theorem cf253 : ∀ args w, (callFunc 253 args).run Tryz.prog w = .ok (.enter 253 args) w := run_cf Tryz.func253 (by kernel_rfl) rfl
theorem cf255 : ∀ args w, (callFunc 255 args).run Tryz.prog w = .ok (.enter 255 args) w := run_cf Tryz.func255 (by kernel_rfl) rfl
theorem cf265 : ∀ args w, (callFunc 265 args).run Tryz.prog w = .ok (.enter 265 args) w := run_cf Tryz.func265 (by kernel_rfl) rfl
theorem cf271 : ∀ args w, (callFunc 271 args).run Tryz.prog w = .ok (.enter 271 args) w := run_cf Tryz.func271 (by kernel_rfl) rfl
theorem cf272 : ∀ args w, (callFunc 272 args).run Tryz.prog w = .ok (.enter 272 args) w := run_cf Tryz.func272 (by kernel_rfl) rfl
theorem cf278 : ∀ args w, (callFunc 278 args).run Tryz.prog w = .ok (.enter 278 args) w := run_cf Tryz.func278 (by kernel_rfl) rfl
theorem cf280 : ∀ args w, (callFunc 280 args).run Tryz.prog w = .ok (.enter 280 args) w := run_cf Tryz.func280 (by kernel_rfl) rfl
end Go.Proofs.YtfmbgaaonfgenaaGreatDoor
