/- Closed facts on this seat's program: sizes, fields, zero values, calls. Written by a program of mine. -/
import Derived.Test.YtpmlgnbbkpplhaaGreatDoorMore
import Derived.Test.YtpmlgnbbkpplhaaGreatDoorRows
namespace Go.Proofs.YtpmlgnbbkpplhaaGreatDoor
open Go.RowKit Go.Eng

theorem sz1 : (Tryz.prog.info? 1).map (·.size) = some 1 := by kernel_rfl
theorem co1 : Tryz.prog.cellsOf 1 = 1 := by kernel_rfl
theorem bo1 : Tryz.prog.bytesOf 1 = 8 := by kernel_rfl
theorem inf1 : (Tryz.prog.info? 1).map (fun i => (i.zero, i.size, i.bytes)) = some (some (.nilFunc), 1, 8) := by kernel_rfl
theorem sz2 : (Tryz.prog.info? 2).map (·.size) = some 1 := by kernel_rfl
theorem co2 : Tryz.prog.cellsOf 2 = 1 := by kernel_rfl
theorem bo2 : Tryz.prog.bytesOf 2 = 8 := by kernel_rfl
theorem z2 : ∀ w, (zeroValue 2).run Tryz.prog w = .ok (.int .i64 0) w := fun _ => by kernel_rfl
theorem inf2 : (Tryz.prog.info? 2).map (fun i => (i.zero, i.size, i.bytes)) = some (some (.int .i64 0), 1, 8) := by kernel_rfl
theorem sz3 : (Tryz.prog.info? 3).map (·.size) = some 1 := by kernel_rfl
theorem co3 : Tryz.prog.cellsOf 3 = 1 := by kernel_rfl
theorem bo3 : Tryz.prog.bytesOf 3 = 8 := by kernel_rfl
theorem z3 : ∀ w, (zeroValue 3).run Tryz.prog w = .ok (.int .i64 0) w := fun _ => by kernel_rfl
theorem inf3 : (Tryz.prog.info? 3).map (fun i => (i.zero, i.size, i.bytes)) = some (some (.int .i64 0), 1, 8) := by kernel_rfl
theorem sz4 : (Tryz.prog.info? 4).map (·.size) = some 1 := by kernel_rfl
theorem co4 : Tryz.prog.cellsOf 4 = 1 := by kernel_rfl
theorem bo4 : Tryz.prog.bytesOf 4 = 1 := by kernel_rfl
theorem z4 : ∀ w, (zeroValue 4).run Tryz.prog w = .ok (.bool false) w := fun _ => by kernel_rfl
theorem inf4 : (Tryz.prog.info? 4).map (fun i => (i.zero, i.size, i.bytes)) = some (some (.bool false), 1, 1) := by kernel_rfl
theorem sz5 : (Tryz.prog.info? 5).map (·.size) = some 1 := by kernel_rfl
theorem co5 : Tryz.prog.cellsOf 5 = 1 := by kernel_rfl
theorem bo5 : Tryz.prog.bytesOf 5 = 1 := by kernel_rfl
theorem z5 : ∀ w, (zeroValue 5).run Tryz.prog w = .ok (.int .u8 0) w := fun _ => by kernel_rfl
theorem inf5 : (Tryz.prog.info? 5).map (fun i => (i.zero, i.size, i.bytes)) = some (some (.int .u8 0), 1, 1) := by kernel_rfl
theorem sz6 : (Tryz.prog.info? 6).map (·.size) = some 1 := by kernel_rfl
theorem co6 : Tryz.prog.cellsOf 6 = 1 := by kernel_rfl
theorem bo6 : Tryz.prog.bytesOf 6 = 1 := by kernel_rfl
theorem z6 : ∀ w, (zeroValue 6).run Tryz.prog w = .ok (.int .u8 0) w := fun _ => by kernel_rfl
theorem inf6 : (Tryz.prog.info? 6).map (fun i => (i.zero, i.size, i.bytes)) = some (some (.int .u8 0), 1, 1) := by kernel_rfl
theorem sz7 : (Tryz.prog.info? 7).map (·.size) = some 4 := by kernel_rfl
theorem co7 : Tryz.prog.cellsOf 7 = 4 := by kernel_rfl
theorem bo7 : Tryz.prog.bytesOf 7 = 24 := by kernel_rfl
theorem z7 : ∀ w, (zeroValue 7).run Tryz.prog w = .ok (.agg #[.int .i64 0, .int .i64 0, .bool false, .int .u8 0]) w := fun _ => by kernel_rfl
theorem inf7 : (Tryz.prog.info? 7).map (fun i => (i.zero, i.size, i.bytes)) = some (some (.agg #[.int .i64 0, .int .i64 0, .bool false, .int .u8 0]), 4, 24) := by kernel_rfl
theorem fa7_0 : ∀ a w, (Instr.fieldAt 7 (.pointer (some a)) 0).run Tryz.prog w = .ok (.pointer (some (a.add 0))) w := run_field (b := 1) Tryz.underlying7 rfl rfl (by kernel_rfl) (by decide)
theorem fa7_1 : ∀ a w, (Instr.fieldAt 7 (.pointer (some a)) 1).run Tryz.prog w = .ok (.pointer (some (a.add 1))) w := run_field (b := 1) Tryz.underlying7 rfl rfl (by kernel_rfl) (by decide)
theorem fa7_2 : ∀ a w, (Instr.fieldAt 7 (.pointer (some a)) 2).run Tryz.prog w = .ok (.pointer (some (a.add 2))) w := run_field (b := 1) Tryz.underlying7 rfl rfl (by kernel_rfl) (by decide)
theorem fa7_3 : ∀ a w, (Instr.fieldAt 7 (.pointer (some a)) 3).run Tryz.prog w = .ok (.pointer (some (a.add 3))) w := run_field (b := 1) Tryz.underlying7 rfl rfl (by kernel_rfl) (by decide)
theorem sz8 : (Tryz.prog.info? 8).map (·.size) = some 4 := by kernel_rfl
theorem co8 : Tryz.prog.cellsOf 8 = 4 := by kernel_rfl
theorem bo8 : Tryz.prog.bytesOf 8 = 24 := by kernel_rfl
theorem z8 : ∀ w, (zeroValue 8).run Tryz.prog w = .ok (.agg #[.int .i64 0, .int .i64 0, .bool false, .int .u8 0]) w := fun _ => by kernel_rfl
theorem inf8 : (Tryz.prog.info? 8).map (fun i => (i.zero, i.size, i.bytes)) = some (some (.agg #[.int .i64 0, .int .i64 0, .bool false, .int .u8 0]), 4, 24) := by kernel_rfl
theorem fa8_0 : ∀ a w, (Instr.fieldAt 8 (.pointer (some a)) 0).run Tryz.prog w = .ok (.pointer (some (a.add 0))) w := run_field (b := 1) Tryz.underlying8 rfl rfl (by kernel_rfl) (by decide)
theorem fa8_1 : ∀ a w, (Instr.fieldAt 8 (.pointer (some a)) 1).run Tryz.prog w = .ok (.pointer (some (a.add 1))) w := run_field (b := 1) Tryz.underlying8 rfl rfl (by kernel_rfl) (by decide)
theorem fa8_2 : ∀ a w, (Instr.fieldAt 8 (.pointer (some a)) 2).run Tryz.prog w = .ok (.pointer (some (a.add 2))) w := run_field (b := 1) Tryz.underlying8 rfl rfl (by kernel_rfl) (by decide)
theorem fa8_3 : ∀ a w, (Instr.fieldAt 8 (.pointer (some a)) 3).run Tryz.prog w = .ok (.pointer (some (a.add 3))) w := run_field (b := 1) Tryz.underlying8 rfl rfl (by kernel_rfl) (by decide)
theorem sz9 : (Tryz.prog.info? 9).map (·.size) = some 1 := by kernel_rfl
theorem co9 : Tryz.prog.cellsOf 9 = 1 := by kernel_rfl
theorem bo9 : Tryz.prog.bytesOf 9 = 16 := by kernel_rfl
theorem z9 : ∀ w, (zeroValue 9).run Tryz.prog w = .ok (.string ⟨#[]⟩) w := fun _ => by kernel_rfl
theorem inf9 : (Tryz.prog.info? 9).map (fun i => (i.zero, i.size, i.bytes)) = some (some (.string ⟨#[]⟩), 1, 16) := by kernel_rfl
theorem sz10 : (Tryz.prog.info? 10).map (·.size) = some 1 := by kernel_rfl
theorem co10 : Tryz.prog.cellsOf 10 = 1 := by kernel_rfl
theorem bo10 : Tryz.prog.bytesOf 10 = 16 := by kernel_rfl
theorem z10 : ∀ w, (zeroValue 10).run Tryz.prog w = .ok (.string ⟨#[]⟩) w := fun _ => by kernel_rfl
theorem inf10 : (Tryz.prog.info? 10).map (fun i => (i.zero, i.size, i.bytes)) = some (some (.string ⟨#[]⟩), 1, 16) := by kernel_rfl
theorem sz11 : (Tryz.prog.info? 11).map (·.size) = some 1 := by kernel_rfl
theorem co11 : Tryz.prog.cellsOf 11 = 1 := by kernel_rfl
theorem bo11 : Tryz.prog.bytesOf 11 = 16 := by kernel_rfl
theorem z11 : ∀ w, (zeroValue 11).run Tryz.prog w = .ok (.string ⟨#[]⟩) w := fun _ => by kernel_rfl
theorem inf11 : (Tryz.prog.info? 11).map (fun i => (i.zero, i.size, i.bytes)) = some (some (.string ⟨#[]⟩), 1, 16) := by kernel_rfl
theorem sz12 : (Tryz.prog.info? 12).map (·.size) = some 1 := by kernel_rfl
theorem co12 : Tryz.prog.cellsOf 12 = 1 := by kernel_rfl
theorem bo12 : Tryz.prog.bytesOf 12 = 8 := by kernel_rfl
theorem z12 : ∀ w, (zeroValue 12).run Tryz.prog w = .ok (.int .u64 0) w := fun _ => by kernel_rfl
theorem inf12 : (Tryz.prog.info? 12).map (fun i => (i.zero, i.size, i.bytes)) = some (some (.int .u64 0), 1, 8) := by kernel_rfl
theorem sz13 : (Tryz.prog.info? 13).map (·.size) = some 2 := by kernel_rfl
theorem co13 : Tryz.prog.cellsOf 13 = 2 := by kernel_rfl
theorem bo13 : Tryz.prog.bytesOf 13 = 24 := by kernel_rfl
theorem z13 : ∀ w, (zeroValue 13).run Tryz.prog w = .ok (.agg #[.string ⟨#[]⟩, .int .u64 0]) w := fun _ => by kernel_rfl
theorem inf13 : (Tryz.prog.info? 13).map (fun i => (i.zero, i.size, i.bytes)) = some (some (.agg #[.string ⟨#[]⟩, .int .u64 0]), 2, 24) := by kernel_rfl
theorem fa13_0 : ∀ a w, (Instr.fieldAt 13 (.pointer (some a)) 0).run Tryz.prog w = .ok (.pointer (some (a.add 0))) w := run_field (b := 1) Tryz.underlying13 rfl rfl (by kernel_rfl) (by decide)
theorem fa13_1 : ∀ a w, (Instr.fieldAt 13 (.pointer (some a)) 1).run Tryz.prog w = .ok (.pointer (some (a.add 1))) w := run_field (b := 1) Tryz.underlying13 rfl rfl (by kernel_rfl) (by decide)
theorem sz14 : (Tryz.prog.info? 14).map (·.size) = some 2 := by kernel_rfl
theorem co14 : Tryz.prog.cellsOf 14 = 2 := by kernel_rfl
theorem bo14 : Tryz.prog.bytesOf 14 = 24 := by kernel_rfl
theorem z14 : ∀ w, (zeroValue 14).run Tryz.prog w = .ok (.agg #[.string ⟨#[]⟩, .int .u64 0]) w := fun _ => by kernel_rfl
theorem inf14 : (Tryz.prog.info? 14).map (fun i => (i.zero, i.size, i.bytes)) = some (some (.agg #[.string ⟨#[]⟩, .int .u64 0]), 2, 24) := by kernel_rfl
theorem fa14_0 : ∀ a w, (Instr.fieldAt 14 (.pointer (some a)) 0).run Tryz.prog w = .ok (.pointer (some (a.add 0))) w := run_field (b := 1) Tryz.underlying14 rfl rfl (by kernel_rfl) (by decide)
theorem fa14_1 : ∀ a w, (Instr.fieldAt 14 (.pointer (some a)) 1).run Tryz.prog w = .ok (.pointer (some (a.add 1))) w := run_field (b := 1) Tryz.underlying14 rfl rfl (by kernel_rfl) (by decide)
theorem sz15 : (Tryz.prog.info? 15).map (·.size) = some 1 := by kernel_rfl
theorem co15 : Tryz.prog.cellsOf 15 = 1 := by kernel_rfl
theorem bo15 : Tryz.prog.bytesOf 15 = 8 := by kernel_rfl
theorem z15 : ∀ w, (zeroValue 15).run Tryz.prog w = .ok (.pointer none) w := fun _ => by kernel_rfl
theorem inf15 : (Tryz.prog.info? 15).map (fun i => (i.zero, i.size, i.bytes)) = some (some (.pointer none), 1, 8) := by kernel_rfl
theorem sz16 : (Tryz.prog.info? 16).map (·.size) = some 1 := by kernel_rfl
theorem co16 : Tryz.prog.cellsOf 16 = 1 := by kernel_rfl
theorem bo16 : Tryz.prog.bytesOf 16 = 8 := by kernel_rfl
theorem z16 : ∀ w, (zeroValue 16).run Tryz.prog w = .ok (.pointer none) w := fun _ => by kernel_rfl
theorem inf16 : (Tryz.prog.info? 16).map (fun i => (i.zero, i.size, i.bytes)) = some (some (.pointer none), 1, 8) := by kernel_rfl
theorem sz17 : (Tryz.prog.info? 17).map (·.size) = some 1 := by kernel_rfl
theorem co17 : Tryz.prog.cellsOf 17 = 1 := by kernel_rfl
theorem bo17 : Tryz.prog.bytesOf 17 = 8 := by kernel_rfl
theorem z17 : ∀ w, (zeroValue 17).run Tryz.prog w = .ok (.pointer none) w := fun _ => by kernel_rfl
theorem inf17 : (Tryz.prog.info? 17).map (fun i => (i.zero, i.size, i.bytes)) = some (some (.pointer none), 1, 8) := by kernel_rfl
theorem sz18 : (Tryz.prog.info? 18).map (·.size) = some 1 := by kernel_rfl
theorem co18 : Tryz.prog.cellsOf 18 = 1 := by kernel_rfl
theorem bo18 : Tryz.prog.bytesOf 18 = 8 := by kernel_rfl
theorem z18 : ∀ w, (zeroValue 18).run Tryz.prog w = .ok (.agg #[.pointer none]) w := fun _ => by kernel_rfl
theorem inf18 : (Tryz.prog.info? 18).map (fun i => (i.zero, i.size, i.bytes)) = some (some (.agg #[.pointer none]), 1, 8) := by kernel_rfl
theorem fa18_0 : ∀ a w, (Instr.fieldAt 18 (.pointer (some a)) 0).run Tryz.prog w = .ok (.pointer (some (a.add 0))) w := run_field (b := 1) Tryz.underlying18 rfl rfl (by kernel_rfl) (by decide)
theorem sz19 : (Tryz.prog.info? 19).map (·.size) = some 1 := by kernel_rfl
theorem co19 : Tryz.prog.cellsOf 19 = 1 := by kernel_rfl
theorem bo19 : Tryz.prog.bytesOf 19 = 8 := by kernel_rfl
theorem z19 : ∀ w, (zeroValue 19).run Tryz.prog w = .ok (.agg #[.pointer none]) w := fun _ => by kernel_rfl
theorem inf19 : (Tryz.prog.info? 19).map (fun i => (i.zero, i.size, i.bytes)) = some (some (.agg #[.pointer none]), 1, 8) := by kernel_rfl
theorem fa19_0 : ∀ a w, (Instr.fieldAt 19 (.pointer (some a)) 0).run Tryz.prog w = .ok (.pointer (some (a.add 0))) w := run_field (b := 1) Tryz.underlying19 rfl rfl (by kernel_rfl) (by decide)
theorem sz20 : (Tryz.prog.info? 20).map (·.size) = some 1 := by kernel_rfl
theorem co20 : Tryz.prog.cellsOf 20 = 1 := by kernel_rfl
theorem bo20 : Tryz.prog.bytesOf 20 = 16 := by kernel_rfl
theorem z20 : ∀ w, (zeroValue 20).run Tryz.prog w = .ok (.nilIface) w := fun _ => by kernel_rfl
theorem inf20 : (Tryz.prog.info? 20).map (fun i => (i.zero, i.size, i.bytes)) = some (some (.nilIface), 1, 16) := by kernel_rfl
theorem sz21 : (Tryz.prog.info? 21).map (·.size) = some 1 := by kernel_rfl
theorem co21 : Tryz.prog.cellsOf 21 = 1 := by kernel_rfl
theorem bo21 : Tryz.prog.bytesOf 21 = 4 := by kernel_rfl
theorem z21 : ∀ w, (zeroValue 21).run Tryz.prog w = .ok (.int .i32 0) w := fun _ => by kernel_rfl
theorem inf21 : (Tryz.prog.info? 21).map (fun i => (i.zero, i.size, i.bytes)) = some (some (.int .i32 0), 1, 4) := by kernel_rfl
theorem sz22 : (Tryz.prog.info? 22).map (·.size) = some 1 := by kernel_rfl
theorem co22 : Tryz.prog.cellsOf 22 = 1 := by kernel_rfl
theorem bo22 : Tryz.prog.bytesOf 22 = 24 := by kernel_rfl
theorem z22 : ∀ w, (zeroValue 22).run Tryz.prog w = .ok (.slice none 0 0) w := fun _ => by kernel_rfl
theorem inf22 : (Tryz.prog.info? 22).map (fun i => (i.zero, i.size, i.bytes)) = some (some (.slice none 0 0), 1, 24) := by kernel_rfl
theorem sz23 : (Tryz.prog.info? 23).map (·.size) = some 6 := by kernel_rfl
theorem co23 : Tryz.prog.cellsOf 23 = 6 := by kernel_rfl
theorem bo23 : Tryz.prog.bytesOf 23 = 80 := by kernel_rfl
theorem z23 : ∀ w, (zeroValue 23).run Tryz.prog w = .ok (.agg #[.int .i64 0, .slice none 0 0, .int .i64 0, .int .i64 0, .string ⟨#[]⟩, .string ⟨#[]⟩]) w := fun _ => by kernel_rfl
theorem inf23 : (Tryz.prog.info? 23).map (fun i => (i.zero, i.size, i.bytes)) = some (some (.agg #[.int .i64 0, .slice none 0 0, .int .i64 0, .int .i64 0, .string ⟨#[]⟩, .string ⟨#[]⟩]), 6, 80) := by kernel_rfl
theorem fa23_0 : ∀ a w, (Instr.fieldAt 23 (.pointer (some a)) 0).run Tryz.prog w = .ok (.pointer (some (a.add 0))) w := run_field (b := 1) Tryz.underlying23 rfl rfl (by kernel_rfl) (by decide)
theorem fa23_1 : ∀ a w, (Instr.fieldAt 23 (.pointer (some a)) 1).run Tryz.prog w = .ok (.pointer (some (a.add 1))) w := run_field (b := 1) Tryz.underlying23 rfl rfl (by kernel_rfl) (by decide)
theorem fa23_2 : ∀ a w, (Instr.fieldAt 23 (.pointer (some a)) 2).run Tryz.prog w = .ok (.pointer (some (a.add 2))) w := run_field (b := 1) Tryz.underlying23 rfl rfl (by kernel_rfl) (by decide)
theorem fa23_3 : ∀ a w, (Instr.fieldAt 23 (.pointer (some a)) 3).run Tryz.prog w = .ok (.pointer (some (a.add 3))) w := run_field (b := 1) Tryz.underlying23 rfl rfl (by kernel_rfl) (by decide)
theorem fa23_4 : ∀ a w, (Instr.fieldAt 23 (.pointer (some a)) 4).run Tryz.prog w = .ok (.pointer (some (a.add 4))) w := run_field (b := 1) Tryz.underlying23 rfl rfl (by kernel_rfl) (by decide)
theorem fa23_5 : ∀ a w, (Instr.fieldAt 23 (.pointer (some a)) 5).run Tryz.prog w = .ok (.pointer (some (a.add 5))) w := run_field (b := 1) Tryz.underlying23 rfl rfl (by kernel_rfl) (by decide)
theorem sz24 : (Tryz.prog.info? 24).map (·.size) = some 6 := by kernel_rfl
theorem co24 : Tryz.prog.cellsOf 24 = 6 := by kernel_rfl
theorem bo24 : Tryz.prog.bytesOf 24 = 80 := by kernel_rfl
theorem z24 : ∀ w, (zeroValue 24).run Tryz.prog w = .ok (.agg #[.int .i64 0, .slice none 0 0, .int .i64 0, .int .i64 0, .string ⟨#[]⟩, .string ⟨#[]⟩]) w := fun _ => by kernel_rfl
theorem inf24 : (Tryz.prog.info? 24).map (fun i => (i.zero, i.size, i.bytes)) = some (some (.agg #[.int .i64 0, .slice none 0 0, .int .i64 0, .int .i64 0, .string ⟨#[]⟩, .string ⟨#[]⟩]), 6, 80) := by kernel_rfl
theorem fa24_0 : ∀ a w, (Instr.fieldAt 24 (.pointer (some a)) 0).run Tryz.prog w = .ok (.pointer (some (a.add 0))) w := run_field (b := 1) Tryz.underlying24 rfl rfl (by kernel_rfl) (by decide)
theorem fa24_1 : ∀ a w, (Instr.fieldAt 24 (.pointer (some a)) 1).run Tryz.prog w = .ok (.pointer (some (a.add 1))) w := run_field (b := 1) Tryz.underlying24 rfl rfl (by kernel_rfl) (by decide)
theorem fa24_2 : ∀ a w, (Instr.fieldAt 24 (.pointer (some a)) 2).run Tryz.prog w = .ok (.pointer (some (a.add 2))) w := run_field (b := 1) Tryz.underlying24 rfl rfl (by kernel_rfl) (by decide)
theorem fa24_3 : ∀ a w, (Instr.fieldAt 24 (.pointer (some a)) 3).run Tryz.prog w = .ok (.pointer (some (a.add 3))) w := run_field (b := 1) Tryz.underlying24 rfl rfl (by kernel_rfl) (by decide)
theorem fa24_4 : ∀ a w, (Instr.fieldAt 24 (.pointer (some a)) 4).run Tryz.prog w = .ok (.pointer (some (a.add 4))) w := run_field (b := 1) Tryz.underlying24 rfl rfl (by kernel_rfl) (by decide)
theorem fa24_5 : ∀ a w, (Instr.fieldAt 24 (.pointer (some a)) 5).run Tryz.prog w = .ok (.pointer (some (a.add 5))) w := run_field (b := 1) Tryz.underlying24 rfl rfl (by kernel_rfl) (by decide)
theorem sz25 : (Tryz.prog.info? 25).map (·.size) = some 1 := by kernel_rfl
theorem co25 : Tryz.prog.cellsOf 25 = 1 := by kernel_rfl
theorem bo25 : Tryz.prog.bytesOf 25 = 24 := by kernel_rfl
theorem z25 : ∀ w, (zeroValue 25).run Tryz.prog w = .ok (.slice none 0 0) w := fun _ => by kernel_rfl
theorem inf25 : (Tryz.prog.info? 25).map (fun i => (i.zero, i.size, i.bytes)) = some (some (.slice none 0 0), 1, 24) := by kernel_rfl
theorem sz26 : (Tryz.prog.info? 26).map (·.size) = some 1 := by kernel_rfl
theorem co26 : Tryz.prog.cellsOf 26 = 1 := by kernel_rfl
theorem bo26 : Tryz.prog.bytesOf 26 = 24 := by kernel_rfl
theorem z26 : ∀ w, (zeroValue 26).run Tryz.prog w = .ok (.slice none 0 0) w := fun _ => by kernel_rfl
theorem inf26 : (Tryz.prog.info? 26).map (fun i => (i.zero, i.size, i.bytes)) = some (some (.slice none 0 0), 1, 24) := by kernel_rfl
theorem sz27 : (Tryz.prog.info? 27).map (·.size) = some 1 := by kernel_rfl
theorem co27 : Tryz.prog.cellsOf 27 = 1 := by kernel_rfl
theorem bo27 : Tryz.prog.bytesOf 27 = 24 := by kernel_rfl
theorem z27 : ∀ w, (zeroValue 27).run Tryz.prog w = .ok (.slice none 0 0) w := fun _ => by kernel_rfl
theorem inf27 : (Tryz.prog.info? 27).map (fun i => (i.zero, i.size, i.bytes)) = some (some (.slice none 0 0), 1, 24) := by kernel_rfl
theorem sz28 : (Tryz.prog.info? 28).map (·.size) = some 9 := by kernel_rfl
theorem co28 : Tryz.prog.cellsOf 28 = 9 := by kernel_rfl
theorem bo28 : Tryz.prog.bytesOf 28 = 144 := by kernel_rfl
theorem z28 : ∀ w, (zeroValue 28).run Tryz.prog w = .ok (.agg #[.string ⟨#[]⟩, .int .i64 0, .int .i64 0, .slice none 0 0, .slice none 0 0, .slice none 0 0, .string ⟨#[]⟩, .string ⟨#[]⟩, .int .i64 0]) w := fun _ => by kernel_rfl
theorem inf28 : (Tryz.prog.info? 28).map (fun i => (i.zero, i.size, i.bytes)) = some (some (.agg #[.string ⟨#[]⟩, .int .i64 0, .int .i64 0, .slice none 0 0, .slice none 0 0, .slice none 0 0, .string ⟨#[]⟩, .string ⟨#[]⟩, .int .i64 0]), 9, 144) := by kernel_rfl
theorem fa28_0 : ∀ a w, (Instr.fieldAt 28 (.pointer (some a)) 0).run Tryz.prog w = .ok (.pointer (some (a.add 0))) w := run_field (b := 1) Tryz.underlying28 rfl rfl (by kernel_rfl) (by decide)
theorem fa28_1 : ∀ a w, (Instr.fieldAt 28 (.pointer (some a)) 1).run Tryz.prog w = .ok (.pointer (some (a.add 1))) w := run_field (b := 1) Tryz.underlying28 rfl rfl (by kernel_rfl) (by decide)
theorem fa28_2 : ∀ a w, (Instr.fieldAt 28 (.pointer (some a)) 2).run Tryz.prog w = .ok (.pointer (some (a.add 2))) w := run_field (b := 1) Tryz.underlying28 rfl rfl (by kernel_rfl) (by decide)
theorem fa28_3 : ∀ a w, (Instr.fieldAt 28 (.pointer (some a)) 3).run Tryz.prog w = .ok (.pointer (some (a.add 3))) w := run_field (b := 1) Tryz.underlying28 rfl rfl (by kernel_rfl) (by decide)
theorem fa28_4 : ∀ a w, (Instr.fieldAt 28 (.pointer (some a)) 4).run Tryz.prog w = .ok (.pointer (some (a.add 4))) w := run_field (b := 1) Tryz.underlying28 rfl rfl (by kernel_rfl) (by decide)
theorem fa28_5 : ∀ a w, (Instr.fieldAt 28 (.pointer (some a)) 5).run Tryz.prog w = .ok (.pointer (some (a.add 5))) w := run_field (b := 1) Tryz.underlying28 rfl rfl (by kernel_rfl) (by decide)
theorem fa28_6 : ∀ a w, (Instr.fieldAt 28 (.pointer (some a)) 6).run Tryz.prog w = .ok (.pointer (some (a.add 6))) w := run_field (b := 1) Tryz.underlying28 rfl rfl (by kernel_rfl) (by decide)
theorem fa28_7 : ∀ a w, (Instr.fieldAt 28 (.pointer (some a)) 7).run Tryz.prog w = .ok (.pointer (some (a.add 7))) w := run_field (b := 1) Tryz.underlying28 rfl rfl (by kernel_rfl) (by decide)
theorem fa28_8 : ∀ a w, (Instr.fieldAt 28 (.pointer (some a)) 8).run Tryz.prog w = .ok (.pointer (some (a.add 8))) w := run_field (b := 1) Tryz.underlying28 rfl rfl (by kernel_rfl) (by decide)
theorem sz29 : (Tryz.prog.info? 29).map (·.size) = some 9 := by kernel_rfl
theorem co29 : Tryz.prog.cellsOf 29 = 9 := by kernel_rfl
theorem bo29 : Tryz.prog.bytesOf 29 = 144 := by kernel_rfl
theorem z29 : ∀ w, (zeroValue 29).run Tryz.prog w = .ok (.agg #[.string ⟨#[]⟩, .int .i64 0, .int .i64 0, .slice none 0 0, .slice none 0 0, .slice none 0 0, .string ⟨#[]⟩, .string ⟨#[]⟩, .int .i64 0]) w := fun _ => by kernel_rfl
theorem inf29 : (Tryz.prog.info? 29).map (fun i => (i.zero, i.size, i.bytes)) = some (some (.agg #[.string ⟨#[]⟩, .int .i64 0, .int .i64 0, .slice none 0 0, .slice none 0 0, .slice none 0 0, .string ⟨#[]⟩, .string ⟨#[]⟩, .int .i64 0]), 9, 144) := by kernel_rfl
theorem fa29_0 : ∀ a w, (Instr.fieldAt 29 (.pointer (some a)) 0).run Tryz.prog w = .ok (.pointer (some (a.add 0))) w := run_field (b := 1) Tryz.underlying29 rfl rfl (by kernel_rfl) (by decide)
theorem fa29_1 : ∀ a w, (Instr.fieldAt 29 (.pointer (some a)) 1).run Tryz.prog w = .ok (.pointer (some (a.add 1))) w := run_field (b := 1) Tryz.underlying29 rfl rfl (by kernel_rfl) (by decide)
theorem fa29_2 : ∀ a w, (Instr.fieldAt 29 (.pointer (some a)) 2).run Tryz.prog w = .ok (.pointer (some (a.add 2))) w := run_field (b := 1) Tryz.underlying29 rfl rfl (by kernel_rfl) (by decide)
theorem fa29_3 : ∀ a w, (Instr.fieldAt 29 (.pointer (some a)) 3).run Tryz.prog w = .ok (.pointer (some (a.add 3))) w := run_field (b := 1) Tryz.underlying29 rfl rfl (by kernel_rfl) (by decide)
theorem fa29_4 : ∀ a w, (Instr.fieldAt 29 (.pointer (some a)) 4).run Tryz.prog w = .ok (.pointer (some (a.add 4))) w := run_field (b := 1) Tryz.underlying29 rfl rfl (by kernel_rfl) (by decide)
theorem fa29_5 : ∀ a w, (Instr.fieldAt 29 (.pointer (some a)) 5).run Tryz.prog w = .ok (.pointer (some (a.add 5))) w := run_field (b := 1) Tryz.underlying29 rfl rfl (by kernel_rfl) (by decide)
theorem fa29_6 : ∀ a w, (Instr.fieldAt 29 (.pointer (some a)) 6).run Tryz.prog w = .ok (.pointer (some (a.add 6))) w := run_field (b := 1) Tryz.underlying29 rfl rfl (by kernel_rfl) (by decide)
theorem fa29_7 : ∀ a w, (Instr.fieldAt 29 (.pointer (some a)) 7).run Tryz.prog w = .ok (.pointer (some (a.add 7))) w := run_field (b := 1) Tryz.underlying29 rfl rfl (by kernel_rfl) (by decide)
theorem fa29_8 : ∀ a w, (Instr.fieldAt 29 (.pointer (some a)) 8).run Tryz.prog w = .ok (.pointer (some (a.add 8))) w := run_field (b := 1) Tryz.underlying29 rfl rfl (by kernel_rfl) (by decide)
theorem sz30 : (Tryz.prog.info? 30).map (·.size) = some 1 := by kernel_rfl
theorem co30 : Tryz.prog.cellsOf 30 = 1 := by kernel_rfl
theorem bo30 : Tryz.prog.bytesOf 30 = 8 := by kernel_rfl
theorem z30 : ∀ w, (zeroValue 30).run Tryz.prog w = .ok (.int .i64 0) w := fun _ => by kernel_rfl
theorem inf30 : (Tryz.prog.info? 30).map (fun i => (i.zero, i.size, i.bytes)) = some (some (.int .i64 0), 1, 8) := by kernel_rfl
theorem sz32 : (Tryz.prog.info? 32).map (·.size) = some 1 := by kernel_rfl
theorem co32 : Tryz.prog.cellsOf 32 = 1 := by kernel_rfl
theorem bo32 : Tryz.prog.bytesOf 32 = 8 := by kernel_rfl
theorem inf32 : (Tryz.prog.info? 32).map (fun i => (i.zero, i.size, i.bytes)) = some (some (.nilFunc), 1, 8) := by kernel_rfl
theorem sz33 : (Tryz.prog.info? 33).map (·.size) = some 1 := by kernel_rfl
theorem co33 : Tryz.prog.cellsOf 33 = 1 := by kernel_rfl
theorem bo33 : Tryz.prog.bytesOf 33 = 8 := by kernel_rfl
theorem inf33 : (Tryz.prog.info? 33).map (fun i => (i.zero, i.size, i.bytes)) = some (some (.nilFunc), 1, 8) := by kernel_rfl
theorem sz34 : (Tryz.prog.info? 34).map (·.size) = some 1 := by kernel_rfl
theorem co34 : Tryz.prog.cellsOf 34 = 1 := by kernel_rfl
theorem bo34 : Tryz.prog.bytesOf 34 = 8 := by kernel_rfl
theorem inf34 : (Tryz.prog.info? 34).map (fun i => (i.zero, i.size, i.bytes)) = some (some (.nilFunc), 1, 8) := by kernel_rfl
theorem sz35 : (Tryz.prog.info? 35).map (·.size) = some 1 := by kernel_rfl
theorem co35 : Tryz.prog.cellsOf 35 = 1 := by kernel_rfl
theorem bo35 : Tryz.prog.bytesOf 35 = 8 := by kernel_rfl
theorem inf35 : (Tryz.prog.info? 35).map (fun i => (i.zero, i.size, i.bytes)) = some (some (.nilFunc), 1, 8) := by kernel_rfl
theorem sz36 : (Tryz.prog.info? 36).map (·.size) = some 1 := by kernel_rfl
theorem co36 : Tryz.prog.cellsOf 36 = 1 := by kernel_rfl
theorem bo36 : Tryz.prog.bytesOf 36 = 8 := by kernel_rfl
theorem inf36 : (Tryz.prog.info? 36).map (fun i => (i.zero, i.size, i.bytes)) = some (some (.nilFunc), 1, 8) := by kernel_rfl
theorem sz37 : (Tryz.prog.info? 37).map (·.size) = some 1 := by kernel_rfl
theorem co37 : Tryz.prog.cellsOf 37 = 1 := by kernel_rfl
theorem bo37 : Tryz.prog.bytesOf 37 = 8 := by kernel_rfl
theorem inf37 : (Tryz.prog.info? 37).map (fun i => (i.zero, i.size, i.bytes)) = some (some (.nilFunc), 1, 8) := by kernel_rfl
theorem sz38 : (Tryz.prog.info? 38).map (·.size) = some 1 := by kernel_rfl
theorem co38 : Tryz.prog.cellsOf 38 = 1 := by kernel_rfl
theorem bo38 : Tryz.prog.bytesOf 38 = 8 := by kernel_rfl
theorem inf38 : (Tryz.prog.info? 38).map (fun i => (i.zero, i.size, i.bytes)) = some (some (.nilFunc), 1, 8) := by kernel_rfl
theorem sz39 : (Tryz.prog.info? 39).map (·.size) = some 1 := by kernel_rfl
theorem co39 : Tryz.prog.cellsOf 39 = 1 := by kernel_rfl
theorem bo39 : Tryz.prog.bytesOf 39 = 8 := by kernel_rfl
theorem inf39 : (Tryz.prog.info? 39).map (fun i => (i.zero, i.size, i.bytes)) = some (some (.nilFunc), 1, 8) := by kernel_rfl
theorem sz40 : (Tryz.prog.info? 40).map (·.size) = some 1 := by kernel_rfl
theorem co40 : Tryz.prog.cellsOf 40 = 1 := by kernel_rfl
theorem bo40 : Tryz.prog.bytesOf 40 = 24 := by kernel_rfl
theorem z40 : ∀ w, (zeroValue 40).run Tryz.prog w = .ok (.slice none 0 0) w := fun _ => by kernel_rfl
theorem inf40 : (Tryz.prog.info? 40).map (fun i => (i.zero, i.size, i.bytes)) = some (some (.slice none 0 0), 1, 24) := by kernel_rfl
theorem sz41 : (Tryz.prog.info? 41).map (·.size) = some 5 := by kernel_rfl
theorem co41 : Tryz.prog.cellsOf 41 = 5 := by kernel_rfl
theorem bo41 : Tryz.prog.bytesOf 41 = 64 := by kernel_rfl
theorem z41 : ∀ w, (zeroValue 41).run Tryz.prog w = .ok (.agg #[.string ⟨#[]⟩, .int .i64 0, .int .i64 0, .int .i64 0, .slice none 0 0]) w := fun _ => by kernel_rfl
theorem inf41 : (Tryz.prog.info? 41).map (fun i => (i.zero, i.size, i.bytes)) = some (some (.agg #[.string ⟨#[]⟩, .int .i64 0, .int .i64 0, .int .i64 0, .slice none 0 0]), 5, 64) := by kernel_rfl
theorem fa41_0 : ∀ a w, (Instr.fieldAt 41 (.pointer (some a)) 0).run Tryz.prog w = .ok (.pointer (some (a.add 0))) w := run_field (b := 1) Tryz.underlying41 rfl rfl (by kernel_rfl) (by decide)
theorem fa41_1 : ∀ a w, (Instr.fieldAt 41 (.pointer (some a)) 1).run Tryz.prog w = .ok (.pointer (some (a.add 1))) w := run_field (b := 1) Tryz.underlying41 rfl rfl (by kernel_rfl) (by decide)
theorem fa41_2 : ∀ a w, (Instr.fieldAt 41 (.pointer (some a)) 2).run Tryz.prog w = .ok (.pointer (some (a.add 2))) w := run_field (b := 1) Tryz.underlying41 rfl rfl (by kernel_rfl) (by decide)
theorem fa41_3 : ∀ a w, (Instr.fieldAt 41 (.pointer (some a)) 3).run Tryz.prog w = .ok (.pointer (some (a.add 3))) w := run_field (b := 1) Tryz.underlying41 rfl rfl (by kernel_rfl) (by decide)
theorem fa41_4 : ∀ a w, (Instr.fieldAt 41 (.pointer (some a)) 4).run Tryz.prog w = .ok (.pointer (some (a.add 4))) w := run_field (b := 1) Tryz.underlying41 rfl rfl (by kernel_rfl) (by decide)
theorem sz42 : (Tryz.prog.info? 42).map (·.size) = some 5 := by kernel_rfl
theorem co42 : Tryz.prog.cellsOf 42 = 5 := by kernel_rfl
theorem bo42 : Tryz.prog.bytesOf 42 = 64 := by kernel_rfl
theorem z42 : ∀ w, (zeroValue 42).run Tryz.prog w = .ok (.agg #[.string ⟨#[]⟩, .int .i64 0, .int .i64 0, .int .i64 0, .slice none 0 0]) w := fun _ => by kernel_rfl
theorem inf42 : (Tryz.prog.info? 42).map (fun i => (i.zero, i.size, i.bytes)) = some (some (.agg #[.string ⟨#[]⟩, .int .i64 0, .int .i64 0, .int .i64 0, .slice none 0 0]), 5, 64) := by kernel_rfl
theorem fa42_0 : ∀ a w, (Instr.fieldAt 42 (.pointer (some a)) 0).run Tryz.prog w = .ok (.pointer (some (a.add 0))) w := run_field (b := 1) Tryz.underlying42 rfl rfl (by kernel_rfl) (by decide)
theorem fa42_1 : ∀ a w, (Instr.fieldAt 42 (.pointer (some a)) 1).run Tryz.prog w = .ok (.pointer (some (a.add 1))) w := run_field (b := 1) Tryz.underlying42 rfl rfl (by kernel_rfl) (by decide)
theorem fa42_2 : ∀ a w, (Instr.fieldAt 42 (.pointer (some a)) 2).run Tryz.prog w = .ok (.pointer (some (a.add 2))) w := run_field (b := 1) Tryz.underlying42 rfl rfl (by kernel_rfl) (by decide)
theorem fa42_3 : ∀ a w, (Instr.fieldAt 42 (.pointer (some a)) 3).run Tryz.prog w = .ok (.pointer (some (a.add 3))) w := run_field (b := 1) Tryz.underlying42 rfl rfl (by kernel_rfl) (by decide)
theorem fa42_4 : ∀ a w, (Instr.fieldAt 42 (.pointer (some a)) 4).run Tryz.prog w = .ok (.pointer (some (a.add 4))) w := run_field (b := 1) Tryz.underlying42 rfl rfl (by kernel_rfl) (by decide)
theorem sz44 : (Tryz.prog.info? 44).map (·.size) = some 1 := by kernel_rfl
theorem co44 : Tryz.prog.cellsOf 44 = 1 := by kernel_rfl
theorem bo44 : Tryz.prog.bytesOf 44 = 8 := by kernel_rfl
theorem inf44 : (Tryz.prog.info? 44).map (fun i => (i.zero, i.size, i.bytes)) = some (some (.nilFunc), 1, 8) := by kernel_rfl
theorem sz45 : (Tryz.prog.info? 45).map (·.size) = some 1 := by kernel_rfl
theorem co45 : Tryz.prog.cellsOf 45 = 1 := by kernel_rfl
theorem bo45 : Tryz.prog.bytesOf 45 = 8 := by kernel_rfl
theorem inf45 : (Tryz.prog.info? 45).map (fun i => (i.zero, i.size, i.bytes)) = some (some (.nilFunc), 1, 8) := by kernel_rfl
theorem sz46 : (Tryz.prog.info? 46).map (·.size) = some 1 := by kernel_rfl
theorem co46 : Tryz.prog.cellsOf 46 = 1 := by kernel_rfl
theorem bo46 : Tryz.prog.bytesOf 46 = 8 := by kernel_rfl
theorem inf46 : (Tryz.prog.info? 46).map (fun i => (i.zero, i.size, i.bytes)) = some (some (.nilFunc), 1, 8) := by kernel_rfl
theorem sz48 : (Tryz.prog.info? 48).map (·.size) = some 1 := by kernel_rfl
theorem co48 : Tryz.prog.cellsOf 48 = 1 := by kernel_rfl
theorem bo48 : Tryz.prog.bytesOf 48 = 8 := by kernel_rfl
theorem inf48 : (Tryz.prog.info? 48).map (fun i => (i.zero, i.size, i.bytes)) = some (some (.nilFunc), 1, 8) := by kernel_rfl
theorem sz49 : (Tryz.prog.info? 49).map (·.size) = some 1 := by kernel_rfl
theorem co49 : Tryz.prog.cellsOf 49 = 1 := by kernel_rfl
theorem bo49 : Tryz.prog.bytesOf 49 = 8 := by kernel_rfl
theorem inf49 : (Tryz.prog.info? 49).map (fun i => (i.zero, i.size, i.bytes)) = some (some (.nilFunc), 1, 8) := by kernel_rfl
theorem sz50 : (Tryz.prog.info? 50).map (·.size) = some 1 := by kernel_rfl
theorem co50 : Tryz.prog.cellsOf 50 = 1 := by kernel_rfl
theorem bo50 : Tryz.prog.bytesOf 50 = 8 := by kernel_rfl
theorem inf50 : (Tryz.prog.info? 50).map (fun i => (i.zero, i.size, i.bytes)) = some (some (.nilFunc), 1, 8) := by kernel_rfl
theorem sz51 : (Tryz.prog.info? 51).map (·.size) = some 8 := by kernel_rfl
theorem co51 : Tryz.prog.cellsOf 51 = 8 := by kernel_rfl
theorem bo51 : Tryz.prog.bytesOf 51 = 72 := by kernel_rfl
theorem z51 : ∀ w, (zeroValue 51).run Tryz.prog w = .ok (.agg #[.int .i64 0, .int .i64 0, .string ⟨#[]⟩, .bool false, .int .i64 0, .int .i64 0, .int .i64 0, .int .i64 0]) w := fun _ => by kernel_rfl
theorem inf51 : (Tryz.prog.info? 51).map (fun i => (i.zero, i.size, i.bytes)) = some (some (.agg #[.int .i64 0, .int .i64 0, .string ⟨#[]⟩, .bool false, .int .i64 0, .int .i64 0, .int .i64 0, .int .i64 0]), 8, 72) := by kernel_rfl
theorem fa51_0 : ∀ a w, (Instr.fieldAt 51 (.pointer (some a)) 0).run Tryz.prog w = .ok (.pointer (some (a.add 0))) w := run_field (b := 1) Tryz.underlying51 rfl rfl (by kernel_rfl) (by decide)
theorem fa51_1 : ∀ a w, (Instr.fieldAt 51 (.pointer (some a)) 1).run Tryz.prog w = .ok (.pointer (some (a.add 1))) w := run_field (b := 1) Tryz.underlying51 rfl rfl (by kernel_rfl) (by decide)
theorem fa51_2 : ∀ a w, (Instr.fieldAt 51 (.pointer (some a)) 2).run Tryz.prog w = .ok (.pointer (some (a.add 2))) w := run_field (b := 1) Tryz.underlying51 rfl rfl (by kernel_rfl) (by decide)
theorem fa51_3 : ∀ a w, (Instr.fieldAt 51 (.pointer (some a)) 3).run Tryz.prog w = .ok (.pointer (some (a.add 3))) w := run_field (b := 1) Tryz.underlying51 rfl rfl (by kernel_rfl) (by decide)
theorem fa51_4 : ∀ a w, (Instr.fieldAt 51 (.pointer (some a)) 4).run Tryz.prog w = .ok (.pointer (some (a.add 4))) w := run_field (b := 1) Tryz.underlying51 rfl rfl (by kernel_rfl) (by decide)
theorem fa51_5 : ∀ a w, (Instr.fieldAt 51 (.pointer (some a)) 5).run Tryz.prog w = .ok (.pointer (some (a.add 5))) w := run_field (b := 1) Tryz.underlying51 rfl rfl (by kernel_rfl) (by decide)
theorem fa51_6 : ∀ a w, (Instr.fieldAt 51 (.pointer (some a)) 6).run Tryz.prog w = .ok (.pointer (some (a.add 6))) w := run_field (b := 1) Tryz.underlying51 rfl rfl (by kernel_rfl) (by decide)
theorem fa51_7 : ∀ a w, (Instr.fieldAt 51 (.pointer (some a)) 7).run Tryz.prog w = .ok (.pointer (some (a.add 7))) w := run_field (b := 1) Tryz.underlying51 rfl rfl (by kernel_rfl) (by decide)
theorem sz52 : (Tryz.prog.info? 52).map (·.size) = some 8 := by kernel_rfl
theorem co52 : Tryz.prog.cellsOf 52 = 8 := by kernel_rfl
theorem bo52 : Tryz.prog.bytesOf 52 = 72 := by kernel_rfl
theorem z52 : ∀ w, (zeroValue 52).run Tryz.prog w = .ok (.agg #[.int .i64 0, .int .i64 0, .string ⟨#[]⟩, .bool false, .int .i64 0, .int .i64 0, .int .i64 0, .int .i64 0]) w := fun _ => by kernel_rfl
theorem inf52 : (Tryz.prog.info? 52).map (fun i => (i.zero, i.size, i.bytes)) = some (some (.agg #[.int .i64 0, .int .i64 0, .string ⟨#[]⟩, .bool false, .int .i64 0, .int .i64 0, .int .i64 0, .int .i64 0]), 8, 72) := by kernel_rfl
theorem fa52_0 : ∀ a w, (Instr.fieldAt 52 (.pointer (some a)) 0).run Tryz.prog w = .ok (.pointer (some (a.add 0))) w := run_field (b := 1) Tryz.underlying52 rfl rfl (by kernel_rfl) (by decide)
theorem fa52_1 : ∀ a w, (Instr.fieldAt 52 (.pointer (some a)) 1).run Tryz.prog w = .ok (.pointer (some (a.add 1))) w := run_field (b := 1) Tryz.underlying52 rfl rfl (by kernel_rfl) (by decide)
theorem fa52_2 : ∀ a w, (Instr.fieldAt 52 (.pointer (some a)) 2).run Tryz.prog w = .ok (.pointer (some (a.add 2))) w := run_field (b := 1) Tryz.underlying52 rfl rfl (by kernel_rfl) (by decide)
theorem fa52_3 : ∀ a w, (Instr.fieldAt 52 (.pointer (some a)) 3).run Tryz.prog w = .ok (.pointer (some (a.add 3))) w := run_field (b := 1) Tryz.underlying52 rfl rfl (by kernel_rfl) (by decide)
theorem fa52_4 : ∀ a w, (Instr.fieldAt 52 (.pointer (some a)) 4).run Tryz.prog w = .ok (.pointer (some (a.add 4))) w := run_field (b := 1) Tryz.underlying52 rfl rfl (by kernel_rfl) (by decide)
theorem fa52_5 : ∀ a w, (Instr.fieldAt 52 (.pointer (some a)) 5).run Tryz.prog w = .ok (.pointer (some (a.add 5))) w := run_field (b := 1) Tryz.underlying52 rfl rfl (by kernel_rfl) (by decide)
theorem fa52_6 : ∀ a w, (Instr.fieldAt 52 (.pointer (some a)) 6).run Tryz.prog w = .ok (.pointer (some (a.add 6))) w := run_field (b := 1) Tryz.underlying52 rfl rfl (by kernel_rfl) (by decide)
theorem fa52_7 : ∀ a w, (Instr.fieldAt 52 (.pointer (some a)) 7).run Tryz.prog w = .ok (.pointer (some (a.add 7))) w := run_field (b := 1) Tryz.underlying52 rfl rfl (by kernel_rfl) (by decide)
theorem sz54 : (Tryz.prog.info? 54).map (·.size) = some 1 := by kernel_rfl
theorem co54 : Tryz.prog.cellsOf 54 = 1 := by kernel_rfl
theorem bo54 : Tryz.prog.bytesOf 54 = 8 := by kernel_rfl
theorem inf54 : (Tryz.prog.info? 54).map (fun i => (i.zero, i.size, i.bytes)) = some (some (.nilFunc), 1, 8) := by kernel_rfl
theorem sz55 : (Tryz.prog.info? 55).map (·.size) = some 1 := by kernel_rfl
theorem co55 : Tryz.prog.cellsOf 55 = 1 := by kernel_rfl
theorem bo55 : Tryz.prog.bytesOf 55 = 8 := by kernel_rfl
theorem inf55 : (Tryz.prog.info? 55).map (fun i => (i.zero, i.size, i.bytes)) = some (some (.nilFunc), 1, 8) := by kernel_rfl
theorem sz56 : (Tryz.prog.info? 56).map (·.size) = some 1 := by kernel_rfl
theorem co56 : Tryz.prog.cellsOf 56 = 1 := by kernel_rfl
theorem bo56 : Tryz.prog.bytesOf 56 = 8 := by kernel_rfl
theorem inf56 : (Tryz.prog.info? 56).map (fun i => (i.zero, i.size, i.bytes)) = some (some (.nilFunc), 1, 8) := by kernel_rfl
theorem sz58 : (Tryz.prog.info? 58).map (·.size) = some 1 := by kernel_rfl
theorem co58 : Tryz.prog.cellsOf 58 = 1 := by kernel_rfl
theorem bo58 : Tryz.prog.bytesOf 58 = 8 := by kernel_rfl
theorem inf58 : (Tryz.prog.info? 58).map (fun i => (i.zero, i.size, i.bytes)) = some (some (.nilFunc), 1, 8) := by kernel_rfl
theorem sz59 : (Tryz.prog.info? 59).map (·.size) = some 1 := by kernel_rfl
theorem co59 : Tryz.prog.cellsOf 59 = 1 := by kernel_rfl
theorem bo59 : Tryz.prog.bytesOf 59 = 8 := by kernel_rfl
theorem inf59 : (Tryz.prog.info? 59).map (fun i => (i.zero, i.size, i.bytes)) = some (some (.nilFunc), 1, 8) := by kernel_rfl
theorem sz60 : (Tryz.prog.info? 60).map (·.size) = some 1 := by kernel_rfl
theorem co60 : Tryz.prog.cellsOf 60 = 1 := by kernel_rfl
theorem bo60 : Tryz.prog.bytesOf 60 = 8 := by kernel_rfl
theorem inf60 : (Tryz.prog.info? 60).map (fun i => (i.zero, i.size, i.bytes)) = some (some (.nilFunc), 1, 8) := by kernel_rfl
theorem sz61 : (Tryz.prog.info? 61).map (·.size) = some 1 := by kernel_rfl
theorem co61 : Tryz.prog.cellsOf 61 = 1 := by kernel_rfl
theorem bo61 : Tryz.prog.bytesOf 61 = 8 := by kernel_rfl
theorem inf61 : (Tryz.prog.info? 61).map (fun i => (i.zero, i.size, i.bytes)) = some (some (.nilFunc), 1, 8) := by kernel_rfl
theorem sz62 : (Tryz.prog.info? 62).map (·.size) = some 1 := by kernel_rfl
theorem co62 : Tryz.prog.cellsOf 62 = 1 := by kernel_rfl
theorem bo62 : Tryz.prog.bytesOf 62 = 8 := by kernel_rfl
theorem inf62 : (Tryz.prog.info? 62).map (fun i => (i.zero, i.size, i.bytes)) = some (some (.nilFunc), 1, 8) := by kernel_rfl
theorem sz64 : (Tryz.prog.info? 64).map (·.size) = some 1 := by kernel_rfl
theorem co64 : Tryz.prog.cellsOf 64 = 1 := by kernel_rfl
theorem bo64 : Tryz.prog.bytesOf 64 = 8 := by kernel_rfl
theorem inf64 : (Tryz.prog.info? 64).map (fun i => (i.zero, i.size, i.bytes)) = some (some (.nilFunc), 1, 8) := by kernel_rfl
theorem sz65 : (Tryz.prog.info? 65).map (·.size) = some 1 := by kernel_rfl
theorem co65 : Tryz.prog.cellsOf 65 = 1 := by kernel_rfl
theorem bo65 : Tryz.prog.bytesOf 65 = 8 := by kernel_rfl
theorem inf65 : (Tryz.prog.info? 65).map (fun i => (i.zero, i.size, i.bytes)) = some (some (.nilFunc), 1, 8) := by kernel_rfl
theorem sz66 : (Tryz.prog.info? 66).map (·.size) = some 1 := by kernel_rfl
theorem co66 : Tryz.prog.cellsOf 66 = 1 := by kernel_rfl
theorem bo66 : Tryz.prog.bytesOf 66 = 8 := by kernel_rfl
theorem inf66 : (Tryz.prog.info? 66).map (fun i => (i.zero, i.size, i.bytes)) = some (some (.nilFunc), 1, 8) := by kernel_rfl
theorem sz67 : (Tryz.prog.info? 67).map (·.size) = some 1 := by kernel_rfl
theorem co67 : Tryz.prog.cellsOf 67 = 1 := by kernel_rfl
theorem bo67 : Tryz.prog.bytesOf 67 = 8 := by kernel_rfl
theorem inf67 : (Tryz.prog.info? 67).map (fun i => (i.zero, i.size, i.bytes)) = some (some (.nilFunc), 1, 8) := by kernel_rfl
theorem sz68 : (Tryz.prog.info? 68).map (·.size) = some 1 := by kernel_rfl
theorem co68 : Tryz.prog.cellsOf 68 = 1 := by kernel_rfl
theorem bo68 : Tryz.prog.bytesOf 68 = 8 := by kernel_rfl
theorem inf68 : (Tryz.prog.info? 68).map (fun i => (i.zero, i.size, i.bytes)) = some (some (.nilFunc), 1, 8) := by kernel_rfl
theorem sz69 : (Tryz.prog.info? 69).map (·.size) = some 1 := by kernel_rfl
theorem co69 : Tryz.prog.cellsOf 69 = 1 := by kernel_rfl
theorem bo69 : Tryz.prog.bytesOf 69 = 8 := by kernel_rfl
theorem inf69 : (Tryz.prog.info? 69).map (fun i => (i.zero, i.size, i.bytes)) = some (some (.nilFunc), 1, 8) := by kernel_rfl
theorem sz70 : (Tryz.prog.info? 70).map (·.size) = some 1 := by kernel_rfl
theorem co70 : Tryz.prog.cellsOf 70 = 1 := by kernel_rfl
theorem bo70 : Tryz.prog.bytesOf 70 = 8 := by kernel_rfl
theorem inf70 : (Tryz.prog.info? 70).map (fun i => (i.zero, i.size, i.bytes)) = some (some (.nilFunc), 1, 8) := by kernel_rfl
theorem sz71 : (Tryz.prog.info? 71).map (·.size) = some 1 := by kernel_rfl
theorem co71 : Tryz.prog.cellsOf 71 = 1 := by kernel_rfl
theorem bo71 : Tryz.prog.bytesOf 71 = 8 := by kernel_rfl
theorem inf71 : (Tryz.prog.info? 71).map (fun i => (i.zero, i.size, i.bytes)) = some (some (.nilFunc), 1, 8) := by kernel_rfl
theorem sz72 : (Tryz.prog.info? 72).map (·.size) = some 1 := by kernel_rfl
theorem co72 : Tryz.prog.cellsOf 72 = 1 := by kernel_rfl
theorem bo72 : Tryz.prog.bytesOf 72 = 8 := by kernel_rfl
theorem inf72 : (Tryz.prog.info? 72).map (fun i => (i.zero, i.size, i.bytes)) = some (some (.nilFunc), 1, 8) := by kernel_rfl
theorem sz73 : (Tryz.prog.info? 73).map (·.size) = some 1 := by kernel_rfl
theorem co73 : Tryz.prog.cellsOf 73 = 1 := by kernel_rfl
theorem bo73 : Tryz.prog.bytesOf 73 = 8 := by kernel_rfl
theorem inf73 : (Tryz.prog.info? 73).map (fun i => (i.zero, i.size, i.bytes)) = some (some (.nilFunc), 1, 8) := by kernel_rfl
theorem sz74 : (Tryz.prog.info? 74).map (·.size) = some 1 := by kernel_rfl
theorem co74 : Tryz.prog.cellsOf 74 = 1 := by kernel_rfl
theorem bo74 : Tryz.prog.bytesOf 74 = 24 := by kernel_rfl
theorem z74 : ∀ w, (zeroValue 74).run Tryz.prog w = .ok (.slice none 0 0) w := fun _ => by kernel_rfl
theorem inf74 : (Tryz.prog.info? 74).map (fun i => (i.zero, i.size, i.bytes)) = some (some (.slice none 0 0), 1, 24) := by kernel_rfl
theorem sz75 : (Tryz.prog.info? 75).map (·.size) = some 1 := by kernel_rfl
theorem co75 : Tryz.prog.cellsOf 75 = 1 := by kernel_rfl
theorem bo75 : Tryz.prog.bytesOf 75 = 24 := by kernel_rfl
theorem z75 : ∀ w, (zeroValue 75).run Tryz.prog w = .ok (.slice none 0 0) w := fun _ => by kernel_rfl
theorem inf75 : (Tryz.prog.info? 75).map (fun i => (i.zero, i.size, i.bytes)) = some (some (.slice none 0 0), 1, 24) := by kernel_rfl
theorem sz77 : (Tryz.prog.info? 77).map (·.size) = some 1 := by kernel_rfl
theorem co77 : Tryz.prog.cellsOf 77 = 1 := by kernel_rfl
theorem bo77 : Tryz.prog.bytesOf 77 = 8 := by kernel_rfl
theorem inf77 : (Tryz.prog.info? 77).map (fun i => (i.zero, i.size, i.bytes)) = some (some (.nilFunc), 1, 8) := by kernel_rfl
theorem sz78 : (Tryz.prog.info? 78).map (·.size) = some 1 := by kernel_rfl
theorem co78 : Tryz.prog.cellsOf 78 = 1 := by kernel_rfl
theorem bo78 : Tryz.prog.bytesOf 78 = 8 := by kernel_rfl
theorem inf78 : (Tryz.prog.info? 78).map (fun i => (i.zero, i.size, i.bytes)) = some (some (.nilFunc), 1, 8) := by kernel_rfl
theorem sz79 : (Tryz.prog.info? 79).map (·.size) = some 1 := by kernel_rfl
theorem co79 : Tryz.prog.cellsOf 79 = 1 := by kernel_rfl
theorem bo79 : Tryz.prog.bytesOf 79 = 8 := by kernel_rfl
theorem inf79 : (Tryz.prog.info? 79).map (fun i => (i.zero, i.size, i.bytes)) = some (some (.nilFunc), 1, 8) := by kernel_rfl
theorem sz80 : (Tryz.prog.info? 80).map (·.size) = some 1 := by kernel_rfl
theorem co80 : Tryz.prog.cellsOf 80 = 1 := by kernel_rfl
theorem bo80 : Tryz.prog.bytesOf 80 = 8 := by kernel_rfl
theorem inf80 : (Tryz.prog.info? 80).map (fun i => (i.zero, i.size, i.bytes)) = some (some (.nilFunc), 1, 8) := by kernel_rfl
theorem sz81 : (Tryz.prog.info? 81).map (·.size) = some 1 := by kernel_rfl
theorem co81 : Tryz.prog.cellsOf 81 = 1 := by kernel_rfl
theorem bo81 : Tryz.prog.bytesOf 81 = 8 := by kernel_rfl
theorem inf81 : (Tryz.prog.info? 81).map (fun i => (i.zero, i.size, i.bytes)) = some (some (.nilFunc), 1, 8) := by kernel_rfl
theorem sz82 : (Tryz.prog.info? 82).map (·.size) = some 2 := by kernel_rfl
theorem co82 : Tryz.prog.cellsOf 82 = 2 := by kernel_rfl
theorem bo82 : Tryz.prog.bytesOf 82 = 24 := by kernel_rfl
theorem z82 : ∀ w, (zeroValue 82).run Tryz.prog w = .ok (.agg #[.string ⟨#[]⟩, .int .i64 0]) w := fun _ => by kernel_rfl
theorem inf82 : (Tryz.prog.info? 82).map (fun i => (i.zero, i.size, i.bytes)) = some (some (.agg #[.string ⟨#[]⟩, .int .i64 0]), 2, 24) := by kernel_rfl
theorem fa82_0 : ∀ a w, (Instr.fieldAt 82 (.pointer (some a)) 0).run Tryz.prog w = .ok (.pointer (some (a.add 0))) w := run_field (b := 1) Tryz.underlying82 rfl rfl (by kernel_rfl) (by decide)
theorem fa82_1 : ∀ a w, (Instr.fieldAt 82 (.pointer (some a)) 1).run Tryz.prog w = .ok (.pointer (some (a.add 1))) w := run_field (b := 1) Tryz.underlying82 rfl rfl (by kernel_rfl) (by decide)
theorem sz83 : (Tryz.prog.info? 83).map (·.size) = some 2 := by kernel_rfl
theorem co83 : Tryz.prog.cellsOf 83 = 2 := by kernel_rfl
theorem bo83 : Tryz.prog.bytesOf 83 = 24 := by kernel_rfl
theorem z83 : ∀ w, (zeroValue 83).run Tryz.prog w = .ok (.agg #[.string ⟨#[]⟩, .int .i64 0]) w := fun _ => by kernel_rfl
theorem inf83 : (Tryz.prog.info? 83).map (fun i => (i.zero, i.size, i.bytes)) = some (some (.agg #[.string ⟨#[]⟩, .int .i64 0]), 2, 24) := by kernel_rfl
theorem fa83_0 : ∀ a w, (Instr.fieldAt 83 (.pointer (some a)) 0).run Tryz.prog w = .ok (.pointer (some (a.add 0))) w := run_field (b := 1) Tryz.underlying83 rfl rfl (by kernel_rfl) (by decide)
theorem fa83_1 : ∀ a w, (Instr.fieldAt 83 (.pointer (some a)) 1).run Tryz.prog w = .ok (.pointer (some (a.add 1))) w := run_field (b := 1) Tryz.underlying83 rfl rfl (by kernel_rfl) (by decide)
theorem sz84 : (Tryz.prog.info? 84).map (·.size) = some 1 := by kernel_rfl
theorem co84 : Tryz.prog.cellsOf 84 = 1 := by kernel_rfl
theorem bo84 : Tryz.prog.bytesOf 84 = 8 := by kernel_rfl
theorem inf84 : (Tryz.prog.info? 84).map (fun i => (i.zero, i.size, i.bytes)) = some (some (.nilFunc), 1, 8) := by kernel_rfl
theorem sz85 : (Tryz.prog.info? 85).map (·.size) = some 1 := by kernel_rfl
theorem co85 : Tryz.prog.cellsOf 85 = 1 := by kernel_rfl
theorem bo85 : Tryz.prog.bytesOf 85 = 24 := by kernel_rfl
theorem z85 : ∀ w, (zeroValue 85).run Tryz.prog w = .ok (.slice none 0 0) w := fun _ => by kernel_rfl
theorem inf85 : (Tryz.prog.info? 85).map (fun i => (i.zero, i.size, i.bytes)) = some (some (.slice none 0 0), 1, 24) := by kernel_rfl
theorem sz86 : (Tryz.prog.info? 86).map (·.size) = some 5 := by kernel_rfl
theorem co86 : Tryz.prog.cellsOf 86 = 5 := by kernel_rfl
theorem bo86 : Tryz.prog.bytesOf 86 = 56 := by kernel_rfl
theorem z86 : ∀ w, (zeroValue 86).run Tryz.prog w = .ok (.agg #[.int .i64 0, .int .i64 0, .string ⟨#[]⟩, .int .i64 0, .string ⟨#[]⟩]) w := fun _ => by kernel_rfl
theorem inf86 : (Tryz.prog.info? 86).map (fun i => (i.zero, i.size, i.bytes)) = some (some (.agg #[.int .i64 0, .int .i64 0, .string ⟨#[]⟩, .int .i64 0, .string ⟨#[]⟩]), 5, 56) := by kernel_rfl
theorem fa86_0 : ∀ a w, (Instr.fieldAt 86 (.pointer (some a)) 0).run Tryz.prog w = .ok (.pointer (some (a.add 0))) w := run_field (b := 1) Tryz.underlying86 rfl rfl (by kernel_rfl) (by decide)
theorem fa86_1 : ∀ a w, (Instr.fieldAt 86 (.pointer (some a)) 1).run Tryz.prog w = .ok (.pointer (some (a.add 1))) w := run_field (b := 1) Tryz.underlying86 rfl rfl (by kernel_rfl) (by decide)
theorem fa86_2 : ∀ a w, (Instr.fieldAt 86 (.pointer (some a)) 2).run Tryz.prog w = .ok (.pointer (some (a.add 2))) w := run_field (b := 1) Tryz.underlying86 rfl rfl (by kernel_rfl) (by decide)
theorem fa86_3 : ∀ a w, (Instr.fieldAt 86 (.pointer (some a)) 3).run Tryz.prog w = .ok (.pointer (some (a.add 3))) w := run_field (b := 1) Tryz.underlying86 rfl rfl (by kernel_rfl) (by decide)
theorem fa86_4 : ∀ a w, (Instr.fieldAt 86 (.pointer (some a)) 4).run Tryz.prog w = .ok (.pointer (some (a.add 4))) w := run_field (b := 1) Tryz.underlying86 rfl rfl (by kernel_rfl) (by decide)
theorem sz87 : (Tryz.prog.info? 87).map (·.size) = some 5 := by kernel_rfl
theorem co87 : Tryz.prog.cellsOf 87 = 5 := by kernel_rfl
theorem bo87 : Tryz.prog.bytesOf 87 = 56 := by kernel_rfl
theorem z87 : ∀ w, (zeroValue 87).run Tryz.prog w = .ok (.agg #[.int .i64 0, .int .i64 0, .string ⟨#[]⟩, .int .i64 0, .string ⟨#[]⟩]) w := fun _ => by kernel_rfl
theorem inf87 : (Tryz.prog.info? 87).map (fun i => (i.zero, i.size, i.bytes)) = some (some (.agg #[.int .i64 0, .int .i64 0, .string ⟨#[]⟩, .int .i64 0, .string ⟨#[]⟩]), 5, 56) := by kernel_rfl
theorem fa87_0 : ∀ a w, (Instr.fieldAt 87 (.pointer (some a)) 0).run Tryz.prog w = .ok (.pointer (some (a.add 0))) w := run_field (b := 1) Tryz.underlying87 rfl rfl (by kernel_rfl) (by decide)
theorem fa87_1 : ∀ a w, (Instr.fieldAt 87 (.pointer (some a)) 1).run Tryz.prog w = .ok (.pointer (some (a.add 1))) w := run_field (b := 1) Tryz.underlying87 rfl rfl (by kernel_rfl) (by decide)
theorem fa87_2 : ∀ a w, (Instr.fieldAt 87 (.pointer (some a)) 2).run Tryz.prog w = .ok (.pointer (some (a.add 2))) w := run_field (b := 1) Tryz.underlying87 rfl rfl (by kernel_rfl) (by decide)
theorem fa87_3 : ∀ a w, (Instr.fieldAt 87 (.pointer (some a)) 3).run Tryz.prog w = .ok (.pointer (some (a.add 3))) w := run_field (b := 1) Tryz.underlying87 rfl rfl (by kernel_rfl) (by decide)
theorem fa87_4 : ∀ a w, (Instr.fieldAt 87 (.pointer (some a)) 4).run Tryz.prog w = .ok (.pointer (some (a.add 4))) w := run_field (b := 1) Tryz.underlying87 rfl rfl (by kernel_rfl) (by decide)
theorem sz88 : (Tryz.prog.info? 88).map (·.size) = some 1 := by kernel_rfl
theorem co88 : Tryz.prog.cellsOf 88 = 1 := by kernel_rfl
theorem bo88 : Tryz.prog.bytesOf 88 = 8 := by kernel_rfl
theorem inf88 : (Tryz.prog.info? 88).map (fun i => (i.zero, i.size, i.bytes)) = some (some (.nilFunc), 1, 8) := by kernel_rfl
theorem sz89 : (Tryz.prog.info? 89).map (·.size) = some 1 := by kernel_rfl
theorem co89 : Tryz.prog.cellsOf 89 = 1 := by kernel_rfl
theorem bo89 : Tryz.prog.bytesOf 89 = 24 := by kernel_rfl
theorem z89 : ∀ w, (zeroValue 89).run Tryz.prog w = .ok (.slice none 0 0) w := fun _ => by kernel_rfl
theorem inf89 : (Tryz.prog.info? 89).map (fun i => (i.zero, i.size, i.bytes)) = some (some (.slice none 0 0), 1, 24) := by kernel_rfl
theorem sz91 : (Tryz.prog.info? 91).map (·.size) = some 1 := by kernel_rfl
theorem co91 : Tryz.prog.cellsOf 91 = 1 := by kernel_rfl
theorem bo91 : Tryz.prog.bytesOf 91 = 8 := by kernel_rfl
theorem inf91 : (Tryz.prog.info? 91).map (fun i => (i.zero, i.size, i.bytes)) = some (some (.nilFunc), 1, 8) := by kernel_rfl
theorem sz92 : (Tryz.prog.info? 92).map (·.size) = some 1 := by kernel_rfl
theorem co92 : Tryz.prog.cellsOf 92 = 1 := by kernel_rfl
theorem bo92 : Tryz.prog.bytesOf 92 = 8 := by kernel_rfl
theorem inf92 : (Tryz.prog.info? 92).map (fun i => (i.zero, i.size, i.bytes)) = some (some (.nilFunc), 1, 8) := by kernel_rfl
theorem sz93 : (Tryz.prog.info? 93).map (·.size) = some 1 := by kernel_rfl
theorem co93 : Tryz.prog.cellsOf 93 = 1 := by kernel_rfl
theorem bo93 : Tryz.prog.bytesOf 93 = 8 := by kernel_rfl
theorem inf93 : (Tryz.prog.info? 93).map (fun i => (i.zero, i.size, i.bytes)) = some (some (.nilFunc), 1, 8) := by kernel_rfl
theorem sz94 : (Tryz.prog.info? 94).map (·.size) = some 1 := by kernel_rfl
theorem co94 : Tryz.prog.cellsOf 94 = 1 := by kernel_rfl
theorem bo94 : Tryz.prog.bytesOf 94 = 8 := by kernel_rfl
theorem inf94 : (Tryz.prog.info? 94).map (fun i => (i.zero, i.size, i.bytes)) = some (some (.nilFunc), 1, 8) := by kernel_rfl
theorem sz95 : (Tryz.prog.info? 95).map (·.size) = some 9 := by kernel_rfl
theorem co95 : Tryz.prog.cellsOf 95 = 9 := by kernel_rfl
theorem bo95 : Tryz.prog.bytesOf 95 = 80 := by kernel_rfl
theorem z95 : ∀ w, (zeroValue 95).run Tryz.prog w = .ok (.agg #[.string ⟨#[]⟩, .int .i64 0, .int .i64 0, .int .i64 0, .int .i64 0, .int .i64 0, .int .i64 0, .int .i64 0, .int .i64 0]) w := fun _ => by kernel_rfl
theorem inf95 : (Tryz.prog.info? 95).map (fun i => (i.zero, i.size, i.bytes)) = some (some (.agg #[.string ⟨#[]⟩, .int .i64 0, .int .i64 0, .int .i64 0, .int .i64 0, .int .i64 0, .int .i64 0, .int .i64 0, .int .i64 0]), 9, 80) := by kernel_rfl
theorem fa95_0 : ∀ a w, (Instr.fieldAt 95 (.pointer (some a)) 0).run Tryz.prog w = .ok (.pointer (some (a.add 0))) w := run_field (b := 1) Tryz.underlying95 rfl rfl (by kernel_rfl) (by decide)
theorem fa95_1 : ∀ a w, (Instr.fieldAt 95 (.pointer (some a)) 1).run Tryz.prog w = .ok (.pointer (some (a.add 1))) w := run_field (b := 1) Tryz.underlying95 rfl rfl (by kernel_rfl) (by decide)
theorem fa95_2 : ∀ a w, (Instr.fieldAt 95 (.pointer (some a)) 2).run Tryz.prog w = .ok (.pointer (some (a.add 2))) w := run_field (b := 1) Tryz.underlying95 rfl rfl (by kernel_rfl) (by decide)
theorem fa95_3 : ∀ a w, (Instr.fieldAt 95 (.pointer (some a)) 3).run Tryz.prog w = .ok (.pointer (some (a.add 3))) w := run_field (b := 1) Tryz.underlying95 rfl rfl (by kernel_rfl) (by decide)
theorem fa95_4 : ∀ a w, (Instr.fieldAt 95 (.pointer (some a)) 4).run Tryz.prog w = .ok (.pointer (some (a.add 4))) w := run_field (b := 1) Tryz.underlying95 rfl rfl (by kernel_rfl) (by decide)
theorem fa95_5 : ∀ a w, (Instr.fieldAt 95 (.pointer (some a)) 5).run Tryz.prog w = .ok (.pointer (some (a.add 5))) w := run_field (b := 1) Tryz.underlying95 rfl rfl (by kernel_rfl) (by decide)
theorem fa95_6 : ∀ a w, (Instr.fieldAt 95 (.pointer (some a)) 6).run Tryz.prog w = .ok (.pointer (some (a.add 6))) w := run_field (b := 1) Tryz.underlying95 rfl rfl (by kernel_rfl) (by decide)
theorem fa95_7 : ∀ a w, (Instr.fieldAt 95 (.pointer (some a)) 7).run Tryz.prog w = .ok (.pointer (some (a.add 7))) w := run_field (b := 1) Tryz.underlying95 rfl rfl (by kernel_rfl) (by decide)
theorem fa95_8 : ∀ a w, (Instr.fieldAt 95 (.pointer (some a)) 8).run Tryz.prog w = .ok (.pointer (some (a.add 8))) w := run_field (b := 1) Tryz.underlying95 rfl rfl (by kernel_rfl) (by decide)
theorem sz96 : (Tryz.prog.info? 96).map (·.size) = some 9 := by kernel_rfl
theorem co96 : Tryz.prog.cellsOf 96 = 9 := by kernel_rfl
theorem bo96 : Tryz.prog.bytesOf 96 = 80 := by kernel_rfl
theorem z96 : ∀ w, (zeroValue 96).run Tryz.prog w = .ok (.agg #[.string ⟨#[]⟩, .int .i64 0, .int .i64 0, .int .i64 0, .int .i64 0, .int .i64 0, .int .i64 0, .int .i64 0, .int .i64 0]) w := fun _ => by kernel_rfl
theorem inf96 : (Tryz.prog.info? 96).map (fun i => (i.zero, i.size, i.bytes)) = some (some (.agg #[.string ⟨#[]⟩, .int .i64 0, .int .i64 0, .int .i64 0, .int .i64 0, .int .i64 0, .int .i64 0, .int .i64 0, .int .i64 0]), 9, 80) := by kernel_rfl
theorem fa96_0 : ∀ a w, (Instr.fieldAt 96 (.pointer (some a)) 0).run Tryz.prog w = .ok (.pointer (some (a.add 0))) w := run_field (b := 1) Tryz.underlying96 rfl rfl (by kernel_rfl) (by decide)
theorem fa96_1 : ∀ a w, (Instr.fieldAt 96 (.pointer (some a)) 1).run Tryz.prog w = .ok (.pointer (some (a.add 1))) w := run_field (b := 1) Tryz.underlying96 rfl rfl (by kernel_rfl) (by decide)
theorem fa96_2 : ∀ a w, (Instr.fieldAt 96 (.pointer (some a)) 2).run Tryz.prog w = .ok (.pointer (some (a.add 2))) w := run_field (b := 1) Tryz.underlying96 rfl rfl (by kernel_rfl) (by decide)
theorem fa96_3 : ∀ a w, (Instr.fieldAt 96 (.pointer (some a)) 3).run Tryz.prog w = .ok (.pointer (some (a.add 3))) w := run_field (b := 1) Tryz.underlying96 rfl rfl (by kernel_rfl) (by decide)
theorem fa96_4 : ∀ a w, (Instr.fieldAt 96 (.pointer (some a)) 4).run Tryz.prog w = .ok (.pointer (some (a.add 4))) w := run_field (b := 1) Tryz.underlying96 rfl rfl (by kernel_rfl) (by decide)
theorem fa96_5 : ∀ a w, (Instr.fieldAt 96 (.pointer (some a)) 5).run Tryz.prog w = .ok (.pointer (some (a.add 5))) w := run_field (b := 1) Tryz.underlying96 rfl rfl (by kernel_rfl) (by decide)
theorem fa96_6 : ∀ a w, (Instr.fieldAt 96 (.pointer (some a)) 6).run Tryz.prog w = .ok (.pointer (some (a.add 6))) w := run_field (b := 1) Tryz.underlying96 rfl rfl (by kernel_rfl) (by decide)
theorem fa96_7 : ∀ a w, (Instr.fieldAt 96 (.pointer (some a)) 7).run Tryz.prog w = .ok (.pointer (some (a.add 7))) w := run_field (b := 1) Tryz.underlying96 rfl rfl (by kernel_rfl) (by decide)
theorem fa96_8 : ∀ a w, (Instr.fieldAt 96 (.pointer (some a)) 8).run Tryz.prog w = .ok (.pointer (some (a.add 8))) w := run_field (b := 1) Tryz.underlying96 rfl rfl (by kernel_rfl) (by decide)
theorem sz97 : (Tryz.prog.info? 97).map (·.size) = some 1 := by kernel_rfl
theorem co97 : Tryz.prog.cellsOf 97 = 1 := by kernel_rfl
theorem bo97 : Tryz.prog.bytesOf 97 = 8 := by kernel_rfl
theorem inf97 : (Tryz.prog.info? 97).map (fun i => (i.zero, i.size, i.bytes)) = some (some (.nilFunc), 1, 8) := by kernel_rfl
theorem sz98 : (Tryz.prog.info? 98).map (·.size) = some 1 := by kernel_rfl
theorem co98 : Tryz.prog.cellsOf 98 = 1 := by kernel_rfl
theorem bo98 : Tryz.prog.bytesOf 98 = 8 := by kernel_rfl
theorem inf98 : (Tryz.prog.info? 98).map (fun i => (i.zero, i.size, i.bytes)) = some (some (.nilFunc), 1, 8) := by kernel_rfl
theorem sz99 : (Tryz.prog.info? 99).map (·.size) = some 1 := by kernel_rfl
theorem co99 : Tryz.prog.cellsOf 99 = 1 := by kernel_rfl
theorem bo99 : Tryz.prog.bytesOf 99 = 8 := by kernel_rfl
theorem inf99 : (Tryz.prog.info? 99).map (fun i => (i.zero, i.size, i.bytes)) = some (some (.nilFunc), 1, 8) := by kernel_rfl
theorem sz100 : (Tryz.prog.info? 100).map (·.size) = some 1 := by kernel_rfl
theorem co100 : Tryz.prog.cellsOf 100 = 1 := by kernel_rfl
theorem bo100 : Tryz.prog.bytesOf 100 = 24 := by kernel_rfl
theorem z100 : ∀ w, (zeroValue 100).run Tryz.prog w = .ok (.slice none 0 0) w := fun _ => by kernel_rfl
theorem inf100 : (Tryz.prog.info? 100).map (fun i => (i.zero, i.size, i.bytes)) = some (some (.slice none 0 0), 1, 24) := by kernel_rfl
theorem sz101 : (Tryz.prog.info? 101).map (·.size) = some 1 := by kernel_rfl
theorem co101 : Tryz.prog.cellsOf 101 = 1 := by kernel_rfl
theorem bo101 : Tryz.prog.bytesOf 101 = 8 := by kernel_rfl
theorem inf101 : (Tryz.prog.info? 101).map (fun i => (i.zero, i.size, i.bytes)) = some (some (.nilFunc), 1, 8) := by kernel_rfl
theorem sz102 : (Tryz.prog.info? 102).map (·.size) = some 1 := by kernel_rfl
theorem co102 : Tryz.prog.cellsOf 102 = 1 := by kernel_rfl
theorem bo102 : Tryz.prog.bytesOf 102 = 8 := by kernel_rfl
theorem inf102 : (Tryz.prog.info? 102).map (fun i => (i.zero, i.size, i.bytes)) = some (some (.nilFunc), 1, 8) := by kernel_rfl
theorem sz103 : (Tryz.prog.info? 103).map (·.size) = some 2 := by kernel_rfl
theorem co103 : Tryz.prog.cellsOf 103 = 2 := by kernel_rfl
theorem bo103 : Tryz.prog.bytesOf 103 = 32 := by kernel_rfl
theorem z103 : ∀ w, (zeroValue 103).run Tryz.prog w = .ok (.agg #[.string ⟨#[]⟩, .string ⟨#[]⟩]) w := fun _ => by kernel_rfl
theorem inf103 : (Tryz.prog.info? 103).map (fun i => (i.zero, i.size, i.bytes)) = some (some (.agg #[.string ⟨#[]⟩, .string ⟨#[]⟩]), 2, 32) := by kernel_rfl
theorem fa103_0 : ∀ a w, (Instr.fieldAt 103 (.pointer (some a)) 0).run Tryz.prog w = .ok (.pointer (some (a.add 0))) w := run_field (b := 1) Tryz.underlying103 rfl rfl (by kernel_rfl) (by decide)
theorem fa103_1 : ∀ a w, (Instr.fieldAt 103 (.pointer (some a)) 1).run Tryz.prog w = .ok (.pointer (some (a.add 1))) w := run_field (b := 1) Tryz.underlying103 rfl rfl (by kernel_rfl) (by decide)
theorem sz104 : (Tryz.prog.info? 104).map (·.size) = some 2 := by kernel_rfl
theorem co104 : Tryz.prog.cellsOf 104 = 2 := by kernel_rfl
theorem bo104 : Tryz.prog.bytesOf 104 = 32 := by kernel_rfl
theorem z104 : ∀ w, (zeroValue 104).run Tryz.prog w = .ok (.agg #[.string ⟨#[]⟩, .string ⟨#[]⟩]) w := fun _ => by kernel_rfl
theorem inf104 : (Tryz.prog.info? 104).map (fun i => (i.zero, i.size, i.bytes)) = some (some (.agg #[.string ⟨#[]⟩, .string ⟨#[]⟩]), 2, 32) := by kernel_rfl
theorem fa104_0 : ∀ a w, (Instr.fieldAt 104 (.pointer (some a)) 0).run Tryz.prog w = .ok (.pointer (some (a.add 0))) w := run_field (b := 1) Tryz.underlying104 rfl rfl (by kernel_rfl) (by decide)
theorem fa104_1 : ∀ a w, (Instr.fieldAt 104 (.pointer (some a)) 1).run Tryz.prog w = .ok (.pointer (some (a.add 1))) w := run_field (b := 1) Tryz.underlying104 rfl rfl (by kernel_rfl) (by decide)
theorem sz105 : (Tryz.prog.info? 105).map (·.size) = some 1 := by kernel_rfl
theorem co105 : Tryz.prog.cellsOf 105 = 1 := by kernel_rfl
theorem bo105 : Tryz.prog.bytesOf 105 = 8 := by kernel_rfl
theorem inf105 : (Tryz.prog.info? 105).map (fun i => (i.zero, i.size, i.bytes)) = some (some (.nilFunc), 1, 8) := by kernel_rfl
theorem sz106 : (Tryz.prog.info? 106).map (·.size) = some 3 := by kernel_rfl
theorem co106 : Tryz.prog.cellsOf 106 = 3 := by kernel_rfl
theorem bo106 : Tryz.prog.bytesOf 106 = 40 := by kernel_rfl
theorem z106 : ∀ w, (zeroValue 106).run Tryz.prog w = .ok (.agg #[.int .i64 0, .string ⟨#[]⟩, .string ⟨#[]⟩]) w := fun _ => by kernel_rfl
theorem inf106 : (Tryz.prog.info? 106).map (fun i => (i.zero, i.size, i.bytes)) = some (some (.agg #[.int .i64 0, .string ⟨#[]⟩, .string ⟨#[]⟩]), 3, 40) := by kernel_rfl
theorem fa106_0 : ∀ a w, (Instr.fieldAt 106 (.pointer (some a)) 0).run Tryz.prog w = .ok (.pointer (some (a.add 0))) w := run_field (b := 1) Tryz.underlying106 rfl rfl (by kernel_rfl) (by decide)
theorem fa106_1 : ∀ a w, (Instr.fieldAt 106 (.pointer (some a)) 1).run Tryz.prog w = .ok (.pointer (some (a.add 1))) w := run_field (b := 1) Tryz.underlying106 rfl rfl (by kernel_rfl) (by decide)
theorem fa106_2 : ∀ a w, (Instr.fieldAt 106 (.pointer (some a)) 2).run Tryz.prog w = .ok (.pointer (some (a.add 2))) w := run_field (b := 1) Tryz.underlying106 rfl rfl (by kernel_rfl) (by decide)
theorem sz107 : (Tryz.prog.info? 107).map (·.size) = some 3 := by kernel_rfl
theorem co107 : Tryz.prog.cellsOf 107 = 3 := by kernel_rfl
theorem bo107 : Tryz.prog.bytesOf 107 = 40 := by kernel_rfl
theorem z107 : ∀ w, (zeroValue 107).run Tryz.prog w = .ok (.agg #[.int .i64 0, .string ⟨#[]⟩, .string ⟨#[]⟩]) w := fun _ => by kernel_rfl
theorem inf107 : (Tryz.prog.info? 107).map (fun i => (i.zero, i.size, i.bytes)) = some (some (.agg #[.int .i64 0, .string ⟨#[]⟩, .string ⟨#[]⟩]), 3, 40) := by kernel_rfl
theorem fa107_0 : ∀ a w, (Instr.fieldAt 107 (.pointer (some a)) 0).run Tryz.prog w = .ok (.pointer (some (a.add 0))) w := run_field (b := 1) Tryz.underlying107 rfl rfl (by kernel_rfl) (by decide)
theorem fa107_1 : ∀ a w, (Instr.fieldAt 107 (.pointer (some a)) 1).run Tryz.prog w = .ok (.pointer (some (a.add 1))) w := run_field (b := 1) Tryz.underlying107 rfl rfl (by kernel_rfl) (by decide)
theorem fa107_2 : ∀ a w, (Instr.fieldAt 107 (.pointer (some a)) 2).run Tryz.prog w = .ok (.pointer (some (a.add 2))) w := run_field (b := 1) Tryz.underlying107 rfl rfl (by kernel_rfl) (by decide)
theorem sz108 : (Tryz.prog.info? 108).map (·.size) = some 1 := by kernel_rfl
theorem co108 : Tryz.prog.cellsOf 108 = 1 := by kernel_rfl
theorem bo108 : Tryz.prog.bytesOf 108 = 8 := by kernel_rfl
theorem inf108 : (Tryz.prog.info? 108).map (fun i => (i.zero, i.size, i.bytes)) = some (some (.nilFunc), 1, 8) := by kernel_rfl
theorem sz109 : (Tryz.prog.info? 109).map (·.size) = some 1 := by kernel_rfl
theorem co109 : Tryz.prog.cellsOf 109 = 1 := by kernel_rfl
theorem bo109 : Tryz.prog.bytesOf 109 = 8 := by kernel_rfl
theorem inf109 : (Tryz.prog.info? 109).map (fun i => (i.zero, i.size, i.bytes)) = some (some (.nilFunc), 1, 8) := by kernel_rfl
theorem sz110 : (Tryz.prog.info? 110).map (·.size) = some 1 := by kernel_rfl
theorem co110 : Tryz.prog.cellsOf 110 = 1 := by kernel_rfl
theorem bo110 : Tryz.prog.bytesOf 110 = 8 := by kernel_rfl
theorem inf110 : (Tryz.prog.info? 110).map (fun i => (i.zero, i.size, i.bytes)) = some (some (.nilFunc), 1, 8) := by kernel_rfl
theorem sz111 : (Tryz.prog.info? 111).map (·.size) = some 1 := by kernel_rfl
theorem co111 : Tryz.prog.cellsOf 111 = 1 := by kernel_rfl
theorem bo111 : Tryz.prog.bytesOf 111 = 8 := by kernel_rfl
theorem inf111 : (Tryz.prog.info? 111).map (fun i => (i.zero, i.size, i.bytes)) = some (some (.nilFunc), 1, 8) := by kernel_rfl
theorem sz112 : (Tryz.prog.info? 112).map (·.size) = some 1 := by kernel_rfl
theorem co112 : Tryz.prog.cellsOf 112 = 1 := by kernel_rfl
theorem bo112 : Tryz.prog.bytesOf 112 = 24 := by kernel_rfl
theorem z112 : ∀ w, (zeroValue 112).run Tryz.prog w = .ok (.slice none 0 0) w := fun _ => by kernel_rfl
theorem inf112 : (Tryz.prog.info? 112).map (fun i => (i.zero, i.size, i.bytes)) = some (some (.slice none 0 0), 1, 24) := by kernel_rfl
theorem sz113 : (Tryz.prog.info? 113).map (·.size) = some 3 := by kernel_rfl
theorem co113 : Tryz.prog.cellsOf 113 = 3 := by kernel_rfl
theorem bo113 : Tryz.prog.bytesOf 113 = 56 := by kernel_rfl
theorem z113 : ∀ w, (zeroValue 113).run Tryz.prog w = .ok (.agg #[.string ⟨#[]⟩, .string ⟨#[]⟩, .slice none 0 0]) w := fun _ => by kernel_rfl
theorem inf113 : (Tryz.prog.info? 113).map (fun i => (i.zero, i.size, i.bytes)) = some (some (.agg #[.string ⟨#[]⟩, .string ⟨#[]⟩, .slice none 0 0]), 3, 56) := by kernel_rfl
theorem fa113_0 : ∀ a w, (Instr.fieldAt 113 (.pointer (some a)) 0).run Tryz.prog w = .ok (.pointer (some (a.add 0))) w := run_field (b := 1) Tryz.underlying113 rfl rfl (by kernel_rfl) (by decide)
theorem fa113_1 : ∀ a w, (Instr.fieldAt 113 (.pointer (some a)) 1).run Tryz.prog w = .ok (.pointer (some (a.add 1))) w := run_field (b := 1) Tryz.underlying113 rfl rfl (by kernel_rfl) (by decide)
theorem fa113_2 : ∀ a w, (Instr.fieldAt 113 (.pointer (some a)) 2).run Tryz.prog w = .ok (.pointer (some (a.add 2))) w := run_field (b := 1) Tryz.underlying113 rfl rfl (by kernel_rfl) (by decide)
theorem sz114 : (Tryz.prog.info? 114).map (·.size) = some 3 := by kernel_rfl
theorem co114 : Tryz.prog.cellsOf 114 = 3 := by kernel_rfl
theorem bo114 : Tryz.prog.bytesOf 114 = 56 := by kernel_rfl
theorem z114 : ∀ w, (zeroValue 114).run Tryz.prog w = .ok (.agg #[.string ⟨#[]⟩, .string ⟨#[]⟩, .slice none 0 0]) w := fun _ => by kernel_rfl
theorem inf114 : (Tryz.prog.info? 114).map (fun i => (i.zero, i.size, i.bytes)) = some (some (.agg #[.string ⟨#[]⟩, .string ⟨#[]⟩, .slice none 0 0]), 3, 56) := by kernel_rfl
theorem fa114_0 : ∀ a w, (Instr.fieldAt 114 (.pointer (some a)) 0).run Tryz.prog w = .ok (.pointer (some (a.add 0))) w := run_field (b := 1) Tryz.underlying114 rfl rfl (by kernel_rfl) (by decide)
theorem fa114_1 : ∀ a w, (Instr.fieldAt 114 (.pointer (some a)) 1).run Tryz.prog w = .ok (.pointer (some (a.add 1))) w := run_field (b := 1) Tryz.underlying114 rfl rfl (by kernel_rfl) (by decide)
theorem fa114_2 : ∀ a w, (Instr.fieldAt 114 (.pointer (some a)) 2).run Tryz.prog w = .ok (.pointer (some (a.add 2))) w := run_field (b := 1) Tryz.underlying114 rfl rfl (by kernel_rfl) (by decide)
theorem sz115 : (Tryz.prog.info? 115).map (·.size) = some 1 := by kernel_rfl
theorem co115 : Tryz.prog.cellsOf 115 = 1 := by kernel_rfl
theorem bo115 : Tryz.prog.bytesOf 115 = 8 := by kernel_rfl
theorem inf115 : (Tryz.prog.info? 115).map (fun i => (i.zero, i.size, i.bytes)) = some (some (.nilFunc), 1, 8) := by kernel_rfl
theorem sz116 : (Tryz.prog.info? 116).map (·.size) = some 1 := by kernel_rfl
theorem co116 : Tryz.prog.cellsOf 116 = 1 := by kernel_rfl
theorem bo116 : Tryz.prog.bytesOf 116 = 8 := by kernel_rfl
theorem inf116 : (Tryz.prog.info? 116).map (fun i => (i.zero, i.size, i.bytes)) = some (some (.nilFunc), 1, 8) := by kernel_rfl
theorem sz117 : (Tryz.prog.info? 117).map (·.size) = some 1 := by kernel_rfl
theorem co117 : Tryz.prog.cellsOf 117 = 1 := by kernel_rfl
theorem bo117 : Tryz.prog.bytesOf 117 = 8 := by kernel_rfl
theorem inf117 : (Tryz.prog.info? 117).map (fun i => (i.zero, i.size, i.bytes)) = some (some (.nilFunc), 1, 8) := by kernel_rfl
theorem sz118 : (Tryz.prog.info? 118).map (·.size) = some 6 := by kernel_rfl
theorem co118 : Tryz.prog.cellsOf 118 = 6 := by kernel_rfl
theorem bo118 : Tryz.prog.bytesOf 118 = 72 := by kernel_rfl
theorem z118 : ∀ w, (zeroValue 118).run Tryz.prog w = .ok (.agg #[.string ⟨#[]⟩, .string ⟨#[]⟩, .string ⟨#[]⟩, .int .i64 0, .int .i64 0, .bool false]) w := fun _ => by kernel_rfl
theorem inf118 : (Tryz.prog.info? 118).map (fun i => (i.zero, i.size, i.bytes)) = some (some (.agg #[.string ⟨#[]⟩, .string ⟨#[]⟩, .string ⟨#[]⟩, .int .i64 0, .int .i64 0, .bool false]), 6, 72) := by kernel_rfl
theorem fa118_0 : ∀ a w, (Instr.fieldAt 118 (.pointer (some a)) 0).run Tryz.prog w = .ok (.pointer (some (a.add 0))) w := run_field (b := 1) Tryz.underlying118 rfl rfl (by kernel_rfl) (by decide)
theorem fa118_1 : ∀ a w, (Instr.fieldAt 118 (.pointer (some a)) 1).run Tryz.prog w = .ok (.pointer (some (a.add 1))) w := run_field (b := 1) Tryz.underlying118 rfl rfl (by kernel_rfl) (by decide)
theorem fa118_2 : ∀ a w, (Instr.fieldAt 118 (.pointer (some a)) 2).run Tryz.prog w = .ok (.pointer (some (a.add 2))) w := run_field (b := 1) Tryz.underlying118 rfl rfl (by kernel_rfl) (by decide)
theorem fa118_3 : ∀ a w, (Instr.fieldAt 118 (.pointer (some a)) 3).run Tryz.prog w = .ok (.pointer (some (a.add 3))) w := run_field (b := 1) Tryz.underlying118 rfl rfl (by kernel_rfl) (by decide)
theorem fa118_4 : ∀ a w, (Instr.fieldAt 118 (.pointer (some a)) 4).run Tryz.prog w = .ok (.pointer (some (a.add 4))) w := run_field (b := 1) Tryz.underlying118 rfl rfl (by kernel_rfl) (by decide)
theorem fa118_5 : ∀ a w, (Instr.fieldAt 118 (.pointer (some a)) 5).run Tryz.prog w = .ok (.pointer (some (a.add 5))) w := run_field (b := 1) Tryz.underlying118 rfl rfl (by kernel_rfl) (by decide)
theorem sz119 : (Tryz.prog.info? 119).map (·.size) = some 6 := by kernel_rfl
theorem co119 : Tryz.prog.cellsOf 119 = 6 := by kernel_rfl
theorem bo119 : Tryz.prog.bytesOf 119 = 72 := by kernel_rfl
theorem z119 : ∀ w, (zeroValue 119).run Tryz.prog w = .ok (.agg #[.string ⟨#[]⟩, .string ⟨#[]⟩, .string ⟨#[]⟩, .int .i64 0, .int .i64 0, .bool false]) w := fun _ => by kernel_rfl
theorem inf119 : (Tryz.prog.info? 119).map (fun i => (i.zero, i.size, i.bytes)) = some (some (.agg #[.string ⟨#[]⟩, .string ⟨#[]⟩, .string ⟨#[]⟩, .int .i64 0, .int .i64 0, .bool false]), 6, 72) := by kernel_rfl
theorem fa119_0 : ∀ a w, (Instr.fieldAt 119 (.pointer (some a)) 0).run Tryz.prog w = .ok (.pointer (some (a.add 0))) w := run_field (b := 1) Tryz.underlying119 rfl rfl (by kernel_rfl) (by decide)
theorem fa119_1 : ∀ a w, (Instr.fieldAt 119 (.pointer (some a)) 1).run Tryz.prog w = .ok (.pointer (some (a.add 1))) w := run_field (b := 1) Tryz.underlying119 rfl rfl (by kernel_rfl) (by decide)
theorem fa119_2 : ∀ a w, (Instr.fieldAt 119 (.pointer (some a)) 2).run Tryz.prog w = .ok (.pointer (some (a.add 2))) w := run_field (b := 1) Tryz.underlying119 rfl rfl (by kernel_rfl) (by decide)
theorem fa119_3 : ∀ a w, (Instr.fieldAt 119 (.pointer (some a)) 3).run Tryz.prog w = .ok (.pointer (some (a.add 3))) w := run_field (b := 1) Tryz.underlying119 rfl rfl (by kernel_rfl) (by decide)
theorem fa119_4 : ∀ a w, (Instr.fieldAt 119 (.pointer (some a)) 4).run Tryz.prog w = .ok (.pointer (some (a.add 4))) w := run_field (b := 1) Tryz.underlying119 rfl rfl (by kernel_rfl) (by decide)
theorem fa119_5 : ∀ a w, (Instr.fieldAt 119 (.pointer (some a)) 5).run Tryz.prog w = .ok (.pointer (some (a.add 5))) w := run_field (b := 1) Tryz.underlying119 rfl rfl (by kernel_rfl) (by decide)
theorem sz120 : (Tryz.prog.info? 120).map (·.size) = some 1 := by kernel_rfl
theorem co120 : Tryz.prog.cellsOf 120 = 1 := by kernel_rfl
theorem bo120 : Tryz.prog.bytesOf 120 = 8 := by kernel_rfl
theorem inf120 : (Tryz.prog.info? 120).map (fun i => (i.zero, i.size, i.bytes)) = some (some (.nilFunc), 1, 8) := by kernel_rfl
theorem sz121 : (Tryz.prog.info? 121).map (·.size) = some 1 := by kernel_rfl
theorem co121 : Tryz.prog.cellsOf 121 = 1 := by kernel_rfl
theorem bo121 : Tryz.prog.bytesOf 121 = 8 := by kernel_rfl
theorem inf121 : (Tryz.prog.info? 121).map (fun i => (i.zero, i.size, i.bytes)) = some (some (.nilFunc), 1, 8) := by kernel_rfl
theorem sz122 : (Tryz.prog.info? 122).map (·.size) = some 1 := by kernel_rfl
theorem co122 : Tryz.prog.cellsOf 122 = 1 := by kernel_rfl
theorem bo122 : Tryz.prog.bytesOf 122 = 8 := by kernel_rfl
theorem inf122 : (Tryz.prog.info? 122).map (fun i => (i.zero, i.size, i.bytes)) = some (some (.nilFunc), 1, 8) := by kernel_rfl
theorem sz124 : (Tryz.prog.info? 124).map (·.size) = some 1 := by kernel_rfl
theorem co124 : Tryz.prog.cellsOf 124 = 1 := by kernel_rfl
theorem bo124 : Tryz.prog.bytesOf 124 = 8 := by kernel_rfl
theorem inf124 : (Tryz.prog.info? 124).map (fun i => (i.zero, i.size, i.bytes)) = some (some (.nilFunc), 1, 8) := by kernel_rfl
theorem sz125 : (Tryz.prog.info? 125).map (·.size) = some 1 := by kernel_rfl
theorem co125 : Tryz.prog.cellsOf 125 = 1 := by kernel_rfl
theorem bo125 : Tryz.prog.bytesOf 125 = 8 := by kernel_rfl
theorem inf125 : (Tryz.prog.info? 125).map (fun i => (i.zero, i.size, i.bytes)) = some (some (.nilFunc), 1, 8) := by kernel_rfl
theorem sz126 : (Tryz.prog.info? 126).map (·.size) = some 1 := by kernel_rfl
theorem co126 : Tryz.prog.cellsOf 126 = 1 := by kernel_rfl
theorem bo126 : Tryz.prog.bytesOf 126 = 8 := by kernel_rfl
theorem inf126 : (Tryz.prog.info? 126).map (fun i => (i.zero, i.size, i.bytes)) = some (some (.nilFunc), 1, 8) := by kernel_rfl
theorem sz127 : (Tryz.prog.info? 127).map (·.size) = some 1 := by kernel_rfl
theorem co127 : Tryz.prog.cellsOf 127 = 1 := by kernel_rfl
theorem bo127 : Tryz.prog.bytesOf 127 = 8 := by kernel_rfl
theorem inf127 : (Tryz.prog.info? 127).map (fun i => (i.zero, i.size, i.bytes)) = some (some (.nilFunc), 1, 8) := by kernel_rfl
theorem sz128 : (Tryz.prog.info? 128).map (·.size) = some 1 := by kernel_rfl
theorem co128 : Tryz.prog.cellsOf 128 = 1 := by kernel_rfl
theorem bo128 : Tryz.prog.bytesOf 128 = 8 := by kernel_rfl
theorem inf128 : (Tryz.prog.info? 128).map (fun i => (i.zero, i.size, i.bytes)) = some (some (.nilFunc), 1, 8) := by kernel_rfl
theorem sz129 : (Tryz.prog.info? 129).map (·.size) = some 1 := by kernel_rfl
theorem co129 : Tryz.prog.cellsOf 129 = 1 := by kernel_rfl
theorem bo129 : Tryz.prog.bytesOf 129 = 8 := by kernel_rfl
theorem inf129 : (Tryz.prog.info? 129).map (fun i => (i.zero, i.size, i.bytes)) = some (some (.nilFunc), 1, 8) := by kernel_rfl
theorem sz130 : (Tryz.prog.info? 130).map (·.size) = some 1 := by kernel_rfl
theorem co130 : Tryz.prog.cellsOf 130 = 1 := by kernel_rfl
theorem bo130 : Tryz.prog.bytesOf 130 = 8 := by kernel_rfl
theorem inf130 : (Tryz.prog.info? 130).map (fun i => (i.zero, i.size, i.bytes)) = some (some (.nilFunc), 1, 8) := by kernel_rfl
theorem sz131 : (Tryz.prog.info? 131).map (·.size) = some 1 := by kernel_rfl
theorem co131 : Tryz.prog.cellsOf 131 = 1 := by kernel_rfl
theorem bo131 : Tryz.prog.bytesOf 131 = 8 := by kernel_rfl
theorem inf131 : (Tryz.prog.info? 131).map (fun i => (i.zero, i.size, i.bytes)) = some (some (.nilFunc), 1, 8) := by kernel_rfl
theorem sz132 : (Tryz.prog.info? 132).map (·.size) = some 1 := by kernel_rfl
theorem co132 : Tryz.prog.cellsOf 132 = 1 := by kernel_rfl
theorem bo132 : Tryz.prog.bytesOf 132 = 8 := by kernel_rfl
theorem inf132 : (Tryz.prog.info? 132).map (fun i => (i.zero, i.size, i.bytes)) = some (some (.nilFunc), 1, 8) := by kernel_rfl
theorem sz133 : (Tryz.prog.info? 133).map (·.size) = some 1 := by kernel_rfl
theorem co133 : Tryz.prog.cellsOf 133 = 1 := by kernel_rfl
theorem bo133 : Tryz.prog.bytesOf 133 = 8 := by kernel_rfl
theorem inf133 : (Tryz.prog.info? 133).map (fun i => (i.zero, i.size, i.bytes)) = some (some (.nilFunc), 1, 8) := by kernel_rfl
theorem sz135 : (Tryz.prog.info? 135).map (·.size) = some 1 := by kernel_rfl
theorem co135 : Tryz.prog.cellsOf 135 = 1 := by kernel_rfl
theorem bo135 : Tryz.prog.bytesOf 135 = 8 := by kernel_rfl
theorem inf135 : (Tryz.prog.info? 135).map (fun i => (i.zero, i.size, i.bytes)) = some (some (.nilFunc), 1, 8) := by kernel_rfl
theorem sz137 : (Tryz.prog.info? 137).map (·.size) = some 1 := by kernel_rfl
theorem co137 : Tryz.prog.cellsOf 137 = 1 := by kernel_rfl
theorem bo137 : Tryz.prog.bytesOf 137 = 8 := by kernel_rfl
theorem inf137 : (Tryz.prog.info? 137).map (fun i => (i.zero, i.size, i.bytes)) = some (some (.nilFunc), 1, 8) := by kernel_rfl
theorem sz138 : (Tryz.prog.info? 138).map (·.size) = some 1 := by kernel_rfl
theorem co138 : Tryz.prog.cellsOf 138 = 1 := by kernel_rfl
theorem bo138 : Tryz.prog.bytesOf 138 = 8 := by kernel_rfl
theorem inf138 : (Tryz.prog.info? 138).map (fun i => (i.zero, i.size, i.bytes)) = some (some (.nilFunc), 1, 8) := by kernel_rfl
theorem sz140 : (Tryz.prog.info? 140).map (·.size) = some 1 := by kernel_rfl
theorem co140 : Tryz.prog.cellsOf 140 = 1 := by kernel_rfl
theorem bo140 : Tryz.prog.bytesOf 140 = 8 := by kernel_rfl
theorem inf140 : (Tryz.prog.info? 140).map (fun i => (i.zero, i.size, i.bytes)) = some (some (.nilFunc), 1, 8) := by kernel_rfl
theorem sz141 : (Tryz.prog.info? 141).map (·.size) = some 1 := by kernel_rfl
theorem co141 : Tryz.prog.cellsOf 141 = 1 := by kernel_rfl
theorem bo141 : Tryz.prog.bytesOf 141 = 8 := by kernel_rfl
theorem inf141 : (Tryz.prog.info? 141).map (fun i => (i.zero, i.size, i.bytes)) = some (some (.nilFunc), 1, 8) := by kernel_rfl
theorem sz142 : (Tryz.prog.info? 142).map (·.size) = some 1 := by kernel_rfl
theorem co142 : Tryz.prog.cellsOf 142 = 1 := by kernel_rfl
theorem bo142 : Tryz.prog.bytesOf 142 = 24 := by kernel_rfl
theorem z142 : ∀ w, (zeroValue 142).run Tryz.prog w = .ok (.slice none 0 0) w := fun _ => by kernel_rfl
theorem inf142 : (Tryz.prog.info? 142).map (fun i => (i.zero, i.size, i.bytes)) = some (some (.slice none 0 0), 1, 24) := by kernel_rfl
theorem sz144 : (Tryz.prog.info? 144).map (·.size) = some 1 := by kernel_rfl
theorem co144 : Tryz.prog.cellsOf 144 = 1 := by kernel_rfl
theorem bo144 : Tryz.prog.bytesOf 144 = 8 := by kernel_rfl
theorem inf144 : (Tryz.prog.info? 144).map (fun i => (i.zero, i.size, i.bytes)) = some (some (.nilFunc), 1, 8) := by kernel_rfl
theorem sz145 : (Tryz.prog.info? 145).map (·.size) = some 1 := by kernel_rfl
theorem co145 : Tryz.prog.cellsOf 145 = 1 := by kernel_rfl
theorem bo145 : Tryz.prog.bytesOf 145 = 8 := by kernel_rfl
theorem inf145 : (Tryz.prog.info? 145).map (fun i => (i.zero, i.size, i.bytes)) = some (some (.nilFunc), 1, 8) := by kernel_rfl
theorem sz146 : (Tryz.prog.info? 146).map (·.size) = some 1 := by kernel_rfl
theorem co146 : Tryz.prog.cellsOf 146 = 1 := by kernel_rfl
theorem bo146 : Tryz.prog.bytesOf 146 = 24 := by kernel_rfl
theorem z146 : ∀ w, (zeroValue 146).run Tryz.prog w = .ok (.slice none 0 0) w := fun _ => by kernel_rfl
theorem inf146 : (Tryz.prog.info? 146).map (fun i => (i.zero, i.size, i.bytes)) = some (some (.slice none 0 0), 1, 24) := by kernel_rfl
theorem sz148 : (Tryz.prog.info? 148).map (·.size) = some 1 := by kernel_rfl
theorem co148 : Tryz.prog.cellsOf 148 = 1 := by kernel_rfl
theorem bo148 : Tryz.prog.bytesOf 148 = 8 := by kernel_rfl
theorem inf148 : (Tryz.prog.info? 148).map (fun i => (i.zero, i.size, i.bytes)) = some (some (.nilFunc), 1, 8) := by kernel_rfl
theorem sz149 : (Tryz.prog.info? 149).map (·.size) = some 1 := by kernel_rfl
theorem co149 : Tryz.prog.cellsOf 149 = 1 := by kernel_rfl
theorem bo149 : Tryz.prog.bytesOf 149 = 8 := by kernel_rfl
theorem inf149 : (Tryz.prog.info? 149).map (fun i => (i.zero, i.size, i.bytes)) = some (some (.nilFunc), 1, 8) := by kernel_rfl
theorem sz150 : (Tryz.prog.info? 150).map (·.size) = some 1 := by kernel_rfl
theorem co150 : Tryz.prog.cellsOf 150 = 1 := by kernel_rfl
theorem bo150 : Tryz.prog.bytesOf 150 = 8 := by kernel_rfl
theorem inf150 : (Tryz.prog.info? 150).map (fun i => (i.zero, i.size, i.bytes)) = some (some (.nilFunc), 1, 8) := by kernel_rfl
theorem sz151 : (Tryz.prog.info? 151).map (·.size) = some 1 := by kernel_rfl
theorem co151 : Tryz.prog.cellsOf 151 = 1 := by kernel_rfl
theorem bo151 : Tryz.prog.bytesOf 151 = 8 := by kernel_rfl
theorem inf151 : (Tryz.prog.info? 151).map (fun i => (i.zero, i.size, i.bytes)) = some (some (.nilFunc), 1, 8) := by kernel_rfl
theorem sz152 : (Tryz.prog.info? 152).map (·.size) = some 1 := by kernel_rfl
theorem co152 : Tryz.prog.cellsOf 152 = 1 := by kernel_rfl
theorem bo152 : Tryz.prog.bytesOf 152 = 8 := by kernel_rfl
theorem inf152 : (Tryz.prog.info? 152).map (fun i => (i.zero, i.size, i.bytes)) = some (some (.nilFunc), 1, 8) := by kernel_rfl
theorem sz153 : (Tryz.prog.info? 153).map (·.size) = some 1 := by kernel_rfl
theorem co153 : Tryz.prog.cellsOf 153 = 1 := by kernel_rfl
theorem bo153 : Tryz.prog.bytesOf 153 = 8 := by kernel_rfl
theorem inf153 : (Tryz.prog.info? 153).map (fun i => (i.zero, i.size, i.bytes)) = some (some (.nilFunc), 1, 8) := by kernel_rfl
theorem sz154 : (Tryz.prog.info? 154).map (·.size) = some 1 := by kernel_rfl
theorem co154 : Tryz.prog.cellsOf 154 = 1 := by kernel_rfl
theorem bo154 : Tryz.prog.bytesOf 154 = 8 := by kernel_rfl
theorem inf154 : (Tryz.prog.info? 154).map (fun i => (i.zero, i.size, i.bytes)) = some (some (.nilFunc), 1, 8) := by kernel_rfl
theorem sz155 : (Tryz.prog.info? 155).map (·.size) = some 1 := by kernel_rfl
theorem co155 : Tryz.prog.cellsOf 155 = 1 := by kernel_rfl
theorem bo155 : Tryz.prog.bytesOf 155 = 8 := by kernel_rfl
theorem inf155 : (Tryz.prog.info? 155).map (fun i => (i.zero, i.size, i.bytes)) = some (some (.nilFunc), 1, 8) := by kernel_rfl
theorem sz156 : (Tryz.prog.info? 156).map (·.size) = some 4 := by kernel_rfl
theorem co156 : Tryz.prog.cellsOf 156 = 4 := by kernel_rfl
theorem bo156 : Tryz.prog.bytesOf 156 = 72 := by kernel_rfl
theorem z156 : ∀ w, (zeroValue 156).run Tryz.prog w = .ok (.agg #[.string ⟨#[]⟩, .string ⟨#[]⟩, .string ⟨#[]⟩, .slice none 0 0]) w := fun _ => by kernel_rfl
theorem inf156 : (Tryz.prog.info? 156).map (fun i => (i.zero, i.size, i.bytes)) = some (some (.agg #[.string ⟨#[]⟩, .string ⟨#[]⟩, .string ⟨#[]⟩, .slice none 0 0]), 4, 72) := by kernel_rfl
theorem fa156_0 : ∀ a w, (Instr.fieldAt 156 (.pointer (some a)) 0).run Tryz.prog w = .ok (.pointer (some (a.add 0))) w := run_field (b := 1) Tryz.underlying156 rfl rfl (by kernel_rfl) (by decide)
theorem fa156_1 : ∀ a w, (Instr.fieldAt 156 (.pointer (some a)) 1).run Tryz.prog w = .ok (.pointer (some (a.add 1))) w := run_field (b := 1) Tryz.underlying156 rfl rfl (by kernel_rfl) (by decide)
theorem fa156_2 : ∀ a w, (Instr.fieldAt 156 (.pointer (some a)) 2).run Tryz.prog w = .ok (.pointer (some (a.add 2))) w := run_field (b := 1) Tryz.underlying156 rfl rfl (by kernel_rfl) (by decide)
theorem fa156_3 : ∀ a w, (Instr.fieldAt 156 (.pointer (some a)) 3).run Tryz.prog w = .ok (.pointer (some (a.add 3))) w := run_field (b := 1) Tryz.underlying156 rfl rfl (by kernel_rfl) (by decide)
theorem sz157 : (Tryz.prog.info? 157).map (·.size) = some 4 := by kernel_rfl
theorem co157 : Tryz.prog.cellsOf 157 = 4 := by kernel_rfl
theorem bo157 : Tryz.prog.bytesOf 157 = 72 := by kernel_rfl
theorem z157 : ∀ w, (zeroValue 157).run Tryz.prog w = .ok (.agg #[.string ⟨#[]⟩, .string ⟨#[]⟩, .string ⟨#[]⟩, .slice none 0 0]) w := fun _ => by kernel_rfl
theorem inf157 : (Tryz.prog.info? 157).map (fun i => (i.zero, i.size, i.bytes)) = some (some (.agg #[.string ⟨#[]⟩, .string ⟨#[]⟩, .string ⟨#[]⟩, .slice none 0 0]), 4, 72) := by kernel_rfl
theorem fa157_0 : ∀ a w, (Instr.fieldAt 157 (.pointer (some a)) 0).run Tryz.prog w = .ok (.pointer (some (a.add 0))) w := run_field (b := 1) Tryz.underlying157 rfl rfl (by kernel_rfl) (by decide)
theorem fa157_1 : ∀ a w, (Instr.fieldAt 157 (.pointer (some a)) 1).run Tryz.prog w = .ok (.pointer (some (a.add 1))) w := run_field (b := 1) Tryz.underlying157 rfl rfl (by kernel_rfl) (by decide)
theorem fa157_2 : ∀ a w, (Instr.fieldAt 157 (.pointer (some a)) 2).run Tryz.prog w = .ok (.pointer (some (a.add 2))) w := run_field (b := 1) Tryz.underlying157 rfl rfl (by kernel_rfl) (by decide)
theorem fa157_3 : ∀ a w, (Instr.fieldAt 157 (.pointer (some a)) 3).run Tryz.prog w = .ok (.pointer (some (a.add 3))) w := run_field (b := 1) Tryz.underlying157 rfl rfl (by kernel_rfl) (by decide)
theorem sz158 : (Tryz.prog.info? 158).map (·.size) = some 1 := by kernel_rfl
theorem co158 : Tryz.prog.cellsOf 158 = 1 := by kernel_rfl
theorem bo158 : Tryz.prog.bytesOf 158 = 8 := by kernel_rfl
theorem inf158 : (Tryz.prog.info? 158).map (fun i => (i.zero, i.size, i.bytes)) = some (some (.nilFunc), 1, 8) := by kernel_rfl
theorem sz159 : (Tryz.prog.info? 159).map (·.size) = some 1 := by kernel_rfl
theorem co159 : Tryz.prog.cellsOf 159 = 1 := by kernel_rfl
theorem bo159 : Tryz.prog.bytesOf 159 = 8 := by kernel_rfl
theorem inf159 : (Tryz.prog.info? 159).map (fun i => (i.zero, i.size, i.bytes)) = some (some (.nilFunc), 1, 8) := by kernel_rfl
theorem sz160 : (Tryz.prog.info? 160).map (·.size) = some 1 := by kernel_rfl
theorem co160 : Tryz.prog.cellsOf 160 = 1 := by kernel_rfl
theorem bo160 : Tryz.prog.bytesOf 160 = 8 := by kernel_rfl
theorem inf160 : (Tryz.prog.info? 160).map (fun i => (i.zero, i.size, i.bytes)) = some (some (.nilFunc), 1, 8) := by kernel_rfl
theorem sz161 : (Tryz.prog.info? 161).map (·.size) = some 1 := by kernel_rfl
theorem co161 : Tryz.prog.cellsOf 161 = 1 := by kernel_rfl
theorem bo161 : Tryz.prog.bytesOf 161 = 8 := by kernel_rfl
theorem inf161 : (Tryz.prog.info? 161).map (fun i => (i.zero, i.size, i.bytes)) = some (some (.nilFunc), 1, 8) := by kernel_rfl
theorem sz162 : (Tryz.prog.info? 162).map (·.size) = some 1 := by kernel_rfl
theorem co162 : Tryz.prog.cellsOf 162 = 1 := by kernel_rfl
theorem bo162 : Tryz.prog.bytesOf 162 = 8 := by kernel_rfl
theorem inf162 : (Tryz.prog.info? 162).map (fun i => (i.zero, i.size, i.bytes)) = some (some (.nilFunc), 1, 8) := by kernel_rfl
theorem sz163 : (Tryz.prog.info? 163).map (·.size) = some 1 := by kernel_rfl
theorem co163 : Tryz.prog.cellsOf 163 = 1 := by kernel_rfl
theorem bo163 : Tryz.prog.bytesOf 163 = 8 := by kernel_rfl
theorem inf163 : (Tryz.prog.info? 163).map (fun i => (i.zero, i.size, i.bytes)) = some (some (.nilFunc), 1, 8) := by kernel_rfl
theorem sz164 : (Tryz.prog.info? 164).map (·.size) = some 1 := by kernel_rfl
theorem co164 : Tryz.prog.cellsOf 164 = 1 := by kernel_rfl
theorem bo164 : Tryz.prog.bytesOf 164 = 8 := by kernel_rfl
theorem z164 : ∀ w, (zeroValue 164).run Tryz.prog w = .ok (.map none) w := fun _ => by kernel_rfl
theorem inf164 : (Tryz.prog.info? 164).map (fun i => (i.zero, i.size, i.bytes)) = some (some (.map none), 1, 8) := by kernel_rfl
theorem sz165 : (Tryz.prog.info? 165).map (·.size) = some 1 := by kernel_rfl
theorem co165 : Tryz.prog.cellsOf 165 = 1 := by kernel_rfl
theorem bo165 : Tryz.prog.bytesOf 165 = 8 := by kernel_rfl
theorem inf165 : (Tryz.prog.info? 165).map (fun i => (i.zero, i.size, i.bytes)) = some (some (.nilFunc), 1, 8) := by kernel_rfl
theorem sz166 : (Tryz.prog.info? 166).map (·.size) = some 1 := by kernel_rfl
theorem co166 : Tryz.prog.cellsOf 166 = 1 := by kernel_rfl
theorem bo166 : Tryz.prog.bytesOf 166 = 8 := by kernel_rfl
theorem inf166 : (Tryz.prog.info? 166).map (fun i => (i.zero, i.size, i.bytes)) = some (some (.nilFunc), 1, 8) := by kernel_rfl
theorem sz167 : (Tryz.prog.info? 167).map (·.size) = some 1 := by kernel_rfl
theorem co167 : Tryz.prog.cellsOf 167 = 1 := by kernel_rfl
theorem bo167 : Tryz.prog.bytesOf 167 = 8 := by kernel_rfl
theorem z167 : ∀ w, (zeroValue 167).run Tryz.prog w = .ok (.map none) w := fun _ => by kernel_rfl
theorem inf167 : (Tryz.prog.info? 167).map (fun i => (i.zero, i.size, i.bytes)) = some (some (.map none), 1, 8) := by kernel_rfl
theorem sz168 : (Tryz.prog.info? 168).map (·.size) = some 1 := by kernel_rfl
theorem co168 : Tryz.prog.cellsOf 168 = 1 := by kernel_rfl
theorem bo168 : Tryz.prog.bytesOf 168 = 8 := by kernel_rfl
theorem inf168 : (Tryz.prog.info? 168).map (fun i => (i.zero, i.size, i.bytes)) = some (some (.nilFunc), 1, 8) := by kernel_rfl
theorem sz169 : (Tryz.prog.info? 169).map (·.size) = some 1 := by kernel_rfl
theorem co169 : Tryz.prog.cellsOf 169 = 1 := by kernel_rfl
theorem bo169 : Tryz.prog.bytesOf 169 = 8 := by kernel_rfl
theorem inf169 : (Tryz.prog.info? 169).map (fun i => (i.zero, i.size, i.bytes)) = some (some (.nilFunc), 1, 8) := by kernel_rfl
theorem sz170 : (Tryz.prog.info? 170).map (·.size) = some 1 := by kernel_rfl
theorem co170 : Tryz.prog.cellsOf 170 = 1 := by kernel_rfl
theorem bo170 : Tryz.prog.bytesOf 170 = 8 := by kernel_rfl
theorem inf170 : (Tryz.prog.info? 170).map (fun i => (i.zero, i.size, i.bytes)) = some (some (.nilFunc), 1, 8) := by kernel_rfl
theorem sz171 : (Tryz.prog.info? 171).map (·.size) = some 1 := by kernel_rfl
theorem co171 : Tryz.prog.cellsOf 171 = 1 := by kernel_rfl
theorem bo171 : Tryz.prog.bytesOf 171 = 8 := by kernel_rfl
theorem inf171 : (Tryz.prog.info? 171).map (fun i => (i.zero, i.size, i.bytes)) = some (some (.nilFunc), 1, 8) := by kernel_rfl
theorem sz172 : (Tryz.prog.info? 172).map (·.size) = some 1 := by kernel_rfl
theorem co172 : Tryz.prog.cellsOf 172 = 1 := by kernel_rfl
theorem bo172 : Tryz.prog.bytesOf 172 = 8 := by kernel_rfl
theorem inf172 : (Tryz.prog.info? 172).map (fun i => (i.zero, i.size, i.bytes)) = some (some (.nilFunc), 1, 8) := by kernel_rfl
theorem sz173 : (Tryz.prog.info? 173).map (·.size) = some 1 := by kernel_rfl
theorem co173 : Tryz.prog.cellsOf 173 = 1 := by kernel_rfl
theorem bo173 : Tryz.prog.bytesOf 173 = 8 := by kernel_rfl
theorem inf173 : (Tryz.prog.info? 173).map (fun i => (i.zero, i.size, i.bytes)) = some (some (.nilFunc), 1, 8) := by kernel_rfl
theorem sz174 : (Tryz.prog.info? 174).map (·.size) = some 1 := by kernel_rfl
theorem co174 : Tryz.prog.cellsOf 174 = 1 := by kernel_rfl
theorem bo174 : Tryz.prog.bytesOf 174 = 8 := by kernel_rfl
theorem inf174 : (Tryz.prog.info? 174).map (fun i => (i.zero, i.size, i.bytes)) = some (some (.nilFunc), 1, 8) := by kernel_rfl
theorem sz175 : (Tryz.prog.info? 175).map (·.size) = some 1 := by kernel_rfl
theorem co175 : Tryz.prog.cellsOf 175 = 1 := by kernel_rfl
theorem bo175 : Tryz.prog.bytesOf 175 = 8 := by kernel_rfl
theorem inf175 : (Tryz.prog.info? 175).map (fun i => (i.zero, i.size, i.bytes)) = some (some (.nilFunc), 1, 8) := by kernel_rfl
theorem sz176 : (Tryz.prog.info? 176).map (·.size) = some 1 := by kernel_rfl
theorem co176 : Tryz.prog.cellsOf 176 = 1 := by kernel_rfl
theorem bo176 : Tryz.prog.bytesOf 176 = 8 := by kernel_rfl
theorem inf176 : (Tryz.prog.info? 176).map (fun i => (i.zero, i.size, i.bytes)) = some (some (.nilFunc), 1, 8) := by kernel_rfl
theorem sz177 : (Tryz.prog.info? 177).map (·.size) = some 1 := by kernel_rfl
theorem co177 : Tryz.prog.cellsOf 177 = 1 := by kernel_rfl
theorem bo177 : Tryz.prog.bytesOf 177 = 8 := by kernel_rfl
theorem inf177 : (Tryz.prog.info? 177).map (fun i => (i.zero, i.size, i.bytes)) = some (some (.nilFunc), 1, 8) := by kernel_rfl
theorem sz178 : (Tryz.prog.info? 178).map (·.size) = some 1 := by kernel_rfl
theorem co178 : Tryz.prog.cellsOf 178 = 1 := by kernel_rfl
theorem bo178 : Tryz.prog.bytesOf 178 = 8 := by kernel_rfl
theorem inf178 : (Tryz.prog.info? 178).map (fun i => (i.zero, i.size, i.bytes)) = some (some (.nilFunc), 1, 8) := by kernel_rfl
theorem sz179 : (Tryz.prog.info? 179).map (·.size) = some 1 := by kernel_rfl
theorem co179 : Tryz.prog.cellsOf 179 = 1 := by kernel_rfl
theorem bo179 : Tryz.prog.bytesOf 179 = 8 := by kernel_rfl
theorem inf179 : (Tryz.prog.info? 179).map (fun i => (i.zero, i.size, i.bytes)) = some (some (.nilFunc), 1, 8) := by kernel_rfl
theorem sz180 : (Tryz.prog.info? 180).map (·.size) = some 1 := by kernel_rfl
theorem co180 : Tryz.prog.cellsOf 180 = 1 := by kernel_rfl
theorem bo180 : Tryz.prog.bytesOf 180 = 24 := by kernel_rfl
theorem z180 : ∀ w, (zeroValue 180).run Tryz.prog w = .ok (.slice none 0 0) w := fun _ => by kernel_rfl
theorem inf180 : (Tryz.prog.info? 180).map (fun i => (i.zero, i.size, i.bytes)) = some (some (.slice none 0 0), 1, 24) := by kernel_rfl
theorem sz181 : (Tryz.prog.info? 181).map (·.size) = some 1 := by kernel_rfl
theorem co181 : Tryz.prog.cellsOf 181 = 1 := by kernel_rfl
theorem bo181 : Tryz.prog.bytesOf 181 = 8 := by kernel_rfl
theorem inf181 : (Tryz.prog.info? 181).map (fun i => (i.zero, i.size, i.bytes)) = some (some (.nilFunc), 1, 8) := by kernel_rfl
theorem sz182 : (Tryz.prog.info? 182).map (·.size) = some 1 := by kernel_rfl
theorem co182 : Tryz.prog.cellsOf 182 = 1 := by kernel_rfl
theorem bo182 : Tryz.prog.bytesOf 182 = 8 := by kernel_rfl
theorem inf182 : (Tryz.prog.info? 182).map (fun i => (i.zero, i.size, i.bytes)) = some (some (.nilFunc), 1, 8) := by kernel_rfl
theorem sz184 : (Tryz.prog.info? 184).map (·.size) = some 1 := by kernel_rfl
theorem co184 : Tryz.prog.cellsOf 184 = 1 := by kernel_rfl
theorem bo184 : Tryz.prog.bytesOf 184 = 8 := by kernel_rfl
theorem inf184 : (Tryz.prog.info? 184).map (fun i => (i.zero, i.size, i.bytes)) = some (some (.nilFunc), 1, 8) := by kernel_rfl
theorem sz185 : (Tryz.prog.info? 185).map (·.size) = some 1 := by kernel_rfl
theorem co185 : Tryz.prog.cellsOf 185 = 1 := by kernel_rfl
theorem bo185 : Tryz.prog.bytesOf 185 = 8 := by kernel_rfl
theorem inf185 : (Tryz.prog.info? 185).map (fun i => (i.zero, i.size, i.bytes)) = some (some (.nilFunc), 1, 8) := by kernel_rfl
theorem sz186 : (Tryz.prog.info? 186).map (·.size) = some 1 := by kernel_rfl
theorem co186 : Tryz.prog.cellsOf 186 = 1 := by kernel_rfl
theorem bo186 : Tryz.prog.bytesOf 186 = 8 := by kernel_rfl
theorem inf186 : (Tryz.prog.info? 186).map (fun i => (i.zero, i.size, i.bytes)) = some (some (.nilFunc), 1, 8) := by kernel_rfl
theorem sz187 : (Tryz.prog.info? 187).map (·.size) = some 1 := by kernel_rfl
theorem co187 : Tryz.prog.cellsOf 187 = 1 := by kernel_rfl
theorem bo187 : Tryz.prog.bytesOf 187 = 8 := by kernel_rfl
theorem inf187 : (Tryz.prog.info? 187).map (fun i => (i.zero, i.size, i.bytes)) = some (some (.nilFunc), 1, 8) := by kernel_rfl
theorem sz188 : (Tryz.prog.info? 188).map (·.size) = some 1 := by kernel_rfl
theorem co188 : Tryz.prog.cellsOf 188 = 1 := by kernel_rfl
theorem bo188 : Tryz.prog.bytesOf 188 = 24 := by kernel_rfl
theorem z188 : ∀ w, (zeroValue 188).run Tryz.prog w = .ok (.slice none 0 0) w := fun _ => by kernel_rfl
theorem inf188 : (Tryz.prog.info? 188).map (fun i => (i.zero, i.size, i.bytes)) = some (some (.slice none 0 0), 1, 24) := by kernel_rfl
theorem sz189 : (Tryz.prog.info? 189).map (·.size) = some 1 := by kernel_rfl
theorem co189 : Tryz.prog.cellsOf 189 = 1 := by kernel_rfl
theorem bo189 : Tryz.prog.bytesOf 189 = 8 := by kernel_rfl
theorem inf189 : (Tryz.prog.info? 189).map (fun i => (i.zero, i.size, i.bytes)) = some (some (.nilFunc), 1, 8) := by kernel_rfl
theorem sz190 : (Tryz.prog.info? 190).map (·.size) = some 256 := by kernel_rfl
theorem co190 : Tryz.prog.cellsOf 190 = 256 := by kernel_rfl
theorem bo190 : Tryz.prog.bytesOf 190 = 256 := by kernel_rfl
theorem z190 : ∀ w, (zeroValue 190).run Tryz.prog w = .ok (.agg #[.bool false, .bool false, .bool false, .bool false, .bool false, .bool false, .bool false, .bool false, .bool false, .bool false, .bool false, .bool false, .bool false, .bool false, .bool false, .bool false, .bool false, .bool false, .bool false, .bool false, .bool false, .bool false, .bool false, .bool false, .bool false, .bool false, .bool false, .bool false, .bool false, .bool false, .bool false, .bool false, .bool false, .bool false, .bool false, .bool false, .bool false, .bool false, .bool false, .bool false, .bool false, .bool false, .bool false, .bool false, .bool false, .bool false, .bool false, .bool false, .bool false, .bool false, .bool false, .bool false, .bool false, .bool false, .bool false, .bool false, .bool false, .bool false, .bool false, .bool false, .bool false, .bool false, .bool false, .bool false, .bool false, .bool false, .bool false, .bool false, .bool false, .bool false, .bool false, .bool false, .bool false, .bool false, .bool false, .bool false, .bool false, .bool false, .bool false, .bool false, .bool false, .bool false, .bool false, .bool false, .bool false, .bool false, .bool false, .bool false, .bool false, .bool false, .bool false, .bool false, .bool false, .bool false, .bool false, .bool false, .bool false, .bool false, .bool false, .bool false, .bool false, .bool false, .bool false, .bool false, .bool false, .bool false, .bool false, .bool false, .bool false, .bool false, .bool false, .bool false, .bool false, .bool false, .bool false, .bool false, .bool false, .bool false, .bool false, .bool false, .bool false, .bool false, .bool false, .bool false, .bool false, .bool false, .bool false, .bool false, .bool false, .bool false, .bool false, .bool false, .bool false, .bool false, .bool false, .bool false, .bool false, .bool false, .bool false, .bool false, .bool false, .bool false, .bool false, .bool false, .bool false, .bool false, .bool false, .bool false, .bool false, .bool false, .bool false, .bool false, .bool false, .bool false, .bool false, .bool false, .bool false, .bool false, .bool false, .bool false, .bool false, .bool false, .bool false, .bool false, .bool false, .bool false, .bool false, .bool false, .bool false, .bool false, .bool false, .bool false, .bool false, .bool false, .bool false, .bool false, .bool false, .bool false, .bool false, .bool false, .bool false, .bool false, .bool false, .bool false, .bool false, .bool false, .bool false, .bool false, .bool false, .bool false, .bool false, .bool false, .bool false, .bool false, .bool false, .bool false, .bool false, .bool false, .bool false, .bool false, .bool false, .bool false, .bool false, .bool false, .bool false, .bool false, .bool false, .bool false, .bool false, .bool false, .bool false, .bool false, .bool false, .bool false, .bool false, .bool false, .bool false, .bool false, .bool false, .bool false, .bool false, .bool false, .bool false, .bool false, .bool false, .bool false, .bool false, .bool false, .bool false, .bool false, .bool false, .bool false, .bool false, .bool false, .bool false, .bool false, .bool false, .bool false, .bool false, .bool false, .bool false, .bool false, .bool false, .bool false, .bool false, .bool false, .bool false, .bool false, .bool false, .bool false, .bool false, .bool false, .bool false, .bool false, .bool false, .bool false]) w := fun _ => by kernel_rfl
theorem inf190 : (Tryz.prog.info? 190).map (fun i => (i.zero, i.size, i.bytes)) = some (some (.agg #[.bool false, .bool false, .bool false, .bool false, .bool false, .bool false, .bool false, .bool false, .bool false, .bool false, .bool false, .bool false, .bool false, .bool false, .bool false, .bool false, .bool false, .bool false, .bool false, .bool false, .bool false, .bool false, .bool false, .bool false, .bool false, .bool false, .bool false, .bool false, .bool false, .bool false, .bool false, .bool false, .bool false, .bool false, .bool false, .bool false, .bool false, .bool false, .bool false, .bool false, .bool false, .bool false, .bool false, .bool false, .bool false, .bool false, .bool false, .bool false, .bool false, .bool false, .bool false, .bool false, .bool false, .bool false, .bool false, .bool false, .bool false, .bool false, .bool false, .bool false, .bool false, .bool false, .bool false, .bool false, .bool false, .bool false, .bool false, .bool false, .bool false, .bool false, .bool false, .bool false, .bool false, .bool false, .bool false, .bool false, .bool false, .bool false, .bool false, .bool false, .bool false, .bool false, .bool false, .bool false, .bool false, .bool false, .bool false, .bool false, .bool false, .bool false, .bool false, .bool false, .bool false, .bool false, .bool false, .bool false, .bool false, .bool false, .bool false, .bool false, .bool false, .bool false, .bool false, .bool false, .bool false, .bool false, .bool false, .bool false, .bool false, .bool false, .bool false, .bool false, .bool false, .bool false, .bool false, .bool false, .bool false, .bool false, .bool false, .bool false, .bool false, .bool false, .bool false, .bool false, .bool false, .bool false, .bool false, .bool false, .bool false, .bool false, .bool false, .bool false, .bool false, .bool false, .bool false, .bool false, .bool false, .bool false, .bool false, .bool false, .bool false, .bool false, .bool false, .bool false, .bool false, .bool false, .bool false, .bool false, .bool false, .bool false, .bool false, .bool false, .bool false, .bool false, .bool false, .bool false, .bool false, .bool false, .bool false, .bool false, .bool false, .bool false, .bool false, .bool false, .bool false, .bool false, .bool false, .bool false, .bool false, .bool false, .bool false, .bool false, .bool false, .bool false, .bool false, .bool false, .bool false, .bool false, .bool false, .bool false, .bool false, .bool false, .bool false, .bool false, .bool false, .bool false, .bool false, .bool false, .bool false, .bool false, .bool false, .bool false, .bool false, .bool false, .bool false, .bool false, .bool false, .bool false, .bool false, .bool false, .bool false, .bool false, .bool false, .bool false, .bool false, .bool false, .bool false, .bool false, .bool false, .bool false, .bool false, .bool false, .bool false, .bool false, .bool false, .bool false, .bool false, .bool false, .bool false, .bool false, .bool false, .bool false, .bool false, .bool false, .bool false, .bool false, .bool false, .bool false, .bool false, .bool false, .bool false, .bool false, .bool false, .bool false, .bool false, .bool false, .bool false, .bool false, .bool false, .bool false, .bool false, .bool false, .bool false, .bool false, .bool false, .bool false, .bool false, .bool false, .bool false, .bool false, .bool false, .bool false, .bool false, .bool false, .bool false, .bool false]), 256, 256) := by kernel_rfl
theorem sz191 : (Tryz.prog.info? 191).map (·.size) = some 256 := by kernel_rfl
theorem co191 : Tryz.prog.cellsOf 191 = 256 := by kernel_rfl
theorem bo191 : Tryz.prog.bytesOf 191 = 256 := by kernel_rfl
theorem z191 : ∀ w, (zeroValue 191).run Tryz.prog w = .ok (.agg #[.bool false, .bool false, .bool false, .bool false, .bool false, .bool false, .bool false, .bool false, .bool false, .bool false, .bool false, .bool false, .bool false, .bool false, .bool false, .bool false, .bool false, .bool false, .bool false, .bool false, .bool false, .bool false, .bool false, .bool false, .bool false, .bool false, .bool false, .bool false, .bool false, .bool false, .bool false, .bool false, .bool false, .bool false, .bool false, .bool false, .bool false, .bool false, .bool false, .bool false, .bool false, .bool false, .bool false, .bool false, .bool false, .bool false, .bool false, .bool false, .bool false, .bool false, .bool false, .bool false, .bool false, .bool false, .bool false, .bool false, .bool false, .bool false, .bool false, .bool false, .bool false, .bool false, .bool false, .bool false, .bool false, .bool false, .bool false, .bool false, .bool false, .bool false, .bool false, .bool false, .bool false, .bool false, .bool false, .bool false, .bool false, .bool false, .bool false, .bool false, .bool false, .bool false, .bool false, .bool false, .bool false, .bool false, .bool false, .bool false, .bool false, .bool false, .bool false, .bool false, .bool false, .bool false, .bool false, .bool false, .bool false, .bool false, .bool false, .bool false, .bool false, .bool false, .bool false, .bool false, .bool false, .bool false, .bool false, .bool false, .bool false, .bool false, .bool false, .bool false, .bool false, .bool false, .bool false, .bool false, .bool false, .bool false, .bool false, .bool false, .bool false, .bool false, .bool false, .bool false, .bool false, .bool false, .bool false, .bool false, .bool false, .bool false, .bool false, .bool false, .bool false, .bool false, .bool false, .bool false, .bool false, .bool false, .bool false, .bool false, .bool false, .bool false, .bool false, .bool false, .bool false, .bool false, .bool false, .bool false, .bool false, .bool false, .bool false, .bool false, .bool false, .bool false, .bool false, .bool false, .bool false, .bool false, .bool false, .bool false, .bool false, .bool false, .bool false, .bool false, .bool false, .bool false, .bool false, .bool false, .bool false, .bool false, .bool false, .bool false, .bool false, .bool false, .bool false, .bool false, .bool false, .bool false, .bool false, .bool false, .bool false, .bool false, .bool false, .bool false, .bool false, .bool false, .bool false, .bool false, .bool false, .bool false, .bool false, .bool false, .bool false, .bool false, .bool false, .bool false, .bool false, .bool false, .bool false, .bool false, .bool false, .bool false, .bool false, .bool false, .bool false, .bool false, .bool false, .bool false, .bool false, .bool false, .bool false, .bool false, .bool false, .bool false, .bool false, .bool false, .bool false, .bool false, .bool false, .bool false, .bool false, .bool false, .bool false, .bool false, .bool false, .bool false, .bool false, .bool false, .bool false, .bool false, .bool false, .bool false, .bool false, .bool false, .bool false, .bool false, .bool false, .bool false, .bool false, .bool false, .bool false, .bool false, .bool false, .bool false, .bool false, .bool false, .bool false, .bool false, .bool false, .bool false, .bool false, .bool false, .bool false, .bool false, .bool false, .bool false]) w := fun _ => by kernel_rfl
theorem inf191 : (Tryz.prog.info? 191).map (fun i => (i.zero, i.size, i.bytes)) = some (some (.agg #[.bool false, .bool false, .bool false, .bool false, .bool false, .bool false, .bool false, .bool false, .bool false, .bool false, .bool false, .bool false, .bool false, .bool false, .bool false, .bool false, .bool false, .bool false, .bool false, .bool false, .bool false, .bool false, .bool false, .bool false, .bool false, .bool false, .bool false, .bool false, .bool false, .bool false, .bool false, .bool false, .bool false, .bool false, .bool false, .bool false, .bool false, .bool false, .bool false, .bool false, .bool false, .bool false, .bool false, .bool false, .bool false, .bool false, .bool false, .bool false, .bool false, .bool false, .bool false, .bool false, .bool false, .bool false, .bool false, .bool false, .bool false, .bool false, .bool false, .bool false, .bool false, .bool false, .bool false, .bool false, .bool false, .bool false, .bool false, .bool false, .bool false, .bool false, .bool false, .bool false, .bool false, .bool false, .bool false, .bool false, .bool false, .bool false, .bool false, .bool false, .bool false, .bool false, .bool false, .bool false, .bool false, .bool false, .bool false, .bool false, .bool false, .bool false, .bool false, .bool false, .bool false, .bool false, .bool false, .bool false, .bool false, .bool false, .bool false, .bool false, .bool false, .bool false, .bool false, .bool false, .bool false, .bool false, .bool false, .bool false, .bool false, .bool false, .bool false, .bool false, .bool false, .bool false, .bool false, .bool false, .bool false, .bool false, .bool false, .bool false, .bool false, .bool false, .bool false, .bool false, .bool false, .bool false, .bool false, .bool false, .bool false, .bool false, .bool false, .bool false, .bool false, .bool false, .bool false, .bool false, .bool false, .bool false, .bool false, .bool false, .bool false, .bool false, .bool false, .bool false, .bool false, .bool false, .bool false, .bool false, .bool false, .bool false, .bool false, .bool false, .bool false, .bool false, .bool false, .bool false, .bool false, .bool false, .bool false, .bool false, .bool false, .bool false, .bool false, .bool false, .bool false, .bool false, .bool false, .bool false, .bool false, .bool false, .bool false, .bool false, .bool false, .bool false, .bool false, .bool false, .bool false, .bool false, .bool false, .bool false, .bool false, .bool false, .bool false, .bool false, .bool false, .bool false, .bool false, .bool false, .bool false, .bool false, .bool false, .bool false, .bool false, .bool false, .bool false, .bool false, .bool false, .bool false, .bool false, .bool false, .bool false, .bool false, .bool false, .bool false, .bool false, .bool false, .bool false, .bool false, .bool false, .bool false, .bool false, .bool false, .bool false, .bool false, .bool false, .bool false, .bool false, .bool false, .bool false, .bool false, .bool false, .bool false, .bool false, .bool false, .bool false, .bool false, .bool false, .bool false, .bool false, .bool false, .bool false, .bool false, .bool false, .bool false, .bool false, .bool false, .bool false, .bool false, .bool false, .bool false, .bool false, .bool false, .bool false, .bool false, .bool false, .bool false, .bool false, .bool false, .bool false, .bool false, .bool false, .bool false, .bool false, .bool false, .bool false, .bool false]), 256, 256) := by kernel_rfl
theorem sz193 : (Tryz.prog.info? 193).map (·.size) = some 1 := by kernel_rfl
theorem co193 : Tryz.prog.cellsOf 193 = 1 := by kernel_rfl
theorem bo193 : Tryz.prog.bytesOf 193 = 8 := by kernel_rfl
theorem inf193 : (Tryz.prog.info? 193).map (fun i => (i.zero, i.size, i.bytes)) = some (some (.nilFunc), 1, 8) := by kernel_rfl
theorem sz194 : (Tryz.prog.info? 194).map (·.size) = some 1 := by kernel_rfl
theorem co194 : Tryz.prog.cellsOf 194 = 1 := by kernel_rfl
theorem bo194 : Tryz.prog.bytesOf 194 = 8 := by kernel_rfl
theorem inf194 : (Tryz.prog.info? 194).map (fun i => (i.zero, i.size, i.bytes)) = some (some (.nilFunc), 1, 8) := by kernel_rfl
theorem sz195 : (Tryz.prog.info? 195).map (·.size) = some 1 := by kernel_rfl
theorem co195 : Tryz.prog.cellsOf 195 = 1 := by kernel_rfl
theorem bo195 : Tryz.prog.bytesOf 195 = 8 := by kernel_rfl
theorem z195 : ∀ w, (zeroValue 195).run Tryz.prog w = .ok (.pointer none) w := fun _ => by kernel_rfl
theorem inf195 : (Tryz.prog.info? 195).map (fun i => (i.zero, i.size, i.bytes)) = some (some (.pointer none), 1, 8) := by kernel_rfl
theorem sz196 : (Tryz.prog.info? 196).map (·.size) = some 1 := by kernel_rfl
theorem co196 : Tryz.prog.cellsOf 196 = 1 := by kernel_rfl
theorem bo196 : Tryz.prog.bytesOf 196 = 24 := by kernel_rfl
theorem z196 : ∀ w, (zeroValue 196).run Tryz.prog w = .ok (.slice none 0 0) w := fun _ => by kernel_rfl
theorem inf196 : (Tryz.prog.info? 196).map (fun i => (i.zero, i.size, i.bytes)) = some (some (.slice none 0 0), 1, 24) := by kernel_rfl
theorem sz197 : (Tryz.prog.info? 197).map (·.size) = some 1 := by kernel_rfl
theorem co197 : Tryz.prog.cellsOf 197 = 1 := by kernel_rfl
theorem bo197 : Tryz.prog.bytesOf 197 = 8 := by kernel_rfl
theorem z197 : ∀ w, (zeroValue 197).run Tryz.prog w = .ok (.pointer none) w := fun _ => by kernel_rfl
theorem inf197 : (Tryz.prog.info? 197).map (fun i => (i.zero, i.size, i.bytes)) = some (some (.pointer none), 1, 8) := by kernel_rfl
theorem sz198 : (Tryz.prog.info? 198).map (·.size) = some 2 := by kernel_rfl
theorem co198 : Tryz.prog.cellsOf 198 = 2 := by kernel_rfl
theorem bo198 : Tryz.prog.bytesOf 198 = 32 := by kernel_rfl
theorem z198 : ∀ w, (zeroValue 198).run Tryz.prog w = .ok (.agg #[.pointer none, .slice none 0 0]) w := fun _ => by kernel_rfl
theorem inf198 : (Tryz.prog.info? 198).map (fun i => (i.zero, i.size, i.bytes)) = some (some (.agg #[.pointer none, .slice none 0 0]), 2, 32) := by kernel_rfl
theorem fa198_0 : ∀ a w, (Instr.fieldAt 198 (.pointer (some a)) 0).run Tryz.prog w = .ok (.pointer (some (a.add 0))) w := run_field (b := 1) Tryz.underlying198 rfl rfl (by kernel_rfl) (by decide)
theorem fa198_1 : ∀ a w, (Instr.fieldAt 198 (.pointer (some a)) 1).run Tryz.prog w = .ok (.pointer (some (a.add 1))) w := run_field (b := 1) Tryz.underlying198 rfl rfl (by kernel_rfl) (by decide)
theorem sz199 : (Tryz.prog.info? 199).map (·.size) = some 2 := by kernel_rfl
theorem co199 : Tryz.prog.cellsOf 199 = 2 := by kernel_rfl
theorem bo199 : Tryz.prog.bytesOf 199 = 32 := by kernel_rfl
theorem z199 : ∀ w, (zeroValue 199).run Tryz.prog w = .ok (.agg #[.pointer none, .slice none 0 0]) w := fun _ => by kernel_rfl
theorem inf199 : (Tryz.prog.info? 199).map (fun i => (i.zero, i.size, i.bytes)) = some (some (.agg #[.pointer none, .slice none 0 0]), 2, 32) := by kernel_rfl
theorem fa199_0 : ∀ a w, (Instr.fieldAt 199 (.pointer (some a)) 0).run Tryz.prog w = .ok (.pointer (some (a.add 0))) w := run_field (b := 1) Tryz.underlying199 rfl rfl (by kernel_rfl) (by decide)
theorem fa199_1 : ∀ a w, (Instr.fieldAt 199 (.pointer (some a)) 1).run Tryz.prog w = .ok (.pointer (some (a.add 1))) w := run_field (b := 1) Tryz.underlying199 rfl rfl (by kernel_rfl) (by decide)
theorem sz200 : (Tryz.prog.info? 200).map (·.size) = some 1 := by kernel_rfl
theorem co200 : Tryz.prog.cellsOf 200 = 1 := by kernel_rfl
theorem bo200 : Tryz.prog.bytesOf 200 = 8 := by kernel_rfl
theorem inf200 : (Tryz.prog.info? 200).map (fun i => (i.zero, i.size, i.bytes)) = some (some (.nilFunc), 1, 8) := by kernel_rfl
theorem sz201 : (Tryz.prog.info? 201).map (·.size) = some 1 := by kernel_rfl
theorem co201 : Tryz.prog.cellsOf 201 = 1 := by kernel_rfl
theorem bo201 : Tryz.prog.bytesOf 201 = 16 := by kernel_rfl
theorem z201 : ∀ w, (zeroValue 201).run Tryz.prog w = .ok (.nilIface) w := fun _ => by kernel_rfl
theorem inf201 : (Tryz.prog.info? 201).map (fun i => (i.zero, i.size, i.bytes)) = some (some (.nilIface), 1, 16) := by kernel_rfl
theorem sz202 : (Tryz.prog.info? 202).map (·.size) = some 1 := by kernel_rfl
theorem co202 : Tryz.prog.cellsOf 202 = 1 := by kernel_rfl
theorem bo202 : Tryz.prog.bytesOf 202 = 16 := by kernel_rfl
theorem z202 : ∀ w, (zeroValue 202).run Tryz.prog w = .ok (.nilIface) w := fun _ => by kernel_rfl
theorem inf202 : (Tryz.prog.info? 202).map (fun i => (i.zero, i.size, i.bytes)) = some (some (.nilIface), 1, 16) := by kernel_rfl
theorem sz204 : (Tryz.prog.info? 204).map (·.size) = some 1 := by kernel_rfl
theorem co204 : Tryz.prog.cellsOf 204 = 1 := by kernel_rfl
theorem bo204 : Tryz.prog.bytesOf 204 = 8 := by kernel_rfl
theorem inf204 : (Tryz.prog.info? 204).map (fun i => (i.zero, i.size, i.bytes)) = some (some (.nilFunc), 1, 8) := by kernel_rfl
theorem sz205 : (Tryz.prog.info? 205).map (·.size) = some 1 := by kernel_rfl
theorem co205 : Tryz.prog.cellsOf 205 = 1 := by kernel_rfl
theorem bo205 : Tryz.prog.bytesOf 205 = 8 := by kernel_rfl
theorem inf205 : (Tryz.prog.info? 205).map (fun i => (i.zero, i.size, i.bytes)) = some (some (.nilFunc), 1, 8) := by kernel_rfl
theorem sz206 : (Tryz.prog.info? 206).map (·.size) = some 1 := by kernel_rfl
theorem co206 : Tryz.prog.cellsOf 206 = 1 := by kernel_rfl
theorem bo206 : Tryz.prog.bytesOf 206 = 8 := by kernel_rfl
theorem inf206 : (Tryz.prog.info? 206).map (fun i => (i.zero, i.size, i.bytes)) = some (some (.nilFunc), 1, 8) := by kernel_rfl
theorem sz207 : (Tryz.prog.info? 207).map (·.size) = some 1 := by kernel_rfl
theorem co207 : Tryz.prog.cellsOf 207 = 1 := by kernel_rfl
theorem bo207 : Tryz.prog.bytesOf 207 = 8 := by kernel_rfl
theorem inf207 : (Tryz.prog.info? 207).map (fun i => (i.zero, i.size, i.bytes)) = some (some (.nilFunc), 1, 8) := by kernel_rfl
theorem sz208 : (Tryz.prog.info? 208).map (·.size) = some 1 := by kernel_rfl
theorem co208 : Tryz.prog.cellsOf 208 = 1 := by kernel_rfl
theorem bo208 : Tryz.prog.bytesOf 208 = 8 := by kernel_rfl
theorem inf208 : (Tryz.prog.info? 208).map (fun i => (i.zero, i.size, i.bytes)) = some (some (.nilFunc), 1, 8) := by kernel_rfl
theorem sz209 : (Tryz.prog.info? 209).map (·.size) = some 1 := by kernel_rfl
theorem co209 : Tryz.prog.cellsOf 209 = 1 := by kernel_rfl
theorem bo209 : Tryz.prog.bytesOf 209 = 8 := by kernel_rfl
theorem inf209 : (Tryz.prog.info? 209).map (fun i => (i.zero, i.size, i.bytes)) = some (some (.nilFunc), 1, 8) := by kernel_rfl
theorem sz210 : (Tryz.prog.info? 210).map (·.size) = some 1 := by kernel_rfl
theorem co210 : Tryz.prog.cellsOf 210 = 1 := by kernel_rfl
theorem bo210 : Tryz.prog.bytesOf 210 = 8 := by kernel_rfl
theorem inf210 : (Tryz.prog.info? 210).map (fun i => (i.zero, i.size, i.bytes)) = some (some (.nilFunc), 1, 8) := by kernel_rfl
theorem sz211 : (Tryz.prog.info? 211).map (·.size) = some 1 := by kernel_rfl
theorem co211 : Tryz.prog.cellsOf 211 = 1 := by kernel_rfl
theorem bo211 : Tryz.prog.bytesOf 211 = 8 := by kernel_rfl
theorem z211 : ∀ w, (zeroValue 211).run Tryz.prog w = .ok (.int .u64 0) w := fun _ => by kernel_rfl
theorem inf211 : (Tryz.prog.info? 211).map (fun i => (i.zero, i.size, i.bytes)) = some (some (.int .u64 0), 1, 8) := by kernel_rfl
theorem sz212 : (Tryz.prog.info? 212).map (·.size) = some 1 := by kernel_rfl
theorem co212 : Tryz.prog.cellsOf 212 = 1 := by kernel_rfl
theorem bo212 : Tryz.prog.bytesOf 212 = 8 := by kernel_rfl
theorem inf212 : (Tryz.prog.info? 212).map (fun i => (i.zero, i.size, i.bytes)) = some (some (.nilFunc), 1, 8) := by kernel_rfl
theorem sz213 : (Tryz.prog.info? 213).map (·.size) = some 1 := by kernel_rfl
theorem co213 : Tryz.prog.cellsOf 213 = 1 := by kernel_rfl
theorem bo213 : Tryz.prog.bytesOf 213 = 8 := by kernel_rfl
theorem inf213 : (Tryz.prog.info? 213).map (fun i => (i.zero, i.size, i.bytes)) = some (some (.nilFunc), 1, 8) := by kernel_rfl
theorem sz214 : (Tryz.prog.info? 214).map (·.size) = some 1 := by kernel_rfl
theorem co214 : Tryz.prog.cellsOf 214 = 1 := by kernel_rfl
theorem bo214 : Tryz.prog.bytesOf 214 = 8 := by kernel_rfl
theorem inf214 : (Tryz.prog.info? 214).map (fun i => (i.zero, i.size, i.bytes)) = some (some (.nilFunc), 1, 8) := by kernel_rfl
theorem sz215 : (Tryz.prog.info? 215).map (·.size) = some 1 := by kernel_rfl
theorem co215 : Tryz.prog.cellsOf 215 = 1 := by kernel_rfl
theorem bo215 : Tryz.prog.bytesOf 215 = 8 := by kernel_rfl
theorem inf215 : (Tryz.prog.info? 215).map (fun i => (i.zero, i.size, i.bytes)) = some (some (.nilFunc), 1, 8) := by kernel_rfl
theorem sz216 : (Tryz.prog.info? 216).map (·.size) = some 1 := by kernel_rfl
theorem co216 : Tryz.prog.cellsOf 216 = 1 := by kernel_rfl
theorem bo216 : Tryz.prog.bytesOf 216 = 8 := by kernel_rfl
theorem inf216 : (Tryz.prog.info? 216).map (fun i => (i.zero, i.size, i.bytes)) = some (some (.nilFunc), 1, 8) := by kernel_rfl
theorem sz217 : (Tryz.prog.info? 217).map (·.size) = some 1 := by kernel_rfl
theorem co217 : Tryz.prog.cellsOf 217 = 1 := by kernel_rfl
theorem bo217 : Tryz.prog.bytesOf 217 = 8 := by kernel_rfl
theorem inf217 : (Tryz.prog.info? 217).map (fun i => (i.zero, i.size, i.bytes)) = some (some (.nilFunc), 1, 8) := by kernel_rfl
theorem sz218 : (Tryz.prog.info? 218).map (·.size) = some 1 := by kernel_rfl
theorem co218 : Tryz.prog.cellsOf 218 = 1 := by kernel_rfl
theorem bo218 : Tryz.prog.bytesOf 218 = 8 := by kernel_rfl
theorem inf218 : (Tryz.prog.info? 218).map (fun i => (i.zero, i.size, i.bytes)) = some (some (.nilFunc), 1, 8) := by kernel_rfl
theorem sz219 : (Tryz.prog.info? 219).map (·.size) = some 1 := by kernel_rfl
theorem co219 : Tryz.prog.cellsOf 219 = 1 := by kernel_rfl
theorem bo219 : Tryz.prog.bytesOf 219 = 8 := by kernel_rfl
theorem inf219 : (Tryz.prog.info? 219).map (fun i => (i.zero, i.size, i.bytes)) = some (some (.nilFunc), 1, 8) := by kernel_rfl
theorem sz221 : (Tryz.prog.info? 221).map (·.size) = some 1 := by kernel_rfl
theorem co221 : Tryz.prog.cellsOf 221 = 1 := by kernel_rfl
theorem bo221 : Tryz.prog.bytesOf 221 = 8 := by kernel_rfl
theorem inf221 : (Tryz.prog.info? 221).map (fun i => (i.zero, i.size, i.bytes)) = some (some (.nilFunc), 1, 8) := by kernel_rfl
theorem sz222 : (Tryz.prog.info? 222).map (·.size) = some 1 := by kernel_rfl
theorem co222 : Tryz.prog.cellsOf 222 = 1 := by kernel_rfl
theorem bo222 : Tryz.prog.bytesOf 222 = 8 := by kernel_rfl
theorem inf222 : (Tryz.prog.info? 222).map (fun i => (i.zero, i.size, i.bytes)) = some (some (.nilFunc), 1, 8) := by kernel_rfl
theorem sz223 : (Tryz.prog.info? 223).map (·.size) = some 1 := by kernel_rfl
theorem co223 : Tryz.prog.cellsOf 223 = 1 := by kernel_rfl
theorem bo223 : Tryz.prog.bytesOf 223 = 8 := by kernel_rfl
theorem inf223 : (Tryz.prog.info? 223).map (fun i => (i.zero, i.size, i.bytes)) = some (some (.nilFunc), 1, 8) := by kernel_rfl
theorem sz224 : (Tryz.prog.info? 224).map (·.size) = some 1 := by kernel_rfl
theorem co224 : Tryz.prog.cellsOf 224 = 1 := by kernel_rfl
theorem bo224 : Tryz.prog.bytesOf 224 = 8 := by kernel_rfl
theorem z224 : ∀ w, (zeroValue 224).run Tryz.prog w = .ok (.pointer none) w := fun _ => by kernel_rfl
theorem inf224 : (Tryz.prog.info? 224).map (fun i => (i.zero, i.size, i.bytes)) = some (some (.pointer none), 1, 8) := by kernel_rfl
theorem sz225 : (Tryz.prog.info? 225).map (·.size) = some 1 := by kernel_rfl
theorem co225 : Tryz.prog.cellsOf 225 = 1 := by kernel_rfl
theorem bo225 : Tryz.prog.bytesOf 225 = 8 := by kernel_rfl
theorem inf225 : (Tryz.prog.info? 225).map (fun i => (i.zero, i.size, i.bytes)) = some (some (.nilFunc), 1, 8) := by kernel_rfl
theorem sz226 : (Tryz.prog.info? 226).map (·.size) = some 1 := by kernel_rfl
theorem co226 : Tryz.prog.cellsOf 226 = 1 := by kernel_rfl
theorem bo226 : Tryz.prog.bytesOf 226 = 8 := by kernel_rfl
theorem inf226 : (Tryz.prog.info? 226).map (fun i => (i.zero, i.size, i.bytes)) = some (some (.nilFunc), 1, 8) := by kernel_rfl
theorem sz227 : (Tryz.prog.info? 227).map (·.size) = some 1 := by kernel_rfl
theorem co227 : Tryz.prog.cellsOf 227 = 1 := by kernel_rfl
theorem bo227 : Tryz.prog.bytesOf 227 = 8 := by kernel_rfl
theorem inf227 : (Tryz.prog.info? 227).map (fun i => (i.zero, i.size, i.bytes)) = some (some (.nilFunc), 1, 8) := by kernel_rfl
theorem sz228 : (Tryz.prog.info? 228).map (·.size) = some 1 := by kernel_rfl
theorem co228 : Tryz.prog.cellsOf 228 = 1 := by kernel_rfl
theorem bo228 : Tryz.prog.bytesOf 228 = 8 := by kernel_rfl
theorem inf228 : (Tryz.prog.info? 228).map (fun i => (i.zero, i.size, i.bytes)) = some (some (.nilFunc), 1, 8) := by kernel_rfl
theorem sz229 : (Tryz.prog.info? 229).map (·.size) = some 1 := by kernel_rfl
theorem co229 : Tryz.prog.cellsOf 229 = 1 := by kernel_rfl
theorem bo229 : Tryz.prog.bytesOf 229 = 8 := by kernel_rfl
theorem z229 : ∀ w, (zeroValue 229).run Tryz.prog w = .ok (.int .i64 0) w := fun _ => by kernel_rfl
theorem inf229 : (Tryz.prog.info? 229).map (fun i => (i.zero, i.size, i.bytes)) = some (some (.int .i64 0), 1, 8) := by kernel_rfl
theorem sz231 : (Tryz.prog.info? 231).map (·.size) = some 1 := by kernel_rfl
theorem co231 : Tryz.prog.cellsOf 231 = 1 := by kernel_rfl
theorem bo231 : Tryz.prog.bytesOf 231 = 8 := by kernel_rfl
theorem inf231 : (Tryz.prog.info? 231).map (fun i => (i.zero, i.size, i.bytes)) = some (some (.nilFunc), 1, 8) := by kernel_rfl
theorem sz232 : (Tryz.prog.info? 232).map (·.size) = some 1 := by kernel_rfl
theorem co232 : Tryz.prog.cellsOf 232 = 1 := by kernel_rfl
theorem bo232 : Tryz.prog.bytesOf 232 = 8 := by kernel_rfl
theorem inf232 : (Tryz.prog.info? 232).map (fun i => (i.zero, i.size, i.bytes)) = some (some (.nilFunc), 1, 8) := by kernel_rfl
theorem sz233 : (Tryz.prog.info? 233).map (·.size) = some 1 := by kernel_rfl
theorem co233 : Tryz.prog.cellsOf 233 = 1 := by kernel_rfl
theorem bo233 : Tryz.prog.bytesOf 233 = 8 := by kernel_rfl
theorem inf233 : (Tryz.prog.info? 233).map (fun i => (i.zero, i.size, i.bytes)) = some (some (.nilFunc), 1, 8) := by kernel_rfl
theorem sz234 : (Tryz.prog.info? 234).map (·.size) = some 1 := by kernel_rfl
theorem co234 : Tryz.prog.cellsOf 234 = 1 := by kernel_rfl
theorem bo234 : Tryz.prog.bytesOf 234 = 8 := by kernel_rfl
theorem inf234 : (Tryz.prog.info? 234).map (fun i => (i.zero, i.size, i.bytes)) = some (some (.nilFunc), 1, 8) := by kernel_rfl
theorem sz235 : (Tryz.prog.info? 235).map (·.size) = some 1 := by kernel_rfl
theorem co235 : Tryz.prog.cellsOf 235 = 1 := by kernel_rfl
theorem bo235 : Tryz.prog.bytesOf 235 = 8 := by kernel_rfl
theorem inf235 : (Tryz.prog.info? 235).map (fun i => (i.zero, i.size, i.bytes)) = some (some (.nilFunc), 1, 8) := by kernel_rfl
theorem sz236 : (Tryz.prog.info? 236).map (·.size) = some 1 := by kernel_rfl
theorem co236 : Tryz.prog.cellsOf 236 = 1 := by kernel_rfl
theorem bo236 : Tryz.prog.bytesOf 236 = 4 := by kernel_rfl
theorem z236 : ∀ w, (zeroValue 236).run Tryz.prog w = .ok (.int .u32 0) w := fun _ => by kernel_rfl
theorem inf236 : (Tryz.prog.info? 236).map (fun i => (i.zero, i.size, i.bytes)) = some (some (.int .u32 0), 1, 4) := by kernel_rfl
theorem sz237 : (Tryz.prog.info? 237).map (·.size) = some 1 := by kernel_rfl
theorem co237 : Tryz.prog.cellsOf 237 = 1 := by kernel_rfl
theorem bo237 : Tryz.prog.bytesOf 237 = 8 := by kernel_rfl
theorem inf237 : (Tryz.prog.info? 237).map (fun i => (i.zero, i.size, i.bytes)) = some (some (.nilFunc), 1, 8) := by kernel_rfl
theorem sz238 : (Tryz.prog.info? 238).map (·.size) = some 1 := by kernel_rfl
theorem co238 : Tryz.prog.cellsOf 238 = 1 := by kernel_rfl
theorem bo238 : Tryz.prog.bytesOf 238 = 8 := by kernel_rfl
theorem z238 : ∀ w, (zeroValue 238).run Tryz.prog w = .ok (.int .u64 0) w := fun _ => by kernel_rfl
theorem inf238 : (Tryz.prog.info? 238).map (fun i => (i.zero, i.size, i.bytes)) = some (some (.int .u64 0), 1, 8) := by kernel_rfl
theorem sz239 : (Tryz.prog.info? 239).map (·.size) = some 1 := by kernel_rfl
theorem co239 : Tryz.prog.cellsOf 239 = 1 := by kernel_rfl
theorem bo239 : Tryz.prog.bytesOf 239 = 8 := by kernel_rfl
theorem inf239 : (Tryz.prog.info? 239).map (fun i => (i.zero, i.size, i.bytes)) = some (some (.nilFunc), 1, 8) := by kernel_rfl
theorem sz240 : (Tryz.prog.info? 240).map (·.size) = some 1 := by kernel_rfl
theorem co240 : Tryz.prog.cellsOf 240 = 1 := by kernel_rfl
theorem bo240 : Tryz.prog.bytesOf 240 = 8 := by kernel_rfl
theorem inf240 : (Tryz.prog.info? 240).map (fun i => (i.zero, i.size, i.bytes)) = some (some (.nilFunc), 1, 8) := by kernel_rfl
theorem sz241 : (Tryz.prog.info? 241).map (·.size) = some 1 := by kernel_rfl
theorem co241 : Tryz.prog.cellsOf 241 = 1 := by kernel_rfl
theorem bo241 : Tryz.prog.bytesOf 241 = 8 := by kernel_rfl
theorem inf241 : (Tryz.prog.info? 241).map (fun i => (i.zero, i.size, i.bytes)) = some (some (.nilFunc), 1, 8) := by kernel_rfl
theorem sz242 : (Tryz.prog.info? 242).map (·.size) = some 1 := by kernel_rfl
theorem co242 : Tryz.prog.cellsOf 242 = 1 := by kernel_rfl
theorem bo242 : Tryz.prog.bytesOf 242 = 8 := by kernel_rfl
theorem inf242 : (Tryz.prog.info? 242).map (fun i => (i.zero, i.size, i.bytes)) = some (some (.nilFunc), 1, 8) := by kernel_rfl
theorem sz243 : (Tryz.prog.info? 243).map (·.size) = some 1 := by kernel_rfl
theorem co243 : Tryz.prog.cellsOf 243 = 1 := by kernel_rfl
theorem bo243 : Tryz.prog.bytesOf 243 = 8 := by kernel_rfl
theorem inf243 : (Tryz.prog.info? 243).map (fun i => (i.zero, i.size, i.bytes)) = some (some (.nilFunc), 1, 8) := by kernel_rfl
theorem sz244 : (Tryz.prog.info? 244).map (·.size) = some 1 := by kernel_rfl
theorem co244 : Tryz.prog.cellsOf 244 = 1 := by kernel_rfl
theorem bo244 : Tryz.prog.bytesOf 244 = 8 := by kernel_rfl
theorem inf244 : (Tryz.prog.info? 244).map (fun i => (i.zero, i.size, i.bytes)) = some (some (.nilFunc), 1, 8) := by kernel_rfl
theorem sz245 : (Tryz.prog.info? 245).map (·.size) = some 1 := by kernel_rfl
theorem co245 : Tryz.prog.cellsOf 245 = 1 := by kernel_rfl
theorem bo245 : Tryz.prog.bytesOf 245 = 8 := by kernel_rfl
theorem inf245 : (Tryz.prog.info? 245).map (fun i => (i.zero, i.size, i.bytes)) = some (some (.nilFunc), 1, 8) := by kernel_rfl
theorem sz246 : (Tryz.prog.info? 246).map (·.size) = some 1 := by kernel_rfl
theorem co246 : Tryz.prog.cellsOf 246 = 1 := by kernel_rfl
theorem bo246 : Tryz.prog.bytesOf 246 = 8 := by kernel_rfl
theorem inf246 : (Tryz.prog.info? 246).map (fun i => (i.zero, i.size, i.bytes)) = some (some (.nilFunc), 1, 8) := by kernel_rfl
theorem sz247 : (Tryz.prog.info? 247).map (·.size) = some 1 := by kernel_rfl
theorem co247 : Tryz.prog.cellsOf 247 = 1 := by kernel_rfl
theorem bo247 : Tryz.prog.bytesOf 247 = 8 := by kernel_rfl
theorem inf247 : (Tryz.prog.info? 247).map (fun i => (i.zero, i.size, i.bytes)) = some (some (.nilFunc), 1, 8) := by kernel_rfl
theorem sz248 : (Tryz.prog.info? 248).map (·.size) = some 1 := by kernel_rfl
theorem co248 : Tryz.prog.cellsOf 248 = 1 := by kernel_rfl
theorem bo248 : Tryz.prog.bytesOf 248 = 8 := by kernel_rfl
theorem inf248 : (Tryz.prog.info? 248).map (fun i => (i.zero, i.size, i.bytes)) = some (some (.nilFunc), 1, 8) := by kernel_rfl
theorem sz249 : (Tryz.prog.info? 249).map (·.size) = some 1 := by kernel_rfl
theorem co249 : Tryz.prog.cellsOf 249 = 1 := by kernel_rfl
theorem bo249 : Tryz.prog.bytesOf 249 = 8 := by kernel_rfl
theorem inf249 : (Tryz.prog.info? 249).map (fun i => (i.zero, i.size, i.bytes)) = some (some (.nilFunc), 1, 8) := by kernel_rfl
theorem sz250 : (Tryz.prog.info? 250).map (·.size) = some 1 := by kernel_rfl
theorem co250 : Tryz.prog.cellsOf 250 = 1 := by kernel_rfl
theorem bo250 : Tryz.prog.bytesOf 250 = 8 := by kernel_rfl
theorem inf250 : (Tryz.prog.info? 250).map (fun i => (i.zero, i.size, i.bytes)) = some (some (.nilFunc), 1, 8) := by kernel_rfl
theorem sz251 : (Tryz.prog.info? 251).map (·.size) = some 24 := by kernel_rfl
theorem co251 : Tryz.prog.cellsOf 251 = 24 := by kernel_rfl
theorem bo251 : Tryz.prog.bytesOf 251 = 24 := by kernel_rfl
theorem z251 : ∀ w, (zeroValue 251).run Tryz.prog w = .ok (.agg #[.int .u8 0, .int .u8 0, .int .u8 0, .int .u8 0, .int .u8 0, .int .u8 0, .int .u8 0, .int .u8 0, .int .u8 0, .int .u8 0, .int .u8 0, .int .u8 0, .int .u8 0, .int .u8 0, .int .u8 0, .int .u8 0, .int .u8 0, .int .u8 0, .int .u8 0, .int .u8 0, .int .u8 0, .int .u8 0, .int .u8 0, .int .u8 0]) w := fun _ => by kernel_rfl
theorem inf251 : (Tryz.prog.info? 251).map (fun i => (i.zero, i.size, i.bytes)) = some (some (.agg #[.int .u8 0, .int .u8 0, .int .u8 0, .int .u8 0, .int .u8 0, .int .u8 0, .int .u8 0, .int .u8 0, .int .u8 0, .int .u8 0, .int .u8 0, .int .u8 0, .int .u8 0, .int .u8 0, .int .u8 0, .int .u8 0, .int .u8 0, .int .u8 0, .int .u8 0, .int .u8 0, .int .u8 0, .int .u8 0, .int .u8 0, .int .u8 0]), 24, 24) := by kernel_rfl
theorem sz252 : (Tryz.prog.info? 252).map (·.size) = some 1 := by kernel_rfl
theorem co252 : Tryz.prog.cellsOf 252 = 1 := by kernel_rfl
theorem bo252 : Tryz.prog.bytesOf 252 = 8 := by kernel_rfl
theorem inf252 : (Tryz.prog.info? 252).map (fun i => (i.zero, i.size, i.bytes)) = some (some (.nilFunc), 1, 8) := by kernel_rfl
theorem sz254 : (Tryz.prog.info? 254).map (·.size) = some 1 := by kernel_rfl
theorem co254 : Tryz.prog.cellsOf 254 = 1 := by kernel_rfl
theorem bo254 : Tryz.prog.bytesOf 254 = 8 := by kernel_rfl
theorem inf254 : (Tryz.prog.info? 254).map (fun i => (i.zero, i.size, i.bytes)) = some (some (.nilFunc), 1, 8) := by kernel_rfl
theorem sz255 : (Tryz.prog.info? 255).map (·.size) = some 1 := by kernel_rfl
theorem co255 : Tryz.prog.cellsOf 255 = 1 := by kernel_rfl
theorem bo255 : Tryz.prog.bytesOf 255 = 8 := by kernel_rfl
theorem z255 : ∀ w, (zeroValue 255).run Tryz.prog w = .ok (.pointer none) w := fun _ => by kernel_rfl
theorem inf255 : (Tryz.prog.info? 255).map (fun i => (i.zero, i.size, i.bytes)) = some (some (.pointer none), 1, 8) := by kernel_rfl
theorem sz256 : (Tryz.prog.info? 256).map (·.size) = some 1 := by kernel_rfl
theorem co256 : Tryz.prog.cellsOf 256 = 1 := by kernel_rfl
theorem bo256 : Tryz.prog.bytesOf 256 = 8 := by kernel_rfl
theorem inf256 : (Tryz.prog.info? 256).map (fun i => (i.zero, i.size, i.bytes)) = some (some (.nilFunc), 1, 8) := by kernel_rfl
theorem sz257 : (Tryz.prog.info? 257).map (·.size) = some 1 := by kernel_rfl
theorem co257 : Tryz.prog.cellsOf 257 = 1 := by kernel_rfl
theorem bo257 : Tryz.prog.bytesOf 257 = 8 := by kernel_rfl
theorem inf257 : (Tryz.prog.info? 257).map (fun i => (i.zero, i.size, i.bytes)) = some (some (.nilFunc), 1, 8) := by kernel_rfl
theorem sz258 : (Tryz.prog.info? 258).map (·.size) = some 1 := by kernel_rfl
theorem co258 : Tryz.prog.cellsOf 258 = 1 := by kernel_rfl
theorem bo258 : Tryz.prog.bytesOf 258 = 8 := by kernel_rfl
theorem z258 : ∀ w, (zeroValue 258).run Tryz.prog w = .ok (.int .i64 0) w := fun _ => by kernel_rfl
theorem inf258 : (Tryz.prog.info? 258).map (fun i => (i.zero, i.size, i.bytes)) = some (some (.int .i64 0), 1, 8) := by kernel_rfl
theorem sz260 : (Tryz.prog.info? 260).map (·.size) = some 1 := by kernel_rfl
theorem co260 : Tryz.prog.cellsOf 260 = 1 := by kernel_rfl
theorem bo260 : Tryz.prog.bytesOf 260 = 8 := by kernel_rfl
theorem inf260 : (Tryz.prog.info? 260).map (fun i => (i.zero, i.size, i.bytes)) = some (some (.nilFunc), 1, 8) := by kernel_rfl
theorem sz261 : (Tryz.prog.info? 261).map (·.size) = some 1 := by kernel_rfl
theorem co261 : Tryz.prog.cellsOf 261 = 1 := by kernel_rfl
theorem bo261 : Tryz.prog.bytesOf 261 = 8 := by kernel_rfl
theorem z261 : ∀ w, (zeroValue 261).run Tryz.prog w = .ok (.pointer none) w := fun _ => by kernel_rfl
theorem inf261 : (Tryz.prog.info? 261).map (fun i => (i.zero, i.size, i.bytes)) = some (some (.pointer none), 1, 8) := by kernel_rfl
theorem sz262 : (Tryz.prog.info? 262).map (·.size) = some 1 := by kernel_rfl
theorem co262 : Tryz.prog.cellsOf 262 = 1 := by kernel_rfl
theorem bo262 : Tryz.prog.bytesOf 262 = 8 := by kernel_rfl
theorem inf262 : (Tryz.prog.info? 262).map (fun i => (i.zero, i.size, i.bytes)) = some (some (.nilFunc), 1, 8) := by kernel_rfl
theorem sz263 : (Tryz.prog.info? 263).map (·.size) = some 1 := by kernel_rfl
theorem co263 : Tryz.prog.cellsOf 263 = 1 := by kernel_rfl
theorem bo263 : Tryz.prog.bytesOf 263 = 8 := by kernel_rfl
theorem inf263 : (Tryz.prog.info? 263).map (fun i => (i.zero, i.size, i.bytes)) = some (some (.nilFunc), 1, 8) := by kernel_rfl
theorem sz264 : (Tryz.prog.info? 264).map (·.size) = some 1 := by kernel_rfl
theorem co264 : Tryz.prog.cellsOf 264 = 1 := by kernel_rfl
theorem bo264 : Tryz.prog.bytesOf 264 = 8 := by kernel_rfl
theorem inf264 : (Tryz.prog.info? 264).map (fun i => (i.zero, i.size, i.bytes)) = some (some (.nilFunc), 1, 8) := by kernel_rfl
theorem sz265 : (Tryz.prog.info? 265).map (·.size) = some 1 := by kernel_rfl
theorem co265 : Tryz.prog.cellsOf 265 = 1 := by kernel_rfl
theorem bo265 : Tryz.prog.bytesOf 265 = 8 := by kernel_rfl
theorem inf265 : (Tryz.prog.info? 265).map (fun i => (i.zero, i.size, i.bytes)) = some (some (.nilFunc), 1, 8) := by kernel_rfl
theorem sz266 : (Tryz.prog.info? 266).map (·.size) = some 1 := by kernel_rfl
theorem co266 : Tryz.prog.cellsOf 266 = 1 := by kernel_rfl
theorem bo266 : Tryz.prog.bytesOf 266 = 8 := by kernel_rfl
theorem z266 : ∀ w, (zeroValue 266).run Tryz.prog w = .ok (.int .u64 0) w := fun _ => by kernel_rfl
theorem inf266 : (Tryz.prog.info? 266).map (fun i => (i.zero, i.size, i.bytes)) = some (some (.int .u64 0), 1, 8) := by kernel_rfl
theorem sz267 : (Tryz.prog.info? 267).map (·.size) = some 1 := by kernel_rfl
theorem co267 : Tryz.prog.cellsOf 267 = 1 := by kernel_rfl
theorem bo267 : Tryz.prog.bytesOf 267 = 8 := by kernel_rfl
theorem inf267 : (Tryz.prog.info? 267).map (fun i => (i.zero, i.size, i.bytes)) = some (some (.nilFunc), 1, 8) := by kernel_rfl
theorem sz268 : (Tryz.prog.info? 268).map (·.size) = some 1 := by kernel_rfl
theorem co268 : Tryz.prog.cellsOf 268 = 1 := by kernel_rfl
theorem bo268 : Tryz.prog.bytesOf 268 = 8 := by kernel_rfl
theorem inf268 : (Tryz.prog.info? 268).map (fun i => (i.zero, i.size, i.bytes)) = some (some (.nilFunc), 1, 8) := by kernel_rfl
theorem sz269 : (Tryz.prog.info? 269).map (·.size) = some 1 := by kernel_rfl
theorem co269 : Tryz.prog.cellsOf 269 = 1 := by kernel_rfl
theorem bo269 : Tryz.prog.bytesOf 269 = 8 := by kernel_rfl
theorem inf269 : (Tryz.prog.info? 269).map (fun i => (i.zero, i.size, i.bytes)) = some (some (.nilFunc), 1, 8) := by kernel_rfl
theorem sz270 : (Tryz.prog.info? 270).map (·.size) = some 1 := by kernel_rfl
theorem co270 : Tryz.prog.cellsOf 270 = 1 := by kernel_rfl
theorem bo270 : Tryz.prog.bytesOf 270 = 8 := by kernel_rfl
theorem z270 : ∀ w, (zeroValue 270).run Tryz.prog w = .ok (.pointer none) w := fun _ => by kernel_rfl
theorem inf270 : (Tryz.prog.info? 270).map (fun i => (i.zero, i.size, i.bytes)) = some (some (.pointer none), 1, 8) := by kernel_rfl
theorem sz271 : (Tryz.prog.info? 271).map (·.size) = some 1 := by kernel_rfl
theorem co271 : Tryz.prog.cellsOf 271 = 1 := by kernel_rfl
theorem bo271 : Tryz.prog.bytesOf 271 = 8 := by kernel_rfl
theorem inf271 : (Tryz.prog.info? 271).map (fun i => (i.zero, i.size, i.bytes)) = some (some (.nilFunc), 1, 8) := by kernel_rfl
theorem sz272 : (Tryz.prog.info? 272).map (·.size) = some 1 := by kernel_rfl
theorem co272 : Tryz.prog.cellsOf 272 = 1 := by kernel_rfl
theorem bo272 : Tryz.prog.bytesOf 272 = 8 := by kernel_rfl
theorem inf272 : (Tryz.prog.info? 272).map (fun i => (i.zero, i.size, i.bytes)) = some (some (.nilFunc), 1, 8) := by kernel_rfl
theorem sz273 : (Tryz.prog.info? 273).map (·.size) = some 1 := by kernel_rfl
theorem co273 : Tryz.prog.cellsOf 273 = 1 := by kernel_rfl
theorem bo273 : Tryz.prog.bytesOf 273 = 8 := by kernel_rfl
theorem inf273 : (Tryz.prog.info? 273).map (fun i => (i.zero, i.size, i.bytes)) = some (some (.nilFunc), 1, 8) := by kernel_rfl
theorem sz274 : (Tryz.prog.info? 274).map (·.size) = some 1 := by kernel_rfl
theorem co274 : Tryz.prog.cellsOf 274 = 1 := by kernel_rfl
theorem bo274 : Tryz.prog.bytesOf 274 = 8 := by kernel_rfl
theorem inf274 : (Tryz.prog.info? 274).map (fun i => (i.zero, i.size, i.bytes)) = some (some (.nilFunc), 1, 8) := by kernel_rfl
theorem sz275 : (Tryz.prog.info? 275).map (·.size) = some 1 := by kernel_rfl
theorem co275 : Tryz.prog.cellsOf 275 = 1 := by kernel_rfl
theorem bo275 : Tryz.prog.bytesOf 275 = 8 := by kernel_rfl
theorem inf275 : (Tryz.prog.info? 275).map (fun i => (i.zero, i.size, i.bytes)) = some (some (.nilFunc), 1, 8) := by kernel_rfl
theorem sz276 : (Tryz.prog.info? 276).map (·.size) = some 1 := by kernel_rfl
theorem co276 : Tryz.prog.cellsOf 276 = 1 := by kernel_rfl
theorem bo276 : Tryz.prog.bytesOf 276 = 8 := by kernel_rfl
theorem inf276 : (Tryz.prog.info? 276).map (fun i => (i.zero, i.size, i.bytes)) = some (some (.nilFunc), 1, 8) := by kernel_rfl
theorem sz278 : (Tryz.prog.info? 278).map (·.size) = some 1 := by kernel_rfl
theorem co278 : Tryz.prog.cellsOf 278 = 1 := by kernel_rfl
theorem bo278 : Tryz.prog.bytesOf 278 = 8 := by kernel_rfl
theorem inf278 : (Tryz.prog.info? 278).map (fun i => (i.zero, i.size, i.bytes)) = some (some (.nilFunc), 1, 8) := by kernel_rfl
theorem sz279 : (Tryz.prog.info? 279).map (·.size) = some 256 := by kernel_rfl
theorem co279 : Tryz.prog.cellsOf 279 = 256 := by kernel_rfl
theorem bo279 : Tryz.prog.bytesOf 279 = 256 := by kernel_rfl
theorem z279 : ∀ w, (zeroValue 279).run Tryz.prog w = .ok (.agg #[.int .u8 0, .int .u8 0, .int .u8 0, .int .u8 0, .int .u8 0, .int .u8 0, .int .u8 0, .int .u8 0, .int .u8 0, .int .u8 0, .int .u8 0, .int .u8 0, .int .u8 0, .int .u8 0, .int .u8 0, .int .u8 0, .int .u8 0, .int .u8 0, .int .u8 0, .int .u8 0, .int .u8 0, .int .u8 0, .int .u8 0, .int .u8 0, .int .u8 0, .int .u8 0, .int .u8 0, .int .u8 0, .int .u8 0, .int .u8 0, .int .u8 0, .int .u8 0, .int .u8 0, .int .u8 0, .int .u8 0, .int .u8 0, .int .u8 0, .int .u8 0, .int .u8 0, .int .u8 0, .int .u8 0, .int .u8 0, .int .u8 0, .int .u8 0, .int .u8 0, .int .u8 0, .int .u8 0, .int .u8 0, .int .u8 0, .int .u8 0, .int .u8 0, .int .u8 0, .int .u8 0, .int .u8 0, .int .u8 0, .int .u8 0, .int .u8 0, .int .u8 0, .int .u8 0, .int .u8 0, .int .u8 0, .int .u8 0, .int .u8 0, .int .u8 0, .int .u8 0, .int .u8 0, .int .u8 0, .int .u8 0, .int .u8 0, .int .u8 0, .int .u8 0, .int .u8 0, .int .u8 0, .int .u8 0, .int .u8 0, .int .u8 0, .int .u8 0, .int .u8 0, .int .u8 0, .int .u8 0, .int .u8 0, .int .u8 0, .int .u8 0, .int .u8 0, .int .u8 0, .int .u8 0, .int .u8 0, .int .u8 0, .int .u8 0, .int .u8 0, .int .u8 0, .int .u8 0, .int .u8 0, .int .u8 0, .int .u8 0, .int .u8 0, .int .u8 0, .int .u8 0, .int .u8 0, .int .u8 0, .int .u8 0, .int .u8 0, .int .u8 0, .int .u8 0, .int .u8 0, .int .u8 0, .int .u8 0, .int .u8 0, .int .u8 0, .int .u8 0, .int .u8 0, .int .u8 0, .int .u8 0, .int .u8 0, .int .u8 0, .int .u8 0, .int .u8 0, .int .u8 0, .int .u8 0, .int .u8 0, .int .u8 0, .int .u8 0, .int .u8 0, .int .u8 0, .int .u8 0, .int .u8 0, .int .u8 0, .int .u8 0, .int .u8 0, .int .u8 0, .int .u8 0, .int .u8 0, .int .u8 0, .int .u8 0, .int .u8 0, .int .u8 0, .int .u8 0, .int .u8 0, .int .u8 0, .int .u8 0, .int .u8 0, .int .u8 0, .int .u8 0, .int .u8 0, .int .u8 0, .int .u8 0, .int .u8 0, .int .u8 0, .int .u8 0, .int .u8 0, .int .u8 0, .int .u8 0, .int .u8 0, .int .u8 0, .int .u8 0, .int .u8 0, .int .u8 0, .int .u8 0, .int .u8 0, .int .u8 0, .int .u8 0, .int .u8 0, .int .u8 0, .int .u8 0, .int .u8 0, .int .u8 0, .int .u8 0, .int .u8 0, .int .u8 0, .int .u8 0, .int .u8 0, .int .u8 0, .int .u8 0, .int .u8 0, .int .u8 0, .int .u8 0, .int .u8 0, .int .u8 0, .int .u8 0, .int .u8 0, .int .u8 0, .int .u8 0, .int .u8 0, .int .u8 0, .int .u8 0, .int .u8 0, .int .u8 0, .int .u8 0, .int .u8 0, .int .u8 0, .int .u8 0, .int .u8 0, .int .u8 0, .int .u8 0, .int .u8 0, .int .u8 0, .int .u8 0, .int .u8 0, .int .u8 0, .int .u8 0, .int .u8 0, .int .u8 0, .int .u8 0, .int .u8 0, .int .u8 0, .int .u8 0, .int .u8 0, .int .u8 0, .int .u8 0, .int .u8 0, .int .u8 0, .int .u8 0, .int .u8 0, .int .u8 0, .int .u8 0, .int .u8 0, .int .u8 0, .int .u8 0, .int .u8 0, .int .u8 0, .int .u8 0, .int .u8 0, .int .u8 0, .int .u8 0, .int .u8 0, .int .u8 0, .int .u8 0, .int .u8 0, .int .u8 0, .int .u8 0, .int .u8 0, .int .u8 0, .int .u8 0, .int .u8 0, .int .u8 0, .int .u8 0, .int .u8 0, .int .u8 0, .int .u8 0, .int .u8 0, .int .u8 0, .int .u8 0, .int .u8 0, .int .u8 0, .int .u8 0, .int .u8 0, .int .u8 0, .int .u8 0, .int .u8 0, .int .u8 0, .int .u8 0, .int .u8 0, .int .u8 0, .int .u8 0, .int .u8 0, .int .u8 0]) w := fun _ => by kernel_rfl
theorem inf279 : (Tryz.prog.info? 279).map (fun i => (i.zero, i.size, i.bytes)) = some (some (.agg #[.int .u8 0, .int .u8 0, .int .u8 0, .int .u8 0, .int .u8 0, .int .u8 0, .int .u8 0, .int .u8 0, .int .u8 0, .int .u8 0, .int .u8 0, .int .u8 0, .int .u8 0, .int .u8 0, .int .u8 0, .int .u8 0, .int .u8 0, .int .u8 0, .int .u8 0, .int .u8 0, .int .u8 0, .int .u8 0, .int .u8 0, .int .u8 0, .int .u8 0, .int .u8 0, .int .u8 0, .int .u8 0, .int .u8 0, .int .u8 0, .int .u8 0, .int .u8 0, .int .u8 0, .int .u8 0, .int .u8 0, .int .u8 0, .int .u8 0, .int .u8 0, .int .u8 0, .int .u8 0, .int .u8 0, .int .u8 0, .int .u8 0, .int .u8 0, .int .u8 0, .int .u8 0, .int .u8 0, .int .u8 0, .int .u8 0, .int .u8 0, .int .u8 0, .int .u8 0, .int .u8 0, .int .u8 0, .int .u8 0, .int .u8 0, .int .u8 0, .int .u8 0, .int .u8 0, .int .u8 0, .int .u8 0, .int .u8 0, .int .u8 0, .int .u8 0, .int .u8 0, .int .u8 0, .int .u8 0, .int .u8 0, .int .u8 0, .int .u8 0, .int .u8 0, .int .u8 0, .int .u8 0, .int .u8 0, .int .u8 0, .int .u8 0, .int .u8 0, .int .u8 0, .int .u8 0, .int .u8 0, .int .u8 0, .int .u8 0, .int .u8 0, .int .u8 0, .int .u8 0, .int .u8 0, .int .u8 0, .int .u8 0, .int .u8 0, .int .u8 0, .int .u8 0, .int .u8 0, .int .u8 0, .int .u8 0, .int .u8 0, .int .u8 0, .int .u8 0, .int .u8 0, .int .u8 0, .int .u8 0, .int .u8 0, .int .u8 0, .int .u8 0, .int .u8 0, .int .u8 0, .int .u8 0, .int .u8 0, .int .u8 0, .int .u8 0, .int .u8 0, .int .u8 0, .int .u8 0, .int .u8 0, .int .u8 0, .int .u8 0, .int .u8 0, .int .u8 0, .int .u8 0, .int .u8 0, .int .u8 0, .int .u8 0, .int .u8 0, .int .u8 0, .int .u8 0, .int .u8 0, .int .u8 0, .int .u8 0, .int .u8 0, .int .u8 0, .int .u8 0, .int .u8 0, .int .u8 0, .int .u8 0, .int .u8 0, .int .u8 0, .int .u8 0, .int .u8 0, .int .u8 0, .int .u8 0, .int .u8 0, .int .u8 0, .int .u8 0, .int .u8 0, .int .u8 0, .int .u8 0, .int .u8 0, .int .u8 0, .int .u8 0, .int .u8 0, .int .u8 0, .int .u8 0, .int .u8 0, .int .u8 0, .int .u8 0, .int .u8 0, .int .u8 0, .int .u8 0, .int .u8 0, .int .u8 0, .int .u8 0, .int .u8 0, .int .u8 0, .int .u8 0, .int .u8 0, .int .u8 0, .int .u8 0, .int .u8 0, .int .u8 0, .int .u8 0, .int .u8 0, .int .u8 0, .int .u8 0, .int .u8 0, .int .u8 0, .int .u8 0, .int .u8 0, .int .u8 0, .int .u8 0, .int .u8 0, .int .u8 0, .int .u8 0, .int .u8 0, .int .u8 0, .int .u8 0, .int .u8 0, .int .u8 0, .int .u8 0, .int .u8 0, .int .u8 0, .int .u8 0, .int .u8 0, .int .u8 0, .int .u8 0, .int .u8 0, .int .u8 0, .int .u8 0, .int .u8 0, .int .u8 0, .int .u8 0, .int .u8 0, .int .u8 0, .int .u8 0, .int .u8 0, .int .u8 0, .int .u8 0, .int .u8 0, .int .u8 0, .int .u8 0, .int .u8 0, .int .u8 0, .int .u8 0, .int .u8 0, .int .u8 0, .int .u8 0, .int .u8 0, .int .u8 0, .int .u8 0, .int .u8 0, .int .u8 0, .int .u8 0, .int .u8 0, .int .u8 0, .int .u8 0, .int .u8 0, .int .u8 0, .int .u8 0, .int .u8 0, .int .u8 0, .int .u8 0, .int .u8 0, .int .u8 0, .int .u8 0, .int .u8 0, .int .u8 0, .int .u8 0, .int .u8 0, .int .u8 0, .int .u8 0, .int .u8 0, .int .u8 0, .int .u8 0, .int .u8 0, .int .u8 0, .int .u8 0, .int .u8 0, .int .u8 0, .int .u8 0, .int .u8 0, .int .u8 0, .int .u8 0, .int .u8 0, .int .u8 0, .int .u8 0, .int .u8 0, .int .u8 0, .int .u8 0]), 256, 256) := by kernel_rfl
theorem sz280 : (Tryz.prog.info? 280).map (·.size) = some 2 := by kernel_rfl
theorem co280 : Tryz.prog.cellsOf 280 = 2 := by kernel_rfl
theorem bo280 : Tryz.prog.bytesOf 280 = 2 := by kernel_rfl
theorem z280 : ∀ w, (zeroValue 280).run Tryz.prog w = .ok (.agg #[.int .u8 0, .int .u8 0]) w := fun _ => by kernel_rfl
theorem inf280 : (Tryz.prog.info? 280).map (fun i => (i.zero, i.size, i.bytes)) = some (some (.agg #[.int .u8 0, .int .u8 0]), 2, 2) := by kernel_rfl
theorem fa280_0 : ∀ a w, (Instr.fieldAt 280 (.pointer (some a)) 0).run Tryz.prog w = .ok (.pointer (some (a.add 0))) w := run_field (b := 1) Tryz.underlying280 rfl rfl (by kernel_rfl) (by decide)
theorem fa280_1 : ∀ a w, (Instr.fieldAt 280 (.pointer (some a)) 1).run Tryz.prog w = .ok (.pointer (some (a.add 1))) w := run_field (b := 1) Tryz.underlying280 rfl rfl (by kernel_rfl) (by decide)
theorem sz281 : (Tryz.prog.info? 281).map (·.size) = some 2 := by kernel_rfl
theorem co281 : Tryz.prog.cellsOf 281 = 2 := by kernel_rfl
theorem bo281 : Tryz.prog.bytesOf 281 = 2 := by kernel_rfl
theorem z281 : ∀ w, (zeroValue 281).run Tryz.prog w = .ok (.agg #[.int .u8 0, .int .u8 0]) w := fun _ => by kernel_rfl
theorem inf281 : (Tryz.prog.info? 281).map (fun i => (i.zero, i.size, i.bytes)) = some (some (.agg #[.int .u8 0, .int .u8 0]), 2, 2) := by kernel_rfl
theorem fa281_0 : ∀ a w, (Instr.fieldAt 281 (.pointer (some a)) 0).run Tryz.prog w = .ok (.pointer (some (a.add 0))) w := run_field (b := 1) Tryz.underlying281 rfl rfl (by kernel_rfl) (by decide)
theorem fa281_1 : ∀ a w, (Instr.fieldAt 281 (.pointer (some a)) 1).run Tryz.prog w = .ok (.pointer (some (a.add 1))) w := run_field (b := 1) Tryz.underlying281 rfl rfl (by kernel_rfl) (by decide)
theorem sz282 : (Tryz.prog.info? 282).map (·.size) = some 32 := by kernel_rfl
theorem co282 : Tryz.prog.cellsOf 282 = 32 := by kernel_rfl
theorem bo282 : Tryz.prog.bytesOf 282 = 32 := by kernel_rfl
theorem z282 : ∀ w, (zeroValue 282).run Tryz.prog w = .ok (.agg #[.int .u8 0, .int .u8 0, .int .u8 0, .int .u8 0, .int .u8 0, .int .u8 0, .int .u8 0, .int .u8 0, .int .u8 0, .int .u8 0, .int .u8 0, .int .u8 0, .int .u8 0, .int .u8 0, .int .u8 0, .int .u8 0, .int .u8 0, .int .u8 0, .int .u8 0, .int .u8 0, .int .u8 0, .int .u8 0, .int .u8 0, .int .u8 0, .int .u8 0, .int .u8 0, .int .u8 0, .int .u8 0, .int .u8 0, .int .u8 0, .int .u8 0, .int .u8 0]) w := fun _ => by kernel_rfl
theorem inf282 : (Tryz.prog.info? 282).map (fun i => (i.zero, i.size, i.bytes)) = some (some (.agg #[.int .u8 0, .int .u8 0, .int .u8 0, .int .u8 0, .int .u8 0, .int .u8 0, .int .u8 0, .int .u8 0, .int .u8 0, .int .u8 0, .int .u8 0, .int .u8 0, .int .u8 0, .int .u8 0, .int .u8 0, .int .u8 0, .int .u8 0, .int .u8 0, .int .u8 0, .int .u8 0, .int .u8 0, .int .u8 0, .int .u8 0, .int .u8 0, .int .u8 0, .int .u8 0, .int .u8 0, .int .u8 0, .int .u8 0, .int .u8 0, .int .u8 0, .int .u8 0]), 32, 32) := by kernel_rfl
theorem sz283 : (Tryz.prog.info? 283).map (·.size) = some 1 := by kernel_rfl
theorem co283 : Tryz.prog.cellsOf 283 = 1 := by kernel_rfl
theorem bo283 : Tryz.prog.bytesOf 283 = 8 := by kernel_rfl
theorem inf283 : (Tryz.prog.info? 283).map (fun i => (i.zero, i.size, i.bytes)) = some (some (.nilFunc), 1, 8) := by kernel_rfl
theorem sz284 : (Tryz.prog.info? 284).map (·.size) = some 1 := by kernel_rfl
theorem co284 : Tryz.prog.cellsOf 284 = 1 := by kernel_rfl
theorem bo284 : Tryz.prog.bytesOf 284 = 8 := by kernel_rfl
theorem inf284 : (Tryz.prog.info? 284).map (fun i => (i.zero, i.size, i.bytes)) = some (some (.nilFunc), 1, 8) := by kernel_rfl
theorem sz285 : (Tryz.prog.info? 285).map (·.size) = some 20 := by kernel_rfl
theorem co285 : Tryz.prog.cellsOf 285 = 20 := by kernel_rfl
theorem bo285 : Tryz.prog.bytesOf 285 = 160 := by kernel_rfl
theorem z285 : ∀ w, (zeroValue 285).run Tryz.prog w = .ok (.agg #[.int .u64 0, .int .u64 0, .int .u64 0, .int .u64 0, .int .u64 0, .int .u64 0, .int .u64 0, .int .u64 0, .int .u64 0, .int .u64 0, .int .u64 0, .int .u64 0, .int .u64 0, .int .u64 0, .int .u64 0, .int .u64 0, .int .u64 0, .int .u64 0, .int .u64 0, .int .u64 0]) w := fun _ => by kernel_rfl
theorem inf285 : (Tryz.prog.info? 285).map (fun i => (i.zero, i.size, i.bytes)) = some (some (.agg #[.int .u64 0, .int .u64 0, .int .u64 0, .int .u64 0, .int .u64 0, .int .u64 0, .int .u64 0, .int .u64 0, .int .u64 0, .int .u64 0, .int .u64 0, .int .u64 0, .int .u64 0, .int .u64 0, .int .u64 0, .int .u64 0, .int .u64 0, .int .u64 0, .int .u64 0, .int .u64 0]), 20, 160) := by kernel_rfl
theorem sz286 : (Tryz.prog.info? 286).map (·.size) = some 65 := by kernel_rfl
theorem co286 : Tryz.prog.cellsOf 286 = 65 := by kernel_rfl
theorem bo286 : Tryz.prog.bytesOf 286 = 65 := by kernel_rfl
theorem z286 : ∀ w, (zeroValue 286).run Tryz.prog w = .ok (.agg #[.int .u8 0, .int .u8 0, .int .u8 0, .int .u8 0, .int .u8 0, .int .u8 0, .int .u8 0, .int .u8 0, .int .u8 0, .int .u8 0, .int .u8 0, .int .u8 0, .int .u8 0, .int .u8 0, .int .u8 0, .int .u8 0, .int .u8 0, .int .u8 0, .int .u8 0, .int .u8 0, .int .u8 0, .int .u8 0, .int .u8 0, .int .u8 0, .int .u8 0, .int .u8 0, .int .u8 0, .int .u8 0, .int .u8 0, .int .u8 0, .int .u8 0, .int .u8 0, .int .u8 0, .int .u8 0, .int .u8 0, .int .u8 0, .int .u8 0, .int .u8 0, .int .u8 0, .int .u8 0, .int .u8 0, .int .u8 0, .int .u8 0, .int .u8 0, .int .u8 0, .int .u8 0, .int .u8 0, .int .u8 0, .int .u8 0, .int .u8 0, .int .u8 0, .int .u8 0, .int .u8 0, .int .u8 0, .int .u8 0, .int .u8 0, .int .u8 0, .int .u8 0, .int .u8 0, .int .u8 0, .int .u8 0, .int .u8 0, .int .u8 0, .int .u8 0, .int .u8 0]) w := fun _ => by kernel_rfl
theorem inf286 : (Tryz.prog.info? 286).map (fun i => (i.zero, i.size, i.bytes)) = some (some (.agg #[.int .u8 0, .int .u8 0, .int .u8 0, .int .u8 0, .int .u8 0, .int .u8 0, .int .u8 0, .int .u8 0, .int .u8 0, .int .u8 0, .int .u8 0, .int .u8 0, .int .u8 0, .int .u8 0, .int .u8 0, .int .u8 0, .int .u8 0, .int .u8 0, .int .u8 0, .int .u8 0, .int .u8 0, .int .u8 0, .int .u8 0, .int .u8 0, .int .u8 0, .int .u8 0, .int .u8 0, .int .u8 0, .int .u8 0, .int .u8 0, .int .u8 0, .int .u8 0, .int .u8 0, .int .u8 0, .int .u8 0, .int .u8 0, .int .u8 0, .int .u8 0, .int .u8 0, .int .u8 0, .int .u8 0, .int .u8 0, .int .u8 0, .int .u8 0, .int .u8 0, .int .u8 0, .int .u8 0, .int .u8 0, .int .u8 0, .int .u8 0, .int .u8 0, .int .u8 0, .int .u8 0, .int .u8 0, .int .u8 0, .int .u8 0, .int .u8 0, .int .u8 0, .int .u8 0, .int .u8 0, .int .u8 0, .int .u8 0, .int .u8 0, .int .u8 0, .int .u8 0]), 65, 65) := by kernel_rfl
theorem sz288 : (Tryz.prog.info? 288).map (·.size) = some 1 := by kernel_rfl
theorem co288 : Tryz.prog.cellsOf 288 = 1 := by kernel_rfl
theorem bo288 : Tryz.prog.bytesOf 288 = 8 := by kernel_rfl
theorem inf288 : (Tryz.prog.info? 288).map (fun i => (i.zero, i.size, i.bytes)) = some (some (.nilFunc), 1, 8) := by kernel_rfl
theorem sz289 : (Tryz.prog.info? 289).map (·.size) = some 3 := by kernel_rfl
theorem co289 : Tryz.prog.cellsOf 289 = 3 := by kernel_rfl
theorem bo289 : Tryz.prog.bytesOf 289 = 48 := by kernel_rfl
theorem z289 : ∀ w, (zeroValue 289).run Tryz.prog w = .ok (.agg #[.string ⟨#[]⟩, .string ⟨#[]⟩, .nilIface]) w := fun _ => by kernel_rfl
theorem inf289 : (Tryz.prog.info? 289).map (fun i => (i.zero, i.size, i.bytes)) = some (some (.agg #[.string ⟨#[]⟩, .string ⟨#[]⟩, .nilIface]), 3, 48) := by kernel_rfl
theorem fa289_0 : ∀ a w, (Instr.fieldAt 289 (.pointer (some a)) 0).run Tryz.prog w = .ok (.pointer (some (a.add 0))) w := run_field (b := 1) Tryz.underlying289 rfl rfl (by kernel_rfl) (by decide)
theorem fa289_1 : ∀ a w, (Instr.fieldAt 289 (.pointer (some a)) 1).run Tryz.prog w = .ok (.pointer (some (a.add 1))) w := run_field (b := 1) Tryz.underlying289 rfl rfl (by kernel_rfl) (by decide)
theorem fa289_2 : ∀ a w, (Instr.fieldAt 289 (.pointer (some a)) 2).run Tryz.prog w = .ok (.pointer (some (a.add 2))) w := run_field (b := 1) Tryz.underlying289 rfl rfl (by kernel_rfl) (by decide)
theorem sz290 : (Tryz.prog.info? 290).map (·.size) = some 3 := by kernel_rfl
theorem co290 : Tryz.prog.cellsOf 290 = 3 := by kernel_rfl
theorem bo290 : Tryz.prog.bytesOf 290 = 48 := by kernel_rfl
theorem z290 : ∀ w, (zeroValue 290).run Tryz.prog w = .ok (.agg #[.string ⟨#[]⟩, .string ⟨#[]⟩, .nilIface]) w := fun _ => by kernel_rfl
theorem inf290 : (Tryz.prog.info? 290).map (fun i => (i.zero, i.size, i.bytes)) = some (some (.agg #[.string ⟨#[]⟩, .string ⟨#[]⟩, .nilIface]), 3, 48) := by kernel_rfl
theorem fa290_0 : ∀ a w, (Instr.fieldAt 290 (.pointer (some a)) 0).run Tryz.prog w = .ok (.pointer (some (a.add 0))) w := run_field (b := 1) Tryz.underlying290 rfl rfl (by kernel_rfl) (by decide)
theorem fa290_1 : ∀ a w, (Instr.fieldAt 290 (.pointer (some a)) 1).run Tryz.prog w = .ok (.pointer (some (a.add 1))) w := run_field (b := 1) Tryz.underlying290 rfl rfl (by kernel_rfl) (by decide)
theorem fa290_2 : ∀ a w, (Instr.fieldAt 290 (.pointer (some a)) 2).run Tryz.prog w = .ok (.pointer (some (a.add 2))) w := run_field (b := 1) Tryz.underlying290 rfl rfl (by kernel_rfl) (by decide)
theorem sz291 : (Tryz.prog.info? 291).map (·.size) = some 1 := by kernel_rfl
theorem co291 : Tryz.prog.cellsOf 291 = 1 := by kernel_rfl
theorem bo291 : Tryz.prog.bytesOf 291 = 8 := by kernel_rfl
theorem inf291 : (Tryz.prog.info? 291).map (fun i => (i.zero, i.size, i.bytes)) = some (some (.nilFunc), 1, 8) := by kernel_rfl
theorem sz292 : (Tryz.prog.info? 292).map (·.size) = some 1 := by kernel_rfl
theorem co292 : Tryz.prog.cellsOf 292 = 1 := by kernel_rfl
theorem bo292 : Tryz.prog.bytesOf 292 = 8 := by kernel_rfl
theorem z292 : ∀ w, (zeroValue 292).run Tryz.prog w = .ok (.pointer none) w := fun _ => by kernel_rfl
theorem inf292 : (Tryz.prog.info? 292).map (fun i => (i.zero, i.size, i.bytes)) = some (some (.pointer none), 1, 8) := by kernel_rfl
theorem sz294 : (Tryz.prog.info? 294).map (·.size) = some 1 := by kernel_rfl
theorem co294 : Tryz.prog.cellsOf 294 = 1 := by kernel_rfl
theorem bo294 : Tryz.prog.bytesOf 294 = 8 := by kernel_rfl
theorem inf294 : (Tryz.prog.info? 294).map (fun i => (i.zero, i.size, i.bytes)) = some (some (.nilFunc), 1, 8) := by kernel_rfl
theorem sz295 : (Tryz.prog.info? 295).map (·.size) = some 1 := by kernel_rfl
theorem co295 : Tryz.prog.cellsOf 295 = 1 := by kernel_rfl
theorem bo295 : Tryz.prog.bytesOf 295 = 8 := by kernel_rfl
theorem inf295 : (Tryz.prog.info? 295).map (fun i => (i.zero, i.size, i.bytes)) = some (some (.nilFunc), 1, 8) := by kernel_rfl
theorem sz296 : (Tryz.prog.info? 296).map (·.size) = some 1 := by kernel_rfl
theorem co296 : Tryz.prog.cellsOf 296 = 1 := by kernel_rfl
theorem bo296 : Tryz.prog.bytesOf 296 = 8 := by kernel_rfl
theorem inf296 : (Tryz.prog.info? 296).map (fun i => (i.zero, i.size, i.bytes)) = some (some (.nilFunc), 1, 8) := by kernel_rfl
theorem sz297 : (Tryz.prog.info? 297).map (·.size) = some 1 := by kernel_rfl
theorem co297 : Tryz.prog.cellsOf 297 = 1 := by kernel_rfl
theorem bo297 : Tryz.prog.bytesOf 297 = 8 := by kernel_rfl
theorem z297 : ∀ w, (zeroValue 297).run Tryz.prog w = .ok (.pointer none) w := fun _ => by kernel_rfl
theorem inf297 : (Tryz.prog.info? 297).map (fun i => (i.zero, i.size, i.bytes)) = some (some (.pointer none), 1, 8) := by kernel_rfl
theorem sz298 : (Tryz.prog.info? 298).map (·.size) = some 1 := by kernel_rfl
theorem co298 : Tryz.prog.cellsOf 298 = 1 := by kernel_rfl
theorem bo298 : Tryz.prog.bytesOf 298 = 16 := by kernel_rfl
theorem z298 : ∀ w, (zeroValue 298).run Tryz.prog w = .ok (.agg #[.string ⟨#[]⟩]) w := fun _ => by kernel_rfl
theorem inf298 : (Tryz.prog.info? 298).map (fun i => (i.zero, i.size, i.bytes)) = some (some (.agg #[.string ⟨#[]⟩]), 1, 16) := by kernel_rfl
theorem fa298_0 : ∀ a w, (Instr.fieldAt 298 (.pointer (some a)) 0).run Tryz.prog w = .ok (.pointer (some (a.add 0))) w := run_field (b := 1) Tryz.underlying298 rfl rfl (by kernel_rfl) (by decide)
theorem sz299 : (Tryz.prog.info? 299).map (·.size) = some 1 := by kernel_rfl
theorem co299 : Tryz.prog.cellsOf 299 = 1 := by kernel_rfl
theorem bo299 : Tryz.prog.bytesOf 299 = 16 := by kernel_rfl
theorem z299 : ∀ w, (zeroValue 299).run Tryz.prog w = .ok (.agg #[.string ⟨#[]⟩]) w := fun _ => by kernel_rfl
theorem inf299 : (Tryz.prog.info? 299).map (fun i => (i.zero, i.size, i.bytes)) = some (some (.agg #[.string ⟨#[]⟩]), 1, 16) := by kernel_rfl
theorem fa299_0 : ∀ a w, (Instr.fieldAt 299 (.pointer (some a)) 0).run Tryz.prog w = .ok (.pointer (some (a.add 0))) w := run_field (b := 1) Tryz.underlying299 rfl rfl (by kernel_rfl) (by decide)
theorem sz300 : (Tryz.prog.info? 300).map (·.size) = some 32 := by kernel_rfl
theorem co300 : Tryz.prog.cellsOf 300 = 32 := by kernel_rfl
theorem bo300 : Tryz.prog.bytesOf 300 = 32 := by kernel_rfl
theorem z300 : ∀ w, (zeroValue 300).run Tryz.prog w = .ok (.agg #[.int .u8 0, .int .u8 0, .int .u8 0, .int .u8 0, .int .u8 0, .int .u8 0, .int .u8 0, .int .u8 0, .int .u8 0, .int .u8 0, .int .u8 0, .int .u8 0, .int .u8 0, .int .u8 0, .int .u8 0, .int .u8 0, .int .u8 0, .int .u8 0, .int .u8 0, .int .u8 0, .int .u8 0, .int .u8 0, .int .u8 0, .int .u8 0, .int .u8 0, .int .u8 0, .int .u8 0, .int .u8 0, .int .u8 0, .int .u8 0, .int .u8 0, .int .u8 0]) w := fun _ => by kernel_rfl
theorem inf300 : (Tryz.prog.info? 300).map (fun i => (i.zero, i.size, i.bytes)) = some (some (.agg #[.int .u8 0, .int .u8 0, .int .u8 0, .int .u8 0, .int .u8 0, .int .u8 0, .int .u8 0, .int .u8 0, .int .u8 0, .int .u8 0, .int .u8 0, .int .u8 0, .int .u8 0, .int .u8 0, .int .u8 0, .int .u8 0, .int .u8 0, .int .u8 0, .int .u8 0, .int .u8 0, .int .u8 0, .int .u8 0, .int .u8 0, .int .u8 0, .int .u8 0, .int .u8 0, .int .u8 0, .int .u8 0, .int .u8 0, .int .u8 0, .int .u8 0, .int .u8 0]), 32, 32) := by kernel_rfl
theorem sz301 : (Tryz.prog.info? 301).map (·.size) = some 64 := by kernel_rfl
theorem co301 : Tryz.prog.cellsOf 301 = 64 := by kernel_rfl
theorem bo301 : Tryz.prog.bytesOf 301 = 64 := by kernel_rfl
theorem z301 : ∀ w, (zeroValue 301).run Tryz.prog w = .ok (.agg #[.int .u8 0, .int .u8 0, .int .u8 0, .int .u8 0, .int .u8 0, .int .u8 0, .int .u8 0, .int .u8 0, .int .u8 0, .int .u8 0, .int .u8 0, .int .u8 0, .int .u8 0, .int .u8 0, .int .u8 0, .int .u8 0, .int .u8 0, .int .u8 0, .int .u8 0, .int .u8 0, .int .u8 0, .int .u8 0, .int .u8 0, .int .u8 0, .int .u8 0, .int .u8 0, .int .u8 0, .int .u8 0, .int .u8 0, .int .u8 0, .int .u8 0, .int .u8 0, .int .u8 0, .int .u8 0, .int .u8 0, .int .u8 0, .int .u8 0, .int .u8 0, .int .u8 0, .int .u8 0, .int .u8 0, .int .u8 0, .int .u8 0, .int .u8 0, .int .u8 0, .int .u8 0, .int .u8 0, .int .u8 0, .int .u8 0, .int .u8 0, .int .u8 0, .int .u8 0, .int .u8 0, .int .u8 0, .int .u8 0, .int .u8 0, .int .u8 0, .int .u8 0, .int .u8 0, .int .u8 0, .int .u8 0, .int .u8 0, .int .u8 0, .int .u8 0]) w := fun _ => by kernel_rfl
theorem inf301 : (Tryz.prog.info? 301).map (fun i => (i.zero, i.size, i.bytes)) = some (some (.agg #[.int .u8 0, .int .u8 0, .int .u8 0, .int .u8 0, .int .u8 0, .int .u8 0, .int .u8 0, .int .u8 0, .int .u8 0, .int .u8 0, .int .u8 0, .int .u8 0, .int .u8 0, .int .u8 0, .int .u8 0, .int .u8 0, .int .u8 0, .int .u8 0, .int .u8 0, .int .u8 0, .int .u8 0, .int .u8 0, .int .u8 0, .int .u8 0, .int .u8 0, .int .u8 0, .int .u8 0, .int .u8 0, .int .u8 0, .int .u8 0, .int .u8 0, .int .u8 0, .int .u8 0, .int .u8 0, .int .u8 0, .int .u8 0, .int .u8 0, .int .u8 0, .int .u8 0, .int .u8 0, .int .u8 0, .int .u8 0, .int .u8 0, .int .u8 0, .int .u8 0, .int .u8 0, .int .u8 0, .int .u8 0, .int .u8 0, .int .u8 0, .int .u8 0, .int .u8 0, .int .u8 0, .int .u8 0, .int .u8 0, .int .u8 0, .int .u8 0, .int .u8 0, .int .u8 0, .int .u8 0, .int .u8 0, .int .u8 0, .int .u8 0, .int .u8 0]), 64, 64) := by kernel_rfl
theorem sz302 : (Tryz.prog.info? 302).map (·.size) = some 4 := by kernel_rfl
theorem co302 : Tryz.prog.cellsOf 302 = 4 := by kernel_rfl
theorem bo302 : Tryz.prog.bytesOf 302 = 40 := by kernel_rfl
theorem z302 : ∀ w, (zeroValue 302).run Tryz.prog w = .ok (.agg #[.pointer none, .pointer none, .pointer none, .string ⟨#[]⟩]) w := fun _ => by kernel_rfl
theorem inf302 : (Tryz.prog.info? 302).map (fun i => (i.zero, i.size, i.bytes)) = some (some (.agg #[.pointer none, .pointer none, .pointer none, .string ⟨#[]⟩]), 4, 40) := by kernel_rfl
theorem fa302_0 : ∀ a w, (Instr.fieldAt 302 (.pointer (some a)) 0).run Tryz.prog w = .ok (.pointer (some (a.add 0))) w := run_field (b := 1) Tryz.underlying302 rfl rfl (by kernel_rfl) (by decide)
theorem fa302_1 : ∀ a w, (Instr.fieldAt 302 (.pointer (some a)) 1).run Tryz.prog w = .ok (.pointer (some (a.add 1))) w := run_field (b := 1) Tryz.underlying302 rfl rfl (by kernel_rfl) (by decide)
theorem fa302_2 : ∀ a w, (Instr.fieldAt 302 (.pointer (some a)) 2).run Tryz.prog w = .ok (.pointer (some (a.add 2))) w := run_field (b := 1) Tryz.underlying302 rfl rfl (by kernel_rfl) (by decide)
theorem fa302_3 : ∀ a w, (Instr.fieldAt 302 (.pointer (some a)) 3).run Tryz.prog w = .ok (.pointer (some (a.add 3))) w := run_field (b := 1) Tryz.underlying302 rfl rfl (by kernel_rfl) (by decide)
theorem sz303 : (Tryz.prog.info? 303).map (·.size) = some 4 := by kernel_rfl
theorem co303 : Tryz.prog.cellsOf 303 = 4 := by kernel_rfl
theorem bo303 : Tryz.prog.bytesOf 303 = 40 := by kernel_rfl
theorem z303 : ∀ w, (zeroValue 303).run Tryz.prog w = .ok (.agg #[.pointer none, .pointer none, .pointer none, .string ⟨#[]⟩]) w := fun _ => by kernel_rfl
theorem inf303 : (Tryz.prog.info? 303).map (fun i => (i.zero, i.size, i.bytes)) = some (some (.agg #[.pointer none, .pointer none, .pointer none, .string ⟨#[]⟩]), 4, 40) := by kernel_rfl
theorem fa303_0 : ∀ a w, (Instr.fieldAt 303 (.pointer (some a)) 0).run Tryz.prog w = .ok (.pointer (some (a.add 0))) w := run_field (b := 1) Tryz.underlying303 rfl rfl (by kernel_rfl) (by decide)
theorem fa303_1 : ∀ a w, (Instr.fieldAt 303 (.pointer (some a)) 1).run Tryz.prog w = .ok (.pointer (some (a.add 1))) w := run_field (b := 1) Tryz.underlying303 rfl rfl (by kernel_rfl) (by decide)
theorem fa303_2 : ∀ a w, (Instr.fieldAt 303 (.pointer (some a)) 2).run Tryz.prog w = .ok (.pointer (some (a.add 2))) w := run_field (b := 1) Tryz.underlying303 rfl rfl (by kernel_rfl) (by decide)
theorem fa303_3 : ∀ a w, (Instr.fieldAt 303 (.pointer (some a)) 3).run Tryz.prog w = .ok (.pointer (some (a.add 3))) w := run_field (b := 1) Tryz.underlying303 rfl rfl (by kernel_rfl) (by decide)
theorem sz304 : (Tryz.prog.info? 304).map (·.size) = some 0 := by kernel_rfl
theorem co304 : Tryz.prog.cellsOf 304 = 0 := by kernel_rfl
theorem bo304 : Tryz.prog.bytesOf 304 = 0 := by kernel_rfl
theorem z304 : ∀ w, (zeroValue 304).run Tryz.prog w = .ok (.agg #[]) w := fun _ => by kernel_rfl
theorem inf304 : (Tryz.prog.info? 304).map (fun i => (i.zero, i.size, i.bytes)) = some (some (.agg #[]), 0, 0) := by kernel_rfl
theorem sz305 : (Tryz.prog.info? 305).map (·.size) = some 0 := by kernel_rfl
theorem co305 : Tryz.prog.cellsOf 305 = 0 := by kernel_rfl
theorem bo305 : Tryz.prog.bytesOf 305 = 0 := by kernel_rfl
theorem z305 : ∀ w, (zeroValue 305).run Tryz.prog w = .ok (.agg #[]) w := fun _ => by kernel_rfl
theorem inf305 : (Tryz.prog.info? 305).map (fun i => (i.zero, i.size, i.bytes)) = some (some (.agg #[]), 0, 0) := by kernel_rfl
theorem sz306 : (Tryz.prog.info? 306).map (·.size) = some 0 := by kernel_rfl
theorem co306 : Tryz.prog.cellsOf 306 = 0 := by kernel_rfl
theorem bo306 : Tryz.prog.bytesOf 306 = 0 := by kernel_rfl
theorem z306 : ∀ w, (zeroValue 306).run Tryz.prog w = .ok (.agg #[]) w := fun _ => by kernel_rfl
theorem inf306 : (Tryz.prog.info? 306).map (fun i => (i.zero, i.size, i.bytes)) = some (some (.agg #[]), 0, 0) := by kernel_rfl
theorem sz307 : (Tryz.prog.info? 307).map (·.size) = some 1 := by kernel_rfl
theorem co307 : Tryz.prog.cellsOf 307 = 1 := by kernel_rfl
theorem bo307 : Tryz.prog.bytesOf 307 = 8 := by kernel_rfl
theorem inf307 : (Tryz.prog.info? 307).map (fun i => (i.zero, i.size, i.bytes)) = some (some (.nilFunc), 1, 8) := by kernel_rfl
theorem sz308 : (Tryz.prog.info? 308).map (·.size) = some 1 := by kernel_rfl
theorem co308 : Tryz.prog.cellsOf 308 = 1 := by kernel_rfl
theorem bo308 : Tryz.prog.bytesOf 308 = 1 := by kernel_rfl
theorem z308 : ∀ w, (zeroValue 308).run Tryz.prog w = .ok (.int .u8 0) w := fun _ => by kernel_rfl
theorem inf308 : (Tryz.prog.info? 308).map (fun i => (i.zero, i.size, i.bytes)) = some (some (.int .u8 0), 1, 1) := by kernel_rfl
theorem sz309 : (Tryz.prog.info? 309).map (·.size) = some 1 := by kernel_rfl
theorem co309 : Tryz.prog.cellsOf 309 = 1 := by kernel_rfl
theorem bo309 : Tryz.prog.bytesOf 309 = 1 := by kernel_rfl
theorem z309 : ∀ w, (zeroValue 309).run Tryz.prog w = .ok (.int .u8 0) w := fun _ => by kernel_rfl
theorem inf309 : (Tryz.prog.info? 309).map (fun i => (i.zero, i.size, i.bytes)) = some (some (.int .u8 0), 1, 1) := by kernel_rfl
theorem sz310 : (Tryz.prog.info? 310).map (·.size) = some 1 := by kernel_rfl
theorem co310 : Tryz.prog.cellsOf 310 = 1 := by kernel_rfl
theorem bo310 : Tryz.prog.bytesOf 310 = 8 := by kernel_rfl
theorem inf310 : (Tryz.prog.info? 310).map (fun i => (i.zero, i.size, i.bytes)) = some (some (.nilFunc), 1, 8) := by kernel_rfl
theorem sz311 : (Tryz.prog.info? 311).map (·.size) = some 1 := by kernel_rfl
theorem co311 : Tryz.prog.cellsOf 311 = 1 := by kernel_rfl
theorem bo311 : Tryz.prog.bytesOf 311 = 4 := by kernel_rfl
theorem z311 : ∀ w, (zeroValue 311).run Tryz.prog w = .ok (.int .i32 0) w := fun _ => by kernel_rfl
theorem inf311 : (Tryz.prog.info? 311).map (fun i => (i.zero, i.size, i.bytes)) = some (some (.int .i32 0), 1, 4) := by kernel_rfl
theorem sz312 : (Tryz.prog.info? 312).map (·.size) = some 1 := by kernel_rfl
theorem co312 : Tryz.prog.cellsOf 312 = 1 := by kernel_rfl
theorem bo312 : Tryz.prog.bytesOf 312 = 4 := by kernel_rfl
theorem z312 : ∀ w, (zeroValue 312).run Tryz.prog w = .ok (.int .i32 0) w := fun _ => by kernel_rfl
theorem inf312 : (Tryz.prog.info? 312).map (fun i => (i.zero, i.size, i.bytes)) = some (some (.int .i32 0), 1, 4) := by kernel_rfl
theorem sz313 : (Tryz.prog.info? 313).map (·.size) = some 11 := by kernel_rfl
theorem co313 : Tryz.prog.cellsOf 313 = 11 := by kernel_rfl
theorem bo313 : Tryz.prog.bytesOf 313 = 48 := by kernel_rfl
theorem z313 : ∀ w, (zeroValue 313).run Tryz.prog w = .ok (.agg #[.int .u64 0, .int .u64 0, .int .u32 0, .int .u8 0, .int .u8 0, .int .u8 0, .int .u8 0, .nilFunc, .pointer none, .int .i32 0, .int .i32 0]) w := fun _ => by kernel_rfl
theorem inf313 : (Tryz.prog.info? 313).map (fun i => (i.zero, i.size, i.bytes)) = some (some (.agg #[.int .u64 0, .int .u64 0, .int .u32 0, .int .u8 0, .int .u8 0, .int .u8 0, .int .u8 0, .nilFunc, .pointer none, .int .i32 0, .int .i32 0]), 11, 48) := by kernel_rfl
theorem fa313_0 : ∀ a w, (Instr.fieldAt 313 (.pointer (some a)) 0).run Tryz.prog w = .ok (.pointer (some (a.add 0))) w := run_field (b := 1) Tryz.underlying313 rfl rfl (by kernel_rfl) (by decide)
theorem fa313_1 : ∀ a w, (Instr.fieldAt 313 (.pointer (some a)) 1).run Tryz.prog w = .ok (.pointer (some (a.add 1))) w := run_field (b := 1) Tryz.underlying313 rfl rfl (by kernel_rfl) (by decide)
theorem fa313_2 : ∀ a w, (Instr.fieldAt 313 (.pointer (some a)) 2).run Tryz.prog w = .ok (.pointer (some (a.add 2))) w := run_field (b := 1) Tryz.underlying313 rfl rfl (by kernel_rfl) (by decide)
theorem fa313_3 : ∀ a w, (Instr.fieldAt 313 (.pointer (some a)) 3).run Tryz.prog w = .ok (.pointer (some (a.add 3))) w := run_field (b := 1) Tryz.underlying313 rfl rfl (by kernel_rfl) (by decide)
theorem fa313_4 : ∀ a w, (Instr.fieldAt 313 (.pointer (some a)) 4).run Tryz.prog w = .ok (.pointer (some (a.add 4))) w := run_field (b := 1) Tryz.underlying313 rfl rfl (by kernel_rfl) (by decide)
theorem fa313_5 : ∀ a w, (Instr.fieldAt 313 (.pointer (some a)) 5).run Tryz.prog w = .ok (.pointer (some (a.add 5))) w := run_field (b := 1) Tryz.underlying313 rfl rfl (by kernel_rfl) (by decide)
theorem fa313_6 : ∀ a w, (Instr.fieldAt 313 (.pointer (some a)) 6).run Tryz.prog w = .ok (.pointer (some (a.add 6))) w := run_field (b := 1) Tryz.underlying313 rfl rfl (by kernel_rfl) (by decide)
theorem fa313_7 : ∀ a w, (Instr.fieldAt 313 (.pointer (some a)) 7).run Tryz.prog w = .ok (.pointer (some (a.add 7))) w := run_field (b := 1) Tryz.underlying313 rfl rfl (by kernel_rfl) (by decide)
theorem fa313_8 : ∀ a w, (Instr.fieldAt 313 (.pointer (some a)) 8).run Tryz.prog w = .ok (.pointer (some (a.add 8))) w := run_field (b := 1) Tryz.underlying313 rfl rfl (by kernel_rfl) (by decide)
theorem fa313_9 : ∀ a w, (Instr.fieldAt 313 (.pointer (some a)) 9).run Tryz.prog w = .ok (.pointer (some (a.add 9))) w := run_field (b := 1) Tryz.underlying313 rfl rfl (by kernel_rfl) (by decide)
theorem fa313_10 : ∀ a w, (Instr.fieldAt 313 (.pointer (some a)) 10).run Tryz.prog w = .ok (.pointer (some (a.add 10))) w := run_field (b := 1) Tryz.underlying313 rfl rfl (by kernel_rfl) (by decide)
theorem sz314 : (Tryz.prog.info? 314).map (·.size) = some 11 := by kernel_rfl
theorem co314 : Tryz.prog.cellsOf 314 = 11 := by kernel_rfl
theorem bo314 : Tryz.prog.bytesOf 314 = 48 := by kernel_rfl
theorem z314 : ∀ w, (zeroValue 314).run Tryz.prog w = .ok (.agg #[.int .u64 0, .int .u64 0, .int .u32 0, .int .u8 0, .int .u8 0, .int .u8 0, .int .u8 0, .nilFunc, .pointer none, .int .i32 0, .int .i32 0]) w := fun _ => by kernel_rfl
theorem inf314 : (Tryz.prog.info? 314).map (fun i => (i.zero, i.size, i.bytes)) = some (some (.agg #[.int .u64 0, .int .u64 0, .int .u32 0, .int .u8 0, .int .u8 0, .int .u8 0, .int .u8 0, .nilFunc, .pointer none, .int .i32 0, .int .i32 0]), 11, 48) := by kernel_rfl
theorem fa314_0 : ∀ a w, (Instr.fieldAt 314 (.pointer (some a)) 0).run Tryz.prog w = .ok (.pointer (some (a.add 0))) w := run_field (b := 1) Tryz.underlying314 rfl rfl (by kernel_rfl) (by decide)
theorem fa314_1 : ∀ a w, (Instr.fieldAt 314 (.pointer (some a)) 1).run Tryz.prog w = .ok (.pointer (some (a.add 1))) w := run_field (b := 1) Tryz.underlying314 rfl rfl (by kernel_rfl) (by decide)
theorem fa314_2 : ∀ a w, (Instr.fieldAt 314 (.pointer (some a)) 2).run Tryz.prog w = .ok (.pointer (some (a.add 2))) w := run_field (b := 1) Tryz.underlying314 rfl rfl (by kernel_rfl) (by decide)
theorem fa314_3 : ∀ a w, (Instr.fieldAt 314 (.pointer (some a)) 3).run Tryz.prog w = .ok (.pointer (some (a.add 3))) w := run_field (b := 1) Tryz.underlying314 rfl rfl (by kernel_rfl) (by decide)
theorem fa314_4 : ∀ a w, (Instr.fieldAt 314 (.pointer (some a)) 4).run Tryz.prog w = .ok (.pointer (some (a.add 4))) w := run_field (b := 1) Tryz.underlying314 rfl rfl (by kernel_rfl) (by decide)
theorem fa314_5 : ∀ a w, (Instr.fieldAt 314 (.pointer (some a)) 5).run Tryz.prog w = .ok (.pointer (some (a.add 5))) w := run_field (b := 1) Tryz.underlying314 rfl rfl (by kernel_rfl) (by decide)
theorem fa314_6 : ∀ a w, (Instr.fieldAt 314 (.pointer (some a)) 6).run Tryz.prog w = .ok (.pointer (some (a.add 6))) w := run_field (b := 1) Tryz.underlying314 rfl rfl (by kernel_rfl) (by decide)
theorem fa314_7 : ∀ a w, (Instr.fieldAt 314 (.pointer (some a)) 7).run Tryz.prog w = .ok (.pointer (some (a.add 7))) w := run_field (b := 1) Tryz.underlying314 rfl rfl (by kernel_rfl) (by decide)
theorem fa314_8 : ∀ a w, (Instr.fieldAt 314 (.pointer (some a)) 8).run Tryz.prog w = .ok (.pointer (some (a.add 8))) w := run_field (b := 1) Tryz.underlying314 rfl rfl (by kernel_rfl) (by decide)
theorem fa314_9 : ∀ a w, (Instr.fieldAt 314 (.pointer (some a)) 9).run Tryz.prog w = .ok (.pointer (some (a.add 9))) w := run_field (b := 1) Tryz.underlying314 rfl rfl (by kernel_rfl) (by decide)
theorem fa314_10 : ∀ a w, (Instr.fieldAt 314 (.pointer (some a)) 10).run Tryz.prog w = .ok (.pointer (some (a.add 10))) w := run_field (b := 1) Tryz.underlying314 rfl rfl (by kernel_rfl) (by decide)
theorem cf2 : ∀ args w, (callFunc 2 args).run Tryz.prog w = .ok (.enter 2 args) w := run_cf Tryz.func2 (by kernel_rfl) rfl
theorem cf3 : ∀ args w, (callFunc 3 args).run Tryz.prog w = .ok (.enter 3 args) w := run_cf Tryz.func3 (by kernel_rfl) rfl
theorem cf4 : ∀ args w, (callFunc 4 args).run Tryz.prog w = .ok (.enter 4 args) w := run_cf Tryz.func4 (by kernel_rfl) rfl
theorem cf5 : ∀ args w, (callFunc 5 args).run Tryz.prog w = .ok (.enter 5 args) w := run_cf Tryz.func5 (by kernel_rfl) rfl
theorem cf6 : ∀ args w, (callFunc 6 args).run Tryz.prog w = .ok (.enter 6 args) w := run_cf Tryz.func6 (by kernel_rfl) rfl
theorem cf7 : ∀ args w, (callFunc 7 args).run Tryz.prog w = .ok (.enter 7 args) w := run_cf Tryz.func7 (by kernel_rfl) rfl
theorem cf8 : ∀ args w, (callFunc 8 args).run Tryz.prog w = .ok (.enter 8 args) w := run_cf Tryz.func8 (by kernel_rfl) rfl
theorem cf9 : ∀ args w, (callFunc 9 args).run Tryz.prog w = .ok (.enter 9 args) w := run_cf Tryz.func9 (by kernel_rfl) rfl
theorem cf10 : ∀ args w, (callFunc 10 args).run Tryz.prog w = .ok (.enter 10 args) w := run_cf Tryz.func10 (by kernel_rfl) rfl
theorem cf11 : ∀ args w, (callFunc 11 args).run Tryz.prog w = .ok (.enter 11 args) w := run_cf Tryz.func11 (by kernel_rfl) rfl
theorem cf12 : ∀ args w, (callFunc 12 args).run Tryz.prog w = .ok (.enter 12 args) w := run_cf Tryz.func12 (by kernel_rfl) rfl
theorem cf13 : ∀ args w, (callFunc 13 args).run Tryz.prog w = .ok (.enter 13 args) w := run_cf Tryz.func13 (by kernel_rfl) rfl
theorem cf14 : ∀ args w, (callFunc 14 args).run Tryz.prog w = .ok (.enter 14 args) w := run_cf Tryz.func14 (by kernel_rfl) rfl
theorem cf15 : ∀ args w, (callFunc 15 args).run Tryz.prog w = .ok (.enter 15 args) w := run_cf Tryz.func15 (by kernel_rfl) rfl
theorem cf16 : ∀ args w, (callFunc 16 args).run Tryz.prog w = .ok (.enter 16 args) w := run_cf Tryz.func16 (by kernel_rfl) rfl
theorem cf17 : ∀ args w, (callFunc 17 args).run Tryz.prog w = .ok (.enter 17 args) w := run_cf Tryz.func17 (by kernel_rfl) rfl
theorem cf18 : ∀ args w, (callFunc 18 args).run Tryz.prog w = .ok (.enter 18 args) w := run_cf Tryz.func18 (by kernel_rfl) rfl
theorem cf19 : ∀ args w, (callFunc 19 args).run Tryz.prog w = .ok (.enter 19 args) w := run_cf Tryz.func19 (by kernel_rfl) rfl
theorem cf20 : ∀ args w, (callFunc 20 args).run Tryz.prog w = .ok (.enter 20 args) w := run_cf Tryz.func20 (by kernel_rfl) rfl
theorem cf21 : ∀ args w, (callFunc 21 args).run Tryz.prog w = .ok (.enter 21 args) w := run_cf Tryz.func21 (by kernel_rfl) rfl
theorem cf22 : ∀ args w, (callFunc 22 args).run Tryz.prog w = .ok (.enter 22 args) w := run_cf Tryz.func22 (by kernel_rfl) rfl
theorem cf23 : ∀ args w, (callFunc 23 args).run Tryz.prog w = .ok (.enter 23 args) w := run_cf Tryz.func23 (by kernel_rfl) rfl
theorem cf24 : ∀ args w, (callFunc 24 args).run Tryz.prog w = .ok (.enter 24 args) w := run_cf Tryz.func24 (by kernel_rfl) rfl
theorem cf25 : ∀ args w, (callFunc 25 args).run Tryz.prog w = .ok (.enter 25 args) w := run_cf Tryz.func25 (by kernel_rfl) rfl
theorem cf26 : ∀ args w, (callFunc 26 args).run Tryz.prog w = .ok (.enter 26 args) w := run_cf Tryz.func26 (by kernel_rfl) rfl
theorem cf27 : ∀ args w, (callFunc 27 args).run Tryz.prog w = .ok (.enter 27 args) w := run_cf Tryz.func27 (by kernel_rfl) rfl
theorem cf28 : ∀ args w, (callFunc 28 args).run Tryz.prog w = .ok (.enter 28 args) w := run_cf Tryz.func28 (by kernel_rfl) rfl
theorem cf29 : ∀ args w, (callFunc 29 args).run Tryz.prog w = .ok (.enter 29 args) w := run_cf Tryz.func29 (by kernel_rfl) rfl
theorem cf30 : ∀ args w, (callFunc 30 args).run Tryz.prog w = .ok (.enter 30 args) w := run_cf Tryz.func30 (by kernel_rfl) rfl
theorem cf31 : ∀ args w, (callFunc 31 args).run Tryz.prog w = .ok (.enter 31 args) w := run_cf Tryz.func31 (by kernel_rfl) rfl
theorem cf32 : ∀ args w, (callFunc 32 args).run Tryz.prog w = .ok (.enter 32 args) w := run_cf Tryz.func32 (by kernel_rfl) rfl
theorem cf33 : ∀ args w, (callFunc 33 args).run Tryz.prog w = .ok (.enter 33 args) w := run_cf Tryz.func33 (by kernel_rfl) rfl
theorem cf34 : ∀ args w, (callFunc 34 args).run Tryz.prog w = .ok (.enter 34 args) w := run_cf Tryz.func34 (by kernel_rfl) rfl
theorem cf35 : ∀ args w, (callFunc 35 args).run Tryz.prog w = .ok (.enter 35 args) w := run_cf Tryz.func35 (by kernel_rfl) rfl
theorem cf36 : ∀ args w, (callFunc 36 args).run Tryz.prog w = .ok (.enter 36 args) w := run_cf Tryz.func36 (by kernel_rfl) rfl
theorem cf37 : ∀ args w, (callFunc 37 args).run Tryz.prog w = .ok (.enter 37 args) w := run_cf Tryz.func37 (by kernel_rfl) rfl
theorem cf38 : ∀ args w, (callFunc 38 args).run Tryz.prog w = .ok (.enter 38 args) w := run_cf Tryz.func38 (by kernel_rfl) rfl
theorem cf39 : ∀ args w, (callFunc 39 args).run Tryz.prog w = .ok (.enter 39 args) w := run_cf Tryz.func39 (by kernel_rfl) rfl
theorem cf40 : ∀ args w, (callFunc 40 args).run Tryz.prog w = .ok (.enter 40 args) w := run_cf Tryz.func40 (by kernel_rfl) rfl
theorem cf41 : ∀ args w, (callFunc 41 args).run Tryz.prog w = .ok (.enter 41 args) w := run_cf Tryz.func41 (by kernel_rfl) rfl
theorem cf42 : ∀ args w, (callFunc 42 args).run Tryz.prog w = .ok (.enter 42 args) w := run_cf Tryz.func42 (by kernel_rfl) rfl
theorem cf43 : ∀ args w, (callFunc 43 args).run Tryz.prog w = .ok (.enter 43 args) w := run_cf Tryz.func43 (by kernel_rfl) rfl
theorem cf44 : ∀ args w, (callFunc 44 args).run Tryz.prog w = .ok (.enter 44 args) w := run_cf Tryz.func44 (by kernel_rfl) rfl
theorem cf45 : ∀ args w, (callFunc 45 args).run Tryz.prog w = .ok (.enter 45 args) w := run_cf Tryz.func45 (by kernel_rfl) rfl
theorem cf46 : ∀ args w, (callFunc 46 args).run Tryz.prog w = .ok (.enter 46 args) w := run_cf Tryz.func46 (by kernel_rfl) rfl
theorem cf47 : ∀ args w, (callFunc 47 args).run Tryz.prog w = .ok (.enter 47 args) w := run_cf Tryz.func47 (by kernel_rfl) rfl
theorem cf48 : ∀ args w, (callFunc 48 args).run Tryz.prog w = .ok (.enter 48 args) w := run_cf Tryz.func48 (by kernel_rfl) rfl
theorem cf49 : ∀ args w, (callFunc 49 args).run Tryz.prog w = .ok (.enter 49 args) w := run_cf Tryz.func49 (by kernel_rfl) rfl
theorem cf50 : ∀ args w, (callFunc 50 args).run Tryz.prog w = .ok (.enter 50 args) w := run_cf Tryz.func50 (by kernel_rfl) rfl
theorem cf51 : ∀ args w, (callFunc 51 args).run Tryz.prog w = .ok (.enter 51 args) w := run_cf Tryz.func51 (by kernel_rfl) rfl
theorem cf52 : ∀ args w, (callFunc 52 args).run Tryz.prog w = .ok (.enter 52 args) w := run_cf Tryz.func52 (by kernel_rfl) rfl
theorem cf53 : ∀ args w, (callFunc 53 args).run Tryz.prog w = .ok (.enter 53 args) w := run_cf Tryz.func53 (by kernel_rfl) rfl
theorem cf54 : ∀ args w, (callFunc 54 args).run Tryz.prog w = .ok (.enter 54 args) w := run_cf Tryz.func54 (by kernel_rfl) rfl
theorem cf55 : ∀ args w, (callFunc 55 args).run Tryz.prog w = .ok (.enter 55 args) w := run_cf Tryz.func55 (by kernel_rfl) rfl
theorem cf56 : ∀ args w, (callFunc 56 args).run Tryz.prog w = .ok (.enter 56 args) w := run_cf Tryz.func56 (by kernel_rfl) rfl
theorem cf57 : ∀ args w, (callFunc 57 args).run Tryz.prog w = .ok (.enter 57 args) w := run_cf Tryz.func57 (by kernel_rfl) rfl
theorem cf58 : ∀ args w, (callFunc 58 args).run Tryz.prog w = .ok (.enter 58 args) w := run_cf Tryz.func58 (by kernel_rfl) rfl
theorem cf59 : ∀ args w, (callFunc 59 args).run Tryz.prog w = .ok (.enter 59 args) w := run_cf Tryz.func59 (by kernel_rfl) rfl
theorem cf60 : ∀ args w, (callFunc 60 args).run Tryz.prog w = .ok (.enter 60 args) w := run_cf Tryz.func60 (by kernel_rfl) rfl
theorem cf61 : ∀ args w, (callFunc 61 args).run Tryz.prog w = .ok (.enter 61 args) w := run_cf Tryz.func61 (by kernel_rfl) rfl
theorem cf62 : ∀ args w, (callFunc 62 args).run Tryz.prog w = .ok (.enter 62 args) w := run_cf Tryz.func62 (by kernel_rfl) rfl
theorem cf63 : ∀ args w, (callFunc 63 args).run Tryz.prog w = .ok (.enter 63 args) w := run_cf Tryz.func63 (by kernel_rfl) rfl
theorem cf64 : ∀ args w, (callFunc 64 args).run Tryz.prog w = .ok (.enter 64 args) w := run_cf Tryz.func64 (by kernel_rfl) rfl
theorem cf65 : ∀ args w, (callFunc 65 args).run Tryz.prog w = .ok (.enter 65 args) w := run_cf Tryz.func65 (by kernel_rfl) rfl
theorem cf66 : ∀ args w, (callFunc 66 args).run Tryz.prog w = .ok (.enter 66 args) w := run_cf Tryz.func66 (by kernel_rfl) rfl
theorem cf67 : ∀ args w, (callFunc 67 args).run Tryz.prog w = .ok (.enter 67 args) w := run_cf Tryz.func67 (by kernel_rfl) rfl
theorem cf68 : ∀ args w, (callFunc 68 args).run Tryz.prog w = .ok (.enter 68 args) w := run_cf Tryz.func68 (by kernel_rfl) rfl
theorem cf69 : ∀ args w, (callFunc 69 args).run Tryz.prog w = .ok (.enter 69 args) w := run_cf Tryz.func69 (by kernel_rfl) rfl
theorem cf70 : ∀ args w, (callFunc 70 args).run Tryz.prog w = .ok (.enter 70 args) w := run_cf Tryz.func70 (by kernel_rfl) rfl
theorem cf71 : ∀ args w, (callFunc 71 args).run Tryz.prog w = .ok (.enter 71 args) w := run_cf Tryz.func71 (by kernel_rfl) rfl
theorem cf72 : ∀ args w, (callFunc 72 args).run Tryz.prog w = .ok (.enter 72 args) w := run_cf Tryz.func72 (by kernel_rfl) rfl
theorem cf73 : ∀ args w, (callFunc 73 args).run Tryz.prog w = .ok (.enter 73 args) w := run_cf Tryz.func73 (by kernel_rfl) rfl
theorem cf74 : ∀ args w, (callFunc 74 args).run Tryz.prog w = .ok (.enter 74 args) w := run_cf Tryz.func74 (by kernel_rfl) rfl
theorem cf75 : ∀ args w, (callFunc 75 args).run Tryz.prog w = .ok (.enter 75 args) w := run_cf Tryz.func75 (by kernel_rfl) rfl
theorem cf76 : ∀ args w, (callFunc 76 args).run Tryz.prog w = .ok (.enter 76 args) w := run_cf Tryz.func76 (by kernel_rfl) rfl
theorem cf77 : ∀ args w, (callFunc 77 args).run Tryz.prog w = .ok (.enter 77 args) w := run_cf Tryz.func77 (by kernel_rfl) rfl
theorem cf78 : ∀ args w, (callFunc 78 args).run Tryz.prog w = .ok (.enter 78 args) w := run_cf Tryz.func78 (by kernel_rfl) rfl
theorem cf79 : ∀ args w, (callFunc 79 args).run Tryz.prog w = .ok (.enter 79 args) w := run_cf Tryz.func79 (by kernel_rfl) rfl
theorem cf80 : ∀ args w, (callFunc 80 args).run Tryz.prog w = .ok (.enter 80 args) w := run_cf Tryz.func80 (by kernel_rfl) rfl
theorem cf81 : ∀ args w, (callFunc 81 args).run Tryz.prog w = .ok (.enter 81 args) w := run_cf Tryz.func81 (by kernel_rfl) rfl
theorem cf82 : ∀ args w, (callFunc 82 args).run Tryz.prog w = .ok (.enter 82 args) w := run_cf Tryz.func82 (by kernel_rfl) rfl
theorem cf83 : ∀ args w, (callFunc 83 args).run Tryz.prog w = .ok (.enter 83 args) w := run_cf Tryz.func83 (by kernel_rfl) rfl
theorem cf84 : ∀ args w, (callFunc 84 args).run Tryz.prog w = .ok (.enter 84 args) w := run_cf Tryz.func84 (by kernel_rfl) rfl
theorem cf85 : ∀ args w, (callFunc 85 args).run Tryz.prog w = .ok (.enter 85 args) w := run_cf Tryz.func85 (by kernel_rfl) rfl
theorem cf86 : ∀ args w, (callFunc 86 args).run Tryz.prog w = .ok (.enter 86 args) w := run_cf Tryz.func86 (by kernel_rfl) rfl
theorem cf87 : ∀ args w, (callFunc 87 args).run Tryz.prog w = .ok (.enter 87 args) w := run_cf Tryz.func87 (by kernel_rfl) rfl
theorem cf88 : ∀ args w, (callFunc 88 args).run Tryz.prog w = .ok (.enter 88 args) w := run_cf Tryz.func88 (by kernel_rfl) rfl
theorem cf89 : ∀ args w, (callFunc 89 args).run Tryz.prog w = .ok (.enter 89 args) w := run_cf Tryz.func89 (by kernel_rfl) rfl
theorem cf90 : ∀ args w, (callFunc 90 args).run Tryz.prog w = .ok (.enter 90 args) w := run_cf Tryz.func90 (by kernel_rfl) rfl
theorem cf91 : ∀ args w, (callFunc 91 args).run Tryz.prog w = .ok (.enter 91 args) w := run_cf Tryz.func91 (by kernel_rfl) rfl
theorem cf92 : ∀ args w, (callFunc 92 args).run Tryz.prog w = .ok (.enter 92 args) w := run_cf Tryz.func92 (by kernel_rfl) rfl
theorem cf93 : ∀ args w, (callFunc 93 args).run Tryz.prog w = .ok (.enter 93 args) w := run_cf Tryz.func93 (by kernel_rfl) rfl
theorem cf94 : ∀ args w, (callFunc 94 args).run Tryz.prog w = .ok (.enter 94 args) w := run_cf Tryz.func94 (by kernel_rfl) rfl
theorem cf95 : ∀ args w, (callFunc 95 args).run Tryz.prog w = .ok (.enter 95 args) w := run_cf Tryz.func95 (by kernel_rfl) rfl
theorem cf96 : ∀ args w, (callFunc 96 args).run Tryz.prog w = .ok (.enter 96 args) w := run_cf Tryz.func96 (by kernel_rfl) rfl
theorem cf97 : ∀ args w, (callFunc 97 args).run Tryz.prog w = .ok (.enter 97 args) w := run_cf Tryz.func97 (by kernel_rfl) rfl
theorem cf98 : ∀ args w, (callFunc 98 args).run Tryz.prog w = .ok (.enter 98 args) w := run_cf Tryz.func98 (by kernel_rfl) rfl
theorem cf99 : ∀ args w, (callFunc 99 args).run Tryz.prog w = .ok (.enter 99 args) w := run_cf Tryz.func99 (by kernel_rfl) rfl
theorem cf100 : ∀ args w, (callFunc 100 args).run Tryz.prog w = .ok (.enter 100 args) w := run_cf Tryz.func100 (by kernel_rfl) rfl
theorem cf101 : ∀ args w, (callFunc 101 args).run Tryz.prog w = .ok (.enter 101 args) w := run_cf Tryz.func101 (by kernel_rfl) rfl
theorem cf102 : ∀ args w, (callFunc 102 args).run Tryz.prog w = .ok (.enter 102 args) w := run_cf Tryz.func102 (by kernel_rfl) rfl
theorem cf103 : ∀ args w, (callFunc 103 args).run Tryz.prog w = .ok (.enter 103 args) w := run_cf Tryz.func103 (by kernel_rfl) rfl
theorem cf104 : ∀ args w, (callFunc 104 args).run Tryz.prog w = .ok (.enter 104 args) w := run_cf Tryz.func104 (by kernel_rfl) rfl
theorem cf105 : ∀ args w, (callFunc 105 args).run Tryz.prog w = .ok (.enter 105 args) w := run_cf Tryz.func105 (by kernel_rfl) rfl
theorem cf106 : ∀ args w, (callFunc 106 args).run Tryz.prog w = .ok (.enter 106 args) w := run_cf Tryz.func106 (by kernel_rfl) rfl
theorem cf107 : ∀ args w, (callFunc 107 args).run Tryz.prog w = .ok (.enter 107 args) w := run_cf Tryz.func107 (by kernel_rfl) rfl
theorem cf108 : ∀ args w, (callFunc 108 args).run Tryz.prog w = .ok (.enter 108 args) w := run_cf Tryz.func108 (by kernel_rfl) rfl
theorem cf109 : ∀ args w, (callFunc 109 args).run Tryz.prog w = .ok (.enter 109 args) w := run_cf Tryz.func109 (by kernel_rfl) rfl
theorem cf110 : ∀ args w, (callFunc 110 args).run Tryz.prog w = .ok (.enter 110 args) w := run_cf Tryz.func110 (by kernel_rfl) rfl
theorem cf111 : ∀ args w, (callFunc 111 args).run Tryz.prog w = .ok (.enter 111 args) w := run_cf Tryz.func111 (by kernel_rfl) rfl
theorem cf112 : ∀ args w, (callFunc 112 args).run Tryz.prog w = .ok (.enter 112 args) w := run_cf Tryz.func112 (by kernel_rfl) rfl
theorem cf113 : ∀ args w, (callFunc 113 args).run Tryz.prog w = .ok (.enter 113 args) w := run_cf Tryz.func113 (by kernel_rfl) rfl
theorem cf114 : ∀ args w, (callFunc 114 args).run Tryz.prog w = .ok (.enter 114 args) w := run_cf Tryz.func114 (by kernel_rfl) rfl
theorem cf115 : ∀ args w, (callFunc 115 args).run Tryz.prog w = .ok (.enter 115 args) w := run_cf Tryz.func115 (by kernel_rfl) rfl
theorem cf116 : ∀ args w, (callFunc 116 args).run Tryz.prog w = .ok (.enter 116 args) w := run_cf Tryz.func116 (by kernel_rfl) rfl
theorem cf117 : ∀ args w, (callFunc 117 args).run Tryz.prog w = .ok (.enter 117 args) w := run_cf Tryz.func117 (by kernel_rfl) rfl
theorem cf118 : ∀ args w, (callFunc 118 args).run Tryz.prog w = .ok (.enter 118 args) w := run_cf Tryz.func118 (by kernel_rfl) rfl
theorem cf119 : ∀ args w, (callFunc 119 args).run Tryz.prog w = .ok (.enter 119 args) w := run_cf Tryz.func119 (by kernel_rfl) rfl
theorem cf120 : ∀ args w, (callFunc 120 args).run Tryz.prog w = .ok (.enter 120 args) w := run_cf Tryz.func120 (by kernel_rfl) rfl
theorem cf121 : ∀ args w, (callFunc 121 args).run Tryz.prog w = .ok (.enter 121 args) w := run_cf Tryz.func121 (by kernel_rfl) rfl
theorem cf122 : ∀ args w, (callFunc 122 args).run Tryz.prog w = .ok (.enter 122 args) w := run_cf Tryz.func122 (by kernel_rfl) rfl
theorem cf123 : ∀ args w, (callFunc 123 args).run Tryz.prog w = .ok (.enter 123 args) w := run_cf Tryz.func123 (by kernel_rfl) rfl
theorem cf124 : ∀ args w, (callFunc 124 args).run Tryz.prog w = .ok (.enter 124 args) w := run_cf Tryz.func124 (by kernel_rfl) rfl
theorem cf125 : ∀ args w, (callFunc 125 args).run Tryz.prog w = .ok (.enter 125 args) w := run_cf Tryz.func125 (by kernel_rfl) rfl
theorem cf126 : ∀ args w, (callFunc 126 args).run Tryz.prog w = .ok (.enter 126 args) w := run_cf Tryz.func126 (by kernel_rfl) rfl
theorem cf127 : ∀ args w, (callFunc 127 args).run Tryz.prog w = .ok (.enter 127 args) w := run_cf Tryz.func127 (by kernel_rfl) rfl
theorem cf128 : ∀ args w, (callFunc 128 args).run Tryz.prog w = .ok (.enter 128 args) w := run_cf Tryz.func128 (by kernel_rfl) rfl
theorem cf129 : ∀ args w, (callFunc 129 args).run Tryz.prog w = .ok (.enter 129 args) w := run_cf Tryz.func129 (by kernel_rfl) rfl
theorem cf130 : ∀ args w, (callFunc 130 args).run Tryz.prog w = .ok (.enter 130 args) w := run_cf Tryz.func130 (by kernel_rfl) rfl
theorem cf131 : ∀ args w, (callFunc 131 args).run Tryz.prog w = .ok (.enter 131 args) w := run_cf Tryz.func131 (by kernel_rfl) rfl
theorem cf132 : ∀ args w, (callFunc 132 args).run Tryz.prog w = .ok (.enter 132 args) w := run_cf Tryz.func132 (by kernel_rfl) rfl
theorem cf133 : ∀ args w, (callFunc 133 args).run Tryz.prog w = .ok (.enter 133 args) w := run_cf Tryz.func133 (by kernel_rfl) rfl
theorem cf134 : ∀ args w, (callFunc 134 args).run Tryz.prog w = .ok (.enter 134 args) w := run_cf Tryz.func134 (by kernel_rfl) rfl
theorem cf135 : ∀ args w, (callFunc 135 args).run Tryz.prog w = .ok (.enter 135 args) w := run_cf Tryz.func135 (by kernel_rfl) rfl
theorem cf136 : ∀ args w, (callFunc 136 args).run Tryz.prog w = .ok (.enter 136 args) w := run_cf Tryz.func136 (by kernel_rfl) rfl
theorem cf137 : ∀ args w, (callFunc 137 args).run Tryz.prog w = .ok (.enter 137 args) w := run_cf Tryz.func137 (by kernel_rfl) rfl
theorem cf138 : ∀ args w, (callFunc 138 args).run Tryz.prog w = .ok (.enter 138 args) w := run_cf Tryz.func138 (by kernel_rfl) rfl
theorem cf139 : ∀ args w, (callFunc 139 args).run Tryz.prog w = .ok (.enter 139 args) w := run_cf Tryz.func139 (by kernel_rfl) rfl
theorem cf140 : ∀ args w, (callFunc 140 args).run Tryz.prog w = .ok (.enter 140 args) w := run_cf Tryz.func140 (by kernel_rfl) rfl
theorem cf141 : ∀ args w, (callFunc 141 args).run Tryz.prog w = .ok (.enter 141 args) w := run_cf Tryz.func141 (by kernel_rfl) rfl
theorem cf142 : ∀ args w, (callFunc 142 args).run Tryz.prog w = .ok (.enter 142 args) w := run_cf Tryz.func142 (by kernel_rfl) rfl
theorem cf143 : ∀ args w, (callFunc 143 args).run Tryz.prog w = .ok (.enter 143 args) w := run_cf Tryz.func143 (by kernel_rfl) rfl
theorem cf144 : ∀ args w, (callFunc 144 args).run Tryz.prog w = .ok (.enter 144 args) w := run_cf Tryz.func144 (by kernel_rfl) rfl
theorem cf145 : ∀ args w, (callFunc 145 args).run Tryz.prog w = .ok (.enter 145 args) w := run_cf Tryz.func145 (by kernel_rfl) rfl
theorem cf146 : ∀ args w, (callFunc 146 args).run Tryz.prog w = .ok (.enter 146 args) w := run_cf Tryz.func146 (by kernel_rfl) rfl
theorem cf147 : ∀ args w, (callFunc 147 args).run Tryz.prog w = .ok (.enter 147 args) w := run_cf Tryz.func147 (by kernel_rfl) rfl
theorem cf148 : ∀ args w, (callFunc 148 args).run Tryz.prog w = .ok (.enter 148 args) w := run_cf Tryz.func148 (by kernel_rfl) rfl
theorem cf149 : ∀ args w, (callFunc 149 args).run Tryz.prog w = .ok (.enter 149 args) w := run_cf Tryz.func149 (by kernel_rfl) rfl
theorem cf150 : ∀ args w, (callFunc 150 args).run Tryz.prog w = .ok (.enter 150 args) w := run_cf Tryz.func150 (by kernel_rfl) rfl
theorem cf151 : ∀ args w, (callFunc 151 args).run Tryz.prog w = .ok (.enter 151 args) w := run_cf Tryz.func151 (by kernel_rfl) rfl
theorem cf152 : ∀ args w, (callFunc 152 args).run Tryz.prog w = .ok (.enter 152 args) w := run_cf Tryz.func152 (by kernel_rfl) rfl
theorem cf153 : ∀ args w, (callFunc 153 args).run Tryz.prog w = .ok (.enter 153 args) w := run_cf Tryz.func153 (by kernel_rfl) rfl
theorem cf154 : ∀ args w, (callFunc 154 args).run Tryz.prog w = .ok (.enter 154 args) w := run_cf Tryz.func154 (by kernel_rfl) rfl
theorem cf155 : ∀ args w, (callFunc 155 args).run Tryz.prog w = .ok (.enter 155 args) w := run_cf Tryz.func155 (by kernel_rfl) rfl
theorem cf156 : ∀ args w, (callFunc 156 args).run Tryz.prog w = .ok (.enter 156 args) w := run_cf Tryz.func156 (by kernel_rfl) rfl
theorem cf157 : ∀ args w, (callFunc 157 args).run Tryz.prog w = .ok (.enter 157 args) w := run_cf Tryz.func157 (by kernel_rfl) rfl
theorem cf158 : ∀ args w, (callFunc 158 args).run Tryz.prog w = .ok (.enter 158 args) w := run_cf Tryz.func158 (by kernel_rfl) rfl
theorem cf159 : ∀ args w, (callFunc 159 args).run Tryz.prog w = .ok (.enter 159 args) w := run_cf Tryz.func159 (by kernel_rfl) rfl
theorem cf160 : ∀ args w, (callFunc 160 args).run Tryz.prog w = .ok (.enter 160 args) w := run_cf Tryz.func160 (by kernel_rfl) rfl
theorem cf161 : ∀ args w, (callFunc 161 args).run Tryz.prog w = .ok (.enter 161 args) w := run_cf Tryz.func161 (by kernel_rfl) rfl
theorem cf162 : ∀ args w, (callFunc 162 args).run Tryz.prog w = .ok (.enter 162 args) w := run_cf Tryz.func162 (by kernel_rfl) rfl
theorem cf163 : ∀ args w, (callFunc 163 args).run Tryz.prog w = .ok (.enter 163 args) w := run_cf Tryz.func163 (by kernel_rfl) rfl
theorem cf164 : ∀ args w, (callFunc 164 args).run Tryz.prog w = .ok (.enter 164 args) w := run_cf Tryz.func164 (by kernel_rfl) rfl
theorem cf165 : ∀ args w, (callFunc 165 args).run Tryz.prog w = .ok (.enter 165 args) w := run_cf Tryz.func165 (by kernel_rfl) rfl
theorem cf166 : ∀ args w, (callFunc 166 args).run Tryz.prog w = .ok (.enter 166 args) w := run_cf Tryz.func166 (by kernel_rfl) rfl
theorem cf167 : ∀ args w, (callFunc 167 args).run Tryz.prog w = .ok (.enter 167 args) w := run_cf Tryz.func167 (by kernel_rfl) rfl
theorem cf168 : ∀ args w, (callFunc 168 args).run Tryz.prog w = .ok (.enter 168 args) w := run_cf Tryz.func168 (by kernel_rfl) rfl
theorem cf169 : ∀ args w, (callFunc 169 args).run Tryz.prog w = .ok (.enter 169 args) w := run_cf Tryz.func169 (by kernel_rfl) rfl
theorem cf170 : ∀ args w, (callFunc 170 args).run Tryz.prog w = .ok (.enter 170 args) w := run_cf Tryz.func170 (by kernel_rfl) rfl
theorem cf171 : ∀ args w, (callFunc 171 args).run Tryz.prog w = .ok (.enter 171 args) w := run_cf Tryz.func171 (by kernel_rfl) rfl
theorem cf172 : ∀ args w, (callFunc 172 args).run Tryz.prog w = .ok (.enter 172 args) w := run_cf Tryz.func172 (by kernel_rfl) rfl
theorem cf173 : ∀ args w, (callFunc 173 args).run Tryz.prog w = .ok (.enter 173 args) w := run_cf Tryz.func173 (by kernel_rfl) rfl
theorem cf174 : ∀ args w, (callFunc 174 args).run Tryz.prog w = .ok (.enter 174 args) w := run_cf Tryz.func174 (by kernel_rfl) rfl
theorem cf175 : ∀ args w, (callFunc 175 args).run Tryz.prog w = .ok (.enter 175 args) w := run_cf Tryz.func175 (by kernel_rfl) rfl
theorem cf176 : ∀ args w, (callFunc 176 args).run Tryz.prog w = .ok (.enter 176 args) w := run_cf Tryz.func176 (by kernel_rfl) rfl
theorem cf177 : ∀ args w, (callFunc 177 args).run Tryz.prog w = .ok (.enter 177 args) w := run_cf Tryz.func177 (by kernel_rfl) rfl
theorem cf178 : ∀ args w, (callFunc 178 args).run Tryz.prog w = .ok (.enter 178 args) w := run_cf Tryz.func178 (by kernel_rfl) rfl
theorem cf179 : ∀ args w, (callFunc 179 args).run Tryz.prog w = .ok (.enter 179 args) w := run_cf Tryz.func179 (by kernel_rfl) rfl
theorem cf180 : ∀ args w, (callFunc 180 args).run Tryz.prog w = .ok (.enter 180 args) w := run_cf Tryz.func180 (by kernel_rfl) rfl
theorem cf181 : ∀ args w, (callFunc 181 args).run Tryz.prog w = .ok (.enter 181 args) w := run_cf Tryz.func181 (by kernel_rfl) rfl
theorem cf182 : ∀ args w, (callFunc 182 args).run Tryz.prog w = .ok (.enter 182 args) w := run_cf Tryz.func182 (by kernel_rfl) rfl
theorem cf183 : ∀ args w, (callFunc 183 args).run Tryz.prog w = .ok (.enter 183 args) w := run_cf Tryz.func183 (by kernel_rfl) rfl
theorem cf184 : ∀ args w, (callFunc 184 args).run Tryz.prog w = .ok (.enter 184 args) w := run_cf Tryz.func184 (by kernel_rfl) rfl
theorem cf185 : ∀ args w, (callFunc 185 args).run Tryz.prog w = .ok (.enter 185 args) w := run_cf Tryz.func185 (by kernel_rfl) rfl
theorem cf186 : ∀ args w, (callFunc 186 args).run Tryz.prog w = .ok (.enter 186 args) w := run_cf Tryz.func186 (by kernel_rfl) rfl
theorem cf187 : ∀ args w, (callFunc 187 args).run Tryz.prog w = .ok (.enter 187 args) w := run_cf Tryz.func187 (by kernel_rfl) rfl
theorem cf188 : ∀ args w, (callFunc 188 args).run Tryz.prog w = .ok (.enter 188 args) w := run_cf Tryz.func188 (by kernel_rfl) rfl
theorem cf189 : ∀ args w, (callFunc 189 args).run Tryz.prog w = .ok (.enter 189 args) w := run_cf Tryz.func189 (by kernel_rfl) rfl
theorem cf190 : ∀ args w, (callFunc 190 args).run Tryz.prog w = .ok (.enter 190 args) w := run_cf Tryz.func190 (by kernel_rfl) rfl
theorem cf191 : ∀ args w, (callFunc 191 args).run Tryz.prog w = .ok (.enter 191 args) w := run_cf Tryz.func191 (by kernel_rfl) rfl
theorem cf192 : ∀ args w, (callFunc 192 args).run Tryz.prog w = .ok (.enter 192 args) w := run_cf Tryz.func192 (by kernel_rfl) rfl
theorem cf193 : ∀ args w, (callFunc 193 args).run Tryz.prog w = .ok (.enter 193 args) w := run_cf Tryz.func193 (by kernel_rfl) rfl
theorem cf194 : ∀ args w, (callFunc 194 args).run Tryz.prog w = .ok (.enter 194 args) w := run_cf Tryz.func194 (by kernel_rfl) rfl
theorem cf195 : ∀ args w, (callFunc 195 args).run Tryz.prog w = .ok (.enter 195 args) w := run_cf Tryz.func195 (by kernel_rfl) rfl
theorem cf196 : ∀ args w, (callFunc 196 args).run Tryz.prog w = .ok (.enter 196 args) w := run_cf Tryz.func196 (by kernel_rfl) rfl
theorem cf197 : ∀ args w, (callFunc 197 args).run Tryz.prog w = .ok (.enter 197 args) w := run_cf Tryz.func197 (by kernel_rfl) rfl
theorem cf198 : ∀ args w, (callFunc 198 args).run Tryz.prog w = .ok (.enter 198 args) w := run_cf Tryz.func198 (by kernel_rfl) rfl
theorem cf199 : ∀ args w, (callFunc 199 args).run Tryz.prog w = .ok (.enter 199 args) w := run_cf Tryz.func199 (by kernel_rfl) rfl
theorem cf200 : ∀ args w, (callFunc 200 args).run Tryz.prog w = .ok (.enter 200 args) w := run_cf Tryz.func200 (by kernel_rfl) rfl
theorem cf201 : ∀ args w, (callFunc 201 args).run Tryz.prog w = .ok (.enter 201 args) w := run_cf Tryz.func201 (by kernel_rfl) rfl
theorem cf202 : ∀ args w, (callFunc 202 args).run Tryz.prog w = .ok (.enter 202 args) w := run_cf Tryz.func202 (by kernel_rfl) rfl
theorem cf203 : ∀ args w, (callFunc 203 args).run Tryz.prog w = .ok (.enter 203 args) w := run_cf Tryz.func203 (by kernel_rfl) rfl
theorem cf204 : ∀ args w, (callFunc 204 args).run Tryz.prog w = .ok (.enter 204 args) w := run_cf Tryz.func204 (by kernel_rfl) rfl
theorem cf205 : ∀ args w, (callFunc 205 args).run Tryz.prog w = .ok (.enter 205 args) w := run_cf Tryz.func205 (by kernel_rfl) rfl
theorem cf206 : ∀ args w, (callFunc 206 args).run Tryz.prog w = .ok (.enter 206 args) w := run_cf Tryz.func206 (by kernel_rfl) rfl
theorem cf207 : ∀ args w, (callFunc 207 args).run Tryz.prog w = .ok (.enter 207 args) w := run_cf Tryz.func207 (by kernel_rfl) rfl
theorem cf208 : ∀ args w, (callFunc 208 args).run Tryz.prog w = .ok (.enter 208 args) w := run_cf Tryz.func208 (by kernel_rfl) rfl
theorem cf209 : ∀ args w, (callFunc 209 args).run Tryz.prog w = .ok (.enter 209 args) w := run_cf Tryz.func209 (by kernel_rfl) rfl
theorem cf210 : ∀ args w, (callFunc 210 args).run Tryz.prog w = .ok (.enter 210 args) w := run_cf Tryz.func210 (by kernel_rfl) rfl
theorem cf211 : ∀ args w, (callFunc 211 args).run Tryz.prog w = .ok (.enter 211 args) w := run_cf Tryz.func211 (by kernel_rfl) rfl
theorem cf212 : ∀ args w, (callFunc 212 args).run Tryz.prog w = .ok (.enter 212 args) w := run_cf Tryz.func212 (by kernel_rfl) rfl
theorem cf213 : ∀ args w, (callFunc 213 args).run Tryz.prog w = .ok (.enter 213 args) w := run_cf Tryz.func213 (by kernel_rfl) rfl
theorem cf214 : ∀ args w, (callFunc 214 args).run Tryz.prog w = .ok (.enter 214 args) w := run_cf Tryz.func214 (by kernel_rfl) rfl
theorem cf215 : ∀ args w, (callFunc 215 args).run Tryz.prog w = .ok (.enter 215 args) w := run_cf Tryz.func215 (by kernel_rfl) rfl
theorem cf216 : ∀ args w, (callFunc 216 args).run Tryz.prog w = .ok (.enter 216 args) w := run_cf Tryz.func216 (by kernel_rfl) rfl
theorem cf217 : ∀ args w, (callFunc 217 args).run Tryz.prog w = .ok (.enter 217 args) w := run_cf Tryz.func217 (by kernel_rfl) rfl
theorem cf218 : ∀ args w, (callFunc 218 args).run Tryz.prog w = .ok (.enter 218 args) w := run_cf Tryz.func218 (by kernel_rfl) rfl
theorem cf219 : ∀ args w, (callFunc 219 args).run Tryz.prog w = .ok (.enter 219 args) w := run_cf Tryz.func219 (by kernel_rfl) rfl
theorem cf220 : ∀ args w, (callFunc 220 args).run Tryz.prog w = .ok (.enter 220 args) w := run_cf Tryz.func220 (by kernel_rfl) rfl
theorem cf221 : ∀ args w, (callFunc 221 args).run Tryz.prog w = .ok (.enter 221 args) w := run_cf Tryz.func221 (by kernel_rfl) rfl
theorem cf222 : ∀ args w, (callFunc 222 args).run Tryz.prog w = .ok (.enter 222 args) w := run_cf Tryz.func222 (by kernel_rfl) rfl
theorem cf223 : ∀ args w, (callFunc 223 args).run Tryz.prog w = .ok (.enter 223 args) w := run_cf Tryz.func223 (by kernel_rfl) rfl
theorem cf224 : ∀ args w, (callFunc 224 args).run Tryz.prog w = .ok (.enter 224 args) w := run_cf Tryz.func224 (by kernel_rfl) rfl
theorem cf225 : ∀ args w, (callFunc 225 args).run Tryz.prog w = .ok (.enter 225 args) w := run_cf Tryz.func225 (by kernel_rfl) rfl
theorem cf226 : ∀ args w, (callFunc 226 args).run Tryz.prog w = .ok (.enter 226 args) w := run_cf Tryz.func226 (by kernel_rfl) rfl
theorem cf227 : ∀ args w, (callFunc 227 args).run Tryz.prog w = .ok (.enter 227 args) w := run_cf Tryz.func227 (by kernel_rfl) rfl
theorem cf228 : ∀ args w, (callFunc 228 args).run Tryz.prog w = .ok (.enter 228 args) w := run_cf Tryz.func228 (by kernel_rfl) rfl
theorem cf229 : ∀ args w, (callFunc 229 args).run Tryz.prog w = .ok (.enter 229 args) w := run_cf Tryz.func229 (by kernel_rfl) rfl
theorem cf230 : ∀ args w, (callFunc 230 args).run Tryz.prog w = .ok (.enter 230 args) w := run_cf Tryz.func230 (by kernel_rfl) rfl
theorem cf231 : ∀ args w, (callFunc 231 args).run Tryz.prog w = .ok (.enter 231 args) w := run_cf Tryz.func231 (by kernel_rfl) rfl
theorem cf232 : ∀ args w, (callFunc 232 args).run Tryz.prog w = .ok (.enter 232 args) w := run_cf Tryz.func232 (by kernel_rfl) rfl
theorem cf233 : ∀ args w, (callFunc 233 args).run Tryz.prog w = .ok (.enter 233 args) w := run_cf Tryz.func233 (by kernel_rfl) rfl
theorem cf234 : ∀ args w, (callFunc 234 args).run Tryz.prog w = .ok (.enter 234 args) w := run_cf Tryz.func234 (by kernel_rfl) rfl
theorem cf235 : ∀ args w, (callFunc 235 args).run Tryz.prog w = .ok (.enter 235 args) w := run_cf Tryz.func235 (by kernel_rfl) rfl
theorem cf236 : ∀ args w, (callFunc 236 args).run Tryz.prog w = .ok (.enter 236 args) w := run_cf Tryz.func236 (by kernel_rfl) rfl
theorem cf237 : ∀ args w, (callFunc 237 args).run Tryz.prog w = .ok (.enter 237 args) w := run_cf Tryz.func237 (by kernel_rfl) rfl
theorem cf238 : ∀ args w, (callFunc 238 args).run Tryz.prog w = .ok (.enter 238 args) w := run_cf Tryz.func238 (by kernel_rfl) rfl
theorem cf239 : ∀ args w, (callFunc 239 args).run Tryz.prog w = .ok (.enter 239 args) w := run_cf Tryz.func239 (by kernel_rfl) rfl
theorem cf241 : ∀ args w, (callFunc 241 args).run Tryz.prog w = .ok (.enter 241 args) w := run_cf Tryz.func241 (by kernel_rfl) rfl
theorem cf242 : ∀ args w, (callFunc 242 args).run Tryz.prog w = .ok (.enter 242 args) w := run_cf Tryz.func242 (by kernel_rfl) rfl
theorem cf243 : ∀ args w, (callFunc 243 args).run Tryz.prog w = .ok (.enter 243 args) w := run_cf Tryz.func243 (by kernel_rfl) rfl
theorem cf244 : ∀ args w, (callFunc 244 args).run Tryz.prog w = .ok (.enter 244 args) w := run_cf Tryz.func244 (by kernel_rfl) rfl
theorem cf245 : ∀ args w, (callFunc 245 args).run Tryz.prog w = .ok (.enter 245 args) w := run_cf Tryz.func245 (by kernel_rfl) rfl
theorem cf246 : ∀ args w, (callFunc 246 args).run Tryz.prog w = .ok (.enter 246 args) w := run_cf Tryz.func246 (by kernel_rfl) rfl
theorem cf247 : ∀ args w, (callFunc 247 args).run Tryz.prog w = .ok (.enter 247 args) w := run_cf Tryz.func247 (by kernel_rfl) rfl
theorem cf248 : ∀ args w, (callFunc 248 args).run Tryz.prog w = .ok (.enter 248 args) w := run_cf Tryz.func248 (by kernel_rfl) rfl
theorem cf249 : ∀ args w, (callFunc 249 args).run Tryz.prog w = .ok (.enter 249 args) w := run_cf Tryz.func249 (by kernel_rfl) rfl
theorem cf250 : ∀ args w, (callFunc 250 args).run Tryz.prog w = .ok (.enter 250 args) w := run_cf Tryz.func250 (by kernel_rfl) rfl
theorem cf251 : ∀ args w, (callFunc 251 args).run Tryz.prog w = .ok (.enter 251 args) w := run_cf Tryz.func251 (by kernel_rfl) rfl
theorem cf252 : ∀ args w, (callFunc 252 args).run Tryz.prog w = .ok (.enter 252 args) w := run_cf Tryz.func252 (by kernel_rfl) rfl
theorem cf253 : ∀ args w, (callFunc 253 args).run Tryz.prog w = .ok (.enter 253 args) w := run_cf Tryz.func253 (by kernel_rfl) rfl
theorem cf254 : ∀ args w, (callFunc 254 args).run Tryz.prog w = .ok (.enter 254 args) w := run_cf Tryz.func254 (by kernel_rfl) rfl
theorem cf255 : ∀ args w, (callFunc 255 args).run Tryz.prog w = .ok (.enter 255 args) w := run_cf Tryz.func255 (by kernel_rfl) rfl
theorem cf256 : ∀ args w, (callFunc 256 args).run Tryz.prog w = .ok (.enter 256 args) w := run_cf Tryz.func256 (by kernel_rfl) rfl
theorem cf257 : ∀ args w, (callFunc 257 args).run Tryz.prog w = .ok (.enter 257 args) w := run_cf Tryz.func257 (by kernel_rfl) rfl
theorem cf258 : ∀ args w, (callFunc 258 args).run Tryz.prog w = .ok (.enter 258 args) w := run_cf Tryz.func258 (by kernel_rfl) rfl
theorem cf259 : ∀ args w, (callFunc 259 args).run Tryz.prog w = .ok (.enter 259 args) w := run_cf Tryz.func259 (by kernel_rfl) rfl
theorem cf260 : ∀ args w, (callFunc 260 args).run Tryz.prog w = .ok (.enter 260 args) w := run_cf Tryz.func260 (by kernel_rfl) rfl
theorem cf261 : ∀ args w, (callFunc 261 args).run Tryz.prog w = .ok (.enter 261 args) w := run_cf Tryz.func261 (by kernel_rfl) rfl
theorem cf262 : ∀ args w, (callFunc 262 args).run Tryz.prog w = .ok (.enter 262 args) w := run_cf Tryz.func262 (by kernel_rfl) rfl
theorem cf263 : ∀ args w, (callFunc 263 args).run Tryz.prog w = .ok (.enter 263 args) w := run_cf Tryz.func263 (by kernel_rfl) rfl
theorem cf264 : ∀ args w, (callFunc 264 args).run Tryz.prog w = .ok (.enter 264 args) w := run_cf Tryz.func264 (by kernel_rfl) rfl
theorem cf265 : ∀ args w, (callFunc 265 args).run Tryz.prog w = .ok (.enter 265 args) w := run_cf Tryz.func265 (by kernel_rfl) rfl
theorem cf266 : ∀ args w, (callFunc 266 args).run Tryz.prog w = .ok (.enter 266 args) w := run_cf Tryz.func266 (by kernel_rfl) rfl
theorem cf267 : ∀ args w, (callFunc 267 args).run Tryz.prog w = .ok (.enter 267 args) w := run_cf Tryz.func267 (by kernel_rfl) rfl
theorem cf268 : ∀ args w, (callFunc 268 args).run Tryz.prog w = .ok (.enter 268 args) w := run_cf Tryz.func268 (by kernel_rfl) rfl
theorem cf269 : ∀ args w, (callFunc 269 args).run Tryz.prog w = .ok (.enter 269 args) w := run_cf Tryz.func269 (by kernel_rfl) rfl
theorem cf270 : ∀ args w, (callFunc 270 args).run Tryz.prog w = .ok (.enter 270 args) w := run_cf Tryz.func270 (by kernel_rfl) rfl
theorem cf271 : ∀ args w, (callFunc 271 args).run Tryz.prog w = .ok (.enter 271 args) w := run_cf Tryz.func271 (by kernel_rfl) rfl
theorem cf272 : ∀ args w, (callFunc 272 args).run Tryz.prog w = .ok (.enter 272 args) w := run_cf Tryz.func272 (by kernel_rfl) rfl
theorem cf274 : ∀ args w, (callFunc 274 args).run Tryz.prog w = .ok (.enter 274 args) w := run_cf Tryz.func274 (by kernel_rfl) rfl
theorem cf275 : ∀ args w, (callFunc 275 args).run Tryz.prog w = .ok (.enter 275 args) w := run_cf Tryz.func275 (by kernel_rfl) rfl
theorem cf276 : ∀ args w, (callFunc 276 args).run Tryz.prog w = .ok (.enter 276 args) w := run_cf Tryz.func276 (by kernel_rfl) rfl
theorem cf277 : ∀ args w, (callFunc 277 args).run Tryz.prog w = .ok (.enter 277 args) w := run_cf Tryz.func277 (by kernel_rfl) rfl
theorem cf278 : ∀ args w, (callFunc 278 args).run Tryz.prog w = .ok (.enter 278 args) w := run_cf Tryz.func278 (by kernel_rfl) rfl
theorem cf279 : ∀ args w, (callFunc 279 args).run Tryz.prog w = .ok (.enter 279 args) w := run_cf Tryz.func279 (by kernel_rfl) rfl
theorem cf280 : ∀ args w, (callFunc 280 args).run Tryz.prog w = .ok (.enter 280 args) w := run_cf Tryz.func280 (by kernel_rfl) rfl
theorem cf281 : ∀ args w, (callFunc 281 args).run Tryz.prog w = .ok (.enter 281 args) w := run_cf Tryz.func281 (by kernel_rfl) rfl
theorem cf282 : ∀ args w, (callFunc 282 args).run Tryz.prog w = .ok (.enter 282 args) w := run_cf Tryz.func282 (by kernel_rfl) rfl
theorem cf285 : ∀ args w, (callFunc 285 args).run Tryz.prog w = .ok (.enter 285 args) w := run_cf Tryz.func285 (by kernel_rfl) rfl
theorem cf286 : ∀ args w, (callFunc 286 args).run Tryz.prog w = .ok (.enter 286 args) w := run_cf Tryz.func286 (by kernel_rfl) rfl
theorem cf287 : ∀ args w, (callFunc 287 args).run Tryz.prog w = .ok (.enter 287 args) w := run_cf Tryz.func287 (by kernel_rfl) rfl
theorem cf288 : ∀ args w, (callFunc 288 args).run Tryz.prog w = .ok (.enter 288 args) w := run_cf Tryz.func288 (by kernel_rfl) rfl
theorem cf289 : ∀ args w, (callFunc 289 args).run Tryz.prog w = .ok (.enter 289 args) w := run_cf Tryz.func289 (by kernel_rfl) rfl
theorem cf290 : ∀ args w, (callFunc 290 args).run Tryz.prog w = .ok (.enter 290 args) w := run_cf Tryz.func290 (by kernel_rfl) rfl
theorem cf292 : ∀ args w, (callFunc 292 args).run Tryz.prog w = .ok (.enter 292 args) w := run_cf Tryz.func292 (by kernel_rfl) rfl
theorem cf293 : ∀ args w, (callFunc 293 args).run Tryz.prog w = .ok (.enter 293 args) w := run_cf Tryz.func293 (by kernel_rfl) rfl
theorem cf294 : ∀ args w, (callFunc 294 args).run Tryz.prog w = .ok (.enter 294 args) w := run_cf Tryz.func294 (by kernel_rfl) rfl
theorem cf295 : ∀ args w, (callFunc 295 args).run Tryz.prog w = .ok (.enter 295 args) w := run_cf Tryz.func295 (by kernel_rfl) rfl
theorem cf296 : ∀ args w, (callFunc 296 args).run Tryz.prog w = .ok (.enter 296 args) w := run_cf Tryz.func296 (by kernel_rfl) rfl
theorem cf297 : ∀ args w, (callFunc 297 args).run Tryz.prog w = .ok (.enter 297 args) w := run_cf Tryz.func297 (by kernel_rfl) rfl
theorem cf298 : ∀ args w, (callFunc 298 args).run Tryz.prog w = .ok (.enter 298 args) w := run_cf Tryz.func298 (by kernel_rfl) rfl
theorem cf299 : ∀ args w, (callFunc 299 args).run Tryz.prog w = .ok (.enter 299 args) w := run_cf Tryz.func299 (by kernel_rfl) rfl
theorem cf300 : ∀ args w, (callFunc 300 args).run Tryz.prog w = .ok (.enter 300 args) w := run_cf Tryz.func300 (by kernel_rfl) rfl
theorem cf301 : ∀ args w, (callFunc 301 args).run Tryz.prog w = .ok (.enter 301 args) w := run_cf Tryz.func301 (by kernel_rfl) rfl
theorem cf302 : ∀ args w, (callFunc 302 args).run Tryz.prog w = .ok (.enter 302 args) w := run_cf Tryz.func302 (by kernel_rfl) rfl
theorem cf303 : ∀ args w, (callFunc 303 args).run Tryz.prog w = .ok (.enter 303 args) w := run_cf Tryz.func303 (by kernel_rfl) rfl
theorem cf304 : ∀ args w, (callFunc 304 args).run Tryz.prog w = .ok (.enter 304 args) w := run_cf Tryz.func304 (by kernel_rfl) rfl
theorem cf305 : ∀ args w, (callFunc 305 args).run Tryz.prog w = .ok (.enter 305 args) w := run_cf Tryz.func305 (by kernel_rfl) rfl
theorem cf306 : ∀ args w, (callFunc 306 args).run Tryz.prog w = .ok (.enter 306 args) w := run_cf Tryz.func306 (by kernel_rfl) rfl
theorem cf307 : ∀ args w, (callFunc 307 args).run Tryz.prog w = .ok (.enter 307 args) w := run_cf Tryz.func307 (by kernel_rfl) rfl
theorem cf308 : ∀ args w, (callFunc 308 args).run Tryz.prog w = .ok (.enter 308 args) w := run_cf Tryz.func308 (by kernel_rfl) rfl
theorem cf309 : ∀ args w, (callFunc 309 args).run Tryz.prog w = .ok (.enter 309 args) w := run_cf Tryz.func309 (by kernel_rfl) rfl
theorem cf310 : ∀ args w, (callFunc 310 args).run Tryz.prog w = .ok (.enter 310 args) w := run_cf Tryz.func310 (by kernel_rfl) rfl
theorem cf311 : ∀ args w, (callFunc 311 args).run Tryz.prog w = .ok (.enter 311 args) w := run_cf Tryz.func311 (by kernel_rfl) rfl
theorem cf312 : ∀ args w, (callFunc 312 args).run Tryz.prog w = .ok (.enter 312 args) w := run_cf Tryz.func312 (by kernel_rfl) rfl
theorem cf313 : ∀ args w, (callFunc 313 args).run Tryz.prog w = .ok (.enter 313 args) w := run_cf Tryz.func313 (by kernel_rfl) rfl
theorem cf314 : ∀ args w, (callFunc 314 args).run Tryz.prog w = .ok (.enter 314 args) w := run_cf Tryz.func314 (by kernel_rfl) rfl
theorem cf315 : ∀ args w, (callFunc 315 args).run Tryz.prog w = .ok (.enter 315 args) w := run_cf Tryz.func315 (by kernel_rfl) rfl
theorem cf316 : ∀ args w, (callFunc 316 args).run Tryz.prog w = .ok (.enter 316 args) w := run_cf Tryz.func316 (by kernel_rfl) rfl
theorem cf317 : ∀ args w, (callFunc 317 args).run Tryz.prog w = .ok (.enter 317 args) w := run_cf Tryz.func317 (by kernel_rfl) rfl
theorem cf318 : ∀ args w, (callFunc 318 args).run Tryz.prog w = .ok (.enter 318 args) w := run_cf Tryz.func318 (by kernel_rfl) rfl
theorem cf319 : ∀ args w, (callFunc 319 args).run Tryz.prog w = .ok (.enter 319 args) w := run_cf Tryz.func319 (by kernel_rfl) rfl
theorem cf320 : ∀ args w, (callFunc 320 args).run Tryz.prog w = .ok (.enter 320 args) w := run_cf Tryz.func320 (by kernel_rfl) rfl
theorem cf321 : ∀ args w, (callFunc 321 args).run Tryz.prog w = .ok (.enter 321 args) w := run_cf Tryz.func321 (by kernel_rfl) rfl
theorem cf351 : ∀ args w, (callFunc 351 args).run Tryz.prog w = .ok (.enter 351 args) w := run_cf Tryz.func351 (by kernel_rfl) rfl
end Go.Proofs.YtpmlgnbbkpplhaaGreatDoor
