/- Closed facts on this seat's program: sizes, fields, zero values, calls. Written by a program of mine. -/
import Derived.Test.YtpmlgnbbkpplhaaDoorMore
import Derived.Test.YtpmlgnbbkpplhaaDoorRows
namespace Go.Proofs.YtpmlgnbbkpplhaaDoor
open Go.RowKit Go.Eng

theorem sz1 : (Tryd.prog.info? 1).map (·.size) = some 1 := by kernel_rfl
theorem co1 : Tryd.prog.cellsOf 1 = 1 := by kernel_rfl
theorem bo1 : Tryd.prog.bytesOf 1 = 8 := by kernel_rfl
theorem inf1 : (Tryd.prog.info? 1).map (fun i => (i.zero, i.size, i.bytes)) = some (some (.nilFunc), 1, 8) := by kernel_rfl
theorem sz2 : (Tryd.prog.info? 2).map (·.size) = some 1 := by kernel_rfl
theorem co2 : Tryd.prog.cellsOf 2 = 1 := by kernel_rfl
theorem bo2 : Tryd.prog.bytesOf 2 = 8 := by kernel_rfl
theorem z2 : ∀ w, (zeroValue 2).run Tryd.prog w = .ok (.int .i64 0) w := fun _ => by kernel_rfl
theorem inf2 : (Tryd.prog.info? 2).map (fun i => (i.zero, i.size, i.bytes)) = some (some (.int .i64 0), 1, 8) := by kernel_rfl
theorem sz3 : (Tryd.prog.info? 3).map (·.size) = some 1 := by kernel_rfl
theorem co3 : Tryd.prog.cellsOf 3 = 1 := by kernel_rfl
theorem bo3 : Tryd.prog.bytesOf 3 = 8 := by kernel_rfl
theorem z3 : ∀ w, (zeroValue 3).run Tryd.prog w = .ok (.int .i64 0) w := fun _ => by kernel_rfl
theorem inf3 : (Tryd.prog.info? 3).map (fun i => (i.zero, i.size, i.bytes)) = some (some (.int .i64 0), 1, 8) := by kernel_rfl
theorem sz4 : (Tryd.prog.info? 4).map (·.size) = some 1 := by kernel_rfl
theorem co4 : Tryd.prog.cellsOf 4 = 1 := by kernel_rfl
theorem bo4 : Tryd.prog.bytesOf 4 = 1 := by kernel_rfl
theorem z4 : ∀ w, (zeroValue 4).run Tryd.prog w = .ok (.bool false) w := fun _ => by kernel_rfl
theorem inf4 : (Tryd.prog.info? 4).map (fun i => (i.zero, i.size, i.bytes)) = some (some (.bool false), 1, 1) := by kernel_rfl
theorem sz5 : (Tryd.prog.info? 5).map (·.size) = some 1 := by kernel_rfl
theorem co5 : Tryd.prog.cellsOf 5 = 1 := by kernel_rfl
theorem bo5 : Tryd.prog.bytesOf 5 = 1 := by kernel_rfl
theorem z5 : ∀ w, (zeroValue 5).run Tryd.prog w = .ok (.int .u8 0) w := fun _ => by kernel_rfl
theorem inf5 : (Tryd.prog.info? 5).map (fun i => (i.zero, i.size, i.bytes)) = some (some (.int .u8 0), 1, 1) := by kernel_rfl
theorem sz6 : (Tryd.prog.info? 6).map (·.size) = some 1 := by kernel_rfl
theorem co6 : Tryd.prog.cellsOf 6 = 1 := by kernel_rfl
theorem bo6 : Tryd.prog.bytesOf 6 = 1 := by kernel_rfl
theorem z6 : ∀ w, (zeroValue 6).run Tryd.prog w = .ok (.int .u8 0) w := fun _ => by kernel_rfl
theorem inf6 : (Tryd.prog.info? 6).map (fun i => (i.zero, i.size, i.bytes)) = some (some (.int .u8 0), 1, 1) := by kernel_rfl
theorem sz7 : (Tryd.prog.info? 7).map (·.size) = some 4 := by kernel_rfl
theorem co7 : Tryd.prog.cellsOf 7 = 4 := by kernel_rfl
theorem bo7 : Tryd.prog.bytesOf 7 = 24 := by kernel_rfl
theorem z7 : ∀ w, (zeroValue 7).run Tryd.prog w = .ok (.agg #[.int .i64 0, .int .i64 0, .bool false, .int .u8 0]) w := fun _ => by kernel_rfl
theorem inf7 : (Tryd.prog.info? 7).map (fun i => (i.zero, i.size, i.bytes)) = some (some (.agg #[.int .i64 0, .int .i64 0, .bool false, .int .u8 0]), 4, 24) := by kernel_rfl
theorem fa7_0 : ∀ a w, (Instr.fieldAt 7 (.pointer (some a)) 0).run Tryd.prog w = .ok (.pointer (some (a.add 0))) w := run_field (b := 1) Tryd.underlying7 rfl rfl (by kernel_rfl) (by decide)
theorem fa7_1 : ∀ a w, (Instr.fieldAt 7 (.pointer (some a)) 1).run Tryd.prog w = .ok (.pointer (some (a.add 1))) w := run_field (b := 1) Tryd.underlying7 rfl rfl (by kernel_rfl) (by decide)
theorem fa7_2 : ∀ a w, (Instr.fieldAt 7 (.pointer (some a)) 2).run Tryd.prog w = .ok (.pointer (some (a.add 2))) w := run_field (b := 1) Tryd.underlying7 rfl rfl (by kernel_rfl) (by decide)
theorem fa7_3 : ∀ a w, (Instr.fieldAt 7 (.pointer (some a)) 3).run Tryd.prog w = .ok (.pointer (some (a.add 3))) w := run_field (b := 1) Tryd.underlying7 rfl rfl (by kernel_rfl) (by decide)
theorem sz8 : (Tryd.prog.info? 8).map (·.size) = some 4 := by kernel_rfl
theorem co8 : Tryd.prog.cellsOf 8 = 4 := by kernel_rfl
theorem bo8 : Tryd.prog.bytesOf 8 = 24 := by kernel_rfl
theorem z8 : ∀ w, (zeroValue 8).run Tryd.prog w = .ok (.agg #[.int .i64 0, .int .i64 0, .bool false, .int .u8 0]) w := fun _ => by kernel_rfl
theorem inf8 : (Tryd.prog.info? 8).map (fun i => (i.zero, i.size, i.bytes)) = some (some (.agg #[.int .i64 0, .int .i64 0, .bool false, .int .u8 0]), 4, 24) := by kernel_rfl
theorem fa8_0 : ∀ a w, (Instr.fieldAt 8 (.pointer (some a)) 0).run Tryd.prog w = .ok (.pointer (some (a.add 0))) w := run_field (b := 1) Tryd.underlying8 rfl rfl (by kernel_rfl) (by decide)
theorem fa8_1 : ∀ a w, (Instr.fieldAt 8 (.pointer (some a)) 1).run Tryd.prog w = .ok (.pointer (some (a.add 1))) w := run_field (b := 1) Tryd.underlying8 rfl rfl (by kernel_rfl) (by decide)
theorem fa8_2 : ∀ a w, (Instr.fieldAt 8 (.pointer (some a)) 2).run Tryd.prog w = .ok (.pointer (some (a.add 2))) w := run_field (b := 1) Tryd.underlying8 rfl rfl (by kernel_rfl) (by decide)
theorem fa8_3 : ∀ a w, (Instr.fieldAt 8 (.pointer (some a)) 3).run Tryd.prog w = .ok (.pointer (some (a.add 3))) w := run_field (b := 1) Tryd.underlying8 rfl rfl (by kernel_rfl) (by decide)
theorem sz9 : (Tryd.prog.info? 9).map (·.size) = some 1 := by kernel_rfl
theorem co9 : Tryd.prog.cellsOf 9 = 1 := by kernel_rfl
theorem bo9 : Tryd.prog.bytesOf 9 = 16 := by kernel_rfl
theorem z9 : ∀ w, (zeroValue 9).run Tryd.prog w = .ok (.string ⟨#[]⟩) w := fun _ => by kernel_rfl
theorem inf9 : (Tryd.prog.info? 9).map (fun i => (i.zero, i.size, i.bytes)) = some (some (.string ⟨#[]⟩), 1, 16) := by kernel_rfl
theorem sz10 : (Tryd.prog.info? 10).map (·.size) = some 1 := by kernel_rfl
theorem co10 : Tryd.prog.cellsOf 10 = 1 := by kernel_rfl
theorem bo10 : Tryd.prog.bytesOf 10 = 16 := by kernel_rfl
theorem z10 : ∀ w, (zeroValue 10).run Tryd.prog w = .ok (.string ⟨#[]⟩) w := fun _ => by kernel_rfl
theorem inf10 : (Tryd.prog.info? 10).map (fun i => (i.zero, i.size, i.bytes)) = some (some (.string ⟨#[]⟩), 1, 16) := by kernel_rfl
theorem sz11 : (Tryd.prog.info? 11).map (·.size) = some 1 := by kernel_rfl
theorem co11 : Tryd.prog.cellsOf 11 = 1 := by kernel_rfl
theorem bo11 : Tryd.prog.bytesOf 11 = 16 := by kernel_rfl
theorem z11 : ∀ w, (zeroValue 11).run Tryd.prog w = .ok (.string ⟨#[]⟩) w := fun _ => by kernel_rfl
theorem inf11 : (Tryd.prog.info? 11).map (fun i => (i.zero, i.size, i.bytes)) = some (some (.string ⟨#[]⟩), 1, 16) := by kernel_rfl
theorem sz12 : (Tryd.prog.info? 12).map (·.size) = some 1 := by kernel_rfl
theorem co12 : Tryd.prog.cellsOf 12 = 1 := by kernel_rfl
theorem bo12 : Tryd.prog.bytesOf 12 = 8 := by kernel_rfl
theorem z12 : ∀ w, (zeroValue 12).run Tryd.prog w = .ok (.int .u64 0) w := fun _ => by kernel_rfl
theorem inf12 : (Tryd.prog.info? 12).map (fun i => (i.zero, i.size, i.bytes)) = some (some (.int .u64 0), 1, 8) := by kernel_rfl
theorem sz13 : (Tryd.prog.info? 13).map (·.size) = some 2 := by kernel_rfl
theorem co13 : Tryd.prog.cellsOf 13 = 2 := by kernel_rfl
theorem bo13 : Tryd.prog.bytesOf 13 = 24 := by kernel_rfl
theorem z13 : ∀ w, (zeroValue 13).run Tryd.prog w = .ok (.agg #[.string ⟨#[]⟩, .int .u64 0]) w := fun _ => by kernel_rfl
theorem inf13 : (Tryd.prog.info? 13).map (fun i => (i.zero, i.size, i.bytes)) = some (some (.agg #[.string ⟨#[]⟩, .int .u64 0]), 2, 24) := by kernel_rfl
theorem fa13_0 : ∀ a w, (Instr.fieldAt 13 (.pointer (some a)) 0).run Tryd.prog w = .ok (.pointer (some (a.add 0))) w := run_field (b := 1) Tryd.underlying13 rfl rfl (by kernel_rfl) (by decide)
theorem fa13_1 : ∀ a w, (Instr.fieldAt 13 (.pointer (some a)) 1).run Tryd.prog w = .ok (.pointer (some (a.add 1))) w := run_field (b := 1) Tryd.underlying13 rfl rfl (by kernel_rfl) (by decide)
theorem sz14 : (Tryd.prog.info? 14).map (·.size) = some 2 := by kernel_rfl
theorem co14 : Tryd.prog.cellsOf 14 = 2 := by kernel_rfl
theorem bo14 : Tryd.prog.bytesOf 14 = 24 := by kernel_rfl
theorem z14 : ∀ w, (zeroValue 14).run Tryd.prog w = .ok (.agg #[.string ⟨#[]⟩, .int .u64 0]) w := fun _ => by kernel_rfl
theorem inf14 : (Tryd.prog.info? 14).map (fun i => (i.zero, i.size, i.bytes)) = some (some (.agg #[.string ⟨#[]⟩, .int .u64 0]), 2, 24) := by kernel_rfl
theorem fa14_0 : ∀ a w, (Instr.fieldAt 14 (.pointer (some a)) 0).run Tryd.prog w = .ok (.pointer (some (a.add 0))) w := run_field (b := 1) Tryd.underlying14 rfl rfl (by kernel_rfl) (by decide)
theorem fa14_1 : ∀ a w, (Instr.fieldAt 14 (.pointer (some a)) 1).run Tryd.prog w = .ok (.pointer (some (a.add 1))) w := run_field (b := 1) Tryd.underlying14 rfl rfl (by kernel_rfl) (by decide)
theorem sz15 : (Tryd.prog.info? 15).map (·.size) = some 1 := by kernel_rfl
theorem co15 : Tryd.prog.cellsOf 15 = 1 := by kernel_rfl
theorem bo15 : Tryd.prog.bytesOf 15 = 8 := by kernel_rfl
theorem z15 : ∀ w, (zeroValue 15).run Tryd.prog w = .ok (.pointer none) w := fun _ => by kernel_rfl
theorem inf15 : (Tryd.prog.info? 15).map (fun i => (i.zero, i.size, i.bytes)) = some (some (.pointer none), 1, 8) := by kernel_rfl
theorem sz16 : (Tryd.prog.info? 16).map (·.size) = some 1 := by kernel_rfl
theorem co16 : Tryd.prog.cellsOf 16 = 1 := by kernel_rfl
theorem bo16 : Tryd.prog.bytesOf 16 = 8 := by kernel_rfl
theorem z16 : ∀ w, (zeroValue 16).run Tryd.prog w = .ok (.pointer none) w := fun _ => by kernel_rfl
theorem inf16 : (Tryd.prog.info? 16).map (fun i => (i.zero, i.size, i.bytes)) = some (some (.pointer none), 1, 8) := by kernel_rfl
theorem sz17 : (Tryd.prog.info? 17).map (·.size) = some 1 := by kernel_rfl
theorem co17 : Tryd.prog.cellsOf 17 = 1 := by kernel_rfl
theorem bo17 : Tryd.prog.bytesOf 17 = 8 := by kernel_rfl
theorem z17 : ∀ w, (zeroValue 17).run Tryd.prog w = .ok (.pointer none) w := fun _ => by kernel_rfl
theorem inf17 : (Tryd.prog.info? 17).map (fun i => (i.zero, i.size, i.bytes)) = some (some (.pointer none), 1, 8) := by kernel_rfl
theorem sz18 : (Tryd.prog.info? 18).map (·.size) = some 1 := by kernel_rfl
theorem co18 : Tryd.prog.cellsOf 18 = 1 := by kernel_rfl
theorem bo18 : Tryd.prog.bytesOf 18 = 8 := by kernel_rfl
theorem z18 : ∀ w, (zeroValue 18).run Tryd.prog w = .ok (.agg #[.pointer none]) w := fun _ => by kernel_rfl
theorem inf18 : (Tryd.prog.info? 18).map (fun i => (i.zero, i.size, i.bytes)) = some (some (.agg #[.pointer none]), 1, 8) := by kernel_rfl
theorem fa18_0 : ∀ a w, (Instr.fieldAt 18 (.pointer (some a)) 0).run Tryd.prog w = .ok (.pointer (some (a.add 0))) w := run_field (b := 1) Tryd.underlying18 rfl rfl (by kernel_rfl) (by decide)
theorem sz19 : (Tryd.prog.info? 19).map (·.size) = some 1 := by kernel_rfl
theorem co19 : Tryd.prog.cellsOf 19 = 1 := by kernel_rfl
theorem bo19 : Tryd.prog.bytesOf 19 = 8 := by kernel_rfl
theorem z19 : ∀ w, (zeroValue 19).run Tryd.prog w = .ok (.agg #[.pointer none]) w := fun _ => by kernel_rfl
theorem inf19 : (Tryd.prog.info? 19).map (fun i => (i.zero, i.size, i.bytes)) = some (some (.agg #[.pointer none]), 1, 8) := by kernel_rfl
theorem fa19_0 : ∀ a w, (Instr.fieldAt 19 (.pointer (some a)) 0).run Tryd.prog w = .ok (.pointer (some (a.add 0))) w := run_field (b := 1) Tryd.underlying19 rfl rfl (by kernel_rfl) (by decide)
theorem sz20 : (Tryd.prog.info? 20).map (·.size) = some 1 := by kernel_rfl
theorem co20 : Tryd.prog.cellsOf 20 = 1 := by kernel_rfl
theorem bo20 : Tryd.prog.bytesOf 20 = 16 := by kernel_rfl
theorem z20 : ∀ w, (zeroValue 20).run Tryd.prog w = .ok (.nilIface) w := fun _ => by kernel_rfl
theorem inf20 : (Tryd.prog.info? 20).map (fun i => (i.zero, i.size, i.bytes)) = some (some (.nilIface), 1, 16) := by kernel_rfl
theorem sz21 : (Tryd.prog.info? 21).map (·.size) = some 1 := by kernel_rfl
theorem co21 : Tryd.prog.cellsOf 21 = 1 := by kernel_rfl
theorem bo21 : Tryd.prog.bytesOf 21 = 4 := by kernel_rfl
theorem z21 : ∀ w, (zeroValue 21).run Tryd.prog w = .ok (.int .i32 0) w := fun _ => by kernel_rfl
theorem inf21 : (Tryd.prog.info? 21).map (fun i => (i.zero, i.size, i.bytes)) = some (some (.int .i32 0), 1, 4) := by kernel_rfl
theorem sz22 : (Tryd.prog.info? 22).map (·.size) = some 1 := by kernel_rfl
theorem co22 : Tryd.prog.cellsOf 22 = 1 := by kernel_rfl
theorem bo22 : Tryd.prog.bytesOf 22 = 24 := by kernel_rfl
theorem z22 : ∀ w, (zeroValue 22).run Tryd.prog w = .ok (.slice none 0 0) w := fun _ => by kernel_rfl
theorem inf22 : (Tryd.prog.info? 22).map (fun i => (i.zero, i.size, i.bytes)) = some (some (.slice none 0 0), 1, 24) := by kernel_rfl
theorem sz23 : (Tryd.prog.info? 23).map (·.size) = some 6 := by kernel_rfl
theorem co23 : Tryd.prog.cellsOf 23 = 6 := by kernel_rfl
theorem bo23 : Tryd.prog.bytesOf 23 = 80 := by kernel_rfl
theorem z23 : ∀ w, (zeroValue 23).run Tryd.prog w = .ok (.agg #[.int .i64 0, .slice none 0 0, .int .i64 0, .int .i64 0, .string ⟨#[]⟩, .string ⟨#[]⟩]) w := fun _ => by kernel_rfl
theorem inf23 : (Tryd.prog.info? 23).map (fun i => (i.zero, i.size, i.bytes)) = some (some (.agg #[.int .i64 0, .slice none 0 0, .int .i64 0, .int .i64 0, .string ⟨#[]⟩, .string ⟨#[]⟩]), 6, 80) := by kernel_rfl
theorem fa23_0 : ∀ a w, (Instr.fieldAt 23 (.pointer (some a)) 0).run Tryd.prog w = .ok (.pointer (some (a.add 0))) w := run_field (b := 1) Tryd.underlying23 rfl rfl (by kernel_rfl) (by decide)
theorem fa23_1 : ∀ a w, (Instr.fieldAt 23 (.pointer (some a)) 1).run Tryd.prog w = .ok (.pointer (some (a.add 1))) w := run_field (b := 1) Tryd.underlying23 rfl rfl (by kernel_rfl) (by decide)
theorem fa23_2 : ∀ a w, (Instr.fieldAt 23 (.pointer (some a)) 2).run Tryd.prog w = .ok (.pointer (some (a.add 2))) w := run_field (b := 1) Tryd.underlying23 rfl rfl (by kernel_rfl) (by decide)
theorem fa23_3 : ∀ a w, (Instr.fieldAt 23 (.pointer (some a)) 3).run Tryd.prog w = .ok (.pointer (some (a.add 3))) w := run_field (b := 1) Tryd.underlying23 rfl rfl (by kernel_rfl) (by decide)
theorem fa23_4 : ∀ a w, (Instr.fieldAt 23 (.pointer (some a)) 4).run Tryd.prog w = .ok (.pointer (some (a.add 4))) w := run_field (b := 1) Tryd.underlying23 rfl rfl (by kernel_rfl) (by decide)
theorem fa23_5 : ∀ a w, (Instr.fieldAt 23 (.pointer (some a)) 5).run Tryd.prog w = .ok (.pointer (some (a.add 5))) w := run_field (b := 1) Tryd.underlying23 rfl rfl (by kernel_rfl) (by decide)
theorem sz24 : (Tryd.prog.info? 24).map (·.size) = some 6 := by kernel_rfl
theorem co24 : Tryd.prog.cellsOf 24 = 6 := by kernel_rfl
theorem bo24 : Tryd.prog.bytesOf 24 = 80 := by kernel_rfl
theorem z24 : ∀ w, (zeroValue 24).run Tryd.prog w = .ok (.agg #[.int .i64 0, .slice none 0 0, .int .i64 0, .int .i64 0, .string ⟨#[]⟩, .string ⟨#[]⟩]) w := fun _ => by kernel_rfl
theorem inf24 : (Tryd.prog.info? 24).map (fun i => (i.zero, i.size, i.bytes)) = some (some (.agg #[.int .i64 0, .slice none 0 0, .int .i64 0, .int .i64 0, .string ⟨#[]⟩, .string ⟨#[]⟩]), 6, 80) := by kernel_rfl
theorem fa24_0 : ∀ a w, (Instr.fieldAt 24 (.pointer (some a)) 0).run Tryd.prog w = .ok (.pointer (some (a.add 0))) w := run_field (b := 1) Tryd.underlying24 rfl rfl (by kernel_rfl) (by decide)
theorem fa24_1 : ∀ a w, (Instr.fieldAt 24 (.pointer (some a)) 1).run Tryd.prog w = .ok (.pointer (some (a.add 1))) w := run_field (b := 1) Tryd.underlying24 rfl rfl (by kernel_rfl) (by decide)
theorem fa24_2 : ∀ a w, (Instr.fieldAt 24 (.pointer (some a)) 2).run Tryd.prog w = .ok (.pointer (some (a.add 2))) w := run_field (b := 1) Tryd.underlying24 rfl rfl (by kernel_rfl) (by decide)
theorem fa24_3 : ∀ a w, (Instr.fieldAt 24 (.pointer (some a)) 3).run Tryd.prog w = .ok (.pointer (some (a.add 3))) w := run_field (b := 1) Tryd.underlying24 rfl rfl (by kernel_rfl) (by decide)
theorem fa24_4 : ∀ a w, (Instr.fieldAt 24 (.pointer (some a)) 4).run Tryd.prog w = .ok (.pointer (some (a.add 4))) w := run_field (b := 1) Tryd.underlying24 rfl rfl (by kernel_rfl) (by decide)
theorem fa24_5 : ∀ a w, (Instr.fieldAt 24 (.pointer (some a)) 5).run Tryd.prog w = .ok (.pointer (some (a.add 5))) w := run_field (b := 1) Tryd.underlying24 rfl rfl (by kernel_rfl) (by decide)
theorem sz25 : (Tryd.prog.info? 25).map (·.size) = some 1 := by kernel_rfl
theorem co25 : Tryd.prog.cellsOf 25 = 1 := by kernel_rfl
theorem bo25 : Tryd.prog.bytesOf 25 = 24 := by kernel_rfl
theorem z25 : ∀ w, (zeroValue 25).run Tryd.prog w = .ok (.slice none 0 0) w := fun _ => by kernel_rfl
theorem inf25 : (Tryd.prog.info? 25).map (fun i => (i.zero, i.size, i.bytes)) = some (some (.slice none 0 0), 1, 24) := by kernel_rfl
theorem sz26 : (Tryd.prog.info? 26).map (·.size) = some 1 := by kernel_rfl
theorem co26 : Tryd.prog.cellsOf 26 = 1 := by kernel_rfl
theorem bo26 : Tryd.prog.bytesOf 26 = 8 := by kernel_rfl
theorem inf26 : (Tryd.prog.info? 26).map (fun i => (i.zero, i.size, i.bytes)) = some (some (.nilFunc), 1, 8) := by kernel_rfl
theorem sz27 : (Tryd.prog.info? 27).map (·.size) = some 1 := by kernel_rfl
theorem co27 : Tryd.prog.cellsOf 27 = 1 := by kernel_rfl
theorem bo27 : Tryd.prog.bytesOf 27 = 8 := by kernel_rfl
theorem z27 : ∀ w, (zeroValue 27).run Tryd.prog w = .ok (.int .i64 0) w := fun _ => by kernel_rfl
theorem inf27 : (Tryd.prog.info? 27).map (fun i => (i.zero, i.size, i.bytes)) = some (some (.int .i64 0), 1, 8) := by kernel_rfl
theorem sz29 : (Tryd.prog.info? 29).map (·.size) = some 1 := by kernel_rfl
theorem co29 : Tryd.prog.cellsOf 29 = 1 := by kernel_rfl
theorem bo29 : Tryd.prog.bytesOf 29 = 8 := by kernel_rfl
theorem inf29 : (Tryd.prog.info? 29).map (fun i => (i.zero, i.size, i.bytes)) = some (some (.nilFunc), 1, 8) := by kernel_rfl
theorem sz30 : (Tryd.prog.info? 30).map (·.size) = some 1 := by kernel_rfl
theorem co30 : Tryd.prog.cellsOf 30 = 1 := by kernel_rfl
theorem bo30 : Tryd.prog.bytesOf 30 = 8 := by kernel_rfl
theorem inf30 : (Tryd.prog.info? 30).map (fun i => (i.zero, i.size, i.bytes)) = some (some (.nilFunc), 1, 8) := by kernel_rfl
theorem sz31 : (Tryd.prog.info? 31).map (·.size) = some 1 := by kernel_rfl
theorem co31 : Tryd.prog.cellsOf 31 = 1 := by kernel_rfl
theorem bo31 : Tryd.prog.bytesOf 31 = 24 := by kernel_rfl
theorem z31 : ∀ w, (zeroValue 31).run Tryd.prog w = .ok (.slice none 0 0) w := fun _ => by kernel_rfl
theorem inf31 : (Tryd.prog.info? 31).map (fun i => (i.zero, i.size, i.bytes)) = some (some (.slice none 0 0), 1, 24) := by kernel_rfl
theorem sz32 : (Tryd.prog.info? 32).map (·.size) = some 1 := by kernel_rfl
theorem co32 : Tryd.prog.cellsOf 32 = 1 := by kernel_rfl
theorem bo32 : Tryd.prog.bytesOf 32 = 24 := by kernel_rfl
theorem z32 : ∀ w, (zeroValue 32).run Tryd.prog w = .ok (.slice none 0 0) w := fun _ => by kernel_rfl
theorem inf32 : (Tryd.prog.info? 32).map (fun i => (i.zero, i.size, i.bytes)) = some (some (.slice none 0 0), 1, 24) := by kernel_rfl
theorem sz33 : (Tryd.prog.info? 33).map (·.size) = some 1 := by kernel_rfl
theorem co33 : Tryd.prog.cellsOf 33 = 1 := by kernel_rfl
theorem bo33 : Tryd.prog.bytesOf 33 = 24 := by kernel_rfl
theorem z33 : ∀ w, (zeroValue 33).run Tryd.prog w = .ok (.slice none 0 0) w := fun _ => by kernel_rfl
theorem inf33 : (Tryd.prog.info? 33).map (fun i => (i.zero, i.size, i.bytes)) = some (some (.slice none 0 0), 1, 24) := by kernel_rfl
theorem sz34 : (Tryd.prog.info? 34).map (·.size) = some 9 := by kernel_rfl
theorem co34 : Tryd.prog.cellsOf 34 = 9 := by kernel_rfl
theorem bo34 : Tryd.prog.bytesOf 34 = 144 := by kernel_rfl
theorem z34 : ∀ w, (zeroValue 34).run Tryd.prog w = .ok (.agg #[.string ⟨#[]⟩, .int .i64 0, .int .i64 0, .slice none 0 0, .slice none 0 0, .slice none 0 0, .string ⟨#[]⟩, .string ⟨#[]⟩, .int .i64 0]) w := fun _ => by kernel_rfl
theorem inf34 : (Tryd.prog.info? 34).map (fun i => (i.zero, i.size, i.bytes)) = some (some (.agg #[.string ⟨#[]⟩, .int .i64 0, .int .i64 0, .slice none 0 0, .slice none 0 0, .slice none 0 0, .string ⟨#[]⟩, .string ⟨#[]⟩, .int .i64 0]), 9, 144) := by kernel_rfl
theorem fa34_0 : ∀ a w, (Instr.fieldAt 34 (.pointer (some a)) 0).run Tryd.prog w = .ok (.pointer (some (a.add 0))) w := run_field (b := 1) Tryd.underlying34 rfl rfl (by kernel_rfl) (by decide)
theorem fa34_1 : ∀ a w, (Instr.fieldAt 34 (.pointer (some a)) 1).run Tryd.prog w = .ok (.pointer (some (a.add 1))) w := run_field (b := 1) Tryd.underlying34 rfl rfl (by kernel_rfl) (by decide)
theorem fa34_2 : ∀ a w, (Instr.fieldAt 34 (.pointer (some a)) 2).run Tryd.prog w = .ok (.pointer (some (a.add 2))) w := run_field (b := 1) Tryd.underlying34 rfl rfl (by kernel_rfl) (by decide)
theorem fa34_3 : ∀ a w, (Instr.fieldAt 34 (.pointer (some a)) 3).run Tryd.prog w = .ok (.pointer (some (a.add 3))) w := run_field (b := 1) Tryd.underlying34 rfl rfl (by kernel_rfl) (by decide)
theorem fa34_4 : ∀ a w, (Instr.fieldAt 34 (.pointer (some a)) 4).run Tryd.prog w = .ok (.pointer (some (a.add 4))) w := run_field (b := 1) Tryd.underlying34 rfl rfl (by kernel_rfl) (by decide)
theorem fa34_5 : ∀ a w, (Instr.fieldAt 34 (.pointer (some a)) 5).run Tryd.prog w = .ok (.pointer (some (a.add 5))) w := run_field (b := 1) Tryd.underlying34 rfl rfl (by kernel_rfl) (by decide)
theorem fa34_6 : ∀ a w, (Instr.fieldAt 34 (.pointer (some a)) 6).run Tryd.prog w = .ok (.pointer (some (a.add 6))) w := run_field (b := 1) Tryd.underlying34 rfl rfl (by kernel_rfl) (by decide)
theorem fa34_7 : ∀ a w, (Instr.fieldAt 34 (.pointer (some a)) 7).run Tryd.prog w = .ok (.pointer (some (a.add 7))) w := run_field (b := 1) Tryd.underlying34 rfl rfl (by kernel_rfl) (by decide)
theorem fa34_8 : ∀ a w, (Instr.fieldAt 34 (.pointer (some a)) 8).run Tryd.prog w = .ok (.pointer (some (a.add 8))) w := run_field (b := 1) Tryd.underlying34 rfl rfl (by kernel_rfl) (by decide)
theorem sz35 : (Tryd.prog.info? 35).map (·.size) = some 9 := by kernel_rfl
theorem co35 : Tryd.prog.cellsOf 35 = 9 := by kernel_rfl
theorem bo35 : Tryd.prog.bytesOf 35 = 144 := by kernel_rfl
theorem z35 : ∀ w, (zeroValue 35).run Tryd.prog w = .ok (.agg #[.string ⟨#[]⟩, .int .i64 0, .int .i64 0, .slice none 0 0, .slice none 0 0, .slice none 0 0, .string ⟨#[]⟩, .string ⟨#[]⟩, .int .i64 0]) w := fun _ => by kernel_rfl
theorem inf35 : (Tryd.prog.info? 35).map (fun i => (i.zero, i.size, i.bytes)) = some (some (.agg #[.string ⟨#[]⟩, .int .i64 0, .int .i64 0, .slice none 0 0, .slice none 0 0, .slice none 0 0, .string ⟨#[]⟩, .string ⟨#[]⟩, .int .i64 0]), 9, 144) := by kernel_rfl
theorem fa35_0 : ∀ a w, (Instr.fieldAt 35 (.pointer (some a)) 0).run Tryd.prog w = .ok (.pointer (some (a.add 0))) w := run_field (b := 1) Tryd.underlying35 rfl rfl (by kernel_rfl) (by decide)
theorem fa35_1 : ∀ a w, (Instr.fieldAt 35 (.pointer (some a)) 1).run Tryd.prog w = .ok (.pointer (some (a.add 1))) w := run_field (b := 1) Tryd.underlying35 rfl rfl (by kernel_rfl) (by decide)
theorem fa35_2 : ∀ a w, (Instr.fieldAt 35 (.pointer (some a)) 2).run Tryd.prog w = .ok (.pointer (some (a.add 2))) w := run_field (b := 1) Tryd.underlying35 rfl rfl (by kernel_rfl) (by decide)
theorem fa35_3 : ∀ a w, (Instr.fieldAt 35 (.pointer (some a)) 3).run Tryd.prog w = .ok (.pointer (some (a.add 3))) w := run_field (b := 1) Tryd.underlying35 rfl rfl (by kernel_rfl) (by decide)
theorem fa35_4 : ∀ a w, (Instr.fieldAt 35 (.pointer (some a)) 4).run Tryd.prog w = .ok (.pointer (some (a.add 4))) w := run_field (b := 1) Tryd.underlying35 rfl rfl (by kernel_rfl) (by decide)
theorem fa35_5 : ∀ a w, (Instr.fieldAt 35 (.pointer (some a)) 5).run Tryd.prog w = .ok (.pointer (some (a.add 5))) w := run_field (b := 1) Tryd.underlying35 rfl rfl (by kernel_rfl) (by decide)
theorem fa35_6 : ∀ a w, (Instr.fieldAt 35 (.pointer (some a)) 6).run Tryd.prog w = .ok (.pointer (some (a.add 6))) w := run_field (b := 1) Tryd.underlying35 rfl rfl (by kernel_rfl) (by decide)
theorem fa35_7 : ∀ a w, (Instr.fieldAt 35 (.pointer (some a)) 7).run Tryd.prog w = .ok (.pointer (some (a.add 7))) w := run_field (b := 1) Tryd.underlying35 rfl rfl (by kernel_rfl) (by decide)
theorem fa35_8 : ∀ a w, (Instr.fieldAt 35 (.pointer (some a)) 8).run Tryd.prog w = .ok (.pointer (some (a.add 8))) w := run_field (b := 1) Tryd.underlying35 rfl rfl (by kernel_rfl) (by decide)
theorem sz37 : (Tryd.prog.info? 37).map (·.size) = some 1 := by kernel_rfl
theorem co37 : Tryd.prog.cellsOf 37 = 1 := by kernel_rfl
theorem bo37 : Tryd.prog.bytesOf 37 = 8 := by kernel_rfl
theorem inf37 : (Tryd.prog.info? 37).map (fun i => (i.zero, i.size, i.bytes)) = some (some (.nilFunc), 1, 8) := by kernel_rfl
theorem sz38 : (Tryd.prog.info? 38).map (·.size) = some 1 := by kernel_rfl
theorem co38 : Tryd.prog.cellsOf 38 = 1 := by kernel_rfl
theorem bo38 : Tryd.prog.bytesOf 38 = 8 := by kernel_rfl
theorem inf38 : (Tryd.prog.info? 38).map (fun i => (i.zero, i.size, i.bytes)) = some (some (.nilFunc), 1, 8) := by kernel_rfl
theorem sz39 : (Tryd.prog.info? 39).map (·.size) = some 1 := by kernel_rfl
theorem co39 : Tryd.prog.cellsOf 39 = 1 := by kernel_rfl
theorem bo39 : Tryd.prog.bytesOf 39 = 24 := by kernel_rfl
theorem z39 : ∀ w, (zeroValue 39).run Tryd.prog w = .ok (.slice none 0 0) w := fun _ => by kernel_rfl
theorem inf39 : (Tryd.prog.info? 39).map (fun i => (i.zero, i.size, i.bytes)) = some (some (.slice none 0 0), 1, 24) := by kernel_rfl
theorem sz40 : (Tryd.prog.info? 40).map (·.size) = some 1 := by kernel_rfl
theorem co40 : Tryd.prog.cellsOf 40 = 1 := by kernel_rfl
theorem bo40 : Tryd.prog.bytesOf 40 = 24 := by kernel_rfl
theorem z40 : ∀ w, (zeroValue 40).run Tryd.prog w = .ok (.slice none 0 0) w := fun _ => by kernel_rfl
theorem inf40 : (Tryd.prog.info? 40).map (fun i => (i.zero, i.size, i.bytes)) = some (some (.slice none 0 0), 1, 24) := by kernel_rfl
theorem sz41 : (Tryd.prog.info? 41).map (·.size) = some 5 := by kernel_rfl
theorem co41 : Tryd.prog.cellsOf 41 = 5 := by kernel_rfl
theorem bo41 : Tryd.prog.bytesOf 41 = 64 := by kernel_rfl
theorem z41 : ∀ w, (zeroValue 41).run Tryd.prog w = .ok (.agg #[.string ⟨#[]⟩, .int .i64 0, .int .i64 0, .int .i64 0, .slice none 0 0]) w := fun _ => by kernel_rfl
theorem inf41 : (Tryd.prog.info? 41).map (fun i => (i.zero, i.size, i.bytes)) = some (some (.agg #[.string ⟨#[]⟩, .int .i64 0, .int .i64 0, .int .i64 0, .slice none 0 0]), 5, 64) := by kernel_rfl
theorem fa41_0 : ∀ a w, (Instr.fieldAt 41 (.pointer (some a)) 0).run Tryd.prog w = .ok (.pointer (some (a.add 0))) w := run_field (b := 1) Tryd.underlying41 rfl rfl (by kernel_rfl) (by decide)
theorem fa41_1 : ∀ a w, (Instr.fieldAt 41 (.pointer (some a)) 1).run Tryd.prog w = .ok (.pointer (some (a.add 1))) w := run_field (b := 1) Tryd.underlying41 rfl rfl (by kernel_rfl) (by decide)
theorem fa41_2 : ∀ a w, (Instr.fieldAt 41 (.pointer (some a)) 2).run Tryd.prog w = .ok (.pointer (some (a.add 2))) w := run_field (b := 1) Tryd.underlying41 rfl rfl (by kernel_rfl) (by decide)
theorem fa41_3 : ∀ a w, (Instr.fieldAt 41 (.pointer (some a)) 3).run Tryd.prog w = .ok (.pointer (some (a.add 3))) w := run_field (b := 1) Tryd.underlying41 rfl rfl (by kernel_rfl) (by decide)
theorem fa41_4 : ∀ a w, (Instr.fieldAt 41 (.pointer (some a)) 4).run Tryd.prog w = .ok (.pointer (some (a.add 4))) w := run_field (b := 1) Tryd.underlying41 rfl rfl (by kernel_rfl) (by decide)
theorem sz42 : (Tryd.prog.info? 42).map (·.size) = some 5 := by kernel_rfl
theorem co42 : Tryd.prog.cellsOf 42 = 5 := by kernel_rfl
theorem bo42 : Tryd.prog.bytesOf 42 = 64 := by kernel_rfl
theorem z42 : ∀ w, (zeroValue 42).run Tryd.prog w = .ok (.agg #[.string ⟨#[]⟩, .int .i64 0, .int .i64 0, .int .i64 0, .slice none 0 0]) w := fun _ => by kernel_rfl
theorem inf42 : (Tryd.prog.info? 42).map (fun i => (i.zero, i.size, i.bytes)) = some (some (.agg #[.string ⟨#[]⟩, .int .i64 0, .int .i64 0, .int .i64 0, .slice none 0 0]), 5, 64) := by kernel_rfl
theorem fa42_0 : ∀ a w, (Instr.fieldAt 42 (.pointer (some a)) 0).run Tryd.prog w = .ok (.pointer (some (a.add 0))) w := run_field (b := 1) Tryd.underlying42 rfl rfl (by kernel_rfl) (by decide)
theorem fa42_1 : ∀ a w, (Instr.fieldAt 42 (.pointer (some a)) 1).run Tryd.prog w = .ok (.pointer (some (a.add 1))) w := run_field (b := 1) Tryd.underlying42 rfl rfl (by kernel_rfl) (by decide)
theorem fa42_2 : ∀ a w, (Instr.fieldAt 42 (.pointer (some a)) 2).run Tryd.prog w = .ok (.pointer (some (a.add 2))) w := run_field (b := 1) Tryd.underlying42 rfl rfl (by kernel_rfl) (by decide)
theorem fa42_3 : ∀ a w, (Instr.fieldAt 42 (.pointer (some a)) 3).run Tryd.prog w = .ok (.pointer (some (a.add 3))) w := run_field (b := 1) Tryd.underlying42 rfl rfl (by kernel_rfl) (by decide)
theorem fa42_4 : ∀ a w, (Instr.fieldAt 42 (.pointer (some a)) 4).run Tryd.prog w = .ok (.pointer (some (a.add 4))) w := run_field (b := 1) Tryd.underlying42 rfl rfl (by kernel_rfl) (by decide)
theorem sz44 : (Tryd.prog.info? 44).map (·.size) = some 1 := by kernel_rfl
theorem co44 : Tryd.prog.cellsOf 44 = 1 := by kernel_rfl
theorem bo44 : Tryd.prog.bytesOf 44 = 8 := by kernel_rfl
theorem inf44 : (Tryd.prog.info? 44).map (fun i => (i.zero, i.size, i.bytes)) = some (some (.nilFunc), 1, 8) := by kernel_rfl
theorem sz46 : (Tryd.prog.info? 46).map (·.size) = some 1 := by kernel_rfl
theorem co46 : Tryd.prog.cellsOf 46 = 1 := by kernel_rfl
theorem bo46 : Tryd.prog.bytesOf 46 = 8 := by kernel_rfl
theorem inf46 : (Tryd.prog.info? 46).map (fun i => (i.zero, i.size, i.bytes)) = some (some (.nilFunc), 1, 8) := by kernel_rfl
theorem sz47 : (Tryd.prog.info? 47).map (·.size) = some 1 := by kernel_rfl
theorem co47 : Tryd.prog.cellsOf 47 = 1 := by kernel_rfl
theorem bo47 : Tryd.prog.bytesOf 47 = 8 := by kernel_rfl
theorem inf47 : (Tryd.prog.info? 47).map (fun i => (i.zero, i.size, i.bytes)) = some (some (.nilFunc), 1, 8) := by kernel_rfl
theorem sz48 : (Tryd.prog.info? 48).map (·.size) = some 1 := by kernel_rfl
theorem co48 : Tryd.prog.cellsOf 48 = 1 := by kernel_rfl
theorem bo48 : Tryd.prog.bytesOf 48 = 8 := by kernel_rfl
theorem inf48 : (Tryd.prog.info? 48).map (fun i => (i.zero, i.size, i.bytes)) = some (some (.nilFunc), 1, 8) := by kernel_rfl
theorem sz49 : (Tryd.prog.info? 49).map (·.size) = some 1 := by kernel_rfl
theorem co49 : Tryd.prog.cellsOf 49 = 1 := by kernel_rfl
theorem bo49 : Tryd.prog.bytesOf 49 = 24 := by kernel_rfl
theorem z49 : ∀ w, (zeroValue 49).run Tryd.prog w = .ok (.slice none 0 0) w := fun _ => by kernel_rfl
theorem inf49 : (Tryd.prog.info? 49).map (fun i => (i.zero, i.size, i.bytes)) = some (some (.slice none 0 0), 1, 24) := by kernel_rfl
theorem sz50 : (Tryd.prog.info? 50).map (·.size) = some 1 := by kernel_rfl
theorem co50 : Tryd.prog.cellsOf 50 = 1 := by kernel_rfl
theorem bo50 : Tryd.prog.bytesOf 50 = 8 := by kernel_rfl
theorem inf50 : (Tryd.prog.info? 50).map (fun i => (i.zero, i.size, i.bytes)) = some (some (.nilFunc), 1, 8) := by kernel_rfl
theorem sz51 : (Tryd.prog.info? 51).map (·.size) = some 1 := by kernel_rfl
theorem co51 : Tryd.prog.cellsOf 51 = 1 := by kernel_rfl
theorem bo51 : Tryd.prog.bytesOf 51 = 8 := by kernel_rfl
theorem inf51 : (Tryd.prog.info? 51).map (fun i => (i.zero, i.size, i.bytes)) = some (some (.nilFunc), 1, 8) := by kernel_rfl
theorem sz53 : (Tryd.prog.info? 53).map (·.size) = some 1 := by kernel_rfl
theorem co53 : Tryd.prog.cellsOf 53 = 1 := by kernel_rfl
theorem bo53 : Tryd.prog.bytesOf 53 = 8 := by kernel_rfl
theorem inf53 : (Tryd.prog.info? 53).map (fun i => (i.zero, i.size, i.bytes)) = some (some (.nilFunc), 1, 8) := by kernel_rfl
theorem sz54 : (Tryd.prog.info? 54).map (·.size) = some 1 := by kernel_rfl
theorem co54 : Tryd.prog.cellsOf 54 = 1 := by kernel_rfl
theorem bo54 : Tryd.prog.bytesOf 54 = 8 := by kernel_rfl
theorem inf54 : (Tryd.prog.info? 54).map (fun i => (i.zero, i.size, i.bytes)) = some (some (.nilFunc), 1, 8) := by kernel_rfl
theorem sz55 : (Tryd.prog.info? 55).map (·.size) = some 2 := by kernel_rfl
theorem co55 : Tryd.prog.cellsOf 55 = 2 := by kernel_rfl
theorem bo55 : Tryd.prog.bytesOf 55 = 32 := by kernel_rfl
theorem z55 : ∀ w, (zeroValue 55).run Tryd.prog w = .ok (.agg #[.string ⟨#[]⟩, .string ⟨#[]⟩]) w := fun _ => by kernel_rfl
theorem inf55 : (Tryd.prog.info? 55).map (fun i => (i.zero, i.size, i.bytes)) = some (some (.agg #[.string ⟨#[]⟩, .string ⟨#[]⟩]), 2, 32) := by kernel_rfl
theorem fa55_0 : ∀ a w, (Instr.fieldAt 55 (.pointer (some a)) 0).run Tryd.prog w = .ok (.pointer (some (a.add 0))) w := run_field (b := 1) Tryd.underlying55 rfl rfl (by kernel_rfl) (by decide)
theorem fa55_1 : ∀ a w, (Instr.fieldAt 55 (.pointer (some a)) 1).run Tryd.prog w = .ok (.pointer (some (a.add 1))) w := run_field (b := 1) Tryd.underlying55 rfl rfl (by kernel_rfl) (by decide)
theorem sz56 : (Tryd.prog.info? 56).map (·.size) = some 2 := by kernel_rfl
theorem co56 : Tryd.prog.cellsOf 56 = 2 := by kernel_rfl
theorem bo56 : Tryd.prog.bytesOf 56 = 32 := by kernel_rfl
theorem z56 : ∀ w, (zeroValue 56).run Tryd.prog w = .ok (.agg #[.string ⟨#[]⟩, .string ⟨#[]⟩]) w := fun _ => by kernel_rfl
theorem inf56 : (Tryd.prog.info? 56).map (fun i => (i.zero, i.size, i.bytes)) = some (some (.agg #[.string ⟨#[]⟩, .string ⟨#[]⟩]), 2, 32) := by kernel_rfl
theorem fa56_0 : ∀ a w, (Instr.fieldAt 56 (.pointer (some a)) 0).run Tryd.prog w = .ok (.pointer (some (a.add 0))) w := run_field (b := 1) Tryd.underlying56 rfl rfl (by kernel_rfl) (by decide)
theorem fa56_1 : ∀ a w, (Instr.fieldAt 56 (.pointer (some a)) 1).run Tryd.prog w = .ok (.pointer (some (a.add 1))) w := run_field (b := 1) Tryd.underlying56 rfl rfl (by kernel_rfl) (by decide)
theorem sz57 : (Tryd.prog.info? 57).map (·.size) = some 1 := by kernel_rfl
theorem co57 : Tryd.prog.cellsOf 57 = 1 := by kernel_rfl
theorem bo57 : Tryd.prog.bytesOf 57 = 8 := by kernel_rfl
theorem inf57 : (Tryd.prog.info? 57).map (fun i => (i.zero, i.size, i.bytes)) = some (some (.nilFunc), 1, 8) := by kernel_rfl
theorem sz58 : (Tryd.prog.info? 58).map (·.size) = some 1 := by kernel_rfl
theorem co58 : Tryd.prog.cellsOf 58 = 1 := by kernel_rfl
theorem bo58 : Tryd.prog.bytesOf 58 = 8 := by kernel_rfl
theorem inf58 : (Tryd.prog.info? 58).map (fun i => (i.zero, i.size, i.bytes)) = some (some (.nilFunc), 1, 8) := by kernel_rfl
theorem sz59 : (Tryd.prog.info? 59).map (·.size) = some 1 := by kernel_rfl
theorem co59 : Tryd.prog.cellsOf 59 = 1 := by kernel_rfl
theorem bo59 : Tryd.prog.bytesOf 59 = 8 := by kernel_rfl
theorem inf59 : (Tryd.prog.info? 59).map (fun i => (i.zero, i.size, i.bytes)) = some (some (.nilFunc), 1, 8) := by kernel_rfl
theorem sz60 : (Tryd.prog.info? 60).map (·.size) = some 1 := by kernel_rfl
theorem co60 : Tryd.prog.cellsOf 60 = 1 := by kernel_rfl
theorem bo60 : Tryd.prog.bytesOf 60 = 8 := by kernel_rfl
theorem inf60 : (Tryd.prog.info? 60).map (fun i => (i.zero, i.size, i.bytes)) = some (some (.nilFunc), 1, 8) := by kernel_rfl
theorem sz61 : (Tryd.prog.info? 61).map (·.size) = some 1 := by kernel_rfl
theorem co61 : Tryd.prog.cellsOf 61 = 1 := by kernel_rfl
theorem bo61 : Tryd.prog.bytesOf 61 = 8 := by kernel_rfl
theorem inf61 : (Tryd.prog.info? 61).map (fun i => (i.zero, i.size, i.bytes)) = some (some (.nilFunc), 1, 8) := by kernel_rfl
theorem sz62 : (Tryd.prog.info? 62).map (·.size) = some 1 := by kernel_rfl
theorem co62 : Tryd.prog.cellsOf 62 = 1 := by kernel_rfl
theorem bo62 : Tryd.prog.bytesOf 62 = 8 := by kernel_rfl
theorem inf62 : (Tryd.prog.info? 62).map (fun i => (i.zero, i.size, i.bytes)) = some (some (.nilFunc), 1, 8) := by kernel_rfl
theorem sz63 : (Tryd.prog.info? 63).map (·.size) = some 1 := by kernel_rfl
theorem co63 : Tryd.prog.cellsOf 63 = 1 := by kernel_rfl
theorem bo63 : Tryd.prog.bytesOf 63 = 8 := by kernel_rfl
theorem inf63 : (Tryd.prog.info? 63).map (fun i => (i.zero, i.size, i.bytes)) = some (some (.nilFunc), 1, 8) := by kernel_rfl
theorem sz64 : (Tryd.prog.info? 64).map (·.size) = some 1 := by kernel_rfl
theorem co64 : Tryd.prog.cellsOf 64 = 1 := by kernel_rfl
theorem bo64 : Tryd.prog.bytesOf 64 = 8 := by kernel_rfl
theorem inf64 : (Tryd.prog.info? 64).map (fun i => (i.zero, i.size, i.bytes)) = some (some (.nilFunc), 1, 8) := by kernel_rfl
theorem sz65 : (Tryd.prog.info? 65).map (·.size) = some 1 := by kernel_rfl
theorem co65 : Tryd.prog.cellsOf 65 = 1 := by kernel_rfl
theorem bo65 : Tryd.prog.bytesOf 65 = 8 := by kernel_rfl
theorem inf65 : (Tryd.prog.info? 65).map (fun i => (i.zero, i.size, i.bytes)) = some (some (.nilFunc), 1, 8) := by kernel_rfl
theorem sz66 : (Tryd.prog.info? 66).map (·.size) = some 1 := by kernel_rfl
theorem co66 : Tryd.prog.cellsOf 66 = 1 := by kernel_rfl
theorem bo66 : Tryd.prog.bytesOf 66 = 8 := by kernel_rfl
theorem inf66 : (Tryd.prog.info? 66).map (fun i => (i.zero, i.size, i.bytes)) = some (some (.nilFunc), 1, 8) := by kernel_rfl
theorem sz67 : (Tryd.prog.info? 67).map (·.size) = some 1 := by kernel_rfl
theorem co67 : Tryd.prog.cellsOf 67 = 1 := by kernel_rfl
theorem bo67 : Tryd.prog.bytesOf 67 = 8 := by kernel_rfl
theorem inf67 : (Tryd.prog.info? 67).map (fun i => (i.zero, i.size, i.bytes)) = some (some (.nilFunc), 1, 8) := by kernel_rfl
theorem sz68 : (Tryd.prog.info? 68).map (·.size) = some 1 := by kernel_rfl
theorem co68 : Tryd.prog.cellsOf 68 = 1 := by kernel_rfl
theorem bo68 : Tryd.prog.bytesOf 68 = 8 := by kernel_rfl
theorem inf68 : (Tryd.prog.info? 68).map (fun i => (i.zero, i.size, i.bytes)) = some (some (.nilFunc), 1, 8) := by kernel_rfl
theorem sz69 : (Tryd.prog.info? 69).map (·.size) = some 1 := by kernel_rfl
theorem co69 : Tryd.prog.cellsOf 69 = 1 := by kernel_rfl
theorem bo69 : Tryd.prog.bytesOf 69 = 8 := by kernel_rfl
theorem inf69 : (Tryd.prog.info? 69).map (fun i => (i.zero, i.size, i.bytes)) = some (some (.nilFunc), 1, 8) := by kernel_rfl
theorem sz71 : (Tryd.prog.info? 71).map (·.size) = some 1 := by kernel_rfl
theorem co71 : Tryd.prog.cellsOf 71 = 1 := by kernel_rfl
theorem bo71 : Tryd.prog.bytesOf 71 = 8 := by kernel_rfl
theorem inf71 : (Tryd.prog.info? 71).map (fun i => (i.zero, i.size, i.bytes)) = some (some (.nilFunc), 1, 8) := by kernel_rfl
theorem sz72 : (Tryd.prog.info? 72).map (·.size) = some 1 := by kernel_rfl
theorem co72 : Tryd.prog.cellsOf 72 = 1 := by kernel_rfl
theorem bo72 : Tryd.prog.bytesOf 72 = 8 := by kernel_rfl
theorem inf72 : (Tryd.prog.info? 72).map (fun i => (i.zero, i.size, i.bytes)) = some (some (.nilFunc), 1, 8) := by kernel_rfl
theorem sz73 : (Tryd.prog.info? 73).map (·.size) = some 1 := by kernel_rfl
theorem co73 : Tryd.prog.cellsOf 73 = 1 := by kernel_rfl
theorem bo73 : Tryd.prog.bytesOf 73 = 8 := by kernel_rfl
theorem inf73 : (Tryd.prog.info? 73).map (fun i => (i.zero, i.size, i.bytes)) = some (some (.nilFunc), 1, 8) := by kernel_rfl
theorem sz74 : (Tryd.prog.info? 74).map (·.size) = some 1 := by kernel_rfl
theorem co74 : Tryd.prog.cellsOf 74 = 1 := by kernel_rfl
theorem bo74 : Tryd.prog.bytesOf 74 = 8 := by kernel_rfl
theorem inf74 : (Tryd.prog.info? 74).map (fun i => (i.zero, i.size, i.bytes)) = some (some (.nilFunc), 1, 8) := by kernel_rfl
theorem sz75 : (Tryd.prog.info? 75).map (·.size) = some 1 := by kernel_rfl
theorem co75 : Tryd.prog.cellsOf 75 = 1 := by kernel_rfl
theorem bo75 : Tryd.prog.bytesOf 75 = 8 := by kernel_rfl
theorem inf75 : (Tryd.prog.info? 75).map (fun i => (i.zero, i.size, i.bytes)) = some (some (.nilFunc), 1, 8) := by kernel_rfl
theorem sz76 : (Tryd.prog.info? 76).map (·.size) = some 1 := by kernel_rfl
theorem co76 : Tryd.prog.cellsOf 76 = 1 := by kernel_rfl
theorem bo76 : Tryd.prog.bytesOf 76 = 8 := by kernel_rfl
theorem z76 : ∀ w, (zeroValue 76).run Tryd.prog w = .ok (.pointer none) w := fun _ => by kernel_rfl
theorem inf76 : (Tryd.prog.info? 76).map (fun i => (i.zero, i.size, i.bytes)) = some (some (.pointer none), 1, 8) := by kernel_rfl
theorem sz77 : (Tryd.prog.info? 77).map (·.size) = some 1 := by kernel_rfl
theorem co77 : Tryd.prog.cellsOf 77 = 1 := by kernel_rfl
theorem bo77 : Tryd.prog.bytesOf 77 = 24 := by kernel_rfl
theorem z77 : ∀ w, (zeroValue 77).run Tryd.prog w = .ok (.slice none 0 0) w := fun _ => by kernel_rfl
theorem inf77 : (Tryd.prog.info? 77).map (fun i => (i.zero, i.size, i.bytes)) = some (some (.slice none 0 0), 1, 24) := by kernel_rfl
theorem sz78 : (Tryd.prog.info? 78).map (·.size) = some 2 := by kernel_rfl
theorem co78 : Tryd.prog.cellsOf 78 = 2 := by kernel_rfl
theorem bo78 : Tryd.prog.bytesOf 78 = 32 := by kernel_rfl
theorem z78 : ∀ w, (zeroValue 78).run Tryd.prog w = .ok (.agg #[.pointer none, .slice none 0 0]) w := fun _ => by kernel_rfl
theorem inf78 : (Tryd.prog.info? 78).map (fun i => (i.zero, i.size, i.bytes)) = some (some (.agg #[.pointer none, .slice none 0 0]), 2, 32) := by kernel_rfl
theorem fa78_0 : ∀ a w, (Instr.fieldAt 78 (.pointer (some a)) 0).run Tryd.prog w = .ok (.pointer (some (a.add 0))) w := run_field (b := 1) Tryd.underlying78 rfl rfl (by kernel_rfl) (by decide)
theorem fa78_1 : ∀ a w, (Instr.fieldAt 78 (.pointer (some a)) 1).run Tryd.prog w = .ok (.pointer (some (a.add 1))) w := run_field (b := 1) Tryd.underlying78 rfl rfl (by kernel_rfl) (by decide)
theorem sz79 : (Tryd.prog.info? 79).map (·.size) = some 2 := by kernel_rfl
theorem co79 : Tryd.prog.cellsOf 79 = 2 := by kernel_rfl
theorem bo79 : Tryd.prog.bytesOf 79 = 32 := by kernel_rfl
theorem z79 : ∀ w, (zeroValue 79).run Tryd.prog w = .ok (.agg #[.pointer none, .slice none 0 0]) w := fun _ => by kernel_rfl
theorem inf79 : (Tryd.prog.info? 79).map (fun i => (i.zero, i.size, i.bytes)) = some (some (.agg #[.pointer none, .slice none 0 0]), 2, 32) := by kernel_rfl
theorem fa79_0 : ∀ a w, (Instr.fieldAt 79 (.pointer (some a)) 0).run Tryd.prog w = .ok (.pointer (some (a.add 0))) w := run_field (b := 1) Tryd.underlying79 rfl rfl (by kernel_rfl) (by decide)
theorem fa79_1 : ∀ a w, (Instr.fieldAt 79 (.pointer (some a)) 1).run Tryd.prog w = .ok (.pointer (some (a.add 1))) w := run_field (b := 1) Tryd.underlying79 rfl rfl (by kernel_rfl) (by decide)
theorem sz80 : (Tryd.prog.info? 80).map (·.size) = some 1 := by kernel_rfl
theorem co80 : Tryd.prog.cellsOf 80 = 1 := by kernel_rfl
theorem bo80 : Tryd.prog.bytesOf 80 = 16 := by kernel_rfl
theorem z80 : ∀ w, (zeroValue 80).run Tryd.prog w = .ok (.nilIface) w := fun _ => by kernel_rfl
theorem inf80 : (Tryd.prog.info? 80).map (fun i => (i.zero, i.size, i.bytes)) = some (some (.nilIface), 1, 16) := by kernel_rfl
theorem sz81 : (Tryd.prog.info? 81).map (·.size) = some 1 := by kernel_rfl
theorem co81 : Tryd.prog.cellsOf 81 = 1 := by kernel_rfl
theorem bo81 : Tryd.prog.bytesOf 81 = 16 := by kernel_rfl
theorem z81 : ∀ w, (zeroValue 81).run Tryd.prog w = .ok (.nilIface) w := fun _ => by kernel_rfl
theorem inf81 : (Tryd.prog.info? 81).map (fun i => (i.zero, i.size, i.bytes)) = some (some (.nilIface), 1, 16) := by kernel_rfl
theorem sz83 : (Tryd.prog.info? 83).map (·.size) = some 1 := by kernel_rfl
theorem co83 : Tryd.prog.cellsOf 83 = 1 := by kernel_rfl
theorem bo83 : Tryd.prog.bytesOf 83 = 8 := by kernel_rfl
theorem inf83 : (Tryd.prog.info? 83).map (fun i => (i.zero, i.size, i.bytes)) = some (some (.nilFunc), 1, 8) := by kernel_rfl
theorem sz84 : (Tryd.prog.info? 84).map (·.size) = some 1 := by kernel_rfl
theorem co84 : Tryd.prog.cellsOf 84 = 1 := by kernel_rfl
theorem bo84 : Tryd.prog.bytesOf 84 = 8 := by kernel_rfl
theorem inf84 : (Tryd.prog.info? 84).map (fun i => (i.zero, i.size, i.bytes)) = some (some (.nilFunc), 1, 8) := by kernel_rfl
theorem sz85 : (Tryd.prog.info? 85).map (·.size) = some 1 := by kernel_rfl
theorem co85 : Tryd.prog.cellsOf 85 = 1 := by kernel_rfl
theorem bo85 : Tryd.prog.bytesOf 85 = 8 := by kernel_rfl
theorem inf85 : (Tryd.prog.info? 85).map (fun i => (i.zero, i.size, i.bytes)) = some (some (.nilFunc), 1, 8) := by kernel_rfl
theorem sz86 : (Tryd.prog.info? 86).map (·.size) = some 1 := by kernel_rfl
theorem co86 : Tryd.prog.cellsOf 86 = 1 := by kernel_rfl
theorem bo86 : Tryd.prog.bytesOf 86 = 8 := by kernel_rfl
theorem inf86 : (Tryd.prog.info? 86).map (fun i => (i.zero, i.size, i.bytes)) = some (some (.nilFunc), 1, 8) := by kernel_rfl
theorem sz87 : (Tryd.prog.info? 87).map (·.size) = some 1 := by kernel_rfl
theorem co87 : Tryd.prog.cellsOf 87 = 1 := by kernel_rfl
theorem bo87 : Tryd.prog.bytesOf 87 = 8 := by kernel_rfl
theorem inf87 : (Tryd.prog.info? 87).map (fun i => (i.zero, i.size, i.bytes)) = some (some (.nilFunc), 1, 8) := by kernel_rfl
theorem sz89 : (Tryd.prog.info? 89).map (·.size) = some 1 := by kernel_rfl
theorem co89 : Tryd.prog.cellsOf 89 = 1 := by kernel_rfl
theorem bo89 : Tryd.prog.bytesOf 89 = 8 := by kernel_rfl
theorem inf89 : (Tryd.prog.info? 89).map (fun i => (i.zero, i.size, i.bytes)) = some (some (.nilFunc), 1, 8) := by kernel_rfl
theorem sz90 : (Tryd.prog.info? 90).map (·.size) = some 1 := by kernel_rfl
theorem co90 : Tryd.prog.cellsOf 90 = 1 := by kernel_rfl
theorem bo90 : Tryd.prog.bytesOf 90 = 8 := by kernel_rfl
theorem inf90 : (Tryd.prog.info? 90).map (fun i => (i.zero, i.size, i.bytes)) = some (some (.nilFunc), 1, 8) := by kernel_rfl
theorem sz92 : (Tryd.prog.info? 92).map (·.size) = some 1 := by kernel_rfl
theorem co92 : Tryd.prog.cellsOf 92 = 1 := by kernel_rfl
theorem bo92 : Tryd.prog.bytesOf 92 = 8 := by kernel_rfl
theorem inf92 : (Tryd.prog.info? 92).map (fun i => (i.zero, i.size, i.bytes)) = some (some (.nilFunc), 1, 8) := by kernel_rfl
theorem sz94 : (Tryd.prog.info? 94).map (·.size) = some 1 := by kernel_rfl
theorem co94 : Tryd.prog.cellsOf 94 = 1 := by kernel_rfl
theorem bo94 : Tryd.prog.bytesOf 94 = 8 := by kernel_rfl
theorem inf94 : (Tryd.prog.info? 94).map (fun i => (i.zero, i.size, i.bytes)) = some (some (.nilFunc), 1, 8) := by kernel_rfl
theorem sz95 : (Tryd.prog.info? 95).map (·.size) = some 1 := by kernel_rfl
theorem co95 : Tryd.prog.cellsOf 95 = 1 := by kernel_rfl
theorem bo95 : Tryd.prog.bytesOf 95 = 8 := by kernel_rfl
theorem inf95 : (Tryd.prog.info? 95).map (fun i => (i.zero, i.size, i.bytes)) = some (some (.nilFunc), 1, 8) := by kernel_rfl
theorem sz96 : (Tryd.prog.info? 96).map (·.size) = some 1 := by kernel_rfl
theorem co96 : Tryd.prog.cellsOf 96 = 1 := by kernel_rfl
theorem bo96 : Tryd.prog.bytesOf 96 = 8 := by kernel_rfl
theorem inf96 : (Tryd.prog.info? 96).map (fun i => (i.zero, i.size, i.bytes)) = some (some (.nilFunc), 1, 8) := by kernel_rfl
theorem sz97 : (Tryd.prog.info? 97).map (·.size) = some 1 := by kernel_rfl
theorem co97 : Tryd.prog.cellsOf 97 = 1 := by kernel_rfl
theorem bo97 : Tryd.prog.bytesOf 97 = 8 := by kernel_rfl
theorem inf97 : (Tryd.prog.info? 97).map (fun i => (i.zero, i.size, i.bytes)) = some (some (.nilFunc), 1, 8) := by kernel_rfl
theorem sz98 : (Tryd.prog.info? 98).map (·.size) = some 1 := by kernel_rfl
theorem co98 : Tryd.prog.cellsOf 98 = 1 := by kernel_rfl
theorem bo98 : Tryd.prog.bytesOf 98 = 8 := by kernel_rfl
theorem inf98 : (Tryd.prog.info? 98).map (fun i => (i.zero, i.size, i.bytes)) = some (some (.nilFunc), 1, 8) := by kernel_rfl
theorem sz99 : (Tryd.prog.info? 99).map (·.size) = some 1 := by kernel_rfl
theorem co99 : Tryd.prog.cellsOf 99 = 1 := by kernel_rfl
theorem bo99 : Tryd.prog.bytesOf 99 = 8 := by kernel_rfl
theorem inf99 : (Tryd.prog.info? 99).map (fun i => (i.zero, i.size, i.bytes)) = some (some (.nilFunc), 1, 8) := by kernel_rfl
theorem sz100 : (Tryd.prog.info? 100).map (·.size) = some 1 := by kernel_rfl
theorem co100 : Tryd.prog.cellsOf 100 = 1 := by kernel_rfl
theorem bo100 : Tryd.prog.bytesOf 100 = 8 := by kernel_rfl
theorem inf100 : (Tryd.prog.info? 100).map (fun i => (i.zero, i.size, i.bytes)) = some (some (.nilFunc), 1, 8) := by kernel_rfl
theorem sz101 : (Tryd.prog.info? 101).map (·.size) = some 1 := by kernel_rfl
theorem co101 : Tryd.prog.cellsOf 101 = 1 := by kernel_rfl
theorem bo101 : Tryd.prog.bytesOf 101 = 8 := by kernel_rfl
theorem inf101 : (Tryd.prog.info? 101).map (fun i => (i.zero, i.size, i.bytes)) = some (some (.nilFunc), 1, 8) := by kernel_rfl
theorem sz102 : (Tryd.prog.info? 102).map (·.size) = some 1 := by kernel_rfl
theorem co102 : Tryd.prog.cellsOf 102 = 1 := by kernel_rfl
theorem bo102 : Tryd.prog.bytesOf 102 = 8 := by kernel_rfl
theorem inf102 : (Tryd.prog.info? 102).map (fun i => (i.zero, i.size, i.bytes)) = some (some (.nilFunc), 1, 8) := by kernel_rfl
theorem sz103 : (Tryd.prog.info? 103).map (·.size) = some 1 := by kernel_rfl
theorem co103 : Tryd.prog.cellsOf 103 = 1 := by kernel_rfl
theorem bo103 : Tryd.prog.bytesOf 103 = 8 := by kernel_rfl
theorem inf103 : (Tryd.prog.info? 103).map (fun i => (i.zero, i.size, i.bytes)) = some (some (.nilFunc), 1, 8) := by kernel_rfl
theorem sz104 : (Tryd.prog.info? 104).map (·.size) = some 1 := by kernel_rfl
theorem co104 : Tryd.prog.cellsOf 104 = 1 := by kernel_rfl
theorem bo104 : Tryd.prog.bytesOf 104 = 8 := by kernel_rfl
theorem inf104 : (Tryd.prog.info? 104).map (fun i => (i.zero, i.size, i.bytes)) = some (some (.nilFunc), 1, 8) := by kernel_rfl
theorem sz105 : (Tryd.prog.info? 105).map (·.size) = some 1 := by kernel_rfl
theorem co105 : Tryd.prog.cellsOf 105 = 1 := by kernel_rfl
theorem bo105 : Tryd.prog.bytesOf 105 = 8 := by kernel_rfl
theorem inf105 : (Tryd.prog.info? 105).map (fun i => (i.zero, i.size, i.bytes)) = some (some (.nilFunc), 1, 8) := by kernel_rfl
theorem sz106 : (Tryd.prog.info? 106).map (·.size) = some 1 := by kernel_rfl
theorem co106 : Tryd.prog.cellsOf 106 = 1 := by kernel_rfl
theorem bo106 : Tryd.prog.bytesOf 106 = 24 := by kernel_rfl
theorem z106 : ∀ w, (zeroValue 106).run Tryd.prog w = .ok (.slice none 0 0) w := fun _ => by kernel_rfl
theorem inf106 : (Tryd.prog.info? 106).map (fun i => (i.zero, i.size, i.bytes)) = some (some (.slice none 0 0), 1, 24) := by kernel_rfl
theorem sz107 : (Tryd.prog.info? 107).map (·.size) = some 3 := by kernel_rfl
theorem co107 : Tryd.prog.cellsOf 107 = 3 := by kernel_rfl
theorem bo107 : Tryd.prog.bytesOf 107 = 56 := by kernel_rfl
theorem z107 : ∀ w, (zeroValue 107).run Tryd.prog w = .ok (.agg #[.string ⟨#[]⟩, .string ⟨#[]⟩, .slice none 0 0]) w := fun _ => by kernel_rfl
theorem inf107 : (Tryd.prog.info? 107).map (fun i => (i.zero, i.size, i.bytes)) = some (some (.agg #[.string ⟨#[]⟩, .string ⟨#[]⟩, .slice none 0 0]), 3, 56) := by kernel_rfl
theorem fa107_0 : ∀ a w, (Instr.fieldAt 107 (.pointer (some a)) 0).run Tryd.prog w = .ok (.pointer (some (a.add 0))) w := run_field (b := 1) Tryd.underlying107 rfl rfl (by kernel_rfl) (by decide)
theorem fa107_1 : ∀ a w, (Instr.fieldAt 107 (.pointer (some a)) 1).run Tryd.prog w = .ok (.pointer (some (a.add 1))) w := run_field (b := 1) Tryd.underlying107 rfl rfl (by kernel_rfl) (by decide)
theorem fa107_2 : ∀ a w, (Instr.fieldAt 107 (.pointer (some a)) 2).run Tryd.prog w = .ok (.pointer (some (a.add 2))) w := run_field (b := 1) Tryd.underlying107 rfl rfl (by kernel_rfl) (by decide)
theorem sz108 : (Tryd.prog.info? 108).map (·.size) = some 3 := by kernel_rfl
theorem co108 : Tryd.prog.cellsOf 108 = 3 := by kernel_rfl
theorem bo108 : Tryd.prog.bytesOf 108 = 56 := by kernel_rfl
theorem z108 : ∀ w, (zeroValue 108).run Tryd.prog w = .ok (.agg #[.string ⟨#[]⟩, .string ⟨#[]⟩, .slice none 0 0]) w := fun _ => by kernel_rfl
theorem inf108 : (Tryd.prog.info? 108).map (fun i => (i.zero, i.size, i.bytes)) = some (some (.agg #[.string ⟨#[]⟩, .string ⟨#[]⟩, .slice none 0 0]), 3, 56) := by kernel_rfl
theorem fa108_0 : ∀ a w, (Instr.fieldAt 108 (.pointer (some a)) 0).run Tryd.prog w = .ok (.pointer (some (a.add 0))) w := run_field (b := 1) Tryd.underlying108 rfl rfl (by kernel_rfl) (by decide)
theorem fa108_1 : ∀ a w, (Instr.fieldAt 108 (.pointer (some a)) 1).run Tryd.prog w = .ok (.pointer (some (a.add 1))) w := run_field (b := 1) Tryd.underlying108 rfl rfl (by kernel_rfl) (by decide)
theorem fa108_2 : ∀ a w, (Instr.fieldAt 108 (.pointer (some a)) 2).run Tryd.prog w = .ok (.pointer (some (a.add 2))) w := run_field (b := 1) Tryd.underlying108 rfl rfl (by kernel_rfl) (by decide)
theorem sz109 : (Tryd.prog.info? 109).map (·.size) = some 1 := by kernel_rfl
theorem co109 : Tryd.prog.cellsOf 109 = 1 := by kernel_rfl
theorem bo109 : Tryd.prog.bytesOf 109 = 8 := by kernel_rfl
theorem inf109 : (Tryd.prog.info? 109).map (fun i => (i.zero, i.size, i.bytes)) = some (some (.nilFunc), 1, 8) := by kernel_rfl
theorem sz110 : (Tryd.prog.info? 110).map (·.size) = some 1 := by kernel_rfl
theorem co110 : Tryd.prog.cellsOf 110 = 1 := by kernel_rfl
theorem bo110 : Tryd.prog.bytesOf 110 = 8 := by kernel_rfl
theorem inf110 : (Tryd.prog.info? 110).map (fun i => (i.zero, i.size, i.bytes)) = some (some (.nilFunc), 1, 8) := by kernel_rfl
theorem sz111 : (Tryd.prog.info? 111).map (·.size) = some 1 := by kernel_rfl
theorem co111 : Tryd.prog.cellsOf 111 = 1 := by kernel_rfl
theorem bo111 : Tryd.prog.bytesOf 111 = 8 := by kernel_rfl
theorem inf111 : (Tryd.prog.info? 111).map (fun i => (i.zero, i.size, i.bytes)) = some (some (.nilFunc), 1, 8) := by kernel_rfl
theorem sz112 : (Tryd.prog.info? 112).map (·.size) = some 6 := by kernel_rfl
theorem co112 : Tryd.prog.cellsOf 112 = 6 := by kernel_rfl
theorem bo112 : Tryd.prog.bytesOf 112 = 72 := by kernel_rfl
theorem z112 : ∀ w, (zeroValue 112).run Tryd.prog w = .ok (.agg #[.string ⟨#[]⟩, .string ⟨#[]⟩, .string ⟨#[]⟩, .int .i64 0, .int .i64 0, .bool false]) w := fun _ => by kernel_rfl
theorem inf112 : (Tryd.prog.info? 112).map (fun i => (i.zero, i.size, i.bytes)) = some (some (.agg #[.string ⟨#[]⟩, .string ⟨#[]⟩, .string ⟨#[]⟩, .int .i64 0, .int .i64 0, .bool false]), 6, 72) := by kernel_rfl
theorem fa112_0 : ∀ a w, (Instr.fieldAt 112 (.pointer (some a)) 0).run Tryd.prog w = .ok (.pointer (some (a.add 0))) w := run_field (b := 1) Tryd.underlying112 rfl rfl (by kernel_rfl) (by decide)
theorem fa112_1 : ∀ a w, (Instr.fieldAt 112 (.pointer (some a)) 1).run Tryd.prog w = .ok (.pointer (some (a.add 1))) w := run_field (b := 1) Tryd.underlying112 rfl rfl (by kernel_rfl) (by decide)
theorem fa112_2 : ∀ a w, (Instr.fieldAt 112 (.pointer (some a)) 2).run Tryd.prog w = .ok (.pointer (some (a.add 2))) w := run_field (b := 1) Tryd.underlying112 rfl rfl (by kernel_rfl) (by decide)
theorem fa112_3 : ∀ a w, (Instr.fieldAt 112 (.pointer (some a)) 3).run Tryd.prog w = .ok (.pointer (some (a.add 3))) w := run_field (b := 1) Tryd.underlying112 rfl rfl (by kernel_rfl) (by decide)
theorem fa112_4 : ∀ a w, (Instr.fieldAt 112 (.pointer (some a)) 4).run Tryd.prog w = .ok (.pointer (some (a.add 4))) w := run_field (b := 1) Tryd.underlying112 rfl rfl (by kernel_rfl) (by decide)
theorem fa112_5 : ∀ a w, (Instr.fieldAt 112 (.pointer (some a)) 5).run Tryd.prog w = .ok (.pointer (some (a.add 5))) w := run_field (b := 1) Tryd.underlying112 rfl rfl (by kernel_rfl) (by decide)
theorem sz113 : (Tryd.prog.info? 113).map (·.size) = some 6 := by kernel_rfl
theorem co113 : Tryd.prog.cellsOf 113 = 6 := by kernel_rfl
theorem bo113 : Tryd.prog.bytesOf 113 = 72 := by kernel_rfl
theorem z113 : ∀ w, (zeroValue 113).run Tryd.prog w = .ok (.agg #[.string ⟨#[]⟩, .string ⟨#[]⟩, .string ⟨#[]⟩, .int .i64 0, .int .i64 0, .bool false]) w := fun _ => by kernel_rfl
theorem inf113 : (Tryd.prog.info? 113).map (fun i => (i.zero, i.size, i.bytes)) = some (some (.agg #[.string ⟨#[]⟩, .string ⟨#[]⟩, .string ⟨#[]⟩, .int .i64 0, .int .i64 0, .bool false]), 6, 72) := by kernel_rfl
theorem fa113_0 : ∀ a w, (Instr.fieldAt 113 (.pointer (some a)) 0).run Tryd.prog w = .ok (.pointer (some (a.add 0))) w := run_field (b := 1) Tryd.underlying113 rfl rfl (by kernel_rfl) (by decide)
theorem fa113_1 : ∀ a w, (Instr.fieldAt 113 (.pointer (some a)) 1).run Tryd.prog w = .ok (.pointer (some (a.add 1))) w := run_field (b := 1) Tryd.underlying113 rfl rfl (by kernel_rfl) (by decide)
theorem fa113_2 : ∀ a w, (Instr.fieldAt 113 (.pointer (some a)) 2).run Tryd.prog w = .ok (.pointer (some (a.add 2))) w := run_field (b := 1) Tryd.underlying113 rfl rfl (by kernel_rfl) (by decide)
theorem fa113_3 : ∀ a w, (Instr.fieldAt 113 (.pointer (some a)) 3).run Tryd.prog w = .ok (.pointer (some (a.add 3))) w := run_field (b := 1) Tryd.underlying113 rfl rfl (by kernel_rfl) (by decide)
theorem fa113_4 : ∀ a w, (Instr.fieldAt 113 (.pointer (some a)) 4).run Tryd.prog w = .ok (.pointer (some (a.add 4))) w := run_field (b := 1) Tryd.underlying113 rfl rfl (by kernel_rfl) (by decide)
theorem fa113_5 : ∀ a w, (Instr.fieldAt 113 (.pointer (some a)) 5).run Tryd.prog w = .ok (.pointer (some (a.add 5))) w := run_field (b := 1) Tryd.underlying113 rfl rfl (by kernel_rfl) (by decide)
theorem sz114 : (Tryd.prog.info? 114).map (·.size) = some 1 := by kernel_rfl
theorem co114 : Tryd.prog.cellsOf 114 = 1 := by kernel_rfl
theorem bo114 : Tryd.prog.bytesOf 114 = 8 := by kernel_rfl
theorem inf114 : (Tryd.prog.info? 114).map (fun i => (i.zero, i.size, i.bytes)) = some (some (.nilFunc), 1, 8) := by kernel_rfl
theorem sz115 : (Tryd.prog.info? 115).map (·.size) = some 1 := by kernel_rfl
theorem co115 : Tryd.prog.cellsOf 115 = 1 := by kernel_rfl
theorem bo115 : Tryd.prog.bytesOf 115 = 8 := by kernel_rfl
theorem inf115 : (Tryd.prog.info? 115).map (fun i => (i.zero, i.size, i.bytes)) = some (some (.nilFunc), 1, 8) := by kernel_rfl
theorem sz116 : (Tryd.prog.info? 116).map (·.size) = some 1 := by kernel_rfl
theorem co116 : Tryd.prog.cellsOf 116 = 1 := by kernel_rfl
theorem bo116 : Tryd.prog.bytesOf 116 = 8 := by kernel_rfl
theorem inf116 : (Tryd.prog.info? 116).map (fun i => (i.zero, i.size, i.bytes)) = some (some (.nilFunc), 1, 8) := by kernel_rfl
theorem sz117 : (Tryd.prog.info? 117).map (·.size) = some 1 := by kernel_rfl
theorem co117 : Tryd.prog.cellsOf 117 = 1 := by kernel_rfl
theorem bo117 : Tryd.prog.bytesOf 117 = 24 := by kernel_rfl
theorem z117 : ∀ w, (zeroValue 117).run Tryd.prog w = .ok (.slice none 0 0) w := fun _ => by kernel_rfl
theorem inf117 : (Tryd.prog.info? 117).map (fun i => (i.zero, i.size, i.bytes)) = some (some (.slice none 0 0), 1, 24) := by kernel_rfl
theorem sz118 : (Tryd.prog.info? 118).map (·.size) = some 1 := by kernel_rfl
theorem co118 : Tryd.prog.cellsOf 118 = 1 := by kernel_rfl
theorem bo118 : Tryd.prog.bytesOf 118 = 8 := by kernel_rfl
theorem inf118 : (Tryd.prog.info? 118).map (fun i => (i.zero, i.size, i.bytes)) = some (some (.nilFunc), 1, 8) := by kernel_rfl
theorem sz119 : (Tryd.prog.info? 119).map (·.size) = some 1 := by kernel_rfl
theorem co119 : Tryd.prog.cellsOf 119 = 1 := by kernel_rfl
theorem bo119 : Tryd.prog.bytesOf 119 = 8 := by kernel_rfl
theorem inf119 : (Tryd.prog.info? 119).map (fun i => (i.zero, i.size, i.bytes)) = some (some (.nilFunc), 1, 8) := by kernel_rfl
theorem sz121 : (Tryd.prog.info? 121).map (·.size) = some 1 := by kernel_rfl
theorem co121 : Tryd.prog.cellsOf 121 = 1 := by kernel_rfl
theorem bo121 : Tryd.prog.bytesOf 121 = 8 := by kernel_rfl
theorem inf121 : (Tryd.prog.info? 121).map (fun i => (i.zero, i.size, i.bytes)) = some (some (.nilFunc), 1, 8) := by kernel_rfl
theorem sz122 : (Tryd.prog.info? 122).map (·.size) = some 1 := by kernel_rfl
theorem co122 : Tryd.prog.cellsOf 122 = 1 := by kernel_rfl
theorem bo122 : Tryd.prog.bytesOf 122 = 8 := by kernel_rfl
theorem inf122 : (Tryd.prog.info? 122).map (fun i => (i.zero, i.size, i.bytes)) = some (some (.nilFunc), 1, 8) := by kernel_rfl
theorem sz123 : (Tryd.prog.info? 123).map (·.size) = some 1 := by kernel_rfl
theorem co123 : Tryd.prog.cellsOf 123 = 1 := by kernel_rfl
theorem bo123 : Tryd.prog.bytesOf 123 = 8 := by kernel_rfl
theorem inf123 : (Tryd.prog.info? 123).map (fun i => (i.zero, i.size, i.bytes)) = some (some (.nilFunc), 1, 8) := by kernel_rfl
theorem sz124 : (Tryd.prog.info? 124).map (·.size) = some 1 := by kernel_rfl
theorem co124 : Tryd.prog.cellsOf 124 = 1 := by kernel_rfl
theorem bo124 : Tryd.prog.bytesOf 124 = 8 := by kernel_rfl
theorem inf124 : (Tryd.prog.info? 124).map (fun i => (i.zero, i.size, i.bytes)) = some (some (.nilFunc), 1, 8) := by kernel_rfl
theorem sz125 : (Tryd.prog.info? 125).map (·.size) = some 1 := by kernel_rfl
theorem co125 : Tryd.prog.cellsOf 125 = 1 := by kernel_rfl
theorem bo125 : Tryd.prog.bytesOf 125 = 8 := by kernel_rfl
theorem inf125 : (Tryd.prog.info? 125).map (fun i => (i.zero, i.size, i.bytes)) = some (some (.nilFunc), 1, 8) := by kernel_rfl
theorem sz126 : (Tryd.prog.info? 126).map (·.size) = some 1 := by kernel_rfl
theorem co126 : Tryd.prog.cellsOf 126 = 1 := by kernel_rfl
theorem bo126 : Tryd.prog.bytesOf 126 = 24 := by kernel_rfl
theorem z126 : ∀ w, (zeroValue 126).run Tryd.prog w = .ok (.slice none 0 0) w := fun _ => by kernel_rfl
theorem inf126 : (Tryd.prog.info? 126).map (fun i => (i.zero, i.size, i.bytes)) = some (some (.slice none 0 0), 1, 24) := by kernel_rfl
theorem sz127 : (Tryd.prog.info? 127).map (·.size) = some 1 := by kernel_rfl
theorem co127 : Tryd.prog.cellsOf 127 = 1 := by kernel_rfl
theorem bo127 : Tryd.prog.bytesOf 127 = 8 := by kernel_rfl
theorem inf127 : (Tryd.prog.info? 127).map (fun i => (i.zero, i.size, i.bytes)) = some (some (.nilFunc), 1, 8) := by kernel_rfl
theorem sz128 : (Tryd.prog.info? 128).map (·.size) = some 1 := by kernel_rfl
theorem co128 : Tryd.prog.cellsOf 128 = 1 := by kernel_rfl
theorem bo128 : Tryd.prog.bytesOf 128 = 8 := by kernel_rfl
theorem z128 : ∀ w, (zeroValue 128).run Tryd.prog w = .ok (.int .u64 0) w := fun _ => by kernel_rfl
theorem inf128 : (Tryd.prog.info? 128).map (fun i => (i.zero, i.size, i.bytes)) = some (some (.int .u64 0), 1, 8) := by kernel_rfl
theorem sz129 : (Tryd.prog.info? 129).map (·.size) = some 1 := by kernel_rfl
theorem co129 : Tryd.prog.cellsOf 129 = 1 := by kernel_rfl
theorem bo129 : Tryd.prog.bytesOf 129 = 8 := by kernel_rfl
theorem inf129 : (Tryd.prog.info? 129).map (fun i => (i.zero, i.size, i.bytes)) = some (some (.nilFunc), 1, 8) := by kernel_rfl
theorem sz130 : (Tryd.prog.info? 130).map (·.size) = some 1 := by kernel_rfl
theorem co130 : Tryd.prog.cellsOf 130 = 1 := by kernel_rfl
theorem bo130 : Tryd.prog.bytesOf 130 = 8 := by kernel_rfl
theorem inf130 : (Tryd.prog.info? 130).map (fun i => (i.zero, i.size, i.bytes)) = some (some (.nilFunc), 1, 8) := by kernel_rfl
theorem sz131 : (Tryd.prog.info? 131).map (·.size) = some 1 := by kernel_rfl
theorem co131 : Tryd.prog.cellsOf 131 = 1 := by kernel_rfl
theorem bo131 : Tryd.prog.bytesOf 131 = 8 := by kernel_rfl
theorem z131 : ∀ w, (zeroValue 131).run Tryd.prog w = .ok (.pointer none) w := fun _ => by kernel_rfl
theorem inf131 : (Tryd.prog.info? 131).map (fun i => (i.zero, i.size, i.bytes)) = some (some (.pointer none), 1, 8) := by kernel_rfl
theorem sz132 : (Tryd.prog.info? 132).map (·.size) = some 1 := by kernel_rfl
theorem co132 : Tryd.prog.cellsOf 132 = 1 := by kernel_rfl
theorem bo132 : Tryd.prog.bytesOf 132 = 8 := by kernel_rfl
theorem inf132 : (Tryd.prog.info? 132).map (fun i => (i.zero, i.size, i.bytes)) = some (some (.nilFunc), 1, 8) := by kernel_rfl
theorem sz133 : (Tryd.prog.info? 133).map (·.size) = some 1 := by kernel_rfl
theorem co133 : Tryd.prog.cellsOf 133 = 1 := by kernel_rfl
theorem bo133 : Tryd.prog.bytesOf 133 = 8 := by kernel_rfl
theorem inf133 : (Tryd.prog.info? 133).map (fun i => (i.zero, i.size, i.bytes)) = some (some (.nilFunc), 1, 8) := by kernel_rfl
theorem sz134 : (Tryd.prog.info? 134).map (·.size) = some 256 := by kernel_rfl
theorem co134 : Tryd.prog.cellsOf 134 = 256 := by kernel_rfl
theorem bo134 : Tryd.prog.bytesOf 134 = 256 := by kernel_rfl
theorem z134 : ∀ w, (zeroValue 134).run Tryd.prog w = .ok (.agg #[.bool false, .bool false, .bool false, .bool false, .bool false, .bool false, .bool false, .bool false, .bool false, .bool false, .bool false, .bool false, .bool false, .bool false, .bool false, .bool false, .bool false, .bool false, .bool false, .bool false, .bool false, .bool false, .bool false, .bool false, .bool false, .bool false, .bool false, .bool false, .bool false, .bool false, .bool false, .bool false, .bool false, .bool false, .bool false, .bool false, .bool false, .bool false, .bool false, .bool false, .bool false, .bool false, .bool false, .bool false, .bool false, .bool false, .bool false, .bool false, .bool false, .bool false, .bool false, .bool false, .bool false, .bool false, .bool false, .bool false, .bool false, .bool false, .bool false, .bool false, .bool false, .bool false, .bool false, .bool false, .bool false, .bool false, .bool false, .bool false, .bool false, .bool false, .bool false, .bool false, .bool false, .bool false, .bool false, .bool false, .bool false, .bool false, .bool false, .bool false, .bool false, .bool false, .bool false, .bool false, .bool false, .bool false, .bool false, .bool false, .bool false, .bool false, .bool false, .bool false, .bool false, .bool false, .bool false, .bool false, .bool false, .bool false, .bool false, .bool false, .bool false, .bool false, .bool false, .bool false, .bool false, .bool false, .bool false, .bool false, .bool false, .bool false, .bool false, .bool false, .bool false, .bool false, .bool false, .bool false, .bool false, .bool false, .bool false, .bool false, .bool false, .bool false, .bool false, .bool false, .bool false, .bool false, .bool false, .bool false, .bool false, .bool false, .bool false, .bool false, .bool false, .bool false, .bool false, .bool false, .bool false, .bool false, .bool false, .bool false, .bool false, .bool false, .bool false, .bool false, .bool false, .bool false, .bool false, .bool false, .bool false, .bool false, .bool false, .bool false, .bool false, .bool false, .bool false, .bool false, .bool false, .bool false, .bool false, .bool false, .bool false, .bool false, .bool false, .bool false, .bool false, .bool false, .bool false, .bool false, .bool false, .bool false, .bool false, .bool false, .bool false, .bool false, .bool false, .bool false, .bool false, .bool false, .bool false, .bool false, .bool false, .bool false, .bool false, .bool false, .bool false, .bool false, .bool false, .bool false, .bool false, .bool false, .bool false, .bool false, .bool false, .bool false, .bool false, .bool false, .bool false, .bool false, .bool false, .bool false, .bool false, .bool false, .bool false, .bool false, .bool false, .bool false, .bool false, .bool false, .bool false, .bool false, .bool false, .bool false, .bool false, .bool false, .bool false, .bool false, .bool false, .bool false, .bool false, .bool false, .bool false, .bool false, .bool false, .bool false, .bool false, .bool false, .bool false, .bool false, .bool false, .bool false, .bool false, .bool false, .bool false, .bool false, .bool false, .bool false, .bool false, .bool false, .bool false, .bool false, .bool false, .bool false, .bool false, .bool false, .bool false, .bool false, .bool false, .bool false, .bool false, .bool false, .bool false, .bool false, .bool false, .bool false, .bool false, .bool false]) w := fun _ => by kernel_rfl
theorem inf134 : (Tryd.prog.info? 134).map (fun i => (i.zero, i.size, i.bytes)) = some (some (.agg #[.bool false, .bool false, .bool false, .bool false, .bool false, .bool false, .bool false, .bool false, .bool false, .bool false, .bool false, .bool false, .bool false, .bool false, .bool false, .bool false, .bool false, .bool false, .bool false, .bool false, .bool false, .bool false, .bool false, .bool false, .bool false, .bool false, .bool false, .bool false, .bool false, .bool false, .bool false, .bool false, .bool false, .bool false, .bool false, .bool false, .bool false, .bool false, .bool false, .bool false, .bool false, .bool false, .bool false, .bool false, .bool false, .bool false, .bool false, .bool false, .bool false, .bool false, .bool false, .bool false, .bool false, .bool false, .bool false, .bool false, .bool false, .bool false, .bool false, .bool false, .bool false, .bool false, .bool false, .bool false, .bool false, .bool false, .bool false, .bool false, .bool false, .bool false, .bool false, .bool false, .bool false, .bool false, .bool false, .bool false, .bool false, .bool false, .bool false, .bool false, .bool false, .bool false, .bool false, .bool false, .bool false, .bool false, .bool false, .bool false, .bool false, .bool false, .bool false, .bool false, .bool false, .bool false, .bool false, .bool false, .bool false, .bool false, .bool false, .bool false, .bool false, .bool false, .bool false, .bool false, .bool false, .bool false, .bool false, .bool false, .bool false, .bool false, .bool false, .bool false, .bool false, .bool false, .bool false, .bool false, .bool false, .bool false, .bool false, .bool false, .bool false, .bool false, .bool false, .bool false, .bool false, .bool false, .bool false, .bool false, .bool false, .bool false, .bool false, .bool false, .bool false, .bool false, .bool false, .bool false, .bool false, .bool false, .bool false, .bool false, .bool false, .bool false, .bool false, .bool false, .bool false, .bool false, .bool false, .bool false, .bool false, .bool false, .bool false, .bool false, .bool false, .bool false, .bool false, .bool false, .bool false, .bool false, .bool false, .bool false, .bool false, .bool false, .bool false, .bool false, .bool false, .bool false, .bool false, .bool false, .bool false, .bool false, .bool false, .bool false, .bool false, .bool false, .bool false, .bool false, .bool false, .bool false, .bool false, .bool false, .bool false, .bool false, .bool false, .bool false, .bool false, .bool false, .bool false, .bool false, .bool false, .bool false, .bool false, .bool false, .bool false, .bool false, .bool false, .bool false, .bool false, .bool false, .bool false, .bool false, .bool false, .bool false, .bool false, .bool false, .bool false, .bool false, .bool false, .bool false, .bool false, .bool false, .bool false, .bool false, .bool false, .bool false, .bool false, .bool false, .bool false, .bool false, .bool false, .bool false, .bool false, .bool false, .bool false, .bool false, .bool false, .bool false, .bool false, .bool false, .bool false, .bool false, .bool false, .bool false, .bool false, .bool false, .bool false, .bool false, .bool false, .bool false, .bool false, .bool false, .bool false, .bool false, .bool false, .bool false, .bool false, .bool false, .bool false, .bool false, .bool false, .bool false, .bool false, .bool false, .bool false, .bool false, .bool false, .bool false]), 256, 256) := by kernel_rfl
theorem sz135 : (Tryd.prog.info? 135).map (·.size) = some 256 := by kernel_rfl
theorem co135 : Tryd.prog.cellsOf 135 = 256 := by kernel_rfl
theorem bo135 : Tryd.prog.bytesOf 135 = 256 := by kernel_rfl
theorem z135 : ∀ w, (zeroValue 135).run Tryd.prog w = .ok (.agg #[.bool false, .bool false, .bool false, .bool false, .bool false, .bool false, .bool false, .bool false, .bool false, .bool false, .bool false, .bool false, .bool false, .bool false, .bool false, .bool false, .bool false, .bool false, .bool false, .bool false, .bool false, .bool false, .bool false, .bool false, .bool false, .bool false, .bool false, .bool false, .bool false, .bool false, .bool false, .bool false, .bool false, .bool false, .bool false, .bool false, .bool false, .bool false, .bool false, .bool false, .bool false, .bool false, .bool false, .bool false, .bool false, .bool false, .bool false, .bool false, .bool false, .bool false, .bool false, .bool false, .bool false, .bool false, .bool false, .bool false, .bool false, .bool false, .bool false, .bool false, .bool false, .bool false, .bool false, .bool false, .bool false, .bool false, .bool false, .bool false, .bool false, .bool false, .bool false, .bool false, .bool false, .bool false, .bool false, .bool false, .bool false, .bool false, .bool false, .bool false, .bool false, .bool false, .bool false, .bool false, .bool false, .bool false, .bool false, .bool false, .bool false, .bool false, .bool false, .bool false, .bool false, .bool false, .bool false, .bool false, .bool false, .bool false, .bool false, .bool false, .bool false, .bool false, .bool false, .bool false, .bool false, .bool false, .bool false, .bool false, .bool false, .bool false, .bool false, .bool false, .bool false, .bool false, .bool false, .bool false, .bool false, .bool false, .bool false, .bool false, .bool false, .bool false, .bool false, .bool false, .bool false, .bool false, .bool false, .bool false, .bool false, .bool false, .bool false, .bool false, .bool false, .bool false, .bool false, .bool false, .bool false, .bool false, .bool false, .bool false, .bool false, .bool false, .bool false, .bool false, .bool false, .bool false, .bool false, .bool false, .bool false, .bool false, .bool false, .bool false, .bool false, .bool false, .bool false, .bool false, .bool false, .bool false, .bool false, .bool false, .bool false, .bool false, .bool false, .bool false, .bool false, .bool false, .bool false, .bool false, .bool false, .bool false, .bool false, .bool false, .bool false, .bool false, .bool false, .bool false, .bool false, .bool false, .bool false, .bool false, .bool false, .bool false, .bool false, .bool false, .bool false, .bool false, .bool false, .bool false, .bool false, .bool false, .bool false, .bool false, .bool false, .bool false, .bool false, .bool false, .bool false, .bool false, .bool false, .bool false, .bool false, .bool false, .bool false, .bool false, .bool false, .bool false, .bool false, .bool false, .bool false, .bool false, .bool false, .bool false, .bool false, .bool false, .bool false, .bool false, .bool false, .bool false, .bool false, .bool false, .bool false, .bool false, .bool false, .bool false, .bool false, .bool false, .bool false, .bool false, .bool false, .bool false, .bool false, .bool false, .bool false, .bool false, .bool false, .bool false, .bool false, .bool false, .bool false, .bool false, .bool false, .bool false, .bool false, .bool false, .bool false, .bool false, .bool false, .bool false, .bool false, .bool false, .bool false, .bool false, .bool false, .bool false, .bool false, .bool false]) w := fun _ => by kernel_rfl
theorem inf135 : (Tryd.prog.info? 135).map (fun i => (i.zero, i.size, i.bytes)) = some (some (.agg #[.bool false, .bool false, .bool false, .bool false, .bool false, .bool false, .bool false, .bool false, .bool false, .bool false, .bool false, .bool false, .bool false, .bool false, .bool false, .bool false, .bool false, .bool false, .bool false, .bool false, .bool false, .bool false, .bool false, .bool false, .bool false, .bool false, .bool false, .bool false, .bool false, .bool false, .bool false, .bool false, .bool false, .bool false, .bool false, .bool false, .bool false, .bool false, .bool false, .bool false, .bool false, .bool false, .bool false, .bool false, .bool false, .bool false, .bool false, .bool false, .bool false, .bool false, .bool false, .bool false, .bool false, .bool false, .bool false, .bool false, .bool false, .bool false, .bool false, .bool false, .bool false, .bool false, .bool false, .bool false, .bool false, .bool false, .bool false, .bool false, .bool false, .bool false, .bool false, .bool false, .bool false, .bool false, .bool false, .bool false, .bool false, .bool false, .bool false, .bool false, .bool false, .bool false, .bool false, .bool false, .bool false, .bool false, .bool false, .bool false, .bool false, .bool false, .bool false, .bool false, .bool false, .bool false, .bool false, .bool false, .bool false, .bool false, .bool false, .bool false, .bool false, .bool false, .bool false, .bool false, .bool false, .bool false, .bool false, .bool false, .bool false, .bool false, .bool false, .bool false, .bool false, .bool false, .bool false, .bool false, .bool false, .bool false, .bool false, .bool false, .bool false, .bool false, .bool false, .bool false, .bool false, .bool false, .bool false, .bool false, .bool false, .bool false, .bool false, .bool false, .bool false, .bool false, .bool false, .bool false, .bool false, .bool false, .bool false, .bool false, .bool false, .bool false, .bool false, .bool false, .bool false, .bool false, .bool false, .bool false, .bool false, .bool false, .bool false, .bool false, .bool false, .bool false, .bool false, .bool false, .bool false, .bool false, .bool false, .bool false, .bool false, .bool false, .bool false, .bool false, .bool false, .bool false, .bool false, .bool false, .bool false, .bool false, .bool false, .bool false, .bool false, .bool false, .bool false, .bool false, .bool false, .bool false, .bool false, .bool false, .bool false, .bool false, .bool false, .bool false, .bool false, .bool false, .bool false, .bool false, .bool false, .bool false, .bool false, .bool false, .bool false, .bool false, .bool false, .bool false, .bool false, .bool false, .bool false, .bool false, .bool false, .bool false, .bool false, .bool false, .bool false, .bool false, .bool false, .bool false, .bool false, .bool false, .bool false, .bool false, .bool false, .bool false, .bool false, .bool false, .bool false, .bool false, .bool false, .bool false, .bool false, .bool false, .bool false, .bool false, .bool false, .bool false, .bool false, .bool false, .bool false, .bool false, .bool false, .bool false, .bool false, .bool false, .bool false, .bool false, .bool false, .bool false, .bool false, .bool false, .bool false, .bool false, .bool false, .bool false, .bool false, .bool false, .bool false, .bool false, .bool false, .bool false, .bool false, .bool false, .bool false, .bool false, .bool false, .bool false]), 256, 256) := by kernel_rfl
theorem sz137 : (Tryd.prog.info? 137).map (·.size) = some 1 := by kernel_rfl
theorem co137 : Tryd.prog.cellsOf 137 = 1 := by kernel_rfl
theorem bo137 : Tryd.prog.bytesOf 137 = 8 := by kernel_rfl
theorem inf137 : (Tryd.prog.info? 137).map (fun i => (i.zero, i.size, i.bytes)) = some (some (.nilFunc), 1, 8) := by kernel_rfl
theorem sz138 : (Tryd.prog.info? 138).map (·.size) = some 1 := by kernel_rfl
theorem co138 : Tryd.prog.cellsOf 138 = 1 := by kernel_rfl
theorem bo138 : Tryd.prog.bytesOf 138 = 8 := by kernel_rfl
theorem inf138 : (Tryd.prog.info? 138).map (fun i => (i.zero, i.size, i.bytes)) = some (some (.nilFunc), 1, 8) := by kernel_rfl
theorem sz139 : (Tryd.prog.info? 139).map (·.size) = some 1 := by kernel_rfl
theorem co139 : Tryd.prog.cellsOf 139 = 1 := by kernel_rfl
theorem bo139 : Tryd.prog.bytesOf 139 = 8 := by kernel_rfl
theorem z139 : ∀ w, (zeroValue 139).run Tryd.prog w = .ok (.pointer none) w := fun _ => by kernel_rfl
theorem inf139 : (Tryd.prog.info? 139).map (fun i => (i.zero, i.size, i.bytes)) = some (some (.pointer none), 1, 8) := by kernel_rfl
theorem sz140 : (Tryd.prog.info? 140).map (·.size) = some 1 := by kernel_rfl
theorem co140 : Tryd.prog.cellsOf 140 = 1 := by kernel_rfl
theorem bo140 : Tryd.prog.bytesOf 140 = 8 := by kernel_rfl
theorem inf140 : (Tryd.prog.info? 140).map (fun i => (i.zero, i.size, i.bytes)) = some (some (.nilFunc), 1, 8) := by kernel_rfl
theorem sz141 : (Tryd.prog.info? 141).map (·.size) = some 1 := by kernel_rfl
theorem co141 : Tryd.prog.cellsOf 141 = 1 := by kernel_rfl
theorem bo141 : Tryd.prog.bytesOf 141 = 8 := by kernel_rfl
theorem inf141 : (Tryd.prog.info? 141).map (fun i => (i.zero, i.size, i.bytes)) = some (some (.nilFunc), 1, 8) := by kernel_rfl
theorem sz142 : (Tryd.prog.info? 142).map (·.size) = some 1 := by kernel_rfl
theorem co142 : Tryd.prog.cellsOf 142 = 1 := by kernel_rfl
theorem bo142 : Tryd.prog.bytesOf 142 = 8 := by kernel_rfl
theorem inf142 : (Tryd.prog.info? 142).map (fun i => (i.zero, i.size, i.bytes)) = some (some (.nilFunc), 1, 8) := by kernel_rfl
theorem sz143 : (Tryd.prog.info? 143).map (·.size) = some 2 := by kernel_rfl
theorem co143 : Tryd.prog.cellsOf 143 = 2 := by kernel_rfl
theorem bo143 : Tryd.prog.bytesOf 143 = 32 := by kernel_rfl
theorem z143 : ∀ w, (zeroValue 143).run Tryd.prog w = .ok (.agg #[.string ⟨#[]⟩, .string ⟨#[]⟩]) w := fun _ => by kernel_rfl
theorem inf143 : (Tryd.prog.info? 143).map (fun i => (i.zero, i.size, i.bytes)) = some (some (.agg #[.string ⟨#[]⟩, .string ⟨#[]⟩]), 2, 32) := by kernel_rfl
theorem fa143_0 : ∀ a w, (Instr.fieldAt 143 (.pointer (some a)) 0).run Tryd.prog w = .ok (.pointer (some (a.add 0))) w := run_field (b := 1) Tryd.underlying143 rfl rfl (by kernel_rfl) (by decide)
theorem fa143_1 : ∀ a w, (Instr.fieldAt 143 (.pointer (some a)) 1).run Tryd.prog w = .ok (.pointer (some (a.add 1))) w := run_field (b := 1) Tryd.underlying143 rfl rfl (by kernel_rfl) (by decide)
theorem sz144 : (Tryd.prog.info? 144).map (·.size) = some 2 := by kernel_rfl
theorem co144 : Tryd.prog.cellsOf 144 = 2 := by kernel_rfl
theorem bo144 : Tryd.prog.bytesOf 144 = 32 := by kernel_rfl
theorem z144 : ∀ w, (zeroValue 144).run Tryd.prog w = .ok (.agg #[.string ⟨#[]⟩, .string ⟨#[]⟩]) w := fun _ => by kernel_rfl
theorem inf144 : (Tryd.prog.info? 144).map (fun i => (i.zero, i.size, i.bytes)) = some (some (.agg #[.string ⟨#[]⟩, .string ⟨#[]⟩]), 2, 32) := by kernel_rfl
theorem fa144_0 : ∀ a w, (Instr.fieldAt 144 (.pointer (some a)) 0).run Tryd.prog w = .ok (.pointer (some (a.add 0))) w := run_field (b := 1) Tryd.underlying144 rfl rfl (by kernel_rfl) (by decide)
theorem fa144_1 : ∀ a w, (Instr.fieldAt 144 (.pointer (some a)) 1).run Tryd.prog w = .ok (.pointer (some (a.add 1))) w := run_field (b := 1) Tryd.underlying144 rfl rfl (by kernel_rfl) (by decide)
theorem sz145 : (Tryd.prog.info? 145).map (·.size) = some 3 := by kernel_rfl
theorem co145 : Tryd.prog.cellsOf 145 = 3 := by kernel_rfl
theorem bo145 : Tryd.prog.bytesOf 145 = 40 := by kernel_rfl
theorem z145 : ∀ w, (zeroValue 145).run Tryd.prog w = .ok (.agg #[.int .i64 0, .string ⟨#[]⟩, .string ⟨#[]⟩]) w := fun _ => by kernel_rfl
theorem inf145 : (Tryd.prog.info? 145).map (fun i => (i.zero, i.size, i.bytes)) = some (some (.agg #[.int .i64 0, .string ⟨#[]⟩, .string ⟨#[]⟩]), 3, 40) := by kernel_rfl
theorem fa145_0 : ∀ a w, (Instr.fieldAt 145 (.pointer (some a)) 0).run Tryd.prog w = .ok (.pointer (some (a.add 0))) w := run_field (b := 1) Tryd.underlying145 rfl rfl (by kernel_rfl) (by decide)
theorem fa145_1 : ∀ a w, (Instr.fieldAt 145 (.pointer (some a)) 1).run Tryd.prog w = .ok (.pointer (some (a.add 1))) w := run_field (b := 1) Tryd.underlying145 rfl rfl (by kernel_rfl) (by decide)
theorem fa145_2 : ∀ a w, (Instr.fieldAt 145 (.pointer (some a)) 2).run Tryd.prog w = .ok (.pointer (some (a.add 2))) w := run_field (b := 1) Tryd.underlying145 rfl rfl (by kernel_rfl) (by decide)
theorem sz146 : (Tryd.prog.info? 146).map (·.size) = some 3 := by kernel_rfl
theorem co146 : Tryd.prog.cellsOf 146 = 3 := by kernel_rfl
theorem bo146 : Tryd.prog.bytesOf 146 = 40 := by kernel_rfl
theorem z146 : ∀ w, (zeroValue 146).run Tryd.prog w = .ok (.agg #[.int .i64 0, .string ⟨#[]⟩, .string ⟨#[]⟩]) w := fun _ => by kernel_rfl
theorem inf146 : (Tryd.prog.info? 146).map (fun i => (i.zero, i.size, i.bytes)) = some (some (.agg #[.int .i64 0, .string ⟨#[]⟩, .string ⟨#[]⟩]), 3, 40) := by kernel_rfl
theorem fa146_0 : ∀ a w, (Instr.fieldAt 146 (.pointer (some a)) 0).run Tryd.prog w = .ok (.pointer (some (a.add 0))) w := run_field (b := 1) Tryd.underlying146 rfl rfl (by kernel_rfl) (by decide)
theorem fa146_1 : ∀ a w, (Instr.fieldAt 146 (.pointer (some a)) 1).run Tryd.prog w = .ok (.pointer (some (a.add 1))) w := run_field (b := 1) Tryd.underlying146 rfl rfl (by kernel_rfl) (by decide)
theorem fa146_2 : ∀ a w, (Instr.fieldAt 146 (.pointer (some a)) 2).run Tryd.prog w = .ok (.pointer (some (a.add 2))) w := run_field (b := 1) Tryd.underlying146 rfl rfl (by kernel_rfl) (by decide)
theorem sz147 : (Tryd.prog.info? 147).map (·.size) = some 1 := by kernel_rfl
theorem co147 : Tryd.prog.cellsOf 147 = 1 := by kernel_rfl
theorem bo147 : Tryd.prog.bytesOf 147 = 8 := by kernel_rfl
theorem inf147 : (Tryd.prog.info? 147).map (fun i => (i.zero, i.size, i.bytes)) = some (some (.nilFunc), 1, 8) := by kernel_rfl
theorem sz148 : (Tryd.prog.info? 148).map (·.size) = some 1 := by kernel_rfl
theorem co148 : Tryd.prog.cellsOf 148 = 1 := by kernel_rfl
theorem bo148 : Tryd.prog.bytesOf 148 = 8 := by kernel_rfl
theorem inf148 : (Tryd.prog.info? 148).map (fun i => (i.zero, i.size, i.bytes)) = some (some (.nilFunc), 1, 8) := by kernel_rfl
theorem sz149 : (Tryd.prog.info? 149).map (·.size) = some 1 := by kernel_rfl
theorem co149 : Tryd.prog.cellsOf 149 = 1 := by kernel_rfl
theorem bo149 : Tryd.prog.bytesOf 149 = 8 := by kernel_rfl
theorem inf149 : (Tryd.prog.info? 149).map (fun i => (i.zero, i.size, i.bytes)) = some (some (.nilFunc), 1, 8) := by kernel_rfl
theorem sz150 : (Tryd.prog.info? 150).map (·.size) = some 1 := by kernel_rfl
theorem co150 : Tryd.prog.cellsOf 150 = 1 := by kernel_rfl
theorem bo150 : Tryd.prog.bytesOf 150 = 8 := by kernel_rfl
theorem inf150 : (Tryd.prog.info? 150).map (fun i => (i.zero, i.size, i.bytes)) = some (some (.nilFunc), 1, 8) := by kernel_rfl
theorem sz151 : (Tryd.prog.info? 151).map (·.size) = some 1 := by kernel_rfl
theorem co151 : Tryd.prog.cellsOf 151 = 1 := by kernel_rfl
theorem bo151 : Tryd.prog.bytesOf 151 = 8 := by kernel_rfl
theorem inf151 : (Tryd.prog.info? 151).map (fun i => (i.zero, i.size, i.bytes)) = some (some (.nilFunc), 1, 8) := by kernel_rfl
theorem sz152 : (Tryd.prog.info? 152).map (·.size) = some 1 := by kernel_rfl
theorem co152 : Tryd.prog.cellsOf 152 = 1 := by kernel_rfl
theorem bo152 : Tryd.prog.bytesOf 152 = 8 := by kernel_rfl
theorem z152 : ∀ w, (zeroValue 152).run Tryd.prog w = .ok (.pointer none) w := fun _ => by kernel_rfl
theorem inf152 : (Tryd.prog.info? 152).map (fun i => (i.zero, i.size, i.bytes)) = some (some (.pointer none), 1, 8) := by kernel_rfl
theorem sz153 : (Tryd.prog.info? 153).map (·.size) = some 1 := by kernel_rfl
theorem co153 : Tryd.prog.cellsOf 153 = 1 := by kernel_rfl
theorem bo153 : Tryd.prog.bytesOf 153 = 8 := by kernel_rfl
theorem inf153 : (Tryd.prog.info? 153).map (fun i => (i.zero, i.size, i.bytes)) = some (some (.nilFunc), 1, 8) := by kernel_rfl
theorem sz154 : (Tryd.prog.info? 154).map (·.size) = some 1 := by kernel_rfl
theorem co154 : Tryd.prog.cellsOf 154 = 1 := by kernel_rfl
theorem bo154 : Tryd.prog.bytesOf 154 = 8 := by kernel_rfl
theorem z154 : ∀ w, (zeroValue 154).run Tryd.prog w = .ok (.int .u64 0) w := fun _ => by kernel_rfl
theorem inf154 : (Tryd.prog.info? 154).map (fun i => (i.zero, i.size, i.bytes)) = some (some (.int .u64 0), 1, 8) := by kernel_rfl
theorem sz156 : (Tryd.prog.info? 156).map (·.size) = some 1 := by kernel_rfl
theorem co156 : Tryd.prog.cellsOf 156 = 1 := by kernel_rfl
theorem bo156 : Tryd.prog.bytesOf 156 = 8 := by kernel_rfl
theorem inf156 : (Tryd.prog.info? 156).map (fun i => (i.zero, i.size, i.bytes)) = some (some (.nilFunc), 1, 8) := by kernel_rfl
theorem sz157 : (Tryd.prog.info? 157).map (·.size) = some 1 := by kernel_rfl
theorem co157 : Tryd.prog.cellsOf 157 = 1 := by kernel_rfl
theorem bo157 : Tryd.prog.bytesOf 157 = 8 := by kernel_rfl
theorem inf157 : (Tryd.prog.info? 157).map (fun i => (i.zero, i.size, i.bytes)) = some (some (.nilFunc), 1, 8) := by kernel_rfl
theorem sz158 : (Tryd.prog.info? 158).map (·.size) = some 1 := by kernel_rfl
theorem co158 : Tryd.prog.cellsOf 158 = 1 := by kernel_rfl
theorem bo158 : Tryd.prog.bytesOf 158 = 8 := by kernel_rfl
theorem inf158 : (Tryd.prog.info? 158).map (fun i => (i.zero, i.size, i.bytes)) = some (some (.nilFunc), 1, 8) := by kernel_rfl
theorem sz159 : (Tryd.prog.info? 159).map (·.size) = some 1 := by kernel_rfl
theorem co159 : Tryd.prog.cellsOf 159 = 1 := by kernel_rfl
theorem bo159 : Tryd.prog.bytesOf 159 = 8 := by kernel_rfl
theorem inf159 : (Tryd.prog.info? 159).map (fun i => (i.zero, i.size, i.bytes)) = some (some (.nilFunc), 1, 8) := by kernel_rfl
theorem sz161 : (Tryd.prog.info? 161).map (·.size) = some 1 := by kernel_rfl
theorem co161 : Tryd.prog.cellsOf 161 = 1 := by kernel_rfl
theorem bo161 : Tryd.prog.bytesOf 161 = 8 := by kernel_rfl
theorem inf161 : (Tryd.prog.info? 161).map (fun i => (i.zero, i.size, i.bytes)) = some (some (.nilFunc), 1, 8) := by kernel_rfl
theorem sz162 : (Tryd.prog.info? 162).map (·.size) = some 1 := by kernel_rfl
theorem co162 : Tryd.prog.cellsOf 162 = 1 := by kernel_rfl
theorem bo162 : Tryd.prog.bytesOf 162 = 8 := by kernel_rfl
theorem inf162 : (Tryd.prog.info? 162).map (fun i => (i.zero, i.size, i.bytes)) = some (some (.nilFunc), 1, 8) := by kernel_rfl
theorem sz163 : (Tryd.prog.info? 163).map (·.size) = some 1 := by kernel_rfl
theorem co163 : Tryd.prog.cellsOf 163 = 1 := by kernel_rfl
theorem bo163 : Tryd.prog.bytesOf 163 = 8 := by kernel_rfl
theorem inf163 : (Tryd.prog.info? 163).map (fun i => (i.zero, i.size, i.bytes)) = some (some (.nilFunc), 1, 8) := by kernel_rfl
theorem sz164 : (Tryd.prog.info? 164).map (·.size) = some 1 := by kernel_rfl
theorem co164 : Tryd.prog.cellsOf 164 = 1 := by kernel_rfl
theorem bo164 : Tryd.prog.bytesOf 164 = 8 := by kernel_rfl
theorem inf164 : (Tryd.prog.info? 164).map (fun i => (i.zero, i.size, i.bytes)) = some (some (.nilFunc), 1, 8) := by kernel_rfl
theorem sz165 : (Tryd.prog.info? 165).map (·.size) = some 24 := by kernel_rfl
theorem co165 : Tryd.prog.cellsOf 165 = 24 := by kernel_rfl
theorem bo165 : Tryd.prog.bytesOf 165 = 24 := by kernel_rfl
theorem z165 : ∀ w, (zeroValue 165).run Tryd.prog w = .ok (.agg #[.int .u8 0, .int .u8 0, .int .u8 0, .int .u8 0, .int .u8 0, .int .u8 0, .int .u8 0, .int .u8 0, .int .u8 0, .int .u8 0, .int .u8 0, .int .u8 0, .int .u8 0, .int .u8 0, .int .u8 0, .int .u8 0, .int .u8 0, .int .u8 0, .int .u8 0, .int .u8 0, .int .u8 0, .int .u8 0, .int .u8 0, .int .u8 0]) w := fun _ => by kernel_rfl
theorem inf165 : (Tryd.prog.info? 165).map (fun i => (i.zero, i.size, i.bytes)) = some (some (.agg #[.int .u8 0, .int .u8 0, .int .u8 0, .int .u8 0, .int .u8 0, .int .u8 0, .int .u8 0, .int .u8 0, .int .u8 0, .int .u8 0, .int .u8 0, .int .u8 0, .int .u8 0, .int .u8 0, .int .u8 0, .int .u8 0, .int .u8 0, .int .u8 0, .int .u8 0, .int .u8 0, .int .u8 0, .int .u8 0, .int .u8 0, .int .u8 0]), 24, 24) := by kernel_rfl
theorem sz166 : (Tryd.prog.info? 166).map (·.size) = some 1 := by kernel_rfl
theorem co166 : Tryd.prog.cellsOf 166 = 1 := by kernel_rfl
theorem bo166 : Tryd.prog.bytesOf 166 = 8 := by kernel_rfl
theorem inf166 : (Tryd.prog.info? 166).map (fun i => (i.zero, i.size, i.bytes)) = some (some (.nilFunc), 1, 8) := by kernel_rfl
theorem sz167 : (Tryd.prog.info? 167).map (·.size) = some 1 := by kernel_rfl
theorem co167 : Tryd.prog.cellsOf 167 = 1 := by kernel_rfl
theorem bo167 : Tryd.prog.bytesOf 167 = 8 := by kernel_rfl
theorem inf167 : (Tryd.prog.info? 167).map (fun i => (i.zero, i.size, i.bytes)) = some (some (.nilFunc), 1, 8) := by kernel_rfl
theorem sz169 : (Tryd.prog.info? 169).map (·.size) = some 1 := by kernel_rfl
theorem co169 : Tryd.prog.cellsOf 169 = 1 := by kernel_rfl
theorem bo169 : Tryd.prog.bytesOf 169 = 8 := by kernel_rfl
theorem inf169 : (Tryd.prog.info? 169).map (fun i => (i.zero, i.size, i.bytes)) = some (some (.nilFunc), 1, 8) := by kernel_rfl
theorem sz170 : (Tryd.prog.info? 170).map (·.size) = some 1 := by kernel_rfl
theorem co170 : Tryd.prog.cellsOf 170 = 1 := by kernel_rfl
theorem bo170 : Tryd.prog.bytesOf 170 = 8 := by kernel_rfl
theorem inf170 : (Tryd.prog.info? 170).map (fun i => (i.zero, i.size, i.bytes)) = some (some (.nilFunc), 1, 8) := by kernel_rfl
theorem sz171 : (Tryd.prog.info? 171).map (·.size) = some 1 := by kernel_rfl
theorem co171 : Tryd.prog.cellsOf 171 = 1 := by kernel_rfl
theorem bo171 : Tryd.prog.bytesOf 171 = 8 := by kernel_rfl
theorem z171 : ∀ w, (zeroValue 171).run Tryd.prog w = .ok (.int .i64 0) w := fun _ => by kernel_rfl
theorem inf171 : (Tryd.prog.info? 171).map (fun i => (i.zero, i.size, i.bytes)) = some (some (.int .i64 0), 1, 8) := by kernel_rfl
theorem sz173 : (Tryd.prog.info? 173).map (·.size) = some 1 := by kernel_rfl
theorem co173 : Tryd.prog.cellsOf 173 = 1 := by kernel_rfl
theorem bo173 : Tryd.prog.bytesOf 173 = 8 := by kernel_rfl
theorem inf173 : (Tryd.prog.info? 173).map (fun i => (i.zero, i.size, i.bytes)) = some (some (.nilFunc), 1, 8) := by kernel_rfl
theorem sz174 : (Tryd.prog.info? 174).map (·.size) = some 1 := by kernel_rfl
theorem co174 : Tryd.prog.cellsOf 174 = 1 := by kernel_rfl
theorem bo174 : Tryd.prog.bytesOf 174 = 8 := by kernel_rfl
theorem z174 : ∀ w, (zeroValue 174).run Tryd.prog w = .ok (.pointer none) w := fun _ => by kernel_rfl
theorem inf174 : (Tryd.prog.info? 174).map (fun i => (i.zero, i.size, i.bytes)) = some (some (.pointer none), 1, 8) := by kernel_rfl
theorem sz175 : (Tryd.prog.info? 175).map (·.size) = some 1 := by kernel_rfl
theorem co175 : Tryd.prog.cellsOf 175 = 1 := by kernel_rfl
theorem bo175 : Tryd.prog.bytesOf 175 = 8 := by kernel_rfl
theorem inf175 : (Tryd.prog.info? 175).map (fun i => (i.zero, i.size, i.bytes)) = some (some (.nilFunc), 1, 8) := by kernel_rfl
theorem sz176 : (Tryd.prog.info? 176).map (·.size) = some 1 := by kernel_rfl
theorem co176 : Tryd.prog.cellsOf 176 = 1 := by kernel_rfl
theorem bo176 : Tryd.prog.bytesOf 176 = 8 := by kernel_rfl
theorem inf176 : (Tryd.prog.info? 176).map (fun i => (i.zero, i.size, i.bytes)) = some (some (.nilFunc), 1, 8) := by kernel_rfl
theorem sz177 : (Tryd.prog.info? 177).map (·.size) = some 1 := by kernel_rfl
theorem co177 : Tryd.prog.cellsOf 177 = 1 := by kernel_rfl
theorem bo177 : Tryd.prog.bytesOf 177 = 4 := by kernel_rfl
theorem z177 : ∀ w, (zeroValue 177).run Tryd.prog w = .ok (.int .u32 0) w := fun _ => by kernel_rfl
theorem inf177 : (Tryd.prog.info? 177).map (fun i => (i.zero, i.size, i.bytes)) = some (some (.int .u32 0), 1, 4) := by kernel_rfl
theorem sz179 : (Tryd.prog.info? 179).map (·.size) = some 1 := by kernel_rfl
theorem co179 : Tryd.prog.cellsOf 179 = 1 := by kernel_rfl
theorem bo179 : Tryd.prog.bytesOf 179 = 8 := by kernel_rfl
theorem inf179 : (Tryd.prog.info? 179).map (fun i => (i.zero, i.size, i.bytes)) = some (some (.nilFunc), 1, 8) := by kernel_rfl
theorem sz181 : (Tryd.prog.info? 181).map (·.size) = some 1 := by kernel_rfl
theorem co181 : Tryd.prog.cellsOf 181 = 1 := by kernel_rfl
theorem bo181 : Tryd.prog.bytesOf 181 = 8 := by kernel_rfl
theorem inf181 : (Tryd.prog.info? 181).map (fun i => (i.zero, i.size, i.bytes)) = some (some (.nilFunc), 1, 8) := by kernel_rfl
theorem sz182 : (Tryd.prog.info? 182).map (·.size) = some 1 := by kernel_rfl
theorem co182 : Tryd.prog.cellsOf 182 = 1 := by kernel_rfl
theorem bo182 : Tryd.prog.bytesOf 182 = 8 := by kernel_rfl
theorem inf182 : (Tryd.prog.info? 182).map (fun i => (i.zero, i.size, i.bytes)) = some (some (.nilFunc), 1, 8) := by kernel_rfl
theorem sz183 : (Tryd.prog.info? 183).map (·.size) = some 1 := by kernel_rfl
theorem co183 : Tryd.prog.cellsOf 183 = 1 := by kernel_rfl
theorem bo183 : Tryd.prog.bytesOf 183 = 8 := by kernel_rfl
theorem inf183 : (Tryd.prog.info? 183).map (fun i => (i.zero, i.size, i.bytes)) = some (some (.nilFunc), 1, 8) := by kernel_rfl
theorem sz184 : (Tryd.prog.info? 184).map (·.size) = some 1 := by kernel_rfl
theorem co184 : Tryd.prog.cellsOf 184 = 1 := by kernel_rfl
theorem bo184 : Tryd.prog.bytesOf 184 = 8 := by kernel_rfl
theorem inf184 : (Tryd.prog.info? 184).map (fun i => (i.zero, i.size, i.bytes)) = some (some (.nilFunc), 1, 8) := by kernel_rfl
theorem sz185 : (Tryd.prog.info? 185).map (·.size) = some 1 := by kernel_rfl
theorem co185 : Tryd.prog.cellsOf 185 = 1 := by kernel_rfl
theorem bo185 : Tryd.prog.bytesOf 185 = 8 := by kernel_rfl
theorem inf185 : (Tryd.prog.info? 185).map (fun i => (i.zero, i.size, i.bytes)) = some (some (.nilFunc), 1, 8) := by kernel_rfl
theorem sz186 : (Tryd.prog.info? 186).map (·.size) = some 1 := by kernel_rfl
theorem co186 : Tryd.prog.cellsOf 186 = 1 := by kernel_rfl
theorem bo186 : Tryd.prog.bytesOf 186 = 8 := by kernel_rfl
theorem inf186 : (Tryd.prog.info? 186).map (fun i => (i.zero, i.size, i.bytes)) = some (some (.nilFunc), 1, 8) := by kernel_rfl
theorem sz187 : (Tryd.prog.info? 187).map (·.size) = some 20 := by kernel_rfl
theorem co187 : Tryd.prog.cellsOf 187 = 20 := by kernel_rfl
theorem bo187 : Tryd.prog.bytesOf 187 = 160 := by kernel_rfl
theorem z187 : ∀ w, (zeroValue 187).run Tryd.prog w = .ok (.agg #[.int .u64 0, .int .u64 0, .int .u64 0, .int .u64 0, .int .u64 0, .int .u64 0, .int .u64 0, .int .u64 0, .int .u64 0, .int .u64 0, .int .u64 0, .int .u64 0, .int .u64 0, .int .u64 0, .int .u64 0, .int .u64 0, .int .u64 0, .int .u64 0, .int .u64 0, .int .u64 0]) w := fun _ => by kernel_rfl
theorem inf187 : (Tryd.prog.info? 187).map (fun i => (i.zero, i.size, i.bytes)) = some (some (.agg #[.int .u64 0, .int .u64 0, .int .u64 0, .int .u64 0, .int .u64 0, .int .u64 0, .int .u64 0, .int .u64 0, .int .u64 0, .int .u64 0, .int .u64 0, .int .u64 0, .int .u64 0, .int .u64 0, .int .u64 0, .int .u64 0, .int .u64 0, .int .u64 0, .int .u64 0, .int .u64 0]), 20, 160) := by kernel_rfl
theorem sz188 : (Tryd.prog.info? 188).map (·.size) = some 65 := by kernel_rfl
theorem co188 : Tryd.prog.cellsOf 188 = 65 := by kernel_rfl
theorem bo188 : Tryd.prog.bytesOf 188 = 65 := by kernel_rfl
theorem z188 : ∀ w, (zeroValue 188).run Tryd.prog w = .ok (.agg #[.int .u8 0, .int .u8 0, .int .u8 0, .int .u8 0, .int .u8 0, .int .u8 0, .int .u8 0, .int .u8 0, .int .u8 0, .int .u8 0, .int .u8 0, .int .u8 0, .int .u8 0, .int .u8 0, .int .u8 0, .int .u8 0, .int .u8 0, .int .u8 0, .int .u8 0, .int .u8 0, .int .u8 0, .int .u8 0, .int .u8 0, .int .u8 0, .int .u8 0, .int .u8 0, .int .u8 0, .int .u8 0, .int .u8 0, .int .u8 0, .int .u8 0, .int .u8 0, .int .u8 0, .int .u8 0, .int .u8 0, .int .u8 0, .int .u8 0, .int .u8 0, .int .u8 0, .int .u8 0, .int .u8 0, .int .u8 0, .int .u8 0, .int .u8 0, .int .u8 0, .int .u8 0, .int .u8 0, .int .u8 0, .int .u8 0, .int .u8 0, .int .u8 0, .int .u8 0, .int .u8 0, .int .u8 0, .int .u8 0, .int .u8 0, .int .u8 0, .int .u8 0, .int .u8 0, .int .u8 0, .int .u8 0, .int .u8 0, .int .u8 0, .int .u8 0, .int .u8 0]) w := fun _ => by kernel_rfl
theorem inf188 : (Tryd.prog.info? 188).map (fun i => (i.zero, i.size, i.bytes)) = some (some (.agg #[.int .u8 0, .int .u8 0, .int .u8 0, .int .u8 0, .int .u8 0, .int .u8 0, .int .u8 0, .int .u8 0, .int .u8 0, .int .u8 0, .int .u8 0, .int .u8 0, .int .u8 0, .int .u8 0, .int .u8 0, .int .u8 0, .int .u8 0, .int .u8 0, .int .u8 0, .int .u8 0, .int .u8 0, .int .u8 0, .int .u8 0, .int .u8 0, .int .u8 0, .int .u8 0, .int .u8 0, .int .u8 0, .int .u8 0, .int .u8 0, .int .u8 0, .int .u8 0, .int .u8 0, .int .u8 0, .int .u8 0, .int .u8 0, .int .u8 0, .int .u8 0, .int .u8 0, .int .u8 0, .int .u8 0, .int .u8 0, .int .u8 0, .int .u8 0, .int .u8 0, .int .u8 0, .int .u8 0, .int .u8 0, .int .u8 0, .int .u8 0, .int .u8 0, .int .u8 0, .int .u8 0, .int .u8 0, .int .u8 0, .int .u8 0, .int .u8 0, .int .u8 0, .int .u8 0, .int .u8 0, .int .u8 0, .int .u8 0, .int .u8 0, .int .u8 0, .int .u8 0]), 65, 65) := by kernel_rfl
theorem sz189 : (Tryd.prog.info? 189).map (·.size) = some 1 := by kernel_rfl
theorem co189 : Tryd.prog.cellsOf 189 = 1 := by kernel_rfl
theorem bo189 : Tryd.prog.bytesOf 189 = 8 := by kernel_rfl
theorem inf189 : (Tryd.prog.info? 189).map (fun i => (i.zero, i.size, i.bytes)) = some (some (.nilFunc), 1, 8) := by kernel_rfl
theorem sz191 : (Tryd.prog.info? 191).map (·.size) = some 1 := by kernel_rfl
theorem co191 : Tryd.prog.cellsOf 191 = 1 := by kernel_rfl
theorem bo191 : Tryd.prog.bytesOf 191 = 8 := by kernel_rfl
theorem inf191 : (Tryd.prog.info? 191).map (fun i => (i.zero, i.size, i.bytes)) = some (some (.nilFunc), 1, 8) := by kernel_rfl
theorem sz192 : (Tryd.prog.info? 192).map (·.size) = some 3 := by kernel_rfl
theorem co192 : Tryd.prog.cellsOf 192 = 3 := by kernel_rfl
theorem bo192 : Tryd.prog.bytesOf 192 = 48 := by kernel_rfl
theorem z192 : ∀ w, (zeroValue 192).run Tryd.prog w = .ok (.agg #[.string ⟨#[]⟩, .string ⟨#[]⟩, .nilIface]) w := fun _ => by kernel_rfl
theorem inf192 : (Tryd.prog.info? 192).map (fun i => (i.zero, i.size, i.bytes)) = some (some (.agg #[.string ⟨#[]⟩, .string ⟨#[]⟩, .nilIface]), 3, 48) := by kernel_rfl
theorem fa192_0 : ∀ a w, (Instr.fieldAt 192 (.pointer (some a)) 0).run Tryd.prog w = .ok (.pointer (some (a.add 0))) w := run_field (b := 1) Tryd.underlying192 rfl rfl (by kernel_rfl) (by decide)
theorem fa192_1 : ∀ a w, (Instr.fieldAt 192 (.pointer (some a)) 1).run Tryd.prog w = .ok (.pointer (some (a.add 1))) w := run_field (b := 1) Tryd.underlying192 rfl rfl (by kernel_rfl) (by decide)
theorem fa192_2 : ∀ a w, (Instr.fieldAt 192 (.pointer (some a)) 2).run Tryd.prog w = .ok (.pointer (some (a.add 2))) w := run_field (b := 1) Tryd.underlying192 rfl rfl (by kernel_rfl) (by decide)
theorem sz193 : (Tryd.prog.info? 193).map (·.size) = some 3 := by kernel_rfl
theorem co193 : Tryd.prog.cellsOf 193 = 3 := by kernel_rfl
theorem bo193 : Tryd.prog.bytesOf 193 = 48 := by kernel_rfl
theorem z193 : ∀ w, (zeroValue 193).run Tryd.prog w = .ok (.agg #[.string ⟨#[]⟩, .string ⟨#[]⟩, .nilIface]) w := fun _ => by kernel_rfl
theorem inf193 : (Tryd.prog.info? 193).map (fun i => (i.zero, i.size, i.bytes)) = some (some (.agg #[.string ⟨#[]⟩, .string ⟨#[]⟩, .nilIface]), 3, 48) := by kernel_rfl
theorem fa193_0 : ∀ a w, (Instr.fieldAt 193 (.pointer (some a)) 0).run Tryd.prog w = .ok (.pointer (some (a.add 0))) w := run_field (b := 1) Tryd.underlying193 rfl rfl (by kernel_rfl) (by decide)
theorem fa193_1 : ∀ a w, (Instr.fieldAt 193 (.pointer (some a)) 1).run Tryd.prog w = .ok (.pointer (some (a.add 1))) w := run_field (b := 1) Tryd.underlying193 rfl rfl (by kernel_rfl) (by decide)
theorem fa193_2 : ∀ a w, (Instr.fieldAt 193 (.pointer (some a)) 2).run Tryd.prog w = .ok (.pointer (some (a.add 2))) w := run_field (b := 1) Tryd.underlying193 rfl rfl (by kernel_rfl) (by decide)
theorem sz194 : (Tryd.prog.info? 194).map (·.size) = some 1 := by kernel_rfl
theorem co194 : Tryd.prog.cellsOf 194 = 1 := by kernel_rfl
theorem bo194 : Tryd.prog.bytesOf 194 = 8 := by kernel_rfl
theorem inf194 : (Tryd.prog.info? 194).map (fun i => (i.zero, i.size, i.bytes)) = some (some (.nilFunc), 1, 8) := by kernel_rfl
theorem sz195 : (Tryd.prog.info? 195).map (·.size) = some 1 := by kernel_rfl
theorem co195 : Tryd.prog.cellsOf 195 = 1 := by kernel_rfl
theorem bo195 : Tryd.prog.bytesOf 195 = 8 := by kernel_rfl
theorem inf195 : (Tryd.prog.info? 195).map (fun i => (i.zero, i.size, i.bytes)) = some (some (.nilFunc), 1, 8) := by kernel_rfl
theorem sz196 : (Tryd.prog.info? 196).map (·.size) = some 256 := by kernel_rfl
theorem co196 : Tryd.prog.cellsOf 196 = 256 := by kernel_rfl
theorem bo196 : Tryd.prog.bytesOf 196 = 256 := by kernel_rfl
theorem z196 : ∀ w, (zeroValue 196).run Tryd.prog w = .ok (.agg #[.int .u8 0, .int .u8 0, .int .u8 0, .int .u8 0, .int .u8 0, .int .u8 0, .int .u8 0, .int .u8 0, .int .u8 0, .int .u8 0, .int .u8 0, .int .u8 0, .int .u8 0, .int .u8 0, .int .u8 0, .int .u8 0, .int .u8 0, .int .u8 0, .int .u8 0, .int .u8 0, .int .u8 0, .int .u8 0, .int .u8 0, .int .u8 0, .int .u8 0, .int .u8 0, .int .u8 0, .int .u8 0, .int .u8 0, .int .u8 0, .int .u8 0, .int .u8 0, .int .u8 0, .int .u8 0, .int .u8 0, .int .u8 0, .int .u8 0, .int .u8 0, .int .u8 0, .int .u8 0, .int .u8 0, .int .u8 0, .int .u8 0, .int .u8 0, .int .u8 0, .int .u8 0, .int .u8 0, .int .u8 0, .int .u8 0, .int .u8 0, .int .u8 0, .int .u8 0, .int .u8 0, .int .u8 0, .int .u8 0, .int .u8 0, .int .u8 0, .int .u8 0, .int .u8 0, .int .u8 0, .int .u8 0, .int .u8 0, .int .u8 0, .int .u8 0, .int .u8 0, .int .u8 0, .int .u8 0, .int .u8 0, .int .u8 0, .int .u8 0, .int .u8 0, .int .u8 0, .int .u8 0, .int .u8 0, .int .u8 0, .int .u8 0, .int .u8 0, .int .u8 0, .int .u8 0, .int .u8 0, .int .u8 0, .int .u8 0, .int .u8 0, .int .u8 0, .int .u8 0, .int .u8 0, .int .u8 0, .int .u8 0, .int .u8 0, .int .u8 0, .int .u8 0, .int .u8 0, .int .u8 0, .int .u8 0, .int .u8 0, .int .u8 0, .int .u8 0, .int .u8 0, .int .u8 0, .int .u8 0, .int .u8 0, .int .u8 0, .int .u8 0, .int .u8 0, .int .u8 0, .int .u8 0, .int .u8 0, .int .u8 0, .int .u8 0, .int .u8 0, .int .u8 0, .int .u8 0, .int .u8 0, .int .u8 0, .int .u8 0, .int .u8 0, .int .u8 0, .int .u8 0, .int .u8 0, .int .u8 0, .int .u8 0, .int .u8 0, .int .u8 0, .int .u8 0, .int .u8 0, .int .u8 0, .int .u8 0, .int .u8 0, .int .u8 0, .int .u8 0, .int .u8 0, .int .u8 0, .int .u8 0, .int .u8 0, .int .u8 0, .int .u8 0, .int .u8 0, .int .u8 0, .int .u8 0, .int .u8 0, .int .u8 0, .int .u8 0, .int .u8 0, .int .u8 0, .int .u8 0, .int .u8 0, .int .u8 0, .int .u8 0, .int .u8 0, .int .u8 0, .int .u8 0, .int .u8 0, .int .u8 0, .int .u8 0, .int .u8 0, .int .u8 0, .int .u8 0, .int .u8 0, .int .u8 0, .int .u8 0, .int .u8 0, .int .u8 0, .int .u8 0, .int .u8 0, .int .u8 0, .int .u8 0, .int .u8 0, .int .u8 0, .int .u8 0, .int .u8 0, .int .u8 0, .int .u8 0, .int .u8 0, .int .u8 0, .int .u8 0, .int .u8 0, .int .u8 0, .int .u8 0, .int .u8 0, .int .u8 0, .int .u8 0, .int .u8 0, .int .u8 0, .int .u8 0, .int .u8 0, .int .u8 0, .int .u8 0, .int .u8 0, .int .u8 0, .int .u8 0, .int .u8 0, .int .u8 0, .int .u8 0, .int .u8 0, .int .u8 0, .int .u8 0, .int .u8 0, .int .u8 0, .int .u8 0, .int .u8 0, .int .u8 0, .int .u8 0, .int .u8 0, .int .u8 0, .int .u8 0, .int .u8 0, .int .u8 0, .int .u8 0, .int .u8 0, .int .u8 0, .int .u8 0, .int .u8 0, .int .u8 0, .int .u8 0, .int .u8 0, .int .u8 0, .int .u8 0, .int .u8 0, .int .u8 0, .int .u8 0, .int .u8 0, .int .u8 0, .int .u8 0, .int .u8 0, .int .u8 0, .int .u8 0, .int .u8 0, .int .u8 0, .int .u8 0, .int .u8 0, .int .u8 0, .int .u8 0, .int .u8 0, .int .u8 0, .int .u8 0, .int .u8 0, .int .u8 0, .int .u8 0, .int .u8 0, .int .u8 0, .int .u8 0, .int .u8 0, .int .u8 0, .int .u8 0, .int .u8 0, .int .u8 0, .int .u8 0, .int .u8 0, .int .u8 0, .int .u8 0, .int .u8 0, .int .u8 0, .int .u8 0, .int .u8 0, .int .u8 0, .int .u8 0]) w := fun _ => by kernel_rfl
theorem inf196 : (Tryd.prog.info? 196).map (fun i => (i.zero, i.size, i.bytes)) = some (some (.agg #[.int .u8 0, .int .u8 0, .int .u8 0, .int .u8 0, .int .u8 0, .int .u8 0, .int .u8 0, .int .u8 0, .int .u8 0, .int .u8 0, .int .u8 0, .int .u8 0, .int .u8 0, .int .u8 0, .int .u8 0, .int .u8 0, .int .u8 0, .int .u8 0, .int .u8 0, .int .u8 0, .int .u8 0, .int .u8 0, .int .u8 0, .int .u8 0, .int .u8 0, .int .u8 0, .int .u8 0, .int .u8 0, .int .u8 0, .int .u8 0, .int .u8 0, .int .u8 0, .int .u8 0, .int .u8 0, .int .u8 0, .int .u8 0, .int .u8 0, .int .u8 0, .int .u8 0, .int .u8 0, .int .u8 0, .int .u8 0, .int .u8 0, .int .u8 0, .int .u8 0, .int .u8 0, .int .u8 0, .int .u8 0, .int .u8 0, .int .u8 0, .int .u8 0, .int .u8 0, .int .u8 0, .int .u8 0, .int .u8 0, .int .u8 0, .int .u8 0, .int .u8 0, .int .u8 0, .int .u8 0, .int .u8 0, .int .u8 0, .int .u8 0, .int .u8 0, .int .u8 0, .int .u8 0, .int .u8 0, .int .u8 0, .int .u8 0, .int .u8 0, .int .u8 0, .int .u8 0, .int .u8 0, .int .u8 0, .int .u8 0, .int .u8 0, .int .u8 0, .int .u8 0, .int .u8 0, .int .u8 0, .int .u8 0, .int .u8 0, .int .u8 0, .int .u8 0, .int .u8 0, .int .u8 0, .int .u8 0, .int .u8 0, .int .u8 0, .int .u8 0, .int .u8 0, .int .u8 0, .int .u8 0, .int .u8 0, .int .u8 0, .int .u8 0, .int .u8 0, .int .u8 0, .int .u8 0, .int .u8 0, .int .u8 0, .int .u8 0, .int .u8 0, .int .u8 0, .int .u8 0, .int .u8 0, .int .u8 0, .int .u8 0, .int .u8 0, .int .u8 0, .int .u8 0, .int .u8 0, .int .u8 0, .int .u8 0, .int .u8 0, .int .u8 0, .int .u8 0, .int .u8 0, .int .u8 0, .int .u8 0, .int .u8 0, .int .u8 0, .int .u8 0, .int .u8 0, .int .u8 0, .int .u8 0, .int .u8 0, .int .u8 0, .int .u8 0, .int .u8 0, .int .u8 0, .int .u8 0, .int .u8 0, .int .u8 0, .int .u8 0, .int .u8 0, .int .u8 0, .int .u8 0, .int .u8 0, .int .u8 0, .int .u8 0, .int .u8 0, .int .u8 0, .int .u8 0, .int .u8 0, .int .u8 0, .int .u8 0, .int .u8 0, .int .u8 0, .int .u8 0, .int .u8 0, .int .u8 0, .int .u8 0, .int .u8 0, .int .u8 0, .int .u8 0, .int .u8 0, .int .u8 0, .int .u8 0, .int .u8 0, .int .u8 0, .int .u8 0, .int .u8 0, .int .u8 0, .int .u8 0, .int .u8 0, .int .u8 0, .int .u8 0, .int .u8 0, .int .u8 0, .int .u8 0, .int .u8 0, .int .u8 0, .int .u8 0, .int .u8 0, .int .u8 0, .int .u8 0, .int .u8 0, .int .u8 0, .int .u8 0, .int .u8 0, .int .u8 0, .int .u8 0, .int .u8 0, .int .u8 0, .int .u8 0, .int .u8 0, .int .u8 0, .int .u8 0, .int .u8 0, .int .u8 0, .int .u8 0, .int .u8 0, .int .u8 0, .int .u8 0, .int .u8 0, .int .u8 0, .int .u8 0, .int .u8 0, .int .u8 0, .int .u8 0, .int .u8 0, .int .u8 0, .int .u8 0, .int .u8 0, .int .u8 0, .int .u8 0, .int .u8 0, .int .u8 0, .int .u8 0, .int .u8 0, .int .u8 0, .int .u8 0, .int .u8 0, .int .u8 0, .int .u8 0, .int .u8 0, .int .u8 0, .int .u8 0, .int .u8 0, .int .u8 0, .int .u8 0, .int .u8 0, .int .u8 0, .int .u8 0, .int .u8 0, .int .u8 0, .int .u8 0, .int .u8 0, .int .u8 0, .int .u8 0, .int .u8 0, .int .u8 0, .int .u8 0, .int .u8 0, .int .u8 0, .int .u8 0, .int .u8 0, .int .u8 0, .int .u8 0, .int .u8 0, .int .u8 0, .int .u8 0, .int .u8 0, .int .u8 0, .int .u8 0, .int .u8 0, .int .u8 0, .int .u8 0, .int .u8 0, .int .u8 0, .int .u8 0, .int .u8 0, .int .u8 0, .int .u8 0, .int .u8 0]), 256, 256) := by kernel_rfl
theorem sz197 : (Tryd.prog.info? 197).map (·.size) = some 2 := by kernel_rfl
theorem co197 : Tryd.prog.cellsOf 197 = 2 := by kernel_rfl
theorem bo197 : Tryd.prog.bytesOf 197 = 2 := by kernel_rfl
theorem z197 : ∀ w, (zeroValue 197).run Tryd.prog w = .ok (.agg #[.int .u8 0, .int .u8 0]) w := fun _ => by kernel_rfl
theorem inf197 : (Tryd.prog.info? 197).map (fun i => (i.zero, i.size, i.bytes)) = some (some (.agg #[.int .u8 0, .int .u8 0]), 2, 2) := by kernel_rfl
theorem fa197_0 : ∀ a w, (Instr.fieldAt 197 (.pointer (some a)) 0).run Tryd.prog w = .ok (.pointer (some (a.add 0))) w := run_field (b := 1) Tryd.underlying197 rfl rfl (by kernel_rfl) (by decide)
theorem fa197_1 : ∀ a w, (Instr.fieldAt 197 (.pointer (some a)) 1).run Tryd.prog w = .ok (.pointer (some (a.add 1))) w := run_field (b := 1) Tryd.underlying197 rfl rfl (by kernel_rfl) (by decide)
theorem sz198 : (Tryd.prog.info? 198).map (·.size) = some 2 := by kernel_rfl
theorem co198 : Tryd.prog.cellsOf 198 = 2 := by kernel_rfl
theorem bo198 : Tryd.prog.bytesOf 198 = 2 := by kernel_rfl
theorem z198 : ∀ w, (zeroValue 198).run Tryd.prog w = .ok (.agg #[.int .u8 0, .int .u8 0]) w := fun _ => by kernel_rfl
theorem inf198 : (Tryd.prog.info? 198).map (fun i => (i.zero, i.size, i.bytes)) = some (some (.agg #[.int .u8 0, .int .u8 0]), 2, 2) := by kernel_rfl
theorem fa198_0 : ∀ a w, (Instr.fieldAt 198 (.pointer (some a)) 0).run Tryd.prog w = .ok (.pointer (some (a.add 0))) w := run_field (b := 1) Tryd.underlying198 rfl rfl (by kernel_rfl) (by decide)
theorem fa198_1 : ∀ a w, (Instr.fieldAt 198 (.pointer (some a)) 1).run Tryd.prog w = .ok (.pointer (some (a.add 1))) w := run_field (b := 1) Tryd.underlying198 rfl rfl (by kernel_rfl) (by decide)
theorem sz199 : (Tryd.prog.info? 199).map (·.size) = some 32 := by kernel_rfl
theorem co199 : Tryd.prog.cellsOf 199 = 32 := by kernel_rfl
theorem bo199 : Tryd.prog.bytesOf 199 = 32 := by kernel_rfl
theorem z199 : ∀ w, (zeroValue 199).run Tryd.prog w = .ok (.agg #[.int .u8 0, .int .u8 0, .int .u8 0, .int .u8 0, .int .u8 0, .int .u8 0, .int .u8 0, .int .u8 0, .int .u8 0, .int .u8 0, .int .u8 0, .int .u8 0, .int .u8 0, .int .u8 0, .int .u8 0, .int .u8 0, .int .u8 0, .int .u8 0, .int .u8 0, .int .u8 0, .int .u8 0, .int .u8 0, .int .u8 0, .int .u8 0, .int .u8 0, .int .u8 0, .int .u8 0, .int .u8 0, .int .u8 0, .int .u8 0, .int .u8 0, .int .u8 0]) w := fun _ => by kernel_rfl
theorem inf199 : (Tryd.prog.info? 199).map (fun i => (i.zero, i.size, i.bytes)) = some (some (.agg #[.int .u8 0, .int .u8 0, .int .u8 0, .int .u8 0, .int .u8 0, .int .u8 0, .int .u8 0, .int .u8 0, .int .u8 0, .int .u8 0, .int .u8 0, .int .u8 0, .int .u8 0, .int .u8 0, .int .u8 0, .int .u8 0, .int .u8 0, .int .u8 0, .int .u8 0, .int .u8 0, .int .u8 0, .int .u8 0, .int .u8 0, .int .u8 0, .int .u8 0, .int .u8 0, .int .u8 0, .int .u8 0, .int .u8 0, .int .u8 0, .int .u8 0, .int .u8 0]), 32, 32) := by kernel_rfl
theorem sz200 : (Tryd.prog.info? 200).map (·.size) = some 1 := by kernel_rfl
theorem co200 : Tryd.prog.cellsOf 200 = 1 := by kernel_rfl
theorem bo200 : Tryd.prog.bytesOf 200 = 8 := by kernel_rfl
theorem inf200 : (Tryd.prog.info? 200).map (fun i => (i.zero, i.size, i.bytes)) = some (some (.nilFunc), 1, 8) := by kernel_rfl
theorem sz201 : (Tryd.prog.info? 201).map (·.size) = some 1 := by kernel_rfl
theorem co201 : Tryd.prog.cellsOf 201 = 1 := by kernel_rfl
theorem bo201 : Tryd.prog.bytesOf 201 = 8 := by kernel_rfl
theorem inf201 : (Tryd.prog.info? 201).map (fun i => (i.zero, i.size, i.bytes)) = some (some (.nilFunc), 1, 8) := by kernel_rfl
theorem sz202 : (Tryd.prog.info? 202).map (·.size) = some 1 := by kernel_rfl
theorem co202 : Tryd.prog.cellsOf 202 = 1 := by kernel_rfl
theorem bo202 : Tryd.prog.bytesOf 202 = 8 := by kernel_rfl
theorem z202 : ∀ w, (zeroValue 202).run Tryd.prog w = .ok (.pointer none) w := fun _ => by kernel_rfl
theorem inf202 : (Tryd.prog.info? 202).map (fun i => (i.zero, i.size, i.bytes)) = some (some (.pointer none), 1, 8) := by kernel_rfl
theorem sz203 : (Tryd.prog.info? 203).map (·.size) = some 1 := by kernel_rfl
theorem co203 : Tryd.prog.cellsOf 203 = 1 := by kernel_rfl
theorem bo203 : Tryd.prog.bytesOf 203 = 16 := by kernel_rfl
theorem z203 : ∀ w, (zeroValue 203).run Tryd.prog w = .ok (.agg #[.string ⟨#[]⟩]) w := fun _ => by kernel_rfl
theorem inf203 : (Tryd.prog.info? 203).map (fun i => (i.zero, i.size, i.bytes)) = some (some (.agg #[.string ⟨#[]⟩]), 1, 16) := by kernel_rfl
theorem fa203_0 : ∀ a w, (Instr.fieldAt 203 (.pointer (some a)) 0).run Tryd.prog w = .ok (.pointer (some (a.add 0))) w := run_field (b := 1) Tryd.underlying203 rfl rfl (by kernel_rfl) (by decide)
theorem sz204 : (Tryd.prog.info? 204).map (·.size) = some 1 := by kernel_rfl
theorem co204 : Tryd.prog.cellsOf 204 = 1 := by kernel_rfl
theorem bo204 : Tryd.prog.bytesOf 204 = 16 := by kernel_rfl
theorem z204 : ∀ w, (zeroValue 204).run Tryd.prog w = .ok (.agg #[.string ⟨#[]⟩]) w := fun _ => by kernel_rfl
theorem inf204 : (Tryd.prog.info? 204).map (fun i => (i.zero, i.size, i.bytes)) = some (some (.agg #[.string ⟨#[]⟩]), 1, 16) := by kernel_rfl
theorem fa204_0 : ∀ a w, (Instr.fieldAt 204 (.pointer (some a)) 0).run Tryd.prog w = .ok (.pointer (some (a.add 0))) w := run_field (b := 1) Tryd.underlying204 rfl rfl (by kernel_rfl) (by decide)
theorem sz205 : (Tryd.prog.info? 205).map (·.size) = some 32 := by kernel_rfl
theorem co205 : Tryd.prog.cellsOf 205 = 32 := by kernel_rfl
theorem bo205 : Tryd.prog.bytesOf 205 = 32 := by kernel_rfl
theorem z205 : ∀ w, (zeroValue 205).run Tryd.prog w = .ok (.agg #[.int .u8 0, .int .u8 0, .int .u8 0, .int .u8 0, .int .u8 0, .int .u8 0, .int .u8 0, .int .u8 0, .int .u8 0, .int .u8 0, .int .u8 0, .int .u8 0, .int .u8 0, .int .u8 0, .int .u8 0, .int .u8 0, .int .u8 0, .int .u8 0, .int .u8 0, .int .u8 0, .int .u8 0, .int .u8 0, .int .u8 0, .int .u8 0, .int .u8 0, .int .u8 0, .int .u8 0, .int .u8 0, .int .u8 0, .int .u8 0, .int .u8 0, .int .u8 0]) w := fun _ => by kernel_rfl
theorem inf205 : (Tryd.prog.info? 205).map (fun i => (i.zero, i.size, i.bytes)) = some (some (.agg #[.int .u8 0, .int .u8 0, .int .u8 0, .int .u8 0, .int .u8 0, .int .u8 0, .int .u8 0, .int .u8 0, .int .u8 0, .int .u8 0, .int .u8 0, .int .u8 0, .int .u8 0, .int .u8 0, .int .u8 0, .int .u8 0, .int .u8 0, .int .u8 0, .int .u8 0, .int .u8 0, .int .u8 0, .int .u8 0, .int .u8 0, .int .u8 0, .int .u8 0, .int .u8 0, .int .u8 0, .int .u8 0, .int .u8 0, .int .u8 0, .int .u8 0, .int .u8 0]), 32, 32) := by kernel_rfl
theorem sz206 : (Tryd.prog.info? 206).map (·.size) = some 64 := by kernel_rfl
theorem co206 : Tryd.prog.cellsOf 206 = 64 := by kernel_rfl
theorem bo206 : Tryd.prog.bytesOf 206 = 64 := by kernel_rfl
theorem z206 : ∀ w, (zeroValue 206).run Tryd.prog w = .ok (.agg #[.int .u8 0, .int .u8 0, .int .u8 0, .int .u8 0, .int .u8 0, .int .u8 0, .int .u8 0, .int .u8 0, .int .u8 0, .int .u8 0, .int .u8 0, .int .u8 0, .int .u8 0, .int .u8 0, .int .u8 0, .int .u8 0, .int .u8 0, .int .u8 0, .int .u8 0, .int .u8 0, .int .u8 0, .int .u8 0, .int .u8 0, .int .u8 0, .int .u8 0, .int .u8 0, .int .u8 0, .int .u8 0, .int .u8 0, .int .u8 0, .int .u8 0, .int .u8 0, .int .u8 0, .int .u8 0, .int .u8 0, .int .u8 0, .int .u8 0, .int .u8 0, .int .u8 0, .int .u8 0, .int .u8 0, .int .u8 0, .int .u8 0, .int .u8 0, .int .u8 0, .int .u8 0, .int .u8 0, .int .u8 0, .int .u8 0, .int .u8 0, .int .u8 0, .int .u8 0, .int .u8 0, .int .u8 0, .int .u8 0, .int .u8 0, .int .u8 0, .int .u8 0, .int .u8 0, .int .u8 0, .int .u8 0, .int .u8 0, .int .u8 0, .int .u8 0]) w := fun _ => by kernel_rfl
theorem inf206 : (Tryd.prog.info? 206).map (fun i => (i.zero, i.size, i.bytes)) = some (some (.agg #[.int .u8 0, .int .u8 0, .int .u8 0, .int .u8 0, .int .u8 0, .int .u8 0, .int .u8 0, .int .u8 0, .int .u8 0, .int .u8 0, .int .u8 0, .int .u8 0, .int .u8 0, .int .u8 0, .int .u8 0, .int .u8 0, .int .u8 0, .int .u8 0, .int .u8 0, .int .u8 0, .int .u8 0, .int .u8 0, .int .u8 0, .int .u8 0, .int .u8 0, .int .u8 0, .int .u8 0, .int .u8 0, .int .u8 0, .int .u8 0, .int .u8 0, .int .u8 0, .int .u8 0, .int .u8 0, .int .u8 0, .int .u8 0, .int .u8 0, .int .u8 0, .int .u8 0, .int .u8 0, .int .u8 0, .int .u8 0, .int .u8 0, .int .u8 0, .int .u8 0, .int .u8 0, .int .u8 0, .int .u8 0, .int .u8 0, .int .u8 0, .int .u8 0, .int .u8 0, .int .u8 0, .int .u8 0, .int .u8 0, .int .u8 0, .int .u8 0, .int .u8 0, .int .u8 0, .int .u8 0, .int .u8 0, .int .u8 0, .int .u8 0, .int .u8 0]), 64, 64) := by kernel_rfl
theorem sz207 : (Tryd.prog.info? 207).map (·.size) = some 4 := by kernel_rfl
theorem co207 : Tryd.prog.cellsOf 207 = 4 := by kernel_rfl
theorem bo207 : Tryd.prog.bytesOf 207 = 40 := by kernel_rfl
theorem z207 : ∀ w, (zeroValue 207).run Tryd.prog w = .ok (.agg #[.pointer none, .pointer none, .pointer none, .string ⟨#[]⟩]) w := fun _ => by kernel_rfl
theorem inf207 : (Tryd.prog.info? 207).map (fun i => (i.zero, i.size, i.bytes)) = some (some (.agg #[.pointer none, .pointer none, .pointer none, .string ⟨#[]⟩]), 4, 40) := by kernel_rfl
theorem fa207_0 : ∀ a w, (Instr.fieldAt 207 (.pointer (some a)) 0).run Tryd.prog w = .ok (.pointer (some (a.add 0))) w := run_field (b := 1) Tryd.underlying207 rfl rfl (by kernel_rfl) (by decide)
theorem fa207_1 : ∀ a w, (Instr.fieldAt 207 (.pointer (some a)) 1).run Tryd.prog w = .ok (.pointer (some (a.add 1))) w := run_field (b := 1) Tryd.underlying207 rfl rfl (by kernel_rfl) (by decide)
theorem fa207_2 : ∀ a w, (Instr.fieldAt 207 (.pointer (some a)) 2).run Tryd.prog w = .ok (.pointer (some (a.add 2))) w := run_field (b := 1) Tryd.underlying207 rfl rfl (by kernel_rfl) (by decide)
theorem fa207_3 : ∀ a w, (Instr.fieldAt 207 (.pointer (some a)) 3).run Tryd.prog w = .ok (.pointer (some (a.add 3))) w := run_field (b := 1) Tryd.underlying207 rfl rfl (by kernel_rfl) (by decide)
theorem sz208 : (Tryd.prog.info? 208).map (·.size) = some 4 := by kernel_rfl
theorem co208 : Tryd.prog.cellsOf 208 = 4 := by kernel_rfl
theorem bo208 : Tryd.prog.bytesOf 208 = 40 := by kernel_rfl
theorem z208 : ∀ w, (zeroValue 208).run Tryd.prog w = .ok (.agg #[.pointer none, .pointer none, .pointer none, .string ⟨#[]⟩]) w := fun _ => by kernel_rfl
theorem inf208 : (Tryd.prog.info? 208).map (fun i => (i.zero, i.size, i.bytes)) = some (some (.agg #[.pointer none, .pointer none, .pointer none, .string ⟨#[]⟩]), 4, 40) := by kernel_rfl
theorem fa208_0 : ∀ a w, (Instr.fieldAt 208 (.pointer (some a)) 0).run Tryd.prog w = .ok (.pointer (some (a.add 0))) w := run_field (b := 1) Tryd.underlying208 rfl rfl (by kernel_rfl) (by decide)
theorem fa208_1 : ∀ a w, (Instr.fieldAt 208 (.pointer (some a)) 1).run Tryd.prog w = .ok (.pointer (some (a.add 1))) w := run_field (b := 1) Tryd.underlying208 rfl rfl (by kernel_rfl) (by decide)
theorem fa208_2 : ∀ a w, (Instr.fieldAt 208 (.pointer (some a)) 2).run Tryd.prog w = .ok (.pointer (some (a.add 2))) w := run_field (b := 1) Tryd.underlying208 rfl rfl (by kernel_rfl) (by decide)
theorem fa208_3 : ∀ a w, (Instr.fieldAt 208 (.pointer (some a)) 3).run Tryd.prog w = .ok (.pointer (some (a.add 3))) w := run_field (b := 1) Tryd.underlying208 rfl rfl (by kernel_rfl) (by decide)
theorem sz209 : (Tryd.prog.info? 209).map (·.size) = some 0 := by kernel_rfl
theorem co209 : Tryd.prog.cellsOf 209 = 0 := by kernel_rfl
theorem bo209 : Tryd.prog.bytesOf 209 = 0 := by kernel_rfl
theorem z209 : ∀ w, (zeroValue 209).run Tryd.prog w = .ok (.agg #[]) w := fun _ => by kernel_rfl
theorem inf209 : (Tryd.prog.info? 209).map (fun i => (i.zero, i.size, i.bytes)) = some (some (.agg #[]), 0, 0) := by kernel_rfl
theorem sz210 : (Tryd.prog.info? 210).map (·.size) = some 0 := by kernel_rfl
theorem co210 : Tryd.prog.cellsOf 210 = 0 := by kernel_rfl
theorem bo210 : Tryd.prog.bytesOf 210 = 0 := by kernel_rfl
theorem z210 : ∀ w, (zeroValue 210).run Tryd.prog w = .ok (.agg #[]) w := fun _ => by kernel_rfl
theorem inf210 : (Tryd.prog.info? 210).map (fun i => (i.zero, i.size, i.bytes)) = some (some (.agg #[]), 0, 0) := by kernel_rfl
theorem sz211 : (Tryd.prog.info? 211).map (·.size) = some 0 := by kernel_rfl
theorem co211 : Tryd.prog.cellsOf 211 = 0 := by kernel_rfl
theorem bo211 : Tryd.prog.bytesOf 211 = 0 := by kernel_rfl
theorem z211 : ∀ w, (zeroValue 211).run Tryd.prog w = .ok (.agg #[]) w := fun _ => by kernel_rfl
theorem inf211 : (Tryd.prog.info? 211).map (fun i => (i.zero, i.size, i.bytes)) = some (some (.agg #[]), 0, 0) := by kernel_rfl
theorem sz212 : (Tryd.prog.info? 212).map (·.size) = some 1 := by kernel_rfl
theorem co212 : Tryd.prog.cellsOf 212 = 1 := by kernel_rfl
theorem bo212 : Tryd.prog.bytesOf 212 = 1 := by kernel_rfl
theorem z212 : ∀ w, (zeroValue 212).run Tryd.prog w = .ok (.int .u8 0) w := fun _ => by kernel_rfl
theorem inf212 : (Tryd.prog.info? 212).map (fun i => (i.zero, i.size, i.bytes)) = some (some (.int .u8 0), 1, 1) := by kernel_rfl
theorem sz213 : (Tryd.prog.info? 213).map (·.size) = some 1 := by kernel_rfl
theorem co213 : Tryd.prog.cellsOf 213 = 1 := by kernel_rfl
theorem bo213 : Tryd.prog.bytesOf 213 = 1 := by kernel_rfl
theorem z213 : ∀ w, (zeroValue 213).run Tryd.prog w = .ok (.int .u8 0) w := fun _ => by kernel_rfl
theorem inf213 : (Tryd.prog.info? 213).map (fun i => (i.zero, i.size, i.bytes)) = some (some (.int .u8 0), 1, 1) := by kernel_rfl
theorem sz214 : (Tryd.prog.info? 214).map (·.size) = some 1 := by kernel_rfl
theorem co214 : Tryd.prog.cellsOf 214 = 1 := by kernel_rfl
theorem bo214 : Tryd.prog.bytesOf 214 = 8 := by kernel_rfl
theorem inf214 : (Tryd.prog.info? 214).map (fun i => (i.zero, i.size, i.bytes)) = some (some (.nilFunc), 1, 8) := by kernel_rfl
theorem sz215 : (Tryd.prog.info? 215).map (·.size) = some 1 := by kernel_rfl
theorem co215 : Tryd.prog.cellsOf 215 = 1 := by kernel_rfl
theorem bo215 : Tryd.prog.bytesOf 215 = 4 := by kernel_rfl
theorem z215 : ∀ w, (zeroValue 215).run Tryd.prog w = .ok (.int .i32 0) w := fun _ => by kernel_rfl
theorem inf215 : (Tryd.prog.info? 215).map (fun i => (i.zero, i.size, i.bytes)) = some (some (.int .i32 0), 1, 4) := by kernel_rfl
theorem sz216 : (Tryd.prog.info? 216).map (·.size) = some 1 := by kernel_rfl
theorem co216 : Tryd.prog.cellsOf 216 = 1 := by kernel_rfl
theorem bo216 : Tryd.prog.bytesOf 216 = 4 := by kernel_rfl
theorem z216 : ∀ w, (zeroValue 216).run Tryd.prog w = .ok (.int .i32 0) w := fun _ => by kernel_rfl
theorem inf216 : (Tryd.prog.info? 216).map (fun i => (i.zero, i.size, i.bytes)) = some (some (.int .i32 0), 1, 4) := by kernel_rfl
theorem sz217 : (Tryd.prog.info? 217).map (·.size) = some 11 := by kernel_rfl
theorem co217 : Tryd.prog.cellsOf 217 = 11 := by kernel_rfl
theorem bo217 : Tryd.prog.bytesOf 217 = 48 := by kernel_rfl
theorem z217 : ∀ w, (zeroValue 217).run Tryd.prog w = .ok (.agg #[.int .u64 0, .int .u64 0, .int .u32 0, .int .u8 0, .int .u8 0, .int .u8 0, .int .u8 0, .nilFunc, .pointer none, .int .i32 0, .int .i32 0]) w := fun _ => by kernel_rfl
theorem inf217 : (Tryd.prog.info? 217).map (fun i => (i.zero, i.size, i.bytes)) = some (some (.agg #[.int .u64 0, .int .u64 0, .int .u32 0, .int .u8 0, .int .u8 0, .int .u8 0, .int .u8 0, .nilFunc, .pointer none, .int .i32 0, .int .i32 0]), 11, 48) := by kernel_rfl
theorem fa217_0 : ∀ a w, (Instr.fieldAt 217 (.pointer (some a)) 0).run Tryd.prog w = .ok (.pointer (some (a.add 0))) w := run_field (b := 1) Tryd.underlying217 rfl rfl (by kernel_rfl) (by decide)
theorem fa217_1 : ∀ a w, (Instr.fieldAt 217 (.pointer (some a)) 1).run Tryd.prog w = .ok (.pointer (some (a.add 1))) w := run_field (b := 1) Tryd.underlying217 rfl rfl (by kernel_rfl) (by decide)
theorem fa217_2 : ∀ a w, (Instr.fieldAt 217 (.pointer (some a)) 2).run Tryd.prog w = .ok (.pointer (some (a.add 2))) w := run_field (b := 1) Tryd.underlying217 rfl rfl (by kernel_rfl) (by decide)
theorem fa217_3 : ∀ a w, (Instr.fieldAt 217 (.pointer (some a)) 3).run Tryd.prog w = .ok (.pointer (some (a.add 3))) w := run_field (b := 1) Tryd.underlying217 rfl rfl (by kernel_rfl) (by decide)
theorem fa217_4 : ∀ a w, (Instr.fieldAt 217 (.pointer (some a)) 4).run Tryd.prog w = .ok (.pointer (some (a.add 4))) w := run_field (b := 1) Tryd.underlying217 rfl rfl (by kernel_rfl) (by decide)
theorem fa217_5 : ∀ a w, (Instr.fieldAt 217 (.pointer (some a)) 5).run Tryd.prog w = .ok (.pointer (some (a.add 5))) w := run_field (b := 1) Tryd.underlying217 rfl rfl (by kernel_rfl) (by decide)
theorem fa217_6 : ∀ a w, (Instr.fieldAt 217 (.pointer (some a)) 6).run Tryd.prog w = .ok (.pointer (some (a.add 6))) w := run_field (b := 1) Tryd.underlying217 rfl rfl (by kernel_rfl) (by decide)
theorem fa217_7 : ∀ a w, (Instr.fieldAt 217 (.pointer (some a)) 7).run Tryd.prog w = .ok (.pointer (some (a.add 7))) w := run_field (b := 1) Tryd.underlying217 rfl rfl (by kernel_rfl) (by decide)
theorem fa217_8 : ∀ a w, (Instr.fieldAt 217 (.pointer (some a)) 8).run Tryd.prog w = .ok (.pointer (some (a.add 8))) w := run_field (b := 1) Tryd.underlying217 rfl rfl (by kernel_rfl) (by decide)
theorem fa217_9 : ∀ a w, (Instr.fieldAt 217 (.pointer (some a)) 9).run Tryd.prog w = .ok (.pointer (some (a.add 9))) w := run_field (b := 1) Tryd.underlying217 rfl rfl (by kernel_rfl) (by decide)
theorem fa217_10 : ∀ a w, (Instr.fieldAt 217 (.pointer (some a)) 10).run Tryd.prog w = .ok (.pointer (some (a.add 10))) w := run_field (b := 1) Tryd.underlying217 rfl rfl (by kernel_rfl) (by decide)
theorem sz218 : (Tryd.prog.info? 218).map (·.size) = some 11 := by kernel_rfl
theorem co218 : Tryd.prog.cellsOf 218 = 11 := by kernel_rfl
theorem bo218 : Tryd.prog.bytesOf 218 = 48 := by kernel_rfl
theorem z218 : ∀ w, (zeroValue 218).run Tryd.prog w = .ok (.agg #[.int .u64 0, .int .u64 0, .int .u32 0, .int .u8 0, .int .u8 0, .int .u8 0, .int .u8 0, .nilFunc, .pointer none, .int .i32 0, .int .i32 0]) w := fun _ => by kernel_rfl
theorem inf218 : (Tryd.prog.info? 218).map (fun i => (i.zero, i.size, i.bytes)) = some (some (.agg #[.int .u64 0, .int .u64 0, .int .u32 0, .int .u8 0, .int .u8 0, .int .u8 0, .int .u8 0, .nilFunc, .pointer none, .int .i32 0, .int .i32 0]), 11, 48) := by kernel_rfl
theorem fa218_0 : ∀ a w, (Instr.fieldAt 218 (.pointer (some a)) 0).run Tryd.prog w = .ok (.pointer (some (a.add 0))) w := run_field (b := 1) Tryd.underlying218 rfl rfl (by kernel_rfl) (by decide)
theorem fa218_1 : ∀ a w, (Instr.fieldAt 218 (.pointer (some a)) 1).run Tryd.prog w = .ok (.pointer (some (a.add 1))) w := run_field (b := 1) Tryd.underlying218 rfl rfl (by kernel_rfl) (by decide)
theorem fa218_2 : ∀ a w, (Instr.fieldAt 218 (.pointer (some a)) 2).run Tryd.prog w = .ok (.pointer (some (a.add 2))) w := run_field (b := 1) Tryd.underlying218 rfl rfl (by kernel_rfl) (by decide)
theorem fa218_3 : ∀ a w, (Instr.fieldAt 218 (.pointer (some a)) 3).run Tryd.prog w = .ok (.pointer (some (a.add 3))) w := run_field (b := 1) Tryd.underlying218 rfl rfl (by kernel_rfl) (by decide)
theorem fa218_4 : ∀ a w, (Instr.fieldAt 218 (.pointer (some a)) 4).run Tryd.prog w = .ok (.pointer (some (a.add 4))) w := run_field (b := 1) Tryd.underlying218 rfl rfl (by kernel_rfl) (by decide)
theorem fa218_5 : ∀ a w, (Instr.fieldAt 218 (.pointer (some a)) 5).run Tryd.prog w = .ok (.pointer (some (a.add 5))) w := run_field (b := 1) Tryd.underlying218 rfl rfl (by kernel_rfl) (by decide)
theorem fa218_6 : ∀ a w, (Instr.fieldAt 218 (.pointer (some a)) 6).run Tryd.prog w = .ok (.pointer (some (a.add 6))) w := run_field (b := 1) Tryd.underlying218 rfl rfl (by kernel_rfl) (by decide)
theorem fa218_7 : ∀ a w, (Instr.fieldAt 218 (.pointer (some a)) 7).run Tryd.prog w = .ok (.pointer (some (a.add 7))) w := run_field (b := 1) Tryd.underlying218 rfl rfl (by kernel_rfl) (by decide)
theorem fa218_8 : ∀ a w, (Instr.fieldAt 218 (.pointer (some a)) 8).run Tryd.prog w = .ok (.pointer (some (a.add 8))) w := run_field (b := 1) Tryd.underlying218 rfl rfl (by kernel_rfl) (by decide)
theorem fa218_9 : ∀ a w, (Instr.fieldAt 218 (.pointer (some a)) 9).run Tryd.prog w = .ok (.pointer (some (a.add 9))) w := run_field (b := 1) Tryd.underlying218 rfl rfl (by kernel_rfl) (by decide)
theorem fa218_10 : ∀ a w, (Instr.fieldAt 218 (.pointer (some a)) 10).run Tryd.prog w = .ok (.pointer (some (a.add 10))) w := run_field (b := 1) Tryd.underlying218 rfl rfl (by kernel_rfl) (by decide)
theorem cf2 : ∀ args w, (callFunc 2 args).run Tryd.prog w = .ok (.enter 2 args) w := run_cf Tryd.func2 (by kernel_rfl) rfl
theorem cf3 : ∀ args w, (callFunc 3 args).run Tryd.prog w = .ok (.enter 3 args) w := run_cf Tryd.func3 (by kernel_rfl) rfl
theorem cf4 : ∀ args w, (callFunc 4 args).run Tryd.prog w = .ok (.enter 4 args) w := run_cf Tryd.func4 (by kernel_rfl) rfl
theorem cf5 : ∀ args w, (callFunc 5 args).run Tryd.prog w = .ok (.enter 5 args) w := run_cf Tryd.func5 (by kernel_rfl) rfl
theorem cf6 : ∀ args w, (callFunc 6 args).run Tryd.prog w = .ok (.enter 6 args) w := run_cf Tryd.func6 (by kernel_rfl) rfl
theorem cf7 : ∀ args w, (callFunc 7 args).run Tryd.prog w = .ok (.enter 7 args) w := run_cf Tryd.func7 (by kernel_rfl) rfl
theorem cf8 : ∀ args w, (callFunc 8 args).run Tryd.prog w = .ok (.enter 8 args) w := run_cf Tryd.func8 (by kernel_rfl) rfl
theorem cf9 : ∀ args w, (callFunc 9 args).run Tryd.prog w = .ok (.enter 9 args) w := run_cf Tryd.func9 (by kernel_rfl) rfl
theorem cf10 : ∀ args w, (callFunc 10 args).run Tryd.prog w = .ok (.enter 10 args) w := run_cf Tryd.func10 (by kernel_rfl) rfl
theorem cf11 : ∀ args w, (callFunc 11 args).run Tryd.prog w = .ok (.enter 11 args) w := run_cf Tryd.func11 (by kernel_rfl) rfl
theorem cf12 : ∀ args w, (callFunc 12 args).run Tryd.prog w = .ok (.enter 12 args) w := run_cf Tryd.func12 (by kernel_rfl) rfl
theorem cf13 : ∀ args w, (callFunc 13 args).run Tryd.prog w = .ok (.enter 13 args) w := run_cf Tryd.func13 (by kernel_rfl) rfl
theorem cf14 : ∀ args w, (callFunc 14 args).run Tryd.prog w = .ok (.enter 14 args) w := run_cf Tryd.func14 (by kernel_rfl) rfl
theorem cf15 : ∀ args w, (callFunc 15 args).run Tryd.prog w = .ok (.enter 15 args) w := run_cf Tryd.func15 (by kernel_rfl) rfl
theorem cf16 : ∀ args w, (callFunc 16 args).run Tryd.prog w = .ok (.enter 16 args) w := run_cf Tryd.func16 (by kernel_rfl) rfl
theorem cf17 : ∀ args w, (callFunc 17 args).run Tryd.prog w = .ok (.enter 17 args) w := run_cf Tryd.func17 (by kernel_rfl) rfl
theorem cf18 : ∀ args w, (callFunc 18 args).run Tryd.prog w = .ok (.enter 18 args) w := run_cf Tryd.func18 (by kernel_rfl) rfl
theorem cf19 : ∀ args w, (callFunc 19 args).run Tryd.prog w = .ok (.enter 19 args) w := run_cf Tryd.func19 (by kernel_rfl) rfl
theorem cf20 : ∀ args w, (callFunc 20 args).run Tryd.prog w = .ok (.enter 20 args) w := run_cf Tryd.func20 (by kernel_rfl) rfl
theorem cf21 : ∀ args w, (callFunc 21 args).run Tryd.prog w = .ok (.enter 21 args) w := run_cf Tryd.func21 (by kernel_rfl) rfl
theorem cf22 : ∀ args w, (callFunc 22 args).run Tryd.prog w = .ok (.enter 22 args) w := run_cf Tryd.func22 (by kernel_rfl) rfl
theorem cf23 : ∀ args w, (callFunc 23 args).run Tryd.prog w = .ok (.enter 23 args) w := run_cf Tryd.func23 (by kernel_rfl) rfl
theorem cf24 : ∀ args w, (callFunc 24 args).run Tryd.prog w = .ok (.enter 24 args) w := run_cf Tryd.func24 (by kernel_rfl) rfl
theorem cf25 : ∀ args w, (callFunc 25 args).run Tryd.prog w = .ok (.enter 25 args) w := run_cf Tryd.func25 (by kernel_rfl) rfl
theorem cf26 : ∀ args w, (callFunc 26 args).run Tryd.prog w = .ok (.enter 26 args) w := run_cf Tryd.func26 (by kernel_rfl) rfl
theorem cf27 : ∀ args w, (callFunc 27 args).run Tryd.prog w = .ok (.enter 27 args) w := run_cf Tryd.func27 (by kernel_rfl) rfl
theorem cf28 : ∀ args w, (callFunc 28 args).run Tryd.prog w = .ok (.enter 28 args) w := run_cf Tryd.func28 (by kernel_rfl) rfl
theorem cf29 : ∀ args w, (callFunc 29 args).run Tryd.prog w = .ok (.enter 29 args) w := run_cf Tryd.func29 (by kernel_rfl) rfl
theorem cf30 : ∀ args w, (callFunc 30 args).run Tryd.prog w = .ok (.enter 30 args) w := run_cf Tryd.func30 (by kernel_rfl) rfl
theorem cf31 : ∀ args w, (callFunc 31 args).run Tryd.prog w = .ok (.enter 31 args) w := run_cf Tryd.func31 (by kernel_rfl) rfl
theorem cf32 : ∀ args w, (callFunc 32 args).run Tryd.prog w = .ok (.enter 32 args) w := run_cf Tryd.func32 (by kernel_rfl) rfl
theorem cf33 : ∀ args w, (callFunc 33 args).run Tryd.prog w = .ok (.enter 33 args) w := run_cf Tryd.func33 (by kernel_rfl) rfl
theorem cf34 : ∀ args w, (callFunc 34 args).run Tryd.prog w = .ok (.enter 34 args) w := run_cf Tryd.func34 (by kernel_rfl) rfl
theorem cf35 : ∀ args w, (callFunc 35 args).run Tryd.prog w = .ok (.enter 35 args) w := run_cf Tryd.func35 (by kernel_rfl) rfl
theorem cf36 : ∀ args w, (callFunc 36 args).run Tryd.prog w = .ok (.enter 36 args) w := run_cf Tryd.func36 (by kernel_rfl) rfl
theorem cf37 : ∀ args w, (callFunc 37 args).run Tryd.prog w = .ok (.enter 37 args) w := run_cf Tryd.func37 (by kernel_rfl) rfl
theorem cf38 : ∀ args w, (callFunc 38 args).run Tryd.prog w = .ok (.enter 38 args) w := run_cf Tryd.func38 (by kernel_rfl) rfl
theorem cf39 : ∀ args w, (callFunc 39 args).run Tryd.prog w = .ok (.enter 39 args) w := run_cf Tryd.func39 (by kernel_rfl) rfl
theorem cf40 : ∀ args w, (callFunc 40 args).run Tryd.prog w = .ok (.enter 40 args) w := run_cf Tryd.func40 (by kernel_rfl) rfl
theorem cf41 : ∀ args w, (callFunc 41 args).run Tryd.prog w = .ok (.enter 41 args) w := run_cf Tryd.func41 (by kernel_rfl) rfl
theorem cf42 : ∀ args w, (callFunc 42 args).run Tryd.prog w = .ok (.enter 42 args) w := run_cf Tryd.func42 (by kernel_rfl) rfl
theorem cf43 : ∀ args w, (callFunc 43 args).run Tryd.prog w = .ok (.enter 43 args) w := run_cf Tryd.func43 (by kernel_rfl) rfl
theorem cf44 : ∀ args w, (callFunc 44 args).run Tryd.prog w = .ok (.enter 44 args) w := run_cf Tryd.func44 (by kernel_rfl) rfl
theorem cf45 : ∀ args w, (callFunc 45 args).run Tryd.prog w = .ok (.enter 45 args) w := run_cf Tryd.func45 (by kernel_rfl) rfl
theorem cf46 : ∀ args w, (callFunc 46 args).run Tryd.prog w = .ok (.enter 46 args) w := run_cf Tryd.func46 (by kernel_rfl) rfl
theorem cf47 : ∀ args w, (callFunc 47 args).run Tryd.prog w = .ok (.enter 47 args) w := run_cf Tryd.func47 (by kernel_rfl) rfl
theorem cf48 : ∀ args w, (callFunc 48 args).run Tryd.prog w = .ok (.enter 48 args) w := run_cf Tryd.func48 (by kernel_rfl) rfl
theorem cf49 : ∀ args w, (callFunc 49 args).run Tryd.prog w = .ok (.enter 49 args) w := run_cf Tryd.func49 (by kernel_rfl) rfl
theorem cf50 : ∀ args w, (callFunc 50 args).run Tryd.prog w = .ok (.enter 50 args) w := run_cf Tryd.func50 (by kernel_rfl) rfl
theorem cf51 : ∀ args w, (callFunc 51 args).run Tryd.prog w = .ok (.enter 51 args) w := run_cf Tryd.func51 (by kernel_rfl) rfl
theorem cf52 : ∀ args w, (callFunc 52 args).run Tryd.prog w = .ok (.enter 52 args) w := run_cf Tryd.func52 (by kernel_rfl) rfl
theorem cf53 : ∀ args w, (callFunc 53 args).run Tryd.prog w = .ok (.enter 53 args) w := run_cf Tryd.func53 (by kernel_rfl) rfl
theorem cf54 : ∀ args w, (callFunc 54 args).run Tryd.prog w = .ok (.enter 54 args) w := run_cf Tryd.func54 (by kernel_rfl) rfl
theorem cf55 : ∀ args w, (callFunc 55 args).run Tryd.prog w = .ok (.enter 55 args) w := run_cf Tryd.func55 (by kernel_rfl) rfl
theorem cf56 : ∀ args w, (callFunc 56 args).run Tryd.prog w = .ok (.enter 56 args) w := run_cf Tryd.func56 (by kernel_rfl) rfl
theorem cf57 : ∀ args w, (callFunc 57 args).run Tryd.prog w = .ok (.enter 57 args) w := run_cf Tryd.func57 (by kernel_rfl) rfl
theorem cf58 : ∀ args w, (callFunc 58 args).run Tryd.prog w = .ok (.enter 58 args) w := run_cf Tryd.func58 (by kernel_rfl) rfl
theorem cf59 : ∀ args w, (callFunc 59 args).run Tryd.prog w = .ok (.enter 59 args) w := run_cf Tryd.func59 (by kernel_rfl) rfl
theorem cf60 : ∀ args w, (callFunc 60 args).run Tryd.prog w = .ok (.enter 60 args) w := run_cf Tryd.func60 (by kernel_rfl) rfl
theorem cf61 : ∀ args w, (callFunc 61 args).run Tryd.prog w = .ok (.enter 61 args) w := run_cf Tryd.func61 (by kernel_rfl) rfl
theorem cf62 : ∀ args w, (callFunc 62 args).run Tryd.prog w = .ok (.enter 62 args) w := run_cf Tryd.func62 (by kernel_rfl) rfl
theorem cf63 : ∀ args w, (callFunc 63 args).run Tryd.prog w = .ok (.enter 63 args) w := run_cf Tryd.func63 (by kernel_rfl) rfl
theorem cf64 : ∀ args w, (callFunc 64 args).run Tryd.prog w = .ok (.enter 64 args) w := run_cf Tryd.func64 (by kernel_rfl) rfl
theorem cf65 : ∀ args w, (callFunc 65 args).run Tryd.prog w = .ok (.enter 65 args) w := run_cf Tryd.func65 (by kernel_rfl) rfl
theorem cf66 : ∀ args w, (callFunc 66 args).run Tryd.prog w = .ok (.enter 66 args) w := run_cf Tryd.func66 (by kernel_rfl) rfl
theorem cf67 : ∀ args w, (callFunc 67 args).run Tryd.prog w = .ok (.enter 67 args) w := run_cf Tryd.func67 (by kernel_rfl) rfl
theorem cf68 : ∀ args w, (callFunc 68 args).run Tryd.prog w = .ok (.enter 68 args) w := run_cf Tryd.func68 (by kernel_rfl) rfl
theorem cf69 : ∀ args w, (callFunc 69 args).run Tryd.prog w = .ok (.enter 69 args) w := run_cf Tryd.func69 (by kernel_rfl) rfl
theorem cf70 : ∀ args w, (callFunc 70 args).run Tryd.prog w = .ok (.enter 70 args) w := run_cf Tryd.func70 (by kernel_rfl) rfl
theorem cf71 : ∀ args w, (callFunc 71 args).run Tryd.prog w = .ok (.enter 71 args) w := run_cf Tryd.func71 (by kernel_rfl) rfl
theorem cf72 : ∀ args w, (callFunc 72 args).run Tryd.prog w = .ok (.enter 72 args) w := run_cf Tryd.func72 (by kernel_rfl) rfl
theorem cf73 : ∀ args w, (callFunc 73 args).run Tryd.prog w = .ok (.enter 73 args) w := run_cf Tryd.func73 (by kernel_rfl) rfl
theorem cf74 : ∀ args w, (callFunc 74 args).run Tryd.prog w = .ok (.enter 74 args) w := run_cf Tryd.func74 (by kernel_rfl) rfl
theorem cf75 : ∀ args w, (callFunc 75 args).run Tryd.prog w = .ok (.enter 75 args) w := run_cf Tryd.func75 (by kernel_rfl) rfl
theorem cf76 : ∀ args w, (callFunc 76 args).run Tryd.prog w = .ok (.enter 76 args) w := run_cf Tryd.func76 (by kernel_rfl) rfl
theorem cf77 : ∀ args w, (callFunc 77 args).run Tryd.prog w = .ok (.enter 77 args) w := run_cf Tryd.func77 (by kernel_rfl) rfl
theorem cf78 : ∀ args w, (callFunc 78 args).run Tryd.prog w = .ok (.enter 78 args) w := run_cf Tryd.func78 (by kernel_rfl) rfl
theorem cf79 : ∀ args w, (callFunc 79 args).run Tryd.prog w = .ok (.enter 79 args) w := run_cf Tryd.func79 (by kernel_rfl) rfl
theorem cf80 : ∀ args w, (callFunc 80 args).run Tryd.prog w = .ok (.enter 80 args) w := run_cf Tryd.func80 (by kernel_rfl) rfl
theorem cf81 : ∀ args w, (callFunc 81 args).run Tryd.prog w = .ok (.enter 81 args) w := run_cf Tryd.func81 (by kernel_rfl) rfl
theorem cf82 : ∀ args w, (callFunc 82 args).run Tryd.prog w = .ok (.enter 82 args) w := run_cf Tryd.func82 (by kernel_rfl) rfl
theorem cf83 : ∀ args w, (callFunc 83 args).run Tryd.prog w = .ok (.enter 83 args) w := run_cf Tryd.func83 (by kernel_rfl) rfl
theorem cf84 : ∀ args w, (callFunc 84 args).run Tryd.prog w = .ok (.enter 84 args) w := run_cf Tryd.func84 (by kernel_rfl) rfl
theorem cf85 : ∀ args w, (callFunc 85 args).run Tryd.prog w = .ok (.enter 85 args) w := run_cf Tryd.func85 (by kernel_rfl) rfl
theorem cf86 : ∀ args w, (callFunc 86 args).run Tryd.prog w = .ok (.enter 86 args) w := run_cf Tryd.func86 (by kernel_rfl) rfl
theorem cf87 : ∀ args w, (callFunc 87 args).run Tryd.prog w = .ok (.enter 87 args) w := run_cf Tryd.func87 (by kernel_rfl) rfl
theorem cf88 : ∀ args w, (callFunc 88 args).run Tryd.prog w = .ok (.enter 88 args) w := run_cf Tryd.func88 (by kernel_rfl) rfl
theorem cf89 : ∀ args w, (callFunc 89 args).run Tryd.prog w = .ok (.enter 89 args) w := run_cf Tryd.func89 (by kernel_rfl) rfl
theorem cf90 : ∀ args w, (callFunc 90 args).run Tryd.prog w = .ok (.enter 90 args) w := run_cf Tryd.func90 (by kernel_rfl) rfl
theorem cf91 : ∀ args w, (callFunc 91 args).run Tryd.prog w = .ok (.enter 91 args) w := run_cf Tryd.func91 (by kernel_rfl) rfl
theorem cf92 : ∀ args w, (callFunc 92 args).run Tryd.prog w = .ok (.enter 92 args) w := run_cf Tryd.func92 (by kernel_rfl) rfl
theorem cf93 : ∀ args w, (callFunc 93 args).run Tryd.prog w = .ok (.enter 93 args) w := run_cf Tryd.func93 (by kernel_rfl) rfl
theorem cf94 : ∀ args w, (callFunc 94 args).run Tryd.prog w = .ok (.enter 94 args) w := run_cf Tryd.func94 (by kernel_rfl) rfl
theorem cf95 : ∀ args w, (callFunc 95 args).run Tryd.prog w = .ok (.enter 95 args) w := run_cf Tryd.func95 (by kernel_rfl) rfl
theorem cf96 : ∀ args w, (callFunc 96 args).run Tryd.prog w = .ok (.enter 96 args) w := run_cf Tryd.func96 (by kernel_rfl) rfl
theorem cf97 : ∀ args w, (callFunc 97 args).run Tryd.prog w = .ok (.enter 97 args) w := run_cf Tryd.func97 (by kernel_rfl) rfl
theorem cf98 : ∀ args w, (callFunc 98 args).run Tryd.prog w = .ok (.enter 98 args) w := run_cf Tryd.func98 (by kernel_rfl) rfl
theorem cf99 : ∀ args w, (callFunc 99 args).run Tryd.prog w = .ok (.enter 99 args) w := run_cf Tryd.func99 (by kernel_rfl) rfl
theorem cf100 : ∀ args w, (callFunc 100 args).run Tryd.prog w = .ok (.enter 100 args) w := run_cf Tryd.func100 (by kernel_rfl) rfl
theorem cf101 : ∀ args w, (callFunc 101 args).run Tryd.prog w = .ok (.enter 101 args) w := run_cf Tryd.func101 (by kernel_rfl) rfl
theorem cf102 : ∀ args w, (callFunc 102 args).run Tryd.prog w = .ok (.enter 102 args) w := run_cf Tryd.func102 (by kernel_rfl) rfl
theorem cf103 : ∀ args w, (callFunc 103 args).run Tryd.prog w = .ok (.enter 103 args) w := run_cf Tryd.func103 (by kernel_rfl) rfl
theorem cf104 : ∀ args w, (callFunc 104 args).run Tryd.prog w = .ok (.enter 104 args) w := run_cf Tryd.func104 (by kernel_rfl) rfl
theorem cf105 : ∀ args w, (callFunc 105 args).run Tryd.prog w = .ok (.enter 105 args) w := run_cf Tryd.func105 (by kernel_rfl) rfl
theorem cf106 : ∀ args w, (callFunc 106 args).run Tryd.prog w = .ok (.enter 106 args) w := run_cf Tryd.func106 (by kernel_rfl) rfl
theorem cf107 : ∀ args w, (callFunc 107 args).run Tryd.prog w = .ok (.enter 107 args) w := run_cf Tryd.func107 (by kernel_rfl) rfl
theorem cf108 : ∀ args w, (callFunc 108 args).run Tryd.prog w = .ok (.enter 108 args) w := run_cf Tryd.func108 (by kernel_rfl) rfl
theorem cf109 : ∀ args w, (callFunc 109 args).run Tryd.prog w = .ok (.enter 109 args) w := run_cf Tryd.func109 (by kernel_rfl) rfl
theorem cf110 : ∀ args w, (callFunc 110 args).run Tryd.prog w = .ok (.enter 110 args) w := run_cf Tryd.func110 (by kernel_rfl) rfl
theorem cf111 : ∀ args w, (callFunc 111 args).run Tryd.prog w = .ok (.enter 111 args) w := run_cf Tryd.func111 (by kernel_rfl) rfl
theorem cf112 : ∀ args w, (callFunc 112 args).run Tryd.prog w = .ok (.enter 112 args) w := run_cf Tryd.func112 (by kernel_rfl) rfl
theorem cf113 : ∀ args w, (callFunc 113 args).run Tryd.prog w = .ok (.enter 113 args) w := run_cf Tryd.func113 (by kernel_rfl) rfl
theorem cf114 : ∀ args w, (callFunc 114 args).run Tryd.prog w = .ok (.enter 114 args) w := run_cf Tryd.func114 (by kernel_rfl) rfl
theorem cf115 : ∀ args w, (callFunc 115 args).run Tryd.prog w = .ok (.enter 115 args) w := run_cf Tryd.func115 (by kernel_rfl) rfl
theorem cf116 : ∀ args w, (callFunc 116 args).run Tryd.prog w = .ok (.enter 116 args) w := run_cf Tryd.func116 (by kernel_rfl) rfl
theorem cf117 : ∀ args w, (callFunc 117 args).run Tryd.prog w = .ok (.enter 117 args) w := run_cf Tryd.func117 (by kernel_rfl) rfl
theorem cf118 : ∀ args w, (callFunc 118 args).run Tryd.prog w = .ok (.enter 118 args) w := run_cf Tryd.func118 (by kernel_rfl) rfl
theorem cf119 : ∀ args w, (callFunc 119 args).run Tryd.prog w = .ok (.enter 119 args) w := run_cf Tryd.func119 (by kernel_rfl) rfl
theorem cf120 : ∀ args w, (callFunc 120 args).run Tryd.prog w = .ok (.enter 120 args) w := run_cf Tryd.func120 (by kernel_rfl) rfl
theorem cf121 : ∀ args w, (callFunc 121 args).run Tryd.prog w = .ok (.enter 121 args) w := run_cf Tryd.func121 (by kernel_rfl) rfl
theorem cf122 : ∀ args w, (callFunc 122 args).run Tryd.prog w = .ok (.enter 122 args) w := run_cf Tryd.func122 (by kernel_rfl) rfl
theorem cf123 : ∀ args w, (callFunc 123 args).run Tryd.prog w = .ok (.enter 123 args) w := run_cf Tryd.func123 (by kernel_rfl) rfl
theorem cf124 : ∀ args w, (callFunc 124 args).run Tryd.prog w = .ok (.enter 124 args) w := run_cf Tryd.func124 (by kernel_rfl) rfl
theorem cf125 : ∀ args w, (callFunc 125 args).run Tryd.prog w = .ok (.enter 125 args) w := run_cf Tryd.func125 (by kernel_rfl) rfl
theorem cf126 : ∀ args w, (callFunc 126 args).run Tryd.prog w = .ok (.enter 126 args) w := run_cf Tryd.func126 (by kernel_rfl) rfl
theorem cf127 : ∀ args w, (callFunc 127 args).run Tryd.prog w = .ok (.enter 127 args) w := run_cf Tryd.func127 (by kernel_rfl) rfl
theorem cf128 : ∀ args w, (callFunc 128 args).run Tryd.prog w = .ok (.enter 128 args) w := run_cf Tryd.func128 (by kernel_rfl) rfl
theorem cf129 : ∀ args w, (callFunc 129 args).run Tryd.prog w = .ok (.enter 129 args) w := run_cf Tryd.func129 (by kernel_rfl) rfl
theorem cf130 : ∀ args w, (callFunc 130 args).run Tryd.prog w = .ok (.enter 130 args) w := run_cf Tryd.func130 (by kernel_rfl) rfl
theorem cf131 : ∀ args w, (callFunc 131 args).run Tryd.prog w = .ok (.enter 131 args) w := run_cf Tryd.func131 (by kernel_rfl) rfl
theorem cf132 : ∀ args w, (callFunc 132 args).run Tryd.prog w = .ok (.enter 132 args) w := run_cf Tryd.func132 (by kernel_rfl) rfl
theorem cf133 : ∀ args w, (callFunc 133 args).run Tryd.prog w = .ok (.enter 133 args) w := run_cf Tryd.func133 (by kernel_rfl) rfl
theorem cf134 : ∀ args w, (callFunc 134 args).run Tryd.prog w = .ok (.enter 134 args) w := run_cf Tryd.func134 (by kernel_rfl) rfl
theorem cf135 : ∀ args w, (callFunc 135 args).run Tryd.prog w = .ok (.enter 135 args) w := run_cf Tryd.func135 (by kernel_rfl) rfl
theorem cf136 : ∀ args w, (callFunc 136 args).run Tryd.prog w = .ok (.enter 136 args) w := run_cf Tryd.func136 (by kernel_rfl) rfl
theorem cf138 : ∀ args w, (callFunc 138 args).run Tryd.prog w = .ok (.enter 138 args) w := run_cf Tryd.func138 (by kernel_rfl) rfl
theorem cf139 : ∀ args w, (callFunc 139 args).run Tryd.prog w = .ok (.enter 139 args) w := run_cf Tryd.func139 (by kernel_rfl) rfl
theorem cf140 : ∀ args w, (callFunc 140 args).run Tryd.prog w = .ok (.enter 140 args) w := run_cf Tryd.func140 (by kernel_rfl) rfl
theorem cf141 : ∀ args w, (callFunc 141 args).run Tryd.prog w = .ok (.enter 141 args) w := run_cf Tryd.func141 (by kernel_rfl) rfl
theorem cf142 : ∀ args w, (callFunc 142 args).run Tryd.prog w = .ok (.enter 142 args) w := run_cf Tryd.func142 (by kernel_rfl) rfl
theorem cf143 : ∀ args w, (callFunc 143 args).run Tryd.prog w = .ok (.enter 143 args) w := run_cf Tryd.func143 (by kernel_rfl) rfl
theorem cf144 : ∀ args w, (callFunc 144 args).run Tryd.prog w = .ok (.enter 144 args) w := run_cf Tryd.func144 (by kernel_rfl) rfl
theorem cf145 : ∀ args w, (callFunc 145 args).run Tryd.prog w = .ok (.enter 145 args) w := run_cf Tryd.func145 (by kernel_rfl) rfl
theorem cf146 : ∀ args w, (callFunc 146 args).run Tryd.prog w = .ok (.enter 146 args) w := run_cf Tryd.func146 (by kernel_rfl) rfl
theorem cf147 : ∀ args w, (callFunc 147 args).run Tryd.prog w = .ok (.enter 147 args) w := run_cf Tryd.func147 (by kernel_rfl) rfl
theorem cf148 : ∀ args w, (callFunc 148 args).run Tryd.prog w = .ok (.enter 148 args) w := run_cf Tryd.func148 (by kernel_rfl) rfl
theorem cf149 : ∀ args w, (callFunc 149 args).run Tryd.prog w = .ok (.enter 149 args) w := run_cf Tryd.func149 (by kernel_rfl) rfl
theorem cf150 : ∀ args w, (callFunc 150 args).run Tryd.prog w = .ok (.enter 150 args) w := run_cf Tryd.func150 (by kernel_rfl) rfl
theorem cf151 : ∀ args w, (callFunc 151 args).run Tryd.prog w = .ok (.enter 151 args) w := run_cf Tryd.func151 (by kernel_rfl) rfl
theorem cf152 : ∀ args w, (callFunc 152 args).run Tryd.prog w = .ok (.enter 152 args) w := run_cf Tryd.func152 (by kernel_rfl) rfl
theorem cf153 : ∀ args w, (callFunc 153 args).run Tryd.prog w = .ok (.enter 153 args) w := run_cf Tryd.func153 (by kernel_rfl) rfl
theorem cf154 : ∀ args w, (callFunc 154 args).run Tryd.prog w = .ok (.enter 154 args) w := run_cf Tryd.func154 (by kernel_rfl) rfl
theorem cf155 : ∀ args w, (callFunc 155 args).run Tryd.prog w = .ok (.enter 155 args) w := run_cf Tryd.func155 (by kernel_rfl) rfl
theorem cf158 : ∀ args w, (callFunc 158 args).run Tryd.prog w = .ok (.enter 158 args) w := run_cf Tryd.func158 (by kernel_rfl) rfl
theorem cf159 : ∀ args w, (callFunc 159 args).run Tryd.prog w = .ok (.enter 159 args) w := run_cf Tryd.func159 (by kernel_rfl) rfl
theorem cf160 : ∀ args w, (callFunc 160 args).run Tryd.prog w = .ok (.enter 160 args) w := run_cf Tryd.func160 (by kernel_rfl) rfl
theorem cf161 : ∀ args w, (callFunc 161 args).run Tryd.prog w = .ok (.enter 161 args) w := run_cf Tryd.func161 (by kernel_rfl) rfl
theorem cf162 : ∀ args w, (callFunc 162 args).run Tryd.prog w = .ok (.enter 162 args) w := run_cf Tryd.func162 (by kernel_rfl) rfl
theorem cf163 : ∀ args w, (callFunc 163 args).run Tryd.prog w = .ok (.enter 163 args) w := run_cf Tryd.func163 (by kernel_rfl) rfl
theorem cf164 : ∀ args w, (callFunc 164 args).run Tryd.prog w = .ok (.enter 164 args) w := run_cf Tryd.func164 (by kernel_rfl) rfl
theorem cf165 : ∀ args w, (callFunc 165 args).run Tryd.prog w = .ok (.enter 165 args) w := run_cf Tryd.func165 (by kernel_rfl) rfl
theorem cf167 : ∀ args w, (callFunc 167 args).run Tryd.prog w = .ok (.enter 167 args) w := run_cf Tryd.func167 (by kernel_rfl) rfl
theorem cf168 : ∀ args w, (callFunc 168 args).run Tryd.prog w = .ok (.enter 168 args) w := run_cf Tryd.func168 (by kernel_rfl) rfl
theorem cf169 : ∀ args w, (callFunc 169 args).run Tryd.prog w = .ok (.enter 169 args) w := run_cf Tryd.func169 (by kernel_rfl) rfl
theorem cf171 : ∀ args w, (callFunc 171 args).run Tryd.prog w = .ok (.enter 171 args) w := run_cf Tryd.func171 (by kernel_rfl) rfl
theorem cf172 : ∀ args w, (callFunc 172 args).run Tryd.prog w = .ok (.enter 172 args) w := run_cf Tryd.func172 (by kernel_rfl) rfl
theorem cf173 : ∀ args w, (callFunc 173 args).run Tryd.prog w = .ok (.enter 173 args) w := run_cf Tryd.func173 (by kernel_rfl) rfl
theorem cf174 : ∀ args w, (callFunc 174 args).run Tryd.prog w = .ok (.enter 174 args) w := run_cf Tryd.func174 (by kernel_rfl) rfl
theorem cf175 : ∀ args w, (callFunc 175 args).run Tryd.prog w = .ok (.enter 175 args) w := run_cf Tryd.func175 (by kernel_rfl) rfl
theorem cf176 : ∀ args w, (callFunc 176 args).run Tryd.prog w = .ok (.enter 176 args) w := run_cf Tryd.func176 (by kernel_rfl) rfl
theorem cf177 : ∀ args w, (callFunc 177 args).run Tryd.prog w = .ok (.enter 177 args) w := run_cf Tryd.func177 (by kernel_rfl) rfl
theorem cf178 : ∀ args w, (callFunc 178 args).run Tryd.prog w = .ok (.enter 178 args) w := run_cf Tryd.func178 (by kernel_rfl) rfl
theorem cf179 : ∀ args w, (callFunc 179 args).run Tryd.prog w = .ok (.enter 179 args) w := run_cf Tryd.func179 (by kernel_rfl) rfl
theorem cf180 : ∀ args w, (callFunc 180 args).run Tryd.prog w = .ok (.enter 180 args) w := run_cf Tryd.func180 (by kernel_rfl) rfl
theorem cf181 : ∀ args w, (callFunc 181 args).run Tryd.prog w = .ok (.enter 181 args) w := run_cf Tryd.func181 (by kernel_rfl) rfl
theorem cf182 : ∀ args w, (callFunc 182 args).run Tryd.prog w = .ok (.enter 182 args) w := run_cf Tryd.func182 (by kernel_rfl) rfl
theorem cf183 : ∀ args w, (callFunc 183 args).run Tryd.prog w = .ok (.enter 183 args) w := run_cf Tryd.func183 (by kernel_rfl) rfl
theorem cf184 : ∀ args w, (callFunc 184 args).run Tryd.prog w = .ok (.enter 184 args) w := run_cf Tryd.func184 (by kernel_rfl) rfl
theorem cf185 : ∀ args w, (callFunc 185 args).run Tryd.prog w = .ok (.enter 185 args) w := run_cf Tryd.func185 (by kernel_rfl) rfl
theorem cf186 : ∀ args w, (callFunc 186 args).run Tryd.prog w = .ok (.enter 186 args) w := run_cf Tryd.func186 (by kernel_rfl) rfl
theorem cf187 : ∀ args w, (callFunc 187 args).run Tryd.prog w = .ok (.enter 187 args) w := run_cf Tryd.func187 (by kernel_rfl) rfl
theorem cf188 : ∀ args w, (callFunc 188 args).run Tryd.prog w = .ok (.enter 188 args) w := run_cf Tryd.func188 (by kernel_rfl) rfl
theorem cf189 : ∀ args w, (callFunc 189 args).run Tryd.prog w = .ok (.enter 189 args) w := run_cf Tryd.func189 (by kernel_rfl) rfl
theorem cf219 : ∀ args w, (callFunc 219 args).run Tryd.prog w = .ok (.enter 219 args) w := run_cf Tryd.func219 (by kernel_rfl) rfl
end Go.Proofs.YtpmlgnbbkpplhaaDoor
