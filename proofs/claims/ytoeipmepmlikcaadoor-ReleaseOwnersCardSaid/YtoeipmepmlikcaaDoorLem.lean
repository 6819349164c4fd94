/- Closed facts on this seat's program: sizes, fields, zero values, calls. Written by a program of mine. -/
import Derived.Test.YtoeipmepmlikcaaDoorMore
import Derived.Test.YtoeipmepmlikcaaDoorRows
namespace Go.Proofs.YtoeipmepmlikcaaDoor
open Go.RowKit Go.Eng

theorem sz1 : (Tryd.prog.info? 1).map (·.size) = some 1 := by kernel_rfl
theorem co1 : Tryd.prog.cellsOf 1 = 1 := by kernel_rfl
theorem bo1 : Tryd.prog.bytesOf 1 = 8 := by kernel_rfl
theorem inf1 : (Tryd.prog.info? 1).map (fun i => (i.zero, i.size, i.bytes)) = some (some (.nilFunc), 1, 8) := by kernel_rfl
theorem sz2 : (Tryd.prog.info? 2).map (·.size) = some 1 := by kernel_rfl
theorem co2 : Tryd.prog.cellsOf 2 = 1 := by kernel_rfl
theorem bo2 : Tryd.prog.bytesOf 2 = 8 := by kernel_rfl
theorem z2 : ∀ w, (zeroValue 2).run Tryd.prog w = .ok (.int .i64 0) w := fun _ => by kernel_rfl
theorem inf2 : (Tryd.prog.info? 2).map (fun i => (i.zero, i.size, i.bytes)) = some (some (.int .i64 0), 1, 8) := by kernel_rfl
theorem sz3 : (Tryd.prog.info? 3).map (·.size) = some 1 := by kernel_rfl
theorem co3 : Tryd.prog.cellsOf 3 = 1 := by kernel_rfl
theorem bo3 : Tryd.prog.bytesOf 3 = 8 := by kernel_rfl
theorem z3 : ∀ w, (zeroValue 3).run Tryd.prog w = .ok (.int .i64 0) w := fun _ => by kernel_rfl
theorem inf3 : (Tryd.prog.info? 3).map (fun i => (i.zero, i.size, i.bytes)) = some (some (.int .i64 0), 1, 8) := by kernel_rfl
theorem sz4 : (Tryd.prog.info? 4).map (·.size) = some 1 := by kernel_rfl
theorem co4 : Tryd.prog.cellsOf 4 = 1 := by kernel_rfl
theorem bo4 : Tryd.prog.bytesOf 4 = 1 := by kernel_rfl
theorem z4 : ∀ w, (zeroValue 4).run Tryd.prog w = .ok (.bool false) w := fun _ => by kernel_rfl
theorem inf4 : (Tryd.prog.info? 4).map (fun i => (i.zero, i.size, i.bytes)) = some (some (.bool false), 1, 1) := by kernel_rfl
theorem sz5 : (Tryd.prog.info? 5).map (·.size) = some 1 := by kernel_rfl
theorem co5 : Tryd.prog.cellsOf 5 = 1 := by kernel_rfl
theorem bo5 : Tryd.prog.bytesOf 5 = 1 := by kernel_rfl
theorem z5 : ∀ w, (zeroValue 5).run Tryd.prog w = .ok (.int .u8 0) w := fun _ => by kernel_rfl
theorem inf5 : (Tryd.prog.info? 5).map (fun i => (i.zero, i.size, i.bytes)) = some (some (.int .u8 0), 1, 1) := by kernel_rfl
theorem sz6 : (Tryd.prog.info? 6).map (·.size) = some 1 := by kernel_rfl
theorem co6 : Tryd.prog.cellsOf 6 = 1 := by kernel_rfl
theorem bo6 : Tryd.prog.bytesOf 6 = 1 := by kernel_rfl
theorem z6 : ∀ w, (zeroValue 6).run Tryd.prog w = .ok (.int .u8 0) w := fun _ => by kernel_rfl
theorem inf6 : (Tryd.prog.info? 6).map (fun i => (i.zero, i.size, i.bytes)) = some (some (.int .u8 0), 1, 1) := by kernel_rfl
theorem sz7 : (Tryd.prog.info? 7).map (·.size) = some 4 := by kernel_rfl
theorem co7 : Tryd.prog.cellsOf 7 = 4 := by kernel_rfl
theorem bo7 : Tryd.prog.bytesOf 7 = 24 := by kernel_rfl
theorem z7 : ∀ w, (zeroValue 7).run Tryd.prog w = .ok (.agg #[.int .i64 0, .int .i64 0, .bool false, .int .u8 0]) w := fun _ => by kernel_rfl
theorem inf7 : (Tryd.prog.info? 7).map (fun i => (i.zero, i.size, i.bytes)) = some (some (.agg #[.int .i64 0, .int .i64 0, .bool false, .int .u8 0]), 4, 24) := by kernel_rfl
theorem fa7_0 : ∀ a w, (Instr.fieldAt 7 (.pointer (some a)) 0).run Tryd.prog w = .ok (.pointer (some (a.add 0))) w := run_field (b := 1) Tryd.underlying7 rfl rfl (by kernel_rfl) (by decide)
theorem fa7_1 : ∀ a w, (Instr.fieldAt 7 (.pointer (some a)) 1).run Tryd.prog w = .ok (.pointer (some (a.add 1))) w := run_field (b := 1) Tryd.underlying7 rfl rfl (by kernel_rfl) (by decide)
theorem fa7_2 : ∀ a w, (Instr.fieldAt 7 (.pointer (some a)) 2).run Tryd.prog w = .ok (.pointer (some (a.add 2))) w := run_field (b := 1) Tryd.underlying7 rfl rfl (by kernel_rfl) (by decide)
theorem fa7_3 : ∀ a w, (Instr.fieldAt 7 (.pointer (some a)) 3).run Tryd.prog w = .ok (.pointer (some (a.add 3))) w := run_field (b := 1) Tryd.underlying7 rfl rfl (by kernel_rfl) (by decide)
theorem sz8 : (Tryd.prog.info? 8).map (·.size) = some 4 := by kernel_rfl
theorem co8 : Tryd.prog.cellsOf 8 = 4 := by kernel_rfl
theorem bo8 : Tryd.prog.bytesOf 8 = 24 := by kernel_rfl
theorem z8 : ∀ w, (zeroValue 8).run Tryd.prog w = .ok (.agg #[.int .i64 0, .int .i64 0, .bool false, .int .u8 0]) w := fun _ => by kernel_rfl
theorem inf8 : (Tryd.prog.info? 8).map (fun i => (i.zero, i.size, i.bytes)) = some (some (.agg #[.int .i64 0, .int .i64 0, .bool false, .int .u8 0]), 4, 24) := by kernel_rfl
theorem fa8_0 : ∀ a w, (Instr.fieldAt 8 (.pointer (some a)) 0).run Tryd.prog w = .ok (.pointer (some (a.add 0))) w := run_field (b := 1) Tryd.underlying8 rfl rfl (by kernel_rfl) (by decide)
theorem fa8_1 : ∀ a w, (Instr.fieldAt 8 (.pointer (some a)) 1).run Tryd.prog w = .ok (.pointer (some (a.add 1))) w := run_field (b := 1) Tryd.underlying8 rfl rfl (by kernel_rfl) (by decide)
theorem fa8_2 : ∀ a w, (Instr.fieldAt 8 (.pointer (some a)) 2).run Tryd.prog w = .ok (.pointer (some (a.add 2))) w := run_field (b := 1) Tryd.underlying8 rfl rfl (by kernel_rfl) (by decide)
theorem fa8_3 : ∀ a w, (Instr.fieldAt 8 (.pointer (some a)) 3).run Tryd.prog w = .ok (.pointer (some (a.add 3))) w := run_field (b := 1) Tryd.underlying8 rfl rfl (by kernel_rfl) (by decide)
theorem sz9 : (Tryd.prog.info? 9).map (·.size) = some 1 := by kernel_rfl
theorem co9 : Tryd.prog.cellsOf 9 = 1 := by kernel_rfl
theorem bo9 : Tryd.prog.bytesOf 9 = 16 := by kernel_rfl
theorem z9 : ∀ w, (zeroValue 9).run Tryd.prog w = .ok (.string ⟨#[]⟩) w := fun _ => by kernel_rfl
theorem inf9 : (Tryd.prog.info? 9).map (fun i => (i.zero, i.size, i.bytes)) = some (some (.string ⟨#[]⟩), 1, 16) := by kernel_rfl
theorem sz10 : (Tryd.prog.info? 10).map (·.size) = some 1 := by kernel_rfl
theorem co10 : Tryd.prog.cellsOf 10 = 1 := by kernel_rfl
theorem bo10 : Tryd.prog.bytesOf 10 = 16 := by kernel_rfl
theorem z10 : ∀ w, (zeroValue 10).run Tryd.prog w = .ok (.string ⟨#[]⟩) w := fun _ => by kernel_rfl
theorem inf10 : (Tryd.prog.info? 10).map (fun i => (i.zero, i.size, i.bytes)) = some (some (.string ⟨#[]⟩), 1, 16) := by kernel_rfl
theorem sz11 : (Tryd.prog.info? 11).map (·.size) = some 1 := by kernel_rfl
theorem co11 : Tryd.prog.cellsOf 11 = 1 := by kernel_rfl
theorem bo11 : Tryd.prog.bytesOf 11 = 16 := by kernel_rfl
theorem z11 : ∀ w, (zeroValue 11).run Tryd.prog w = .ok (.string ⟨#[]⟩) w := fun _ => by kernel_rfl
theorem inf11 : (Tryd.prog.info? 11).map (fun i => (i.zero, i.size, i.bytes)) = some (some (.string ⟨#[]⟩), 1, 16) := by kernel_rfl
theorem sz12 : (Tryd.prog.info? 12).map (·.size) = some 1 := by kernel_rfl
theorem co12 : Tryd.prog.cellsOf 12 = 1 := by kernel_rfl
theorem bo12 : Tryd.prog.bytesOf 12 = 8 := by kernel_rfl
theorem z12 : ∀ w, (zeroValue 12).run Tryd.prog w = .ok (.int .u64 0) w := fun _ => by kernel_rfl
theorem inf12 : (Tryd.prog.info? 12).map (fun i => (i.zero, i.size, i.bytes)) = some (some (.int .u64 0), 1, 8) := by kernel_rfl
theorem sz13 : (Tryd.prog.info? 13).map (·.size) = some 2 := by kernel_rfl
theorem co13 : Tryd.prog.cellsOf 13 = 2 := by kernel_rfl
theorem bo13 : Tryd.prog.bytesOf 13 = 24 := by kernel_rfl
theorem z13 : ∀ w, (zeroValue 13).run Tryd.prog w = .ok (.agg #[.string ⟨#[]⟩, .int .u64 0]) w := fun _ => by kernel_rfl
theorem inf13 : (Tryd.prog.info? 13).map (fun i => (i.zero, i.size, i.bytes)) = some (some (.agg #[.string ⟨#[]⟩, .int .u64 0]), 2, 24) := by kernel_rfl
theorem fa13_0 : ∀ a w, (Instr.fieldAt 13 (.pointer (some a)) 0).run Tryd.prog w = .ok (.pointer (some (a.add 0))) w := run_field (b := 1) Tryd.underlying13 rfl rfl (by kernel_rfl) (by decide)
theorem fa13_1 : ∀ a w, (Instr.fieldAt 13 (.pointer (some a)) 1).run Tryd.prog w = .ok (.pointer (some (a.add 1))) w := run_field (b := 1) Tryd.underlying13 rfl rfl (by kernel_rfl) (by decide)
theorem sz14 : (Tryd.prog.info? 14).map (·.size) = some 2 := by kernel_rfl
theorem co14 : Tryd.prog.cellsOf 14 = 2 := by kernel_rfl
theorem bo14 : Tryd.prog.bytesOf 14 = 24 := by kernel_rfl
theorem z14 : ∀ w, (zeroValue 14).run Tryd.prog w = .ok (.agg #[.string ⟨#[]⟩, .int .u64 0]) w := fun _ => by kernel_rfl
theorem inf14 : (Tryd.prog.info? 14).map (fun i => (i.zero, i.size, i.bytes)) = some (some (.agg #[.string ⟨#[]⟩, .int .u64 0]), 2, 24) := by kernel_rfl
theorem fa14_0 : ∀ a w, (Instr.fieldAt 14 (.pointer (some a)) 0).run Tryd.prog w = .ok (.pointer (some (a.add 0))) w := run_field (b := 1) Tryd.underlying14 rfl rfl (by kernel_rfl) (by decide)
theorem fa14_1 : ∀ a w, (Instr.fieldAt 14 (.pointer (some a)) 1).run Tryd.prog w = .ok (.pointer (some (a.add 1))) w := run_field (b := 1) Tryd.underlying14 rfl rfl (by kernel_rfl) (by decide)
theorem sz15 : (Tryd.prog.info? 15).map (·.size) = some 1 := by kernel_rfl
theorem co15 : Tryd.prog.cellsOf 15 = 1 := by kernel_rfl
theorem bo15 : Tryd.prog.bytesOf 15 = 8 := by kernel_rfl
theorem z15 : ∀ w, (zeroValue 15).run Tryd.prog w = .ok (.pointer none) w := fun _ => by kernel_rfl
theorem inf15 : (Tryd.prog.info? 15).map (fun i => (i.zero, i.size, i.bytes)) = some (some (.pointer none), 1, 8) := by kernel_rfl
theorem sz16 : (Tryd.prog.info? 16).map (·.size) = some 1 := by kernel_rfl
theorem co16 : Tryd.prog.cellsOf 16 = 1 := by kernel_rfl
theorem bo16 : Tryd.prog.bytesOf 16 = 8 := by kernel_rfl
theorem z16 : ∀ w, (zeroValue 16).run Tryd.prog w = .ok (.pointer none) w := fun _ => by kernel_rfl
theorem inf16 : (Tryd.prog.info? 16).map (fun i => (i.zero, i.size, i.bytes)) = some (some (.pointer none), 1, 8) := by kernel_rfl
theorem sz17 : (Tryd.prog.info? 17).map (·.size) = some 1 := by kernel_rfl
theorem co17 : Tryd.prog.cellsOf 17 = 1 := by kernel_rfl
theorem bo17 : Tryd.prog.bytesOf 17 = 8 := by kernel_rfl
theorem z17 : ∀ w, (zeroValue 17).run Tryd.prog w = .ok (.pointer none) w := fun _ => by kernel_rfl
theorem inf17 : (Tryd.prog.info? 17).map (fun i => (i.zero, i.size, i.bytes)) = some (some (.pointer none), 1, 8) := by kernel_rfl
theorem sz18 : (Tryd.prog.info? 18).map (·.size) = some 1 := by kernel_rfl
theorem co18 : Tryd.prog.cellsOf 18 = 1 := by kernel_rfl
theorem bo18 : Tryd.prog.bytesOf 18 = 8 := by kernel_rfl
theorem z18 : ∀ w, (zeroValue 18).run Tryd.prog w = .ok (.agg #[.pointer none]) w := fun _ => by kernel_rfl
theorem inf18 : (Tryd.prog.info? 18).map (fun i => (i.zero, i.size, i.bytes)) = some (some (.agg #[.pointer none]), 1, 8) := by kernel_rfl
theorem fa18_0 : ∀ a w, (Instr.fieldAt 18 (.pointer (some a)) 0).run Tryd.prog w = .ok (.pointer (some (a.add 0))) w := run_field (b := 1) Tryd.underlying18 rfl rfl (by kernel_rfl) (by decide)
theorem sz19 : (Tryd.prog.info? 19).map (·.size) = some 1 := by kernel_rfl
theorem co19 : Tryd.prog.cellsOf 19 = 1 := by kernel_rfl
theorem bo19 : Tryd.prog.bytesOf 19 = 8 := by kernel_rfl
theorem z19 : ∀ w, (zeroValue 19).run Tryd.prog w = .ok (.agg #[.pointer none]) w := fun _ => by kernel_rfl
theorem inf19 : (Tryd.prog.info? 19).map (fun i => (i.zero, i.size, i.bytes)) = some (some (.agg #[.pointer none]), 1, 8) := by kernel_rfl
theorem fa19_0 : ∀ a w, (Instr.fieldAt 19 (.pointer (some a)) 0).run Tryd.prog w = .ok (.pointer (some (a.add 0))) w := run_field (b := 1) Tryd.underlying19 rfl rfl (by kernel_rfl) (by decide)
theorem sz20 : (Tryd.prog.info? 20).map (·.size) = some 1 := by kernel_rfl
theorem co20 : Tryd.prog.cellsOf 20 = 1 := by kernel_rfl
theorem bo20 : Tryd.prog.bytesOf 20 = 16 := by kernel_rfl
theorem z20 : ∀ w, (zeroValue 20).run Tryd.prog w = .ok (.nilIface) w := fun _ => by kernel_rfl
theorem inf20 : (Tryd.prog.info? 20).map (fun i => (i.zero, i.size, i.bytes)) = some (some (.nilIface), 1, 16) := by kernel_rfl
theorem sz21 : (Tryd.prog.info? 21).map (·.size) = some 1 := by kernel_rfl
theorem co21 : Tryd.prog.cellsOf 21 = 1 := by kernel_rfl
theorem bo21 : Tryd.prog.bytesOf 21 = 4 := by kernel_rfl
theorem z21 : ∀ w, (zeroValue 21).run Tryd.prog w = .ok (.int .i32 0) w := fun _ => by kernel_rfl
theorem inf21 : (Tryd.prog.info? 21).map (fun i => (i.zero, i.size, i.bytes)) = some (some (.int .i32 0), 1, 4) := by kernel_rfl
theorem sz22 : (Tryd.prog.info? 22).map (·.size) = some 1 := by kernel_rfl
theorem co22 : Tryd.prog.cellsOf 22 = 1 := by kernel_rfl
theorem bo22 : Tryd.prog.bytesOf 22 = 24 := by kernel_rfl
theorem z22 : ∀ w, (zeroValue 22).run Tryd.prog w = .ok (.slice none 0 0) w := fun _ => by kernel_rfl
theorem inf22 : (Tryd.prog.info? 22).map (fun i => (i.zero, i.size, i.bytes)) = some (some (.slice none 0 0), 1, 24) := by kernel_rfl
theorem sz23 : (Tryd.prog.info? 23).map (·.size) = some 1 := by kernel_rfl
theorem co23 : Tryd.prog.cellsOf 23 = 1 := by kernel_rfl
theorem bo23 : Tryd.prog.bytesOf 23 = 8 := by kernel_rfl
theorem z23 : ∀ w, (zeroValue 23).run Tryd.prog w = .ok (.int .i64 0) w := fun _ => by kernel_rfl
theorem inf23 : (Tryd.prog.info? 23).map (fun i => (i.zero, i.size, i.bytes)) = some (some (.int .i64 0), 1, 8) := by kernel_rfl
theorem sz24 : (Tryd.prog.info? 24).map (·.size) = some 1 := by kernel_rfl
theorem co24 : Tryd.prog.cellsOf 24 = 1 := by kernel_rfl
theorem bo24 : Tryd.prog.bytesOf 24 = 8 := by kernel_rfl
theorem inf24 : (Tryd.prog.info? 24).map (fun i => (i.zero, i.size, i.bytes)) = some (some (.nilFunc), 1, 8) := by kernel_rfl
theorem sz25 : (Tryd.prog.info? 25).map (·.size) = some 1 := by kernel_rfl
theorem co25 : Tryd.prog.cellsOf 25 = 1 := by kernel_rfl
theorem bo25 : Tryd.prog.bytesOf 25 = 24 := by kernel_rfl
theorem z25 : ∀ w, (zeroValue 25).run Tryd.prog w = .ok (.slice none 0 0) w := fun _ => by kernel_rfl
theorem inf25 : (Tryd.prog.info? 25).map (fun i => (i.zero, i.size, i.bytes)) = some (some (.slice none 0 0), 1, 24) := by kernel_rfl
theorem sz27 : (Tryd.prog.info? 27).map (·.size) = some 1 := by kernel_rfl
theorem co27 : Tryd.prog.cellsOf 27 = 1 := by kernel_rfl
theorem bo27 : Tryd.prog.bytesOf 27 = 8 := by kernel_rfl
theorem inf27 : (Tryd.prog.info? 27).map (fun i => (i.zero, i.size, i.bytes)) = some (some (.nilFunc), 1, 8) := by kernel_rfl
theorem sz28 : (Tryd.prog.info? 28).map (·.size) = some 1 := by kernel_rfl
theorem co28 : Tryd.prog.cellsOf 28 = 1 := by kernel_rfl
theorem bo28 : Tryd.prog.bytesOf 28 = 8 := by kernel_rfl
theorem inf28 : (Tryd.prog.info? 28).map (fun i => (i.zero, i.size, i.bytes)) = some (some (.nilFunc), 1, 8) := by kernel_rfl
theorem sz29 : (Tryd.prog.info? 29).map (·.size) = some 1 := by kernel_rfl
theorem co29 : Tryd.prog.cellsOf 29 = 1 := by kernel_rfl
theorem bo29 : Tryd.prog.bytesOf 29 = 8 := by kernel_rfl
theorem inf29 : (Tryd.prog.info? 29).map (fun i => (i.zero, i.size, i.bytes)) = some (some (.nilFunc), 1, 8) := by kernel_rfl
theorem sz31 : (Tryd.prog.info? 31).map (·.size) = some 1 := by kernel_rfl
theorem co31 : Tryd.prog.cellsOf 31 = 1 := by kernel_rfl
theorem bo31 : Tryd.prog.bytesOf 31 = 8 := by kernel_rfl
theorem inf31 : (Tryd.prog.info? 31).map (fun i => (i.zero, i.size, i.bytes)) = some (some (.nilFunc), 1, 8) := by kernel_rfl
theorem sz32 : (Tryd.prog.info? 32).map (·.size) = some 1 := by kernel_rfl
theorem co32 : Tryd.prog.cellsOf 32 = 1 := by kernel_rfl
theorem bo32 : Tryd.prog.bytesOf 32 = 8 := by kernel_rfl
theorem inf32 : (Tryd.prog.info? 32).map (fun i => (i.zero, i.size, i.bytes)) = some (some (.nilFunc), 1, 8) := by kernel_rfl
theorem sz33 : (Tryd.prog.info? 33).map (·.size) = some 1 := by kernel_rfl
theorem co33 : Tryd.prog.cellsOf 33 = 1 := by kernel_rfl
theorem bo33 : Tryd.prog.bytesOf 33 = 8 := by kernel_rfl
theorem inf33 : (Tryd.prog.info? 33).map (fun i => (i.zero, i.size, i.bytes)) = some (some (.nilFunc), 1, 8) := by kernel_rfl
theorem sz34 : (Tryd.prog.info? 34).map (·.size) = some 1 := by kernel_rfl
theorem co34 : Tryd.prog.cellsOf 34 = 1 := by kernel_rfl
theorem bo34 : Tryd.prog.bytesOf 34 = 8 := by kernel_rfl
theorem inf34 : (Tryd.prog.info? 34).map (fun i => (i.zero, i.size, i.bytes)) = some (some (.nilFunc), 1, 8) := by kernel_rfl
theorem sz36 : (Tryd.prog.info? 36).map (·.size) = some 1 := by kernel_rfl
theorem co36 : Tryd.prog.cellsOf 36 = 1 := by kernel_rfl
theorem bo36 : Tryd.prog.bytesOf 36 = 8 := by kernel_rfl
theorem inf36 : (Tryd.prog.info? 36).map (fun i => (i.zero, i.size, i.bytes)) = some (some (.nilFunc), 1, 8) := by kernel_rfl
theorem sz37 : (Tryd.prog.info? 37).map (·.size) = some 1 := by kernel_rfl
theorem co37 : Tryd.prog.cellsOf 37 = 1 := by kernel_rfl
theorem bo37 : Tryd.prog.bytesOf 37 = 8 := by kernel_rfl
theorem inf37 : (Tryd.prog.info? 37).map (fun i => (i.zero, i.size, i.bytes)) = some (some (.nilFunc), 1, 8) := by kernel_rfl
theorem sz38 : (Tryd.prog.info? 38).map (·.size) = some 1 := by kernel_rfl
theorem co38 : Tryd.prog.cellsOf 38 = 1 := by kernel_rfl
theorem bo38 : Tryd.prog.bytesOf 38 = 8 := by kernel_rfl
theorem inf38 : (Tryd.prog.info? 38).map (fun i => (i.zero, i.size, i.bytes)) = some (some (.nilFunc), 1, 8) := by kernel_rfl
theorem sz39 : (Tryd.prog.info? 39).map (·.size) = some 1 := by kernel_rfl
theorem co39 : Tryd.prog.cellsOf 39 = 1 := by kernel_rfl
theorem bo39 : Tryd.prog.bytesOf 39 = 8 := by kernel_rfl
theorem inf39 : (Tryd.prog.info? 39).map (fun i => (i.zero, i.size, i.bytes)) = some (some (.nilFunc), 1, 8) := by kernel_rfl
theorem sz40 : (Tryd.prog.info? 40).map (·.size) = some 1 := by kernel_rfl
theorem co40 : Tryd.prog.cellsOf 40 = 1 := by kernel_rfl
theorem bo40 : Tryd.prog.bytesOf 40 = 24 := by kernel_rfl
theorem z40 : ∀ w, (zeroValue 40).run Tryd.prog w = .ok (.slice none 0 0) w := fun _ => by kernel_rfl
theorem inf40 : (Tryd.prog.info? 40).map (fun i => (i.zero, i.size, i.bytes)) = some (some (.slice none 0 0), 1, 24) := by kernel_rfl
theorem sz41 : (Tryd.prog.info? 41).map (·.size) = some 6 := by kernel_rfl
theorem co41 : Tryd.prog.cellsOf 41 = 6 := by kernel_rfl
theorem bo41 : Tryd.prog.bytesOf 41 = 80 := by kernel_rfl
theorem z41 : ∀ w, (zeroValue 41).run Tryd.prog w = .ok (.agg #[.int .i64 0, .slice none 0 0, .int .i64 0, .int .i64 0, .string ⟨#[]⟩, .string ⟨#[]⟩]) w := fun _ => by kernel_rfl
theorem inf41 : (Tryd.prog.info? 41).map (fun i => (i.zero, i.size, i.bytes)) = some (some (.agg #[.int .i64 0, .slice none 0 0, .int .i64 0, .int .i64 0, .string ⟨#[]⟩, .string ⟨#[]⟩]), 6, 80) := by kernel_rfl
theorem fa41_0 : ∀ a w, (Instr.fieldAt 41 (.pointer (some a)) 0).run Tryd.prog w = .ok (.pointer (some (a.add 0))) w := run_field (b := 1) Tryd.underlying41 rfl rfl (by kernel_rfl) (by decide)
theorem fa41_1 : ∀ a w, (Instr.fieldAt 41 (.pointer (some a)) 1).run Tryd.prog w = .ok (.pointer (some (a.add 1))) w := run_field (b := 1) Tryd.underlying41 rfl rfl (by kernel_rfl) (by decide)
theorem fa41_2 : ∀ a w, (Instr.fieldAt 41 (.pointer (some a)) 2).run Tryd.prog w = .ok (.pointer (some (a.add 2))) w := run_field (b := 1) Tryd.underlying41 rfl rfl (by kernel_rfl) (by decide)
theorem fa41_3 : ∀ a w, (Instr.fieldAt 41 (.pointer (some a)) 3).run Tryd.prog w = .ok (.pointer (some (a.add 3))) w := run_field (b := 1) Tryd.underlying41 rfl rfl (by kernel_rfl) (by decide)
theorem fa41_4 : ∀ a w, (Instr.fieldAt 41 (.pointer (some a)) 4).run Tryd.prog w = .ok (.pointer (some (a.add 4))) w := run_field (b := 1) Tryd.underlying41 rfl rfl (by kernel_rfl) (by decide)
theorem fa41_5 : ∀ a w, (Instr.fieldAt 41 (.pointer (some a)) 5).run Tryd.prog w = .ok (.pointer (some (a.add 5))) w := run_field (b := 1) Tryd.underlying41 rfl rfl (by kernel_rfl) (by decide)
theorem sz42 : (Tryd.prog.info? 42).map (·.size) = some 6 := by kernel_rfl
theorem co42 : Tryd.prog.cellsOf 42 = 6 := by kernel_rfl
theorem bo42 : Tryd.prog.bytesOf 42 = 80 := by kernel_rfl
theorem z42 : ∀ w, (zeroValue 42).run Tryd.prog w = .ok (.agg #[.int .i64 0, .slice none 0 0, .int .i64 0, .int .i64 0, .string ⟨#[]⟩, .string ⟨#[]⟩]) w := fun _ => by kernel_rfl
theorem inf42 : (Tryd.prog.info? 42).map (fun i => (i.zero, i.size, i.bytes)) = some (some (.agg #[.int .i64 0, .slice none 0 0, .int .i64 0, .int .i64 0, .string ⟨#[]⟩, .string ⟨#[]⟩]), 6, 80) := by kernel_rfl
theorem fa42_0 : ∀ a w, (Instr.fieldAt 42 (.pointer (some a)) 0).run Tryd.prog w = .ok (.pointer (some (a.add 0))) w := run_field (b := 1) Tryd.underlying42 rfl rfl (by kernel_rfl) (by decide)
theorem fa42_1 : ∀ a w, (Instr.fieldAt 42 (.pointer (some a)) 1).run Tryd.prog w = .ok (.pointer (some (a.add 1))) w := run_field (b := 1) Tryd.underlying42 rfl rfl (by kernel_rfl) (by decide)
theorem fa42_2 : ∀ a w, (Instr.fieldAt 42 (.pointer (some a)) 2).run Tryd.prog w = .ok (.pointer (some (a.add 2))) w := run_field (b := 1) Tryd.underlying42 rfl rfl (by kernel_rfl) (by decide)
theorem fa42_3 : ∀ a w, (Instr.fieldAt 42 (.pointer (some a)) 3).run Tryd.prog w = .ok (.pointer (some (a.add 3))) w := run_field (b := 1) Tryd.underlying42 rfl rfl (by kernel_rfl) (by decide)
theorem fa42_4 : ∀ a w, (Instr.fieldAt 42 (.pointer (some a)) 4).run Tryd.prog w = .ok (.pointer (some (a.add 4))) w := run_field (b := 1) Tryd.underlying42 rfl rfl (by kernel_rfl) (by decide)
theorem fa42_5 : ∀ a w, (Instr.fieldAt 42 (.pointer (some a)) 5).run Tryd.prog w = .ok (.pointer (some (a.add 5))) w := run_field (b := 1) Tryd.underlying42 rfl rfl (by kernel_rfl) (by decide)
theorem sz43 : (Tryd.prog.info? 43).map (·.size) = some 1 := by kernel_rfl
theorem co43 : Tryd.prog.cellsOf 43 = 1 := by kernel_rfl
theorem bo43 : Tryd.prog.bytesOf 43 = 24 := by kernel_rfl
theorem z43 : ∀ w, (zeroValue 43).run Tryd.prog w = .ok (.slice none 0 0) w := fun _ => by kernel_rfl
theorem inf43 : (Tryd.prog.info? 43).map (fun i => (i.zero, i.size, i.bytes)) = some (some (.slice none 0 0), 1, 24) := by kernel_rfl
theorem sz44 : (Tryd.prog.info? 44).map (·.size) = some 1 := by kernel_rfl
theorem co44 : Tryd.prog.cellsOf 44 = 1 := by kernel_rfl
theorem bo44 : Tryd.prog.bytesOf 44 = 8 := by kernel_rfl
theorem inf44 : (Tryd.prog.info? 44).map (fun i => (i.zero, i.size, i.bytes)) = some (some (.nilFunc), 1, 8) := by kernel_rfl
theorem sz46 : (Tryd.prog.info? 46).map (·.size) = some 1 := by kernel_rfl
theorem co46 : Tryd.prog.cellsOf 46 = 1 := by kernel_rfl
theorem bo46 : Tryd.prog.bytesOf 46 = 8 := by kernel_rfl
theorem inf46 : (Tryd.prog.info? 46).map (fun i => (i.zero, i.size, i.bytes)) = some (some (.nilFunc), 1, 8) := by kernel_rfl
theorem sz47 : (Tryd.prog.info? 47).map (·.size) = some 1 := by kernel_rfl
theorem co47 : Tryd.prog.cellsOf 47 = 1 := by kernel_rfl
theorem bo47 : Tryd.prog.bytesOf 47 = 8 := by kernel_rfl
theorem inf47 : (Tryd.prog.info? 47).map (fun i => (i.zero, i.size, i.bytes)) = some (some (.nilFunc), 1, 8) := by kernel_rfl
theorem sz48 : (Tryd.prog.info? 48).map (·.size) = some 1 := by kernel_rfl
theorem co48 : Tryd.prog.cellsOf 48 = 1 := by kernel_rfl
theorem bo48 : Tryd.prog.bytesOf 48 = 24 := by kernel_rfl
theorem z48 : ∀ w, (zeroValue 48).run Tryd.prog w = .ok (.slice none 0 0) w := fun _ => by kernel_rfl
theorem inf48 : (Tryd.prog.info? 48).map (fun i => (i.zero, i.size, i.bytes)) = some (some (.slice none 0 0), 1, 24) := by kernel_rfl
theorem sz49 : (Tryd.prog.info? 49).map (·.size) = some 1 := by kernel_rfl
theorem co49 : Tryd.prog.cellsOf 49 = 1 := by kernel_rfl
theorem bo49 : Tryd.prog.bytesOf 49 = 24 := by kernel_rfl
theorem z49 : ∀ w, (zeroValue 49).run Tryd.prog w = .ok (.slice none 0 0) w := fun _ => by kernel_rfl
theorem inf49 : (Tryd.prog.info? 49).map (fun i => (i.zero, i.size, i.bytes)) = some (some (.slice none 0 0), 1, 24) := by kernel_rfl
theorem sz50 : (Tryd.prog.info? 50).map (·.size) = some 1 := by kernel_rfl
theorem co50 : Tryd.prog.cellsOf 50 = 1 := by kernel_rfl
theorem bo50 : Tryd.prog.bytesOf 50 = 24 := by kernel_rfl
theorem z50 : ∀ w, (zeroValue 50).run Tryd.prog w = .ok (.slice none 0 0) w := fun _ => by kernel_rfl
theorem inf50 : (Tryd.prog.info? 50).map (fun i => (i.zero, i.size, i.bytes)) = some (some (.slice none 0 0), 1, 24) := by kernel_rfl
theorem sz51 : (Tryd.prog.info? 51).map (·.size) = some 9 := by kernel_rfl
theorem co51 : Tryd.prog.cellsOf 51 = 9 := by kernel_rfl
theorem bo51 : Tryd.prog.bytesOf 51 = 144 := by kernel_rfl
theorem z51 : ∀ w, (zeroValue 51).run Tryd.prog w = .ok (.agg #[.string ⟨#[]⟩, .int .i64 0, .int .i64 0, .slice none 0 0, .slice none 0 0, .slice none 0 0, .string ⟨#[]⟩, .string ⟨#[]⟩, .int .i64 0]) w := fun _ => by kernel_rfl
theorem inf51 : (Tryd.prog.info? 51).map (fun i => (i.zero, i.size, i.bytes)) = some (some (.agg #[.string ⟨#[]⟩, .int .i64 0, .int .i64 0, .slice none 0 0, .slice none 0 0, .slice none 0 0, .string ⟨#[]⟩, .string ⟨#[]⟩, .int .i64 0]), 9, 144) := by kernel_rfl
theorem fa51_0 : ∀ a w, (Instr.fieldAt 51 (.pointer (some a)) 0).run Tryd.prog w = .ok (.pointer (some (a.add 0))) w := run_field (b := 1) Tryd.underlying51 rfl rfl (by kernel_rfl) (by decide)
theorem fa51_1 : ∀ a w, (Instr.fieldAt 51 (.pointer (some a)) 1).run Tryd.prog w = .ok (.pointer (some (a.add 1))) w := run_field (b := 1) Tryd.underlying51 rfl rfl (by kernel_rfl) (by decide)
theorem fa51_2 : ∀ a w, (Instr.fieldAt 51 (.pointer (some a)) 2).run Tryd.prog w = .ok (.pointer (some (a.add 2))) w := run_field (b := 1) Tryd.underlying51 rfl rfl (by kernel_rfl) (by decide)
theorem fa51_3 : ∀ a w, (Instr.fieldAt 51 (.pointer (some a)) 3).run Tryd.prog w = .ok (.pointer (some (a.add 3))) w := run_field (b := 1) Tryd.underlying51 rfl rfl (by kernel_rfl) (by decide)
theorem fa51_4 : ∀ a w, (Instr.fieldAt 51 (.pointer (some a)) 4).run Tryd.prog w = .ok (.pointer (some (a.add 4))) w := run_field (b := 1) Tryd.underlying51 rfl rfl (by kernel_rfl) (by decide)
theorem fa51_5 : ∀ a w, (Instr.fieldAt 51 (.pointer (some a)) 5).run Tryd.prog w = .ok (.pointer (some (a.add 5))) w := run_field (b := 1) Tryd.underlying51 rfl rfl (by kernel_rfl) (by decide)
theorem fa51_6 : ∀ a w, (Instr.fieldAt 51 (.pointer (some a)) 6).run Tryd.prog w = .ok (.pointer (some (a.add 6))) w := run_field (b := 1) Tryd.underlying51 rfl rfl (by kernel_rfl) (by decide)
theorem fa51_7 : ∀ a w, (Instr.fieldAt 51 (.pointer (some a)) 7).run Tryd.prog w = .ok (.pointer (some (a.add 7))) w := run_field (b := 1) Tryd.underlying51 rfl rfl (by kernel_rfl) (by decide)
theorem fa51_8 : ∀ a w, (Instr.fieldAt 51 (.pointer (some a)) 8).run Tryd.prog w = .ok (.pointer (some (a.add 8))) w := run_field (b := 1) Tryd.underlying51 rfl rfl (by kernel_rfl) (by decide)
theorem sz52 : (Tryd.prog.info? 52).map (·.size) = some 9 := by kernel_rfl
theorem co52 : Tryd.prog.cellsOf 52 = 9 := by kernel_rfl
theorem bo52 : Tryd.prog.bytesOf 52 = 144 := by kernel_rfl
theorem z52 : ∀ w, (zeroValue 52).run Tryd.prog w = .ok (.agg #[.string ⟨#[]⟩, .int .i64 0, .int .i64 0, .slice none 0 0, .slice none 0 0, .slice none 0 0, .string ⟨#[]⟩, .string ⟨#[]⟩, .int .i64 0]) w := fun _ => by kernel_rfl
theorem inf52 : (Tryd.prog.info? 52).map (fun i => (i.zero, i.size, i.bytes)) = some (some (.agg #[.string ⟨#[]⟩, .int .i64 0, .int .i64 0, .slice none 0 0, .slice none 0 0, .slice none 0 0, .string ⟨#[]⟩, .string ⟨#[]⟩, .int .i64 0]), 9, 144) := by kernel_rfl
theorem fa52_0 : ∀ a w, (Instr.fieldAt 52 (.pointer (some a)) 0).run Tryd.prog w = .ok (.pointer (some (a.add 0))) w := run_field (b := 1) Tryd.underlying52 rfl rfl (by kernel_rfl) (by decide)
theorem fa52_1 : ∀ a w, (Instr.fieldAt 52 (.pointer (some a)) 1).run Tryd.prog w = .ok (.pointer (some (a.add 1))) w := run_field (b := 1) Tryd.underlying52 rfl rfl (by kernel_rfl) (by decide)
theorem fa52_2 : ∀ a w, (Instr.fieldAt 52 (.pointer (some a)) 2).run Tryd.prog w = .ok (.pointer (some (a.add 2))) w := run_field (b := 1) Tryd.underlying52 rfl rfl (by kernel_rfl) (by decide)
theorem fa52_3 : ∀ a w, (Instr.fieldAt 52 (.pointer (some a)) 3).run Tryd.prog w = .ok (.pointer (some (a.add 3))) w := run_field (b := 1) Tryd.underlying52 rfl rfl (by kernel_rfl) (by decide)
theorem fa52_4 : ∀ a w, (Instr.fieldAt 52 (.pointer (some a)) 4).run Tryd.prog w = .ok (.pointer (some (a.add 4))) w := run_field (b := 1) Tryd.underlying52 rfl rfl (by kernel_rfl) (by decide)
theorem fa52_5 : ∀ a w, (Instr.fieldAt 52 (.pointer (some a)) 5).run Tryd.prog w = .ok (.pointer (some (a.add 5))) w := run_field (b := 1) Tryd.underlying52 rfl rfl (by kernel_rfl) (by decide)
theorem fa52_6 : ∀ a w, (Instr.fieldAt 52 (.pointer (some a)) 6).run Tryd.prog w = .ok (.pointer (some (a.add 6))) w := run_field (b := 1) Tryd.underlying52 rfl rfl (by kernel_rfl) (by decide)
theorem fa52_7 : ∀ a w, (Instr.fieldAt 52 (.pointer (some a)) 7).run Tryd.prog w = .ok (.pointer (some (a.add 7))) w := run_field (b := 1) Tryd.underlying52 rfl rfl (by kernel_rfl) (by decide)
theorem fa52_8 : ∀ a w, (Instr.fieldAt 52 (.pointer (some a)) 8).run Tryd.prog w = .ok (.pointer (some (a.add 8))) w := run_field (b := 1) Tryd.underlying52 rfl rfl (by kernel_rfl) (by decide)
theorem sz54 : (Tryd.prog.info? 54).map (·.size) = some 1 := by kernel_rfl
theorem co54 : Tryd.prog.cellsOf 54 = 1 := by kernel_rfl
theorem bo54 : Tryd.prog.bytesOf 54 = 8 := by kernel_rfl
theorem inf54 : (Tryd.prog.info? 54).map (fun i => (i.zero, i.size, i.bytes)) = some (some (.nilFunc), 1, 8) := by kernel_rfl
theorem sz55 : (Tryd.prog.info? 55).map (·.size) = some 1 := by kernel_rfl
theorem co55 : Tryd.prog.cellsOf 55 = 1 := by kernel_rfl
theorem bo55 : Tryd.prog.bytesOf 55 = 8 := by kernel_rfl
theorem inf55 : (Tryd.prog.info? 55).map (fun i => (i.zero, i.size, i.bytes)) = some (some (.nilFunc), 1, 8) := by kernel_rfl
theorem sz57 : (Tryd.prog.info? 57).map (·.size) = some 1 := by kernel_rfl
theorem co57 : Tryd.prog.cellsOf 57 = 1 := by kernel_rfl
theorem bo57 : Tryd.prog.bytesOf 57 = 8 := by kernel_rfl
theorem inf57 : (Tryd.prog.info? 57).map (fun i => (i.zero, i.size, i.bytes)) = some (some (.nilFunc), 1, 8) := by kernel_rfl
theorem sz58 : (Tryd.prog.info? 58).map (·.size) = some 1 := by kernel_rfl
theorem co58 : Tryd.prog.cellsOf 58 = 1 := by kernel_rfl
theorem bo58 : Tryd.prog.bytesOf 58 = 8 := by kernel_rfl
theorem inf58 : (Tryd.prog.info? 58).map (fun i => (i.zero, i.size, i.bytes)) = some (some (.nilFunc), 1, 8) := by kernel_rfl
theorem sz59 : (Tryd.prog.info? 59).map (·.size) = some 1 := by kernel_rfl
theorem co59 : Tryd.prog.cellsOf 59 = 1 := by kernel_rfl
theorem bo59 : Tryd.prog.bytesOf 59 = 8 := by kernel_rfl
theorem inf59 : (Tryd.prog.info? 59).map (fun i => (i.zero, i.size, i.bytes)) = some (some (.nilFunc), 1, 8) := by kernel_rfl
theorem sz60 : (Tryd.prog.info? 60).map (·.size) = some 1 := by kernel_rfl
theorem co60 : Tryd.prog.cellsOf 60 = 1 := by kernel_rfl
theorem bo60 : Tryd.prog.bytesOf 60 = 8 := by kernel_rfl
theorem inf60 : (Tryd.prog.info? 60).map (fun i => (i.zero, i.size, i.bytes)) = some (some (.nilFunc), 1, 8) := by kernel_rfl
theorem sz61 : (Tryd.prog.info? 61).map (·.size) = some 1 := by kernel_rfl
theorem co61 : Tryd.prog.cellsOf 61 = 1 := by kernel_rfl
theorem bo61 : Tryd.prog.bytesOf 61 = 8 := by kernel_rfl
theorem inf61 : (Tryd.prog.info? 61).map (fun i => (i.zero, i.size, i.bytes)) = some (some (.nilFunc), 1, 8) := by kernel_rfl
theorem sz62 : (Tryd.prog.info? 62).map (·.size) = some 1 := by kernel_rfl
theorem co62 : Tryd.prog.cellsOf 62 = 1 := by kernel_rfl
theorem bo62 : Tryd.prog.bytesOf 62 = 8 := by kernel_rfl
theorem inf62 : (Tryd.prog.info? 62).map (fun i => (i.zero, i.size, i.bytes)) = some (some (.nilFunc), 1, 8) := by kernel_rfl
theorem sz63 : (Tryd.prog.info? 63).map (·.size) = some 4 := by kernel_rfl
theorem co63 : Tryd.prog.cellsOf 63 = 4 := by kernel_rfl
theorem bo63 : Tryd.prog.bytesOf 63 = 32 := by kernel_rfl
theorem z63 : ∀ w, (zeroValue 63).run Tryd.prog w = .ok (.agg #[.int .i64 0, .int .i64 0, .int .i64 0, .int .i64 0]) w := fun _ => by kernel_rfl
theorem inf63 : (Tryd.prog.info? 63).map (fun i => (i.zero, i.size, i.bytes)) = some (some (.agg #[.int .i64 0, .int .i64 0, .int .i64 0, .int .i64 0]), 4, 32) := by kernel_rfl
theorem fa63_0 : ∀ a w, (Instr.fieldAt 63 (.pointer (some a)) 0).run Tryd.prog w = .ok (.pointer (some (a.add 0))) w := run_field (b := 1) Tryd.underlying63 rfl rfl (by kernel_rfl) (by decide)
theorem fa63_1 : ∀ a w, (Instr.fieldAt 63 (.pointer (some a)) 1).run Tryd.prog w = .ok (.pointer (some (a.add 1))) w := run_field (b := 1) Tryd.underlying63 rfl rfl (by kernel_rfl) (by decide)
theorem fa63_2 : ∀ a w, (Instr.fieldAt 63 (.pointer (some a)) 2).run Tryd.prog w = .ok (.pointer (some (a.add 2))) w := run_field (b := 1) Tryd.underlying63 rfl rfl (by kernel_rfl) (by decide)
theorem fa63_3 : ∀ a w, (Instr.fieldAt 63 (.pointer (some a)) 3).run Tryd.prog w = .ok (.pointer (some (a.add 3))) w := run_field (b := 1) Tryd.underlying63 rfl rfl (by kernel_rfl) (by decide)
theorem sz64 : (Tryd.prog.info? 64).map (·.size) = some 4 := by kernel_rfl
theorem co64 : Tryd.prog.cellsOf 64 = 4 := by kernel_rfl
theorem bo64 : Tryd.prog.bytesOf 64 = 32 := by kernel_rfl
theorem z64 : ∀ w, (zeroValue 64).run Tryd.prog w = .ok (.agg #[.int .i64 0, .int .i64 0, .int .i64 0, .int .i64 0]) w := fun _ => by kernel_rfl
theorem inf64 : (Tryd.prog.info? 64).map (fun i => (i.zero, i.size, i.bytes)) = some (some (.agg #[.int .i64 0, .int .i64 0, .int .i64 0, .int .i64 0]), 4, 32) := by kernel_rfl
theorem fa64_0 : ∀ a w, (Instr.fieldAt 64 (.pointer (some a)) 0).run Tryd.prog w = .ok (.pointer (some (a.add 0))) w := run_field (b := 1) Tryd.underlying64 rfl rfl (by kernel_rfl) (by decide)
theorem fa64_1 : ∀ a w, (Instr.fieldAt 64 (.pointer (some a)) 1).run Tryd.prog w = .ok (.pointer (some (a.add 1))) w := run_field (b := 1) Tryd.underlying64 rfl rfl (by kernel_rfl) (by decide)
theorem fa64_2 : ∀ a w, (Instr.fieldAt 64 (.pointer (some a)) 2).run Tryd.prog w = .ok (.pointer (some (a.add 2))) w := run_field (b := 1) Tryd.underlying64 rfl rfl (by kernel_rfl) (by decide)
theorem fa64_3 : ∀ a w, (Instr.fieldAt 64 (.pointer (some a)) 3).run Tryd.prog w = .ok (.pointer (some (a.add 3))) w := run_field (b := 1) Tryd.underlying64 rfl rfl (by kernel_rfl) (by decide)
theorem sz66 : (Tryd.prog.info? 66).map (·.size) = some 1 := by kernel_rfl
theorem co66 : Tryd.prog.cellsOf 66 = 1 := by kernel_rfl
theorem bo66 : Tryd.prog.bytesOf 66 = 8 := by kernel_rfl
theorem inf66 : (Tryd.prog.info? 66).map (fun i => (i.zero, i.size, i.bytes)) = some (some (.nilFunc), 1, 8) := by kernel_rfl
theorem sz67 : (Tryd.prog.info? 67).map (·.size) = some 1 := by kernel_rfl
theorem co67 : Tryd.prog.cellsOf 67 = 1 := by kernel_rfl
theorem bo67 : Tryd.prog.bytesOf 67 = 8 := by kernel_rfl
theorem inf67 : (Tryd.prog.info? 67).map (fun i => (i.zero, i.size, i.bytes)) = some (some (.nilFunc), 1, 8) := by kernel_rfl
theorem sz68 : (Tryd.prog.info? 68).map (·.size) = some 1 := by kernel_rfl
theorem co68 : Tryd.prog.cellsOf 68 = 1 := by kernel_rfl
theorem bo68 : Tryd.prog.bytesOf 68 = 24 := by kernel_rfl
theorem z68 : ∀ w, (zeroValue 68).run Tryd.prog w = .ok (.slice none 0 0) w := fun _ => by kernel_rfl
theorem inf68 : (Tryd.prog.info? 68).map (fun i => (i.zero, i.size, i.bytes)) = some (some (.slice none 0 0), 1, 24) := by kernel_rfl
theorem sz69 : (Tryd.prog.info? 69).map (·.size) = some 3 := by kernel_rfl
theorem co69 : Tryd.prog.cellsOf 69 = 3 := by kernel_rfl
theorem bo69 : Tryd.prog.bytesOf 69 = 56 := by kernel_rfl
theorem z69 : ∀ w, (zeroValue 69).run Tryd.prog w = .ok (.agg #[.string ⟨#[]⟩, .string ⟨#[]⟩, .slice none 0 0]) w := fun _ => by kernel_rfl
theorem inf69 : (Tryd.prog.info? 69).map (fun i => (i.zero, i.size, i.bytes)) = some (some (.agg #[.string ⟨#[]⟩, .string ⟨#[]⟩, .slice none 0 0]), 3, 56) := by kernel_rfl
theorem fa69_0 : ∀ a w, (Instr.fieldAt 69 (.pointer (some a)) 0).run Tryd.prog w = .ok (.pointer (some (a.add 0))) w := run_field (b := 1) Tryd.underlying69 rfl rfl (by kernel_rfl) (by decide)
theorem fa69_1 : ∀ a w, (Instr.fieldAt 69 (.pointer (some a)) 1).run Tryd.prog w = .ok (.pointer (some (a.add 1))) w := run_field (b := 1) Tryd.underlying69 rfl rfl (by kernel_rfl) (by decide)
theorem fa69_2 : ∀ a w, (Instr.fieldAt 69 (.pointer (some a)) 2).run Tryd.prog w = .ok (.pointer (some (a.add 2))) w := run_field (b := 1) Tryd.underlying69 rfl rfl (by kernel_rfl) (by decide)
theorem sz70 : (Tryd.prog.info? 70).map (·.size) = some 3 := by kernel_rfl
theorem co70 : Tryd.prog.cellsOf 70 = 3 := by kernel_rfl
theorem bo70 : Tryd.prog.bytesOf 70 = 56 := by kernel_rfl
theorem z70 : ∀ w, (zeroValue 70).run Tryd.prog w = .ok (.agg #[.string ⟨#[]⟩, .string ⟨#[]⟩, .slice none 0 0]) w := fun _ => by kernel_rfl
theorem inf70 : (Tryd.prog.info? 70).map (fun i => (i.zero, i.size, i.bytes)) = some (some (.agg #[.string ⟨#[]⟩, .string ⟨#[]⟩, .slice none 0 0]), 3, 56) := by kernel_rfl
theorem fa70_0 : ∀ a w, (Instr.fieldAt 70 (.pointer (some a)) 0).run Tryd.prog w = .ok (.pointer (some (a.add 0))) w := run_field (b := 1) Tryd.underlying70 rfl rfl (by kernel_rfl) (by decide)
theorem fa70_1 : ∀ a w, (Instr.fieldAt 70 (.pointer (some a)) 1).run Tryd.prog w = .ok (.pointer (some (a.add 1))) w := run_field (b := 1) Tryd.underlying70 rfl rfl (by kernel_rfl) (by decide)
theorem fa70_2 : ∀ a w, (Instr.fieldAt 70 (.pointer (some a)) 2).run Tryd.prog w = .ok (.pointer (some (a.add 2))) w := run_field (b := 1) Tryd.underlying70 rfl rfl (by kernel_rfl) (by decide)
theorem sz71 : (Tryd.prog.info? 71).map (·.size) = some 1 := by kernel_rfl
theorem co71 : Tryd.prog.cellsOf 71 = 1 := by kernel_rfl
theorem bo71 : Tryd.prog.bytesOf 71 = 8 := by kernel_rfl
theorem inf71 : (Tryd.prog.info? 71).map (fun i => (i.zero, i.size, i.bytes)) = some (some (.nilFunc), 1, 8) := by kernel_rfl
theorem sz72 : (Tryd.prog.info? 72).map (·.size) = some 1 := by kernel_rfl
theorem co72 : Tryd.prog.cellsOf 72 = 1 := by kernel_rfl
theorem bo72 : Tryd.prog.bytesOf 72 = 8 := by kernel_rfl
theorem inf72 : (Tryd.prog.info? 72).map (fun i => (i.zero, i.size, i.bytes)) = some (some (.nilFunc), 1, 8) := by kernel_rfl
theorem sz73 : (Tryd.prog.info? 73).map (·.size) = some 1 := by kernel_rfl
theorem co73 : Tryd.prog.cellsOf 73 = 1 := by kernel_rfl
theorem bo73 : Tryd.prog.bytesOf 73 = 8 := by kernel_rfl
theorem inf73 : (Tryd.prog.info? 73).map (fun i => (i.zero, i.size, i.bytes)) = some (some (.nilFunc), 1, 8) := by kernel_rfl
theorem sz75 : (Tryd.prog.info? 75).map (·.size) = some 1 := by kernel_rfl
theorem co75 : Tryd.prog.cellsOf 75 = 1 := by kernel_rfl
theorem bo75 : Tryd.prog.bytesOf 75 = 8 := by kernel_rfl
theorem inf75 : (Tryd.prog.info? 75).map (fun i => (i.zero, i.size, i.bytes)) = some (some (.nilFunc), 1, 8) := by kernel_rfl
theorem sz76 : (Tryd.prog.info? 76).map (·.size) = some 1 := by kernel_rfl
theorem co76 : Tryd.prog.cellsOf 76 = 1 := by kernel_rfl
theorem bo76 : Tryd.prog.bytesOf 76 = 8 := by kernel_rfl
theorem inf76 : (Tryd.prog.info? 76).map (fun i => (i.zero, i.size, i.bytes)) = some (some (.nilFunc), 1, 8) := by kernel_rfl
theorem sz77 : (Tryd.prog.info? 77).map (·.size) = some 3 := by kernel_rfl
theorem co77 : Tryd.prog.cellsOf 77 = 3 := by kernel_rfl
theorem bo77 : Tryd.prog.bytesOf 77 = 40 := by kernel_rfl
theorem z77 : ∀ w, (zeroValue 77).run Tryd.prog w = .ok (.agg #[.int .i64 0, .string ⟨#[]⟩, .string ⟨#[]⟩]) w := fun _ => by kernel_rfl
theorem inf77 : (Tryd.prog.info? 77).map (fun i => (i.zero, i.size, i.bytes)) = some (some (.agg #[.int .i64 0, .string ⟨#[]⟩, .string ⟨#[]⟩]), 3, 40) := by kernel_rfl
theorem fa77_0 : ∀ a w, (Instr.fieldAt 77 (.pointer (some a)) 0).run Tryd.prog w = .ok (.pointer (some (a.add 0))) w := run_field (b := 1) Tryd.underlying77 rfl rfl (by kernel_rfl) (by decide)
theorem fa77_1 : ∀ a w, (Instr.fieldAt 77 (.pointer (some a)) 1).run Tryd.prog w = .ok (.pointer (some (a.add 1))) w := run_field (b := 1) Tryd.underlying77 rfl rfl (by kernel_rfl) (by decide)
theorem fa77_2 : ∀ a w, (Instr.fieldAt 77 (.pointer (some a)) 2).run Tryd.prog w = .ok (.pointer (some (a.add 2))) w := run_field (b := 1) Tryd.underlying77 rfl rfl (by kernel_rfl) (by decide)
theorem sz78 : (Tryd.prog.info? 78).map (·.size) = some 3 := by kernel_rfl
theorem co78 : Tryd.prog.cellsOf 78 = 3 := by kernel_rfl
theorem bo78 : Tryd.prog.bytesOf 78 = 40 := by kernel_rfl
theorem z78 : ∀ w, (zeroValue 78).run Tryd.prog w = .ok (.agg #[.int .i64 0, .string ⟨#[]⟩, .string ⟨#[]⟩]) w := fun _ => by kernel_rfl
theorem inf78 : (Tryd.prog.info? 78).map (fun i => (i.zero, i.size, i.bytes)) = some (some (.agg #[.int .i64 0, .string ⟨#[]⟩, .string ⟨#[]⟩]), 3, 40) := by kernel_rfl
theorem fa78_0 : ∀ a w, (Instr.fieldAt 78 (.pointer (some a)) 0).run Tryd.prog w = .ok (.pointer (some (a.add 0))) w := run_field (b := 1) Tryd.underlying78 rfl rfl (by kernel_rfl) (by decide)
theorem fa78_1 : ∀ a w, (Instr.fieldAt 78 (.pointer (some a)) 1).run Tryd.prog w = .ok (.pointer (some (a.add 1))) w := run_field (b := 1) Tryd.underlying78 rfl rfl (by kernel_rfl) (by decide)
theorem fa78_2 : ∀ a w, (Instr.fieldAt 78 (.pointer (some a)) 2).run Tryd.prog w = .ok (.pointer (some (a.add 2))) w := run_field (b := 1) Tryd.underlying78 rfl rfl (by kernel_rfl) (by decide)
theorem sz79 : (Tryd.prog.info? 79).map (·.size) = some 1 := by kernel_rfl
theorem co79 : Tryd.prog.cellsOf 79 = 1 := by kernel_rfl
theorem bo79 : Tryd.prog.bytesOf 79 = 8 := by kernel_rfl
theorem inf79 : (Tryd.prog.info? 79).map (fun i => (i.zero, i.size, i.bytes)) = some (some (.nilFunc), 1, 8) := by kernel_rfl
theorem sz80 : (Tryd.prog.info? 80).map (·.size) = some 1 := by kernel_rfl
theorem co80 : Tryd.prog.cellsOf 80 = 1 := by kernel_rfl
theorem bo80 : Tryd.prog.bytesOf 80 = 8 := by kernel_rfl
theorem inf80 : (Tryd.prog.info? 80).map (fun i => (i.zero, i.size, i.bytes)) = some (some (.nilFunc), 1, 8) := by kernel_rfl
theorem sz81 : (Tryd.prog.info? 81).map (·.size) = some 1 := by kernel_rfl
theorem co81 : Tryd.prog.cellsOf 81 = 1 := by kernel_rfl
theorem bo81 : Tryd.prog.bytesOf 81 = 8 := by kernel_rfl
theorem inf81 : (Tryd.prog.info? 81).map (fun i => (i.zero, i.size, i.bytes)) = some (some (.nilFunc), 1, 8) := by kernel_rfl
theorem sz82 : (Tryd.prog.info? 82).map (·.size) = some 1 := by kernel_rfl
theorem co82 : Tryd.prog.cellsOf 82 = 1 := by kernel_rfl
theorem bo82 : Tryd.prog.bytesOf 82 = 8 := by kernel_rfl
theorem inf82 : (Tryd.prog.info? 82).map (fun i => (i.zero, i.size, i.bytes)) = some (some (.nilFunc), 1, 8) := by kernel_rfl
theorem sz83 : (Tryd.prog.info? 83).map (·.size) = some 1 := by kernel_rfl
theorem co83 : Tryd.prog.cellsOf 83 = 1 := by kernel_rfl
theorem bo83 : Tryd.prog.bytesOf 83 = 8 := by kernel_rfl
theorem inf83 : (Tryd.prog.info? 83).map (fun i => (i.zero, i.size, i.bytes)) = some (some (.nilFunc), 1, 8) := by kernel_rfl
theorem sz84 : (Tryd.prog.info? 84).map (·.size) = some 1 := by kernel_rfl
theorem co84 : Tryd.prog.cellsOf 84 = 1 := by kernel_rfl
theorem bo84 : Tryd.prog.bytesOf 84 = 8 := by kernel_rfl
theorem inf84 : (Tryd.prog.info? 84).map (fun i => (i.zero, i.size, i.bytes)) = some (some (.nilFunc), 1, 8) := by kernel_rfl
theorem sz85 : (Tryd.prog.info? 85).map (·.size) = some 1 := by kernel_rfl
theorem co85 : Tryd.prog.cellsOf 85 = 1 := by kernel_rfl
theorem bo85 : Tryd.prog.bytesOf 85 = 8 := by kernel_rfl
theorem inf85 : (Tryd.prog.info? 85).map (fun i => (i.zero, i.size, i.bytes)) = some (some (.nilFunc), 1, 8) := by kernel_rfl
theorem sz86 : (Tryd.prog.info? 86).map (·.size) = some 1 := by kernel_rfl
theorem co86 : Tryd.prog.cellsOf 86 = 1 := by kernel_rfl
theorem bo86 : Tryd.prog.bytesOf 86 = 8 := by kernel_rfl
theorem inf86 : (Tryd.prog.info? 86).map (fun i => (i.zero, i.size, i.bytes)) = some (some (.nilFunc), 1, 8) := by kernel_rfl
theorem sz87 : (Tryd.prog.info? 87).map (·.size) = some 1 := by kernel_rfl
theorem co87 : Tryd.prog.cellsOf 87 = 1 := by kernel_rfl
theorem bo87 : Tryd.prog.bytesOf 87 = 8 := by kernel_rfl
theorem inf87 : (Tryd.prog.info? 87).map (fun i => (i.zero, i.size, i.bytes)) = some (some (.nilFunc), 1, 8) := by kernel_rfl
theorem sz88 : (Tryd.prog.info? 88).map (·.size) = some 2 := by kernel_rfl
theorem co88 : Tryd.prog.cellsOf 88 = 2 := by kernel_rfl
theorem bo88 : Tryd.prog.bytesOf 88 = 40 := by kernel_rfl
theorem z88 : ∀ w, (zeroValue 88).run Tryd.prog w = .ok (.agg #[.string ⟨#[]⟩, .slice none 0 0]) w := fun _ => by kernel_rfl
theorem inf88 : (Tryd.prog.info? 88).map (fun i => (i.zero, i.size, i.bytes)) = some (some (.agg #[.string ⟨#[]⟩, .slice none 0 0]), 2, 40) := by kernel_rfl
theorem fa88_0 : ∀ a w, (Instr.fieldAt 88 (.pointer (some a)) 0).run Tryd.prog w = .ok (.pointer (some (a.add 0))) w := run_field (b := 1) Tryd.underlying88 rfl rfl (by kernel_rfl) (by decide)
theorem fa88_1 : ∀ a w, (Instr.fieldAt 88 (.pointer (some a)) 1).run Tryd.prog w = .ok (.pointer (some (a.add 1))) w := run_field (b := 1) Tryd.underlying88 rfl rfl (by kernel_rfl) (by decide)
theorem sz89 : (Tryd.prog.info? 89).map (·.size) = some 2 := by kernel_rfl
theorem co89 : Tryd.prog.cellsOf 89 = 2 := by kernel_rfl
theorem bo89 : Tryd.prog.bytesOf 89 = 40 := by kernel_rfl
theorem z89 : ∀ w, (zeroValue 89).run Tryd.prog w = .ok (.agg #[.string ⟨#[]⟩, .slice none 0 0]) w := fun _ => by kernel_rfl
theorem inf89 : (Tryd.prog.info? 89).map (fun i => (i.zero, i.size, i.bytes)) = some (some (.agg #[.string ⟨#[]⟩, .slice none 0 0]), 2, 40) := by kernel_rfl
theorem fa89_0 : ∀ a w, (Instr.fieldAt 89 (.pointer (some a)) 0).run Tryd.prog w = .ok (.pointer (some (a.add 0))) w := run_field (b := 1) Tryd.underlying89 rfl rfl (by kernel_rfl) (by decide)
theorem fa89_1 : ∀ a w, (Instr.fieldAt 89 (.pointer (some a)) 1).run Tryd.prog w = .ok (.pointer (some (a.add 1))) w := run_field (b := 1) Tryd.underlying89 rfl rfl (by kernel_rfl) (by decide)
theorem sz90 : (Tryd.prog.info? 90).map (·.size) = some 1 := by kernel_rfl
theorem co90 : Tryd.prog.cellsOf 90 = 1 := by kernel_rfl
theorem bo90 : Tryd.prog.bytesOf 90 = 8 := by kernel_rfl
theorem inf90 : (Tryd.prog.info? 90).map (fun i => (i.zero, i.size, i.bytes)) = some (some (.nilFunc), 1, 8) := by kernel_rfl
theorem sz91 : (Tryd.prog.info? 91).map (·.size) = some 1 := by kernel_rfl
theorem co91 : Tryd.prog.cellsOf 91 = 1 := by kernel_rfl
theorem bo91 : Tryd.prog.bytesOf 91 = 24 := by kernel_rfl
theorem z91 : ∀ w, (zeroValue 91).run Tryd.prog w = .ok (.slice none 0 0) w := fun _ => by kernel_rfl
theorem inf91 : (Tryd.prog.info? 91).map (fun i => (i.zero, i.size, i.bytes)) = some (some (.slice none 0 0), 1, 24) := by kernel_rfl
theorem sz92 : (Tryd.prog.info? 92).map (·.size) = some 1 := by kernel_rfl
theorem co92 : Tryd.prog.cellsOf 92 = 1 := by kernel_rfl
theorem bo92 : Tryd.prog.bytesOf 92 = 8 := by kernel_rfl
theorem inf92 : (Tryd.prog.info? 92).map (fun i => (i.zero, i.size, i.bytes)) = some (some (.nilFunc), 1, 8) := by kernel_rfl
theorem sz94 : (Tryd.prog.info? 94).map (·.size) = some 1 := by kernel_rfl
theorem co94 : Tryd.prog.cellsOf 94 = 1 := by kernel_rfl
theorem bo94 : Tryd.prog.bytesOf 94 = 8 := by kernel_rfl
theorem inf94 : (Tryd.prog.info? 94).map (fun i => (i.zero, i.size, i.bytes)) = some (some (.nilFunc), 1, 8) := by kernel_rfl
theorem sz95 : (Tryd.prog.info? 95).map (·.size) = some 1 := by kernel_rfl
theorem co95 : Tryd.prog.cellsOf 95 = 1 := by kernel_rfl
theorem bo95 : Tryd.prog.bytesOf 95 = 8 := by kernel_rfl
theorem inf95 : (Tryd.prog.info? 95).map (fun i => (i.zero, i.size, i.bytes)) = some (some (.nilFunc), 1, 8) := by kernel_rfl
theorem sz96 : (Tryd.prog.info? 96).map (·.size) = some 2 := by kernel_rfl
theorem co96 : Tryd.prog.cellsOf 96 = 2 := by kernel_rfl
theorem bo96 : Tryd.prog.bytesOf 96 = 32 := by kernel_rfl
theorem z96 : ∀ w, (zeroValue 96).run Tryd.prog w = .ok (.agg #[.string ⟨#[]⟩, .string ⟨#[]⟩]) w := fun _ => by kernel_rfl
theorem inf96 : (Tryd.prog.info? 96).map (fun i => (i.zero, i.size, i.bytes)) = some (some (.agg #[.string ⟨#[]⟩, .string ⟨#[]⟩]), 2, 32) := by kernel_rfl
theorem fa96_0 : ∀ a w, (Instr.fieldAt 96 (.pointer (some a)) 0).run Tryd.prog w = .ok (.pointer (some (a.add 0))) w := run_field (b := 1) Tryd.underlying96 rfl rfl (by kernel_rfl) (by decide)
theorem fa96_1 : ∀ a w, (Instr.fieldAt 96 (.pointer (some a)) 1).run Tryd.prog w = .ok (.pointer (some (a.add 1))) w := run_field (b := 1) Tryd.underlying96 rfl rfl (by kernel_rfl) (by decide)
theorem sz97 : (Tryd.prog.info? 97).map (·.size) = some 2 := by kernel_rfl
theorem co97 : Tryd.prog.cellsOf 97 = 2 := by kernel_rfl
theorem bo97 : Tryd.prog.bytesOf 97 = 32 := by kernel_rfl
theorem z97 : ∀ w, (zeroValue 97).run Tryd.prog w = .ok (.agg #[.string ⟨#[]⟩, .string ⟨#[]⟩]) w := fun _ => by kernel_rfl
theorem inf97 : (Tryd.prog.info? 97).map (fun i => (i.zero, i.size, i.bytes)) = some (some (.agg #[.string ⟨#[]⟩, .string ⟨#[]⟩]), 2, 32) := by kernel_rfl
theorem fa97_0 : ∀ a w, (Instr.fieldAt 97 (.pointer (some a)) 0).run Tryd.prog w = .ok (.pointer (some (a.add 0))) w := run_field (b := 1) Tryd.underlying97 rfl rfl (by kernel_rfl) (by decide)
theorem fa97_1 : ∀ a w, (Instr.fieldAt 97 (.pointer (some a)) 1).run Tryd.prog w = .ok (.pointer (some (a.add 1))) w := run_field (b := 1) Tryd.underlying97 rfl rfl (by kernel_rfl) (by decide)
theorem sz98 : (Tryd.prog.info? 98).map (·.size) = some 1 := by kernel_rfl
theorem co98 : Tryd.prog.cellsOf 98 = 1 := by kernel_rfl
theorem bo98 : Tryd.prog.bytesOf 98 = 8 := by kernel_rfl
theorem inf98 : (Tryd.prog.info? 98).map (fun i => (i.zero, i.size, i.bytes)) = some (some (.nilFunc), 1, 8) := by kernel_rfl
theorem sz99 : (Tryd.prog.info? 99).map (·.size) = some 1 := by kernel_rfl
theorem co99 : Tryd.prog.cellsOf 99 = 1 := by kernel_rfl
theorem bo99 : Tryd.prog.bytesOf 99 = 8 := by kernel_rfl
theorem inf99 : (Tryd.prog.info? 99).map (fun i => (i.zero, i.size, i.bytes)) = some (some (.nilFunc), 1, 8) := by kernel_rfl
theorem sz100 : (Tryd.prog.info? 100).map (·.size) = some 1 := by kernel_rfl
theorem co100 : Tryd.prog.cellsOf 100 = 1 := by kernel_rfl
theorem bo100 : Tryd.prog.bytesOf 100 = 8 := by kernel_rfl
theorem inf100 : (Tryd.prog.info? 100).map (fun i => (i.zero, i.size, i.bytes)) = some (some (.nilFunc), 1, 8) := by kernel_rfl
theorem sz101 : (Tryd.prog.info? 101).map (·.size) = some 1 := by kernel_rfl
theorem co101 : Tryd.prog.cellsOf 101 = 1 := by kernel_rfl
theorem bo101 : Tryd.prog.bytesOf 101 = 8 := by kernel_rfl
theorem inf101 : (Tryd.prog.info? 101).map (fun i => (i.zero, i.size, i.bytes)) = some (some (.nilFunc), 1, 8) := by kernel_rfl
theorem sz102 : (Tryd.prog.info? 102).map (·.size) = some 1 := by kernel_rfl
theorem co102 : Tryd.prog.cellsOf 102 = 1 := by kernel_rfl
theorem bo102 : Tryd.prog.bytesOf 102 = 8 := by kernel_rfl
theorem z102 : ∀ w, (zeroValue 102).run Tryd.prog w = .ok (.pointer none) w := fun _ => by kernel_rfl
theorem inf102 : (Tryd.prog.info? 102).map (fun i => (i.zero, i.size, i.bytes)) = some (some (.pointer none), 1, 8) := by kernel_rfl
theorem sz103 : (Tryd.prog.info? 103).map (·.size) = some 1 := by kernel_rfl
theorem co103 : Tryd.prog.cellsOf 103 = 1 := by kernel_rfl
theorem bo103 : Tryd.prog.bytesOf 103 = 24 := by kernel_rfl
theorem z103 : ∀ w, (zeroValue 103).run Tryd.prog w = .ok (.slice none 0 0) w := fun _ => by kernel_rfl
theorem inf103 : (Tryd.prog.info? 103).map (fun i => (i.zero, i.size, i.bytes)) = some (some (.slice none 0 0), 1, 24) := by kernel_rfl
theorem sz104 : (Tryd.prog.info? 104).map (·.size) = some 2 := by kernel_rfl
theorem co104 : Tryd.prog.cellsOf 104 = 2 := by kernel_rfl
theorem bo104 : Tryd.prog.bytesOf 104 = 32 := by kernel_rfl
theorem z104 : ∀ w, (zeroValue 104).run Tryd.prog w = .ok (.agg #[.pointer none, .slice none 0 0]) w := fun _ => by kernel_rfl
theorem inf104 : (Tryd.prog.info? 104).map (fun i => (i.zero, i.size, i.bytes)) = some (some (.agg #[.pointer none, .slice none 0 0]), 2, 32) := by kernel_rfl
theorem fa104_0 : ∀ a w, (Instr.fieldAt 104 (.pointer (some a)) 0).run Tryd.prog w = .ok (.pointer (some (a.add 0))) w := run_field (b := 1) Tryd.underlying104 rfl rfl (by kernel_rfl) (by decide)
theorem fa104_1 : ∀ a w, (Instr.fieldAt 104 (.pointer (some a)) 1).run Tryd.prog w = .ok (.pointer (some (a.add 1))) w := run_field (b := 1) Tryd.underlying104 rfl rfl (by kernel_rfl) (by decide)
theorem sz105 : (Tryd.prog.info? 105).map (·.size) = some 2 := by kernel_rfl
theorem co105 : Tryd.prog.cellsOf 105 = 2 := by kernel_rfl
theorem bo105 : Tryd.prog.bytesOf 105 = 32 := by kernel_rfl
theorem z105 : ∀ w, (zeroValue 105).run Tryd.prog w = .ok (.agg #[.pointer none, .slice none 0 0]) w := fun _ => by kernel_rfl
theorem inf105 : (Tryd.prog.info? 105).map (fun i => (i.zero, i.size, i.bytes)) = some (some (.agg #[.pointer none, .slice none 0 0]), 2, 32) := by kernel_rfl
theorem fa105_0 : ∀ a w, (Instr.fieldAt 105 (.pointer (some a)) 0).run Tryd.prog w = .ok (.pointer (some (a.add 0))) w := run_field (b := 1) Tryd.underlying105 rfl rfl (by kernel_rfl) (by decide)
theorem fa105_1 : ∀ a w, (Instr.fieldAt 105 (.pointer (some a)) 1).run Tryd.prog w = .ok (.pointer (some (a.add 1))) w := run_field (b := 1) Tryd.underlying105 rfl rfl (by kernel_rfl) (by decide)
theorem sz106 : (Tryd.prog.info? 106).map (·.size) = some 1 := by kernel_rfl
theorem co106 : Tryd.prog.cellsOf 106 = 1 := by kernel_rfl
theorem bo106 : Tryd.prog.bytesOf 106 = 16 := by kernel_rfl
theorem z106 : ∀ w, (zeroValue 106).run Tryd.prog w = .ok (.nilIface) w := fun _ => by kernel_rfl
theorem inf106 : (Tryd.prog.info? 106).map (fun i => (i.zero, i.size, i.bytes)) = some (some (.nilIface), 1, 16) := by kernel_rfl
theorem sz107 : (Tryd.prog.info? 107).map (·.size) = some 1 := by kernel_rfl
theorem co107 : Tryd.prog.cellsOf 107 = 1 := by kernel_rfl
theorem bo107 : Tryd.prog.bytesOf 107 = 16 := by kernel_rfl
theorem z107 : ∀ w, (zeroValue 107).run Tryd.prog w = .ok (.nilIface) w := fun _ => by kernel_rfl
theorem inf107 : (Tryd.prog.info? 107).map (fun i => (i.zero, i.size, i.bytes)) = some (some (.nilIface), 1, 16) := by kernel_rfl
theorem sz109 : (Tryd.prog.info? 109).map (·.size) = some 1 := by kernel_rfl
theorem co109 : Tryd.prog.cellsOf 109 = 1 := by kernel_rfl
theorem bo109 : Tryd.prog.bytesOf 109 = 8 := by kernel_rfl
theorem inf109 : (Tryd.prog.info? 109).map (fun i => (i.zero, i.size, i.bytes)) = some (some (.nilFunc), 1, 8) := by kernel_rfl
theorem sz110 : (Tryd.prog.info? 110).map (·.size) = some 1 := by kernel_rfl
theorem co110 : Tryd.prog.cellsOf 110 = 1 := by kernel_rfl
theorem bo110 : Tryd.prog.bytesOf 110 = 8 := by kernel_rfl
theorem inf110 : (Tryd.prog.info? 110).map (fun i => (i.zero, i.size, i.bytes)) = some (some (.nilFunc), 1, 8) := by kernel_rfl
theorem sz111 : (Tryd.prog.info? 111).map (·.size) = some 1 := by kernel_rfl
theorem co111 : Tryd.prog.cellsOf 111 = 1 := by kernel_rfl
theorem bo111 : Tryd.prog.bytesOf 111 = 8 := by kernel_rfl
theorem inf111 : (Tryd.prog.info? 111).map (fun i => (i.zero, i.size, i.bytes)) = some (some (.nilFunc), 1, 8) := by kernel_rfl
theorem sz112 : (Tryd.prog.info? 112).map (·.size) = some 1 := by kernel_rfl
theorem co112 : Tryd.prog.cellsOf 112 = 1 := by kernel_rfl
theorem bo112 : Tryd.prog.bytesOf 112 = 8 := by kernel_rfl
theorem inf112 : (Tryd.prog.info? 112).map (fun i => (i.zero, i.size, i.bytes)) = some (some (.nilFunc), 1, 8) := by kernel_rfl
theorem sz113 : (Tryd.prog.info? 113).map (·.size) = some 1 := by kernel_rfl
theorem co113 : Tryd.prog.cellsOf 113 = 1 := by kernel_rfl
theorem bo113 : Tryd.prog.bytesOf 113 = 8 := by kernel_rfl
theorem inf113 : (Tryd.prog.info? 113).map (fun i => (i.zero, i.size, i.bytes)) = some (some (.nilFunc), 1, 8) := by kernel_rfl
theorem sz114 : (Tryd.prog.info? 114).map (·.size) = some 1 := by kernel_rfl
theorem co114 : Tryd.prog.cellsOf 114 = 1 := by kernel_rfl
theorem bo114 : Tryd.prog.bytesOf 114 = 8 := by kernel_rfl
theorem inf114 : (Tryd.prog.info? 114).map (fun i => (i.zero, i.size, i.bytes)) = some (some (.nilFunc), 1, 8) := by kernel_rfl
theorem sz115 : (Tryd.prog.info? 115).map (·.size) = some 1 := by kernel_rfl
theorem co115 : Tryd.prog.cellsOf 115 = 1 := by kernel_rfl
theorem bo115 : Tryd.prog.bytesOf 115 = 24 := by kernel_rfl
theorem z115 : ∀ w, (zeroValue 115).run Tryd.prog w = .ok (.slice none 0 0) w := fun _ => by kernel_rfl
theorem inf115 : (Tryd.prog.info? 115).map (fun i => (i.zero, i.size, i.bytes)) = some (some (.slice none 0 0), 1, 24) := by kernel_rfl
theorem sz116 : (Tryd.prog.info? 116).map (·.size) = some 1 := by kernel_rfl
theorem co116 : Tryd.prog.cellsOf 116 = 1 := by kernel_rfl
theorem bo116 : Tryd.prog.bytesOf 116 = 8 := by kernel_rfl
theorem inf116 : (Tryd.prog.info? 116).map (fun i => (i.zero, i.size, i.bytes)) = some (some (.nilFunc), 1, 8) := by kernel_rfl
theorem sz118 : (Tryd.prog.info? 118).map (·.size) = some 1 := by kernel_rfl
theorem co118 : Tryd.prog.cellsOf 118 = 1 := by kernel_rfl
theorem bo118 : Tryd.prog.bytesOf 118 = 8 := by kernel_rfl
theorem inf118 : (Tryd.prog.info? 118).map (fun i => (i.zero, i.size, i.bytes)) = some (some (.nilFunc), 1, 8) := by kernel_rfl
theorem sz119 : (Tryd.prog.info? 119).map (·.size) = some 1 := by kernel_rfl
theorem co119 : Tryd.prog.cellsOf 119 = 1 := by kernel_rfl
theorem bo119 : Tryd.prog.bytesOf 119 = 8 := by kernel_rfl
theorem inf119 : (Tryd.prog.info? 119).map (fun i => (i.zero, i.size, i.bytes)) = some (some (.nilFunc), 1, 8) := by kernel_rfl
theorem sz120 : (Tryd.prog.info? 120).map (·.size) = some 1 := by kernel_rfl
theorem co120 : Tryd.prog.cellsOf 120 = 1 := by kernel_rfl
theorem bo120 : Tryd.prog.bytesOf 120 = 8 := by kernel_rfl
theorem inf120 : (Tryd.prog.info? 120).map (fun i => (i.zero, i.size, i.bytes)) = some (some (.nilFunc), 1, 8) := by kernel_rfl
theorem sz121 : (Tryd.prog.info? 121).map (·.size) = some 1 := by kernel_rfl
theorem co121 : Tryd.prog.cellsOf 121 = 1 := by kernel_rfl
theorem bo121 : Tryd.prog.bytesOf 121 = 8 := by kernel_rfl
theorem inf121 : (Tryd.prog.info? 121).map (fun i => (i.zero, i.size, i.bytes)) = some (some (.nilFunc), 1, 8) := by kernel_rfl
theorem sz122 : (Tryd.prog.info? 122).map (·.size) = some 1 := by kernel_rfl
theorem co122 : Tryd.prog.cellsOf 122 = 1 := by kernel_rfl
theorem bo122 : Tryd.prog.bytesOf 122 = 8 := by kernel_rfl
theorem inf122 : (Tryd.prog.info? 122).map (fun i => (i.zero, i.size, i.bytes)) = some (some (.nilFunc), 1, 8) := by kernel_rfl
theorem sz123 : (Tryd.prog.info? 123).map (·.size) = some 1 := by kernel_rfl
theorem co123 : Tryd.prog.cellsOf 123 = 1 := by kernel_rfl
theorem bo123 : Tryd.prog.bytesOf 123 = 8 := by kernel_rfl
theorem inf123 : (Tryd.prog.info? 123).map (fun i => (i.zero, i.size, i.bytes)) = some (some (.nilFunc), 1, 8) := by kernel_rfl
theorem sz124 : (Tryd.prog.info? 124).map (·.size) = some 1 := by kernel_rfl
theorem co124 : Tryd.prog.cellsOf 124 = 1 := by kernel_rfl
theorem bo124 : Tryd.prog.bytesOf 124 = 8 := by kernel_rfl
theorem inf124 : (Tryd.prog.info? 124).map (fun i => (i.zero, i.size, i.bytes)) = some (some (.nilFunc), 1, 8) := by kernel_rfl
theorem sz125 : (Tryd.prog.info? 125).map (·.size) = some 1 := by kernel_rfl
theorem co125 : Tryd.prog.cellsOf 125 = 1 := by kernel_rfl
theorem bo125 : Tryd.prog.bytesOf 125 = 8 := by kernel_rfl
theorem inf125 : (Tryd.prog.info? 125).map (fun i => (i.zero, i.size, i.bytes)) = some (some (.nilFunc), 1, 8) := by kernel_rfl
theorem sz126 : (Tryd.prog.info? 126).map (·.size) = some 1 := by kernel_rfl
theorem co126 : Tryd.prog.cellsOf 126 = 1 := by kernel_rfl
theorem bo126 : Tryd.prog.bytesOf 126 = 8 := by kernel_rfl
theorem inf126 : (Tryd.prog.info? 126).map (fun i => (i.zero, i.size, i.bytes)) = some (some (.nilFunc), 1, 8) := by kernel_rfl
theorem sz127 : (Tryd.prog.info? 127).map (·.size) = some 2 := by kernel_rfl
theorem co127 : Tryd.prog.cellsOf 127 = 2 := by kernel_rfl
theorem bo127 : Tryd.prog.bytesOf 127 = 32 := by kernel_rfl
theorem z127 : ∀ w, (zeroValue 127).run Tryd.prog w = .ok (.agg #[.string ⟨#[]⟩, .string ⟨#[]⟩]) w := fun _ => by kernel_rfl
theorem inf127 : (Tryd.prog.info? 127).map (fun i => (i.zero, i.size, i.bytes)) = some (some (.agg #[.string ⟨#[]⟩, .string ⟨#[]⟩]), 2, 32) := by kernel_rfl
theorem fa127_0 : ∀ a w, (Instr.fieldAt 127 (.pointer (some a)) 0).run Tryd.prog w = .ok (.pointer (some (a.add 0))) w := run_field (b := 1) Tryd.underlying127 rfl rfl (by kernel_rfl) (by decide)
theorem fa127_1 : ∀ a w, (Instr.fieldAt 127 (.pointer (some a)) 1).run Tryd.prog w = .ok (.pointer (some (a.add 1))) w := run_field (b := 1) Tryd.underlying127 rfl rfl (by kernel_rfl) (by decide)
theorem sz128 : (Tryd.prog.info? 128).map (·.size) = some 2 := by kernel_rfl
theorem co128 : Tryd.prog.cellsOf 128 = 2 := by kernel_rfl
theorem bo128 : Tryd.prog.bytesOf 128 = 32 := by kernel_rfl
theorem z128 : ∀ w, (zeroValue 128).run Tryd.prog w = .ok (.agg #[.string ⟨#[]⟩, .string ⟨#[]⟩]) w := fun _ => by kernel_rfl
theorem inf128 : (Tryd.prog.info? 128).map (fun i => (i.zero, i.size, i.bytes)) = some (some (.agg #[.string ⟨#[]⟩, .string ⟨#[]⟩]), 2, 32) := by kernel_rfl
theorem fa128_0 : ∀ a w, (Instr.fieldAt 128 (.pointer (some a)) 0).run Tryd.prog w = .ok (.pointer (some (a.add 0))) w := run_field (b := 1) Tryd.underlying128 rfl rfl (by kernel_rfl) (by decide)
theorem fa128_1 : ∀ a w, (Instr.fieldAt 128 (.pointer (some a)) 1).run Tryd.prog w = .ok (.pointer (some (a.add 1))) w := run_field (b := 1) Tryd.underlying128 rfl rfl (by kernel_rfl) (by decide)
theorem sz129 : (Tryd.prog.info? 129).map (·.size) = some 1 := by kernel_rfl
theorem co129 : Tryd.prog.cellsOf 129 = 1 := by kernel_rfl
theorem bo129 : Tryd.prog.bytesOf 129 = 8 := by kernel_rfl
theorem inf129 : (Tryd.prog.info? 129).map (fun i => (i.zero, i.size, i.bytes)) = some (some (.nilFunc), 1, 8) := by kernel_rfl
theorem sz130 : (Tryd.prog.info? 130).map (·.size) = some 1 := by kernel_rfl
theorem co130 : Tryd.prog.cellsOf 130 = 1 := by kernel_rfl
theorem bo130 : Tryd.prog.bytesOf 130 = 8 := by kernel_rfl
theorem inf130 : (Tryd.prog.info? 130).map (fun i => (i.zero, i.size, i.bytes)) = some (some (.nilFunc), 1, 8) := by kernel_rfl
theorem sz131 : (Tryd.prog.info? 131).map (·.size) = some 1 := by kernel_rfl
theorem co131 : Tryd.prog.cellsOf 131 = 1 := by kernel_rfl
theorem bo131 : Tryd.prog.bytesOf 131 = 8 := by kernel_rfl
theorem inf131 : (Tryd.prog.info? 131).map (fun i => (i.zero, i.size, i.bytes)) = some (some (.nilFunc), 1, 8) := by kernel_rfl
theorem sz132 : (Tryd.prog.info? 132).map (·.size) = some 1 := by kernel_rfl
theorem co132 : Tryd.prog.cellsOf 132 = 1 := by kernel_rfl
theorem bo132 : Tryd.prog.bytesOf 132 = 8 := by kernel_rfl
theorem inf132 : (Tryd.prog.info? 132).map (fun i => (i.zero, i.size, i.bytes)) = some (some (.nilFunc), 1, 8) := by kernel_rfl
theorem sz133 : (Tryd.prog.info? 133).map (·.size) = some 1 := by kernel_rfl
theorem co133 : Tryd.prog.cellsOf 133 = 1 := by kernel_rfl
theorem bo133 : Tryd.prog.bytesOf 133 = 8 := by kernel_rfl
theorem inf133 : (Tryd.prog.info? 133).map (fun i => (i.zero, i.size, i.bytes)) = some (some (.nilFunc), 1, 8) := by kernel_rfl
theorem sz134 : (Tryd.prog.info? 134).map (·.size) = some 1 := by kernel_rfl
theorem co134 : Tryd.prog.cellsOf 134 = 1 := by kernel_rfl
theorem bo134 : Tryd.prog.bytesOf 134 = 8 := by kernel_rfl
theorem inf134 : (Tryd.prog.info? 134).map (fun i => (i.zero, i.size, i.bytes)) = some (some (.nilFunc), 1, 8) := by kernel_rfl
theorem sz135 : (Tryd.prog.info? 135).map (·.size) = some 1 := by kernel_rfl
theorem co135 : Tryd.prog.cellsOf 135 = 1 := by kernel_rfl
theorem bo135 : Tryd.prog.bytesOf 135 = 8 := by kernel_rfl
theorem inf135 : (Tryd.prog.info? 135).map (fun i => (i.zero, i.size, i.bytes)) = some (some (.nilFunc), 1, 8) := by kernel_rfl
theorem sz136 : (Tryd.prog.info? 136).map (·.size) = some 1 := by kernel_rfl
theorem co136 : Tryd.prog.cellsOf 136 = 1 := by kernel_rfl
theorem bo136 : Tryd.prog.bytesOf 136 = 8 := by kernel_rfl
theorem inf136 : (Tryd.prog.info? 136).map (fun i => (i.zero, i.size, i.bytes)) = some (some (.nilFunc), 1, 8) := by kernel_rfl
theorem sz137 : (Tryd.prog.info? 137).map (·.size) = some 1 := by kernel_rfl
theorem co137 : Tryd.prog.cellsOf 137 = 1 := by kernel_rfl
theorem bo137 : Tryd.prog.bytesOf 137 = 8 := by kernel_rfl
theorem inf137 : (Tryd.prog.info? 137).map (fun i => (i.zero, i.size, i.bytes)) = some (some (.nilFunc), 1, 8) := by kernel_rfl
theorem sz138 : (Tryd.prog.info? 138).map (·.size) = some 1 := by kernel_rfl
theorem co138 : Tryd.prog.cellsOf 138 = 1 := by kernel_rfl
theorem bo138 : Tryd.prog.bytesOf 138 = 8 := by kernel_rfl
theorem z138 : ∀ w, (zeroValue 138).run Tryd.prog w = .ok (.int .u64 0) w := fun _ => by kernel_rfl
theorem inf138 : (Tryd.prog.info? 138).map (fun i => (i.zero, i.size, i.bytes)) = some (some (.int .u64 0), 1, 8) := by kernel_rfl
theorem sz139 : (Tryd.prog.info? 139).map (·.size) = some 1 := by kernel_rfl
theorem co139 : Tryd.prog.cellsOf 139 = 1 := by kernel_rfl
theorem bo139 : Tryd.prog.bytesOf 139 = 8 := by kernel_rfl
theorem inf139 : (Tryd.prog.info? 139).map (fun i => (i.zero, i.size, i.bytes)) = some (some (.nilFunc), 1, 8) := by kernel_rfl
theorem sz140 : (Tryd.prog.info? 140).map (·.size) = some 1 := by kernel_rfl
theorem co140 : Tryd.prog.cellsOf 140 = 1 := by kernel_rfl
theorem bo140 : Tryd.prog.bytesOf 140 = 8 := by kernel_rfl
theorem inf140 : (Tryd.prog.info? 140).map (fun i => (i.zero, i.size, i.bytes)) = some (some (.nilFunc), 1, 8) := by kernel_rfl
theorem sz141 : (Tryd.prog.info? 141).map (·.size) = some 1 := by kernel_rfl
theorem co141 : Tryd.prog.cellsOf 141 = 1 := by kernel_rfl
theorem bo141 : Tryd.prog.bytesOf 141 = 8 := by kernel_rfl
theorem inf141 : (Tryd.prog.info? 141).map (fun i => (i.zero, i.size, i.bytes)) = some (some (.nilFunc), 1, 8) := by kernel_rfl
theorem sz142 : (Tryd.prog.info? 142).map (·.size) = some 1 := by kernel_rfl
theorem co142 : Tryd.prog.cellsOf 142 = 1 := by kernel_rfl
theorem bo142 : Tryd.prog.bytesOf 142 = 8 := by kernel_rfl
theorem z142 : ∀ w, (zeroValue 142).run Tryd.prog w = .ok (.pointer none) w := fun _ => by kernel_rfl
theorem inf142 : (Tryd.prog.info? 142).map (fun i => (i.zero, i.size, i.bytes)) = some (some (.pointer none), 1, 8) := by kernel_rfl
theorem sz144 : (Tryd.prog.info? 144).map (·.size) = some 1 := by kernel_rfl
theorem co144 : Tryd.prog.cellsOf 144 = 1 := by kernel_rfl
theorem bo144 : Tryd.prog.bytesOf 144 = 8 := by kernel_rfl
theorem inf144 : (Tryd.prog.info? 144).map (fun i => (i.zero, i.size, i.bytes)) = some (some (.nilFunc), 1, 8) := by kernel_rfl
theorem sz145 : (Tryd.prog.info? 145).map (·.size) = some 1 := by kernel_rfl
theorem co145 : Tryd.prog.cellsOf 145 = 1 := by kernel_rfl
theorem bo145 : Tryd.prog.bytesOf 145 = 8 := by kernel_rfl
theorem inf145 : (Tryd.prog.info? 145).map (fun i => (i.zero, i.size, i.bytes)) = some (some (.nilFunc), 1, 8) := by kernel_rfl
theorem sz146 : (Tryd.prog.info? 146).map (·.size) = some 1 := by kernel_rfl
theorem co146 : Tryd.prog.cellsOf 146 = 1 := by kernel_rfl
theorem bo146 : Tryd.prog.bytesOf 146 = 8 := by kernel_rfl
theorem inf146 : (Tryd.prog.info? 146).map (fun i => (i.zero, i.size, i.bytes)) = some (some (.nilFunc), 1, 8) := by kernel_rfl
theorem sz147 : (Tryd.prog.info? 147).map (·.size) = some 6 := by kernel_rfl
theorem co147 : Tryd.prog.cellsOf 147 = 6 := by kernel_rfl
theorem bo147 : Tryd.prog.bytesOf 147 = 72 := by kernel_rfl
theorem z147 : ∀ w, (zeroValue 147).run Tryd.prog w = .ok (.agg #[.string ⟨#[]⟩, .string ⟨#[]⟩, .string ⟨#[]⟩, .int .i64 0, .int .i64 0, .bool false]) w := fun _ => by kernel_rfl
theorem inf147 : (Tryd.prog.info? 147).map (fun i => (i.zero, i.size, i.bytes)) = some (some (.agg #[.string ⟨#[]⟩, .string ⟨#[]⟩, .string ⟨#[]⟩, .int .i64 0, .int .i64 0, .bool false]), 6, 72) := by kernel_rfl
theorem fa147_0 : ∀ a w, (Instr.fieldAt 147 (.pointer (some a)) 0).run Tryd.prog w = .ok (.pointer (some (a.add 0))) w := run_field (b := 1) Tryd.underlying147 rfl rfl (by kernel_rfl) (by decide)
theorem fa147_1 : ∀ a w, (Instr.fieldAt 147 (.pointer (some a)) 1).run Tryd.prog w = .ok (.pointer (some (a.add 1))) w := run_field (b := 1) Tryd.underlying147 rfl rfl (by kernel_rfl) (by decide)
theorem fa147_2 : ∀ a w, (Instr.fieldAt 147 (.pointer (some a)) 2).run Tryd.prog w = .ok (.pointer (some (a.add 2))) w := run_field (b := 1) Tryd.underlying147 rfl rfl (by kernel_rfl) (by decide)
theorem fa147_3 : ∀ a w, (Instr.fieldAt 147 (.pointer (some a)) 3).run Tryd.prog w = .ok (.pointer (some (a.add 3))) w := run_field (b := 1) Tryd.underlying147 rfl rfl (by kernel_rfl) (by decide)
theorem fa147_4 : ∀ a w, (Instr.fieldAt 147 (.pointer (some a)) 4).run Tryd.prog w = .ok (.pointer (some (a.add 4))) w := run_field (b := 1) Tryd.underlying147 rfl rfl (by kernel_rfl) (by decide)
theorem fa147_5 : ∀ a w, (Instr.fieldAt 147 (.pointer (some a)) 5).run Tryd.prog w = .ok (.pointer (some (a.add 5))) w := run_field (b := 1) Tryd.underlying147 rfl rfl (by kernel_rfl) (by decide)
theorem sz148 : (Tryd.prog.info? 148).map (·.size) = some 6 := by kernel_rfl
theorem co148 : Tryd.prog.cellsOf 148 = 6 := by kernel_rfl
theorem bo148 : Tryd.prog.bytesOf 148 = 72 := by kernel_rfl
theorem z148 : ∀ w, (zeroValue 148).run Tryd.prog w = .ok (.agg #[.string ⟨#[]⟩, .string ⟨#[]⟩, .string ⟨#[]⟩, .int .i64 0, .int .i64 0, .bool false]) w := fun _ => by kernel_rfl
theorem inf148 : (Tryd.prog.info? 148).map (fun i => (i.zero, i.size, i.bytes)) = some (some (.agg #[.string ⟨#[]⟩, .string ⟨#[]⟩, .string ⟨#[]⟩, .int .i64 0, .int .i64 0, .bool false]), 6, 72) := by kernel_rfl
theorem fa148_0 : ∀ a w, (Instr.fieldAt 148 (.pointer (some a)) 0).run Tryd.prog w = .ok (.pointer (some (a.add 0))) w := run_field (b := 1) Tryd.underlying148 rfl rfl (by kernel_rfl) (by decide)
theorem fa148_1 : ∀ a w, (Instr.fieldAt 148 (.pointer (some a)) 1).run Tryd.prog w = .ok (.pointer (some (a.add 1))) w := run_field (b := 1) Tryd.underlying148 rfl rfl (by kernel_rfl) (by decide)
theorem fa148_2 : ∀ a w, (Instr.fieldAt 148 (.pointer (some a)) 2).run Tryd.prog w = .ok (.pointer (some (a.add 2))) w := run_field (b := 1) Tryd.underlying148 rfl rfl (by kernel_rfl) (by decide)
theorem fa148_3 : ∀ a w, (Instr.fieldAt 148 (.pointer (some a)) 3).run Tryd.prog w = .ok (.pointer (some (a.add 3))) w := run_field (b := 1) Tryd.underlying148 rfl rfl (by kernel_rfl) (by decide)
theorem fa148_4 : ∀ a w, (Instr.fieldAt 148 (.pointer (some a)) 4).run Tryd.prog w = .ok (.pointer (some (a.add 4))) w := run_field (b := 1) Tryd.underlying148 rfl rfl (by kernel_rfl) (by decide)
theorem fa148_5 : ∀ a w, (Instr.fieldAt 148 (.pointer (some a)) 5).run Tryd.prog w = .ok (.pointer (some (a.add 5))) w := run_field (b := 1) Tryd.underlying148 rfl rfl (by kernel_rfl) (by decide)
theorem sz149 : (Tryd.prog.info? 149).map (·.size) = some 1 := by kernel_rfl
theorem co149 : Tryd.prog.cellsOf 149 = 1 := by kernel_rfl
theorem bo149 : Tryd.prog.bytesOf 149 = 8 := by kernel_rfl
theorem inf149 : (Tryd.prog.info? 149).map (fun i => (i.zero, i.size, i.bytes)) = some (some (.nilFunc), 1, 8) := by kernel_rfl
theorem sz150 : (Tryd.prog.info? 150).map (·.size) = some 1 := by kernel_rfl
theorem co150 : Tryd.prog.cellsOf 150 = 1 := by kernel_rfl
theorem bo150 : Tryd.prog.bytesOf 150 = 8 := by kernel_rfl
theorem inf150 : (Tryd.prog.info? 150).map (fun i => (i.zero, i.size, i.bytes)) = some (some (.nilFunc), 1, 8) := by kernel_rfl
theorem sz151 : (Tryd.prog.info? 151).map (·.size) = some 1 := by kernel_rfl
theorem co151 : Tryd.prog.cellsOf 151 = 1 := by kernel_rfl
theorem bo151 : Tryd.prog.bytesOf 151 = 8 := by kernel_rfl
theorem inf151 : (Tryd.prog.info? 151).map (fun i => (i.zero, i.size, i.bytes)) = some (some (.nilFunc), 1, 8) := by kernel_rfl
theorem sz152 : (Tryd.prog.info? 152).map (·.size) = some 1 := by kernel_rfl
theorem co152 : Tryd.prog.cellsOf 152 = 1 := by kernel_rfl
theorem bo152 : Tryd.prog.bytesOf 152 = 8 := by kernel_rfl
theorem inf152 : (Tryd.prog.info? 152).map (fun i => (i.zero, i.size, i.bytes)) = some (some (.nilFunc), 1, 8) := by kernel_rfl
theorem sz153 : (Tryd.prog.info? 153).map (·.size) = some 1 := by kernel_rfl
theorem co153 : Tryd.prog.cellsOf 153 = 1 := by kernel_rfl
theorem bo153 : Tryd.prog.bytesOf 153 = 8 := by kernel_rfl
theorem z153 : ∀ w, (zeroValue 153).run Tryd.prog w = .ok (.map none) w := fun _ => by kernel_rfl
theorem inf153 : (Tryd.prog.info? 153).map (fun i => (i.zero, i.size, i.bytes)) = some (some (.map none), 1, 8) := by kernel_rfl
theorem sz154 : (Tryd.prog.info? 154).map (·.size) = some 1 := by kernel_rfl
theorem co154 : Tryd.prog.cellsOf 154 = 1 := by kernel_rfl
theorem bo154 : Tryd.prog.bytesOf 154 = 8 := by kernel_rfl
theorem z154 : ∀ w, (zeroValue 154).run Tryd.prog w = .ok (.map none) w := fun _ => by kernel_rfl
theorem inf154 : (Tryd.prog.info? 154).map (fun i => (i.zero, i.size, i.bytes)) = some (some (.map none), 1, 8) := by kernel_rfl
theorem sz155 : (Tryd.prog.info? 155).map (·.size) = some 1 := by kernel_rfl
theorem co155 : Tryd.prog.cellsOf 155 = 1 := by kernel_rfl
theorem bo155 : Tryd.prog.bytesOf 155 = 8 := by kernel_rfl
theorem inf155 : (Tryd.prog.info? 155).map (fun i => (i.zero, i.size, i.bytes)) = some (some (.nilFunc), 1, 8) := by kernel_rfl
theorem sz156 : (Tryd.prog.info? 156).map (·.size) = some 1 := by kernel_rfl
theorem co156 : Tryd.prog.cellsOf 156 = 1 := by kernel_rfl
theorem bo156 : Tryd.prog.bytesOf 156 = 8 := by kernel_rfl
theorem inf156 : (Tryd.prog.info? 156).map (fun i => (i.zero, i.size, i.bytes)) = some (some (.nilFunc), 1, 8) := by kernel_rfl
theorem sz157 : (Tryd.prog.info? 157).map (·.size) = some 1 := by kernel_rfl
theorem co157 : Tryd.prog.cellsOf 157 = 1 := by kernel_rfl
theorem bo157 : Tryd.prog.bytesOf 157 = 8 := by kernel_rfl
theorem inf157 : (Tryd.prog.info? 157).map (fun i => (i.zero, i.size, i.bytes)) = some (some (.nilFunc), 1, 8) := by kernel_rfl
theorem sz158 : (Tryd.prog.info? 158).map (·.size) = some 1 := by kernel_rfl
theorem co158 : Tryd.prog.cellsOf 158 = 1 := by kernel_rfl
theorem bo158 : Tryd.prog.bytesOf 158 = 24 := by kernel_rfl
theorem z158 : ∀ w, (zeroValue 158).run Tryd.prog w = .ok (.slice none 0 0) w := fun _ => by kernel_rfl
theorem inf158 : (Tryd.prog.info? 158).map (fun i => (i.zero, i.size, i.bytes)) = some (some (.slice none 0 0), 1, 24) := by kernel_rfl
theorem sz159 : (Tryd.prog.info? 159).map (·.size) = some 1 := by kernel_rfl
theorem co159 : Tryd.prog.cellsOf 159 = 1 := by kernel_rfl
theorem bo159 : Tryd.prog.bytesOf 159 = 8 := by kernel_rfl
theorem inf159 : (Tryd.prog.info? 159).map (fun i => (i.zero, i.size, i.bytes)) = some (some (.nilFunc), 1, 8) := by kernel_rfl
theorem sz160 : (Tryd.prog.info? 160).map (·.size) = some 1 := by kernel_rfl
theorem co160 : Tryd.prog.cellsOf 160 = 1 := by kernel_rfl
theorem bo160 : Tryd.prog.bytesOf 160 = 8 := by kernel_rfl
theorem inf160 : (Tryd.prog.info? 160).map (fun i => (i.zero, i.size, i.bytes)) = some (some (.nilFunc), 1, 8) := by kernel_rfl
theorem sz161 : (Tryd.prog.info? 161).map (·.size) = some 1 := by kernel_rfl
theorem co161 : Tryd.prog.cellsOf 161 = 1 := by kernel_rfl
theorem bo161 : Tryd.prog.bytesOf 161 = 8 := by kernel_rfl
theorem inf161 : (Tryd.prog.info? 161).map (fun i => (i.zero, i.size, i.bytes)) = some (some (.nilFunc), 1, 8) := by kernel_rfl
theorem sz162 : (Tryd.prog.info? 162).map (·.size) = some 1 := by kernel_rfl
theorem co162 : Tryd.prog.cellsOf 162 = 1 := by kernel_rfl
theorem bo162 : Tryd.prog.bytesOf 162 = 8 := by kernel_rfl
theorem inf162 : (Tryd.prog.info? 162).map (fun i => (i.zero, i.size, i.bytes)) = some (some (.nilFunc), 1, 8) := by kernel_rfl
theorem sz163 : (Tryd.prog.info? 163).map (·.size) = some 1 := by kernel_rfl
theorem co163 : Tryd.prog.cellsOf 163 = 1 := by kernel_rfl
theorem bo163 : Tryd.prog.bytesOf 163 = 8 := by kernel_rfl
theorem inf163 : (Tryd.prog.info? 163).map (fun i => (i.zero, i.size, i.bytes)) = some (some (.nilFunc), 1, 8) := by kernel_rfl
theorem sz164 : (Tryd.prog.info? 164).map (·.size) = some 5 := by kernel_rfl
theorem co164 : Tryd.prog.cellsOf 164 = 5 := by kernel_rfl
theorem bo164 : Tryd.prog.bytesOf 164 = 64 := by kernel_rfl
theorem z164 : ∀ w, (zeroValue 164).run Tryd.prog w = .ok (.agg #[.string ⟨#[]⟩, .int .i64 0, .int .i64 0, .int .i64 0, .slice none 0 0]) w := fun _ => by kernel_rfl
theorem inf164 : (Tryd.prog.info? 164).map (fun i => (i.zero, i.size, i.bytes)) = some (some (.agg #[.string ⟨#[]⟩, .int .i64 0, .int .i64 0, .int .i64 0, .slice none 0 0]), 5, 64) := by kernel_rfl
theorem fa164_0 : ∀ a w, (Instr.fieldAt 164 (.pointer (some a)) 0).run Tryd.prog w = .ok (.pointer (some (a.add 0))) w := run_field (b := 1) Tryd.underlying164 rfl rfl (by kernel_rfl) (by decide)
theorem fa164_1 : ∀ a w, (Instr.fieldAt 164 (.pointer (some a)) 1).run Tryd.prog w = .ok (.pointer (some (a.add 1))) w := run_field (b := 1) Tryd.underlying164 rfl rfl (by kernel_rfl) (by decide)
theorem fa164_2 : ∀ a w, (Instr.fieldAt 164 (.pointer (some a)) 2).run Tryd.prog w = .ok (.pointer (some (a.add 2))) w := run_field (b := 1) Tryd.underlying164 rfl rfl (by kernel_rfl) (by decide)
theorem fa164_3 : ∀ a w, (Instr.fieldAt 164 (.pointer (some a)) 3).run Tryd.prog w = .ok (.pointer (some (a.add 3))) w := run_field (b := 1) Tryd.underlying164 rfl rfl (by kernel_rfl) (by decide)
theorem fa164_4 : ∀ a w, (Instr.fieldAt 164 (.pointer (some a)) 4).run Tryd.prog w = .ok (.pointer (some (a.add 4))) w := run_field (b := 1) Tryd.underlying164 rfl rfl (by kernel_rfl) (by decide)
theorem sz165 : (Tryd.prog.info? 165).map (·.size) = some 5 := by kernel_rfl
theorem co165 : Tryd.prog.cellsOf 165 = 5 := by kernel_rfl
theorem bo165 : Tryd.prog.bytesOf 165 = 64 := by kernel_rfl
theorem z165 : ∀ w, (zeroValue 165).run Tryd.prog w = .ok (.agg #[.string ⟨#[]⟩, .int .i64 0, .int .i64 0, .int .i64 0, .slice none 0 0]) w := fun _ => by kernel_rfl
theorem inf165 : (Tryd.prog.info? 165).map (fun i => (i.zero, i.size, i.bytes)) = some (some (.agg #[.string ⟨#[]⟩, .int .i64 0, .int .i64 0, .int .i64 0, .slice none 0 0]), 5, 64) := by kernel_rfl
theorem fa165_0 : ∀ a w, (Instr.fieldAt 165 (.pointer (some a)) 0).run Tryd.prog w = .ok (.pointer (some (a.add 0))) w := run_field (b := 1) Tryd.underlying165 rfl rfl (by kernel_rfl) (by decide)
theorem fa165_1 : ∀ a w, (Instr.fieldAt 165 (.pointer (some a)) 1).run Tryd.prog w = .ok (.pointer (some (a.add 1))) w := run_field (b := 1) Tryd.underlying165 rfl rfl (by kernel_rfl) (by decide)
theorem fa165_2 : ∀ a w, (Instr.fieldAt 165 (.pointer (some a)) 2).run Tryd.prog w = .ok (.pointer (some (a.add 2))) w := run_field (b := 1) Tryd.underlying165 rfl rfl (by kernel_rfl) (by decide)
theorem fa165_3 : ∀ a w, (Instr.fieldAt 165 (.pointer (some a)) 3).run Tryd.prog w = .ok (.pointer (some (a.add 3))) w := run_field (b := 1) Tryd.underlying165 rfl rfl (by kernel_rfl) (by decide)
theorem fa165_4 : ∀ a w, (Instr.fieldAt 165 (.pointer (some a)) 4).run Tryd.prog w = .ok (.pointer (some (a.add 4))) w := run_field (b := 1) Tryd.underlying165 rfl rfl (by kernel_rfl) (by decide)
theorem sz167 : (Tryd.prog.info? 167).map (·.size) = some 1 := by kernel_rfl
theorem co167 : Tryd.prog.cellsOf 167 = 1 := by kernel_rfl
theorem bo167 : Tryd.prog.bytesOf 167 = 8 := by kernel_rfl
theorem inf167 : (Tryd.prog.info? 167).map (fun i => (i.zero, i.size, i.bytes)) = some (some (.nilFunc), 1, 8) := by kernel_rfl
theorem sz168 : (Tryd.prog.info? 168).map (·.size) = some 1 := by kernel_rfl
theorem co168 : Tryd.prog.cellsOf 168 = 1 := by kernel_rfl
theorem bo168 : Tryd.prog.bytesOf 168 = 8 := by kernel_rfl
theorem inf168 : (Tryd.prog.info? 168).map (fun i => (i.zero, i.size, i.bytes)) = some (some (.nilFunc), 1, 8) := by kernel_rfl
theorem sz169 : (Tryd.prog.info? 169).map (·.size) = some 1 := by kernel_rfl
theorem co169 : Tryd.prog.cellsOf 169 = 1 := by kernel_rfl
theorem bo169 : Tryd.prog.bytesOf 169 = 8 := by kernel_rfl
theorem inf169 : (Tryd.prog.info? 169).map (fun i => (i.zero, i.size, i.bytes)) = some (some (.nilFunc), 1, 8) := by kernel_rfl
theorem sz170 : (Tryd.prog.info? 170).map (·.size) = some 1 := by kernel_rfl
theorem co170 : Tryd.prog.cellsOf 170 = 1 := by kernel_rfl
theorem bo170 : Tryd.prog.bytesOf 170 = 8 := by kernel_rfl
theorem inf170 : (Tryd.prog.info? 170).map (fun i => (i.zero, i.size, i.bytes)) = some (some (.nilFunc), 1, 8) := by kernel_rfl
theorem sz172 : (Tryd.prog.info? 172).map (·.size) = some 1 := by kernel_rfl
theorem co172 : Tryd.prog.cellsOf 172 = 1 := by kernel_rfl
theorem bo172 : Tryd.prog.bytesOf 172 = 8 := by kernel_rfl
theorem inf172 : (Tryd.prog.info? 172).map (fun i => (i.zero, i.size, i.bytes)) = some (some (.nilFunc), 1, 8) := by kernel_rfl
theorem sz174 : (Tryd.prog.info? 174).map (·.size) = some 1 := by kernel_rfl
theorem co174 : Tryd.prog.cellsOf 174 = 1 := by kernel_rfl
theorem bo174 : Tryd.prog.bytesOf 174 = 8 := by kernel_rfl
theorem inf174 : (Tryd.prog.info? 174).map (fun i => (i.zero, i.size, i.bytes)) = some (some (.nilFunc), 1, 8) := by kernel_rfl
theorem sz175 : (Tryd.prog.info? 175).map (·.size) = some 1 := by kernel_rfl
theorem co175 : Tryd.prog.cellsOf 175 = 1 := by kernel_rfl
theorem bo175 : Tryd.prog.bytesOf 175 = 8 := by kernel_rfl
theorem inf175 : (Tryd.prog.info? 175).map (fun i => (i.zero, i.size, i.bytes)) = some (some (.nilFunc), 1, 8) := by kernel_rfl
theorem sz176 : (Tryd.prog.info? 176).map (·.size) = some 1 := by kernel_rfl
theorem co176 : Tryd.prog.cellsOf 176 = 1 := by kernel_rfl
theorem bo176 : Tryd.prog.bytesOf 176 = 8 := by kernel_rfl
theorem inf176 : (Tryd.prog.info? 176).map (fun i => (i.zero, i.size, i.bytes)) = some (some (.nilFunc), 1, 8) := by kernel_rfl
theorem sz177 : (Tryd.prog.info? 177).map (·.size) = some 1 := by kernel_rfl
theorem co177 : Tryd.prog.cellsOf 177 = 1 := by kernel_rfl
theorem bo177 : Tryd.prog.bytesOf 177 = 8 := by kernel_rfl
theorem inf177 : (Tryd.prog.info? 177).map (fun i => (i.zero, i.size, i.bytes)) = some (some (.nilFunc), 1, 8) := by kernel_rfl
theorem sz178 : (Tryd.prog.info? 178).map (·.size) = some 1 := by kernel_rfl
theorem co178 : Tryd.prog.cellsOf 178 = 1 := by kernel_rfl
theorem bo178 : Tryd.prog.bytesOf 178 = 8 := by kernel_rfl
theorem z178 : ∀ w, (zeroValue 178).run Tryd.prog w = .ok (.pointer none) w := fun _ => by kernel_rfl
theorem inf178 : (Tryd.prog.info? 178).map (fun i => (i.zero, i.size, i.bytes)) = some (some (.pointer none), 1, 8) := by kernel_rfl
theorem sz179 : (Tryd.prog.info? 179).map (·.size) = some 1 := by kernel_rfl
theorem co179 : Tryd.prog.cellsOf 179 = 1 := by kernel_rfl
theorem bo179 : Tryd.prog.bytesOf 179 = 8 := by kernel_rfl
theorem inf179 : (Tryd.prog.info? 179).map (fun i => (i.zero, i.size, i.bytes)) = some (some (.nilFunc), 1, 8) := by kernel_rfl
theorem sz180 : (Tryd.prog.info? 180).map (·.size) = some 1 := by kernel_rfl
theorem co180 : Tryd.prog.cellsOf 180 = 1 := by kernel_rfl
theorem bo180 : Tryd.prog.bytesOf 180 = 8 := by kernel_rfl
theorem inf180 : (Tryd.prog.info? 180).map (fun i => (i.zero, i.size, i.bytes)) = some (some (.nilFunc), 1, 8) := by kernel_rfl
theorem sz181 : (Tryd.prog.info? 181).map (·.size) = some 1 := by kernel_rfl
theorem co181 : Tryd.prog.cellsOf 181 = 1 := by kernel_rfl
theorem bo181 : Tryd.prog.bytesOf 181 = 8 := by kernel_rfl
theorem inf181 : (Tryd.prog.info? 181).map (fun i => (i.zero, i.size, i.bytes)) = some (some (.nilFunc), 1, 8) := by kernel_rfl
theorem sz182 : (Tryd.prog.info? 182).map (·.size) = some 1 := by kernel_rfl
theorem co182 : Tryd.prog.cellsOf 182 = 1 := by kernel_rfl
theorem bo182 : Tryd.prog.bytesOf 182 = 8 := by kernel_rfl
theorem inf182 : (Tryd.prog.info? 182).map (fun i => (i.zero, i.size, i.bytes)) = some (some (.nilFunc), 1, 8) := by kernel_rfl
theorem sz183 : (Tryd.prog.info? 183).map (·.size) = some 1 := by kernel_rfl
theorem co183 : Tryd.prog.cellsOf 183 = 1 := by kernel_rfl
theorem bo183 : Tryd.prog.bytesOf 183 = 8 := by kernel_rfl
theorem inf183 : (Tryd.prog.info? 183).map (fun i => (i.zero, i.size, i.bytes)) = some (some (.nilFunc), 1, 8) := by kernel_rfl
theorem sz184 : (Tryd.prog.info? 184).map (·.size) = some 1 := by kernel_rfl
theorem co184 : Tryd.prog.cellsOf 184 = 1 := by kernel_rfl
theorem bo184 : Tryd.prog.bytesOf 184 = 8 := by kernel_rfl
theorem inf184 : (Tryd.prog.info? 184).map (fun i => (i.zero, i.size, i.bytes)) = some (some (.nilFunc), 1, 8) := by kernel_rfl
theorem sz185 : (Tryd.prog.info? 185).map (·.size) = some 1 := by kernel_rfl
theorem co185 : Tryd.prog.cellsOf 185 = 1 := by kernel_rfl
theorem bo185 : Tryd.prog.bytesOf 185 = 8 := by kernel_rfl
theorem inf185 : (Tryd.prog.info? 185).map (fun i => (i.zero, i.size, i.bytes)) = some (some (.nilFunc), 1, 8) := by kernel_rfl
theorem sz186 : (Tryd.prog.info? 186).map (·.size) = some 1 := by kernel_rfl
theorem co186 : Tryd.prog.cellsOf 186 = 1 := by kernel_rfl
theorem bo186 : Tryd.prog.bytesOf 186 = 8 := by kernel_rfl
theorem inf186 : (Tryd.prog.info? 186).map (fun i => (i.zero, i.size, i.bytes)) = some (some (.nilFunc), 1, 8) := by kernel_rfl
theorem sz187 : (Tryd.prog.info? 187).map (·.size) = some 1 := by kernel_rfl
theorem co187 : Tryd.prog.cellsOf 187 = 1 := by kernel_rfl
theorem bo187 : Tryd.prog.bytesOf 187 = 8 := by kernel_rfl
theorem inf187 : (Tryd.prog.info? 187).map (fun i => (i.zero, i.size, i.bytes)) = some (some (.nilFunc), 1, 8) := by kernel_rfl
theorem sz188 : (Tryd.prog.info? 188).map (·.size) = some 1 := by kernel_rfl
theorem co188 : Tryd.prog.cellsOf 188 = 1 := by kernel_rfl
theorem bo188 : Tryd.prog.bytesOf 188 = 8 := by kernel_rfl
theorem inf188 : (Tryd.prog.info? 188).map (fun i => (i.zero, i.size, i.bytes)) = some (some (.nilFunc), 1, 8) := by kernel_rfl
theorem sz189 : (Tryd.prog.info? 189).map (·.size) = some 1 := by kernel_rfl
theorem co189 : Tryd.prog.cellsOf 189 = 1 := by kernel_rfl
theorem bo189 : Tryd.prog.bytesOf 189 = 24 := by kernel_rfl
theorem z189 : ∀ w, (zeroValue 189).run Tryd.prog w = .ok (.slice none 0 0) w := fun _ => by kernel_rfl
theorem inf189 : (Tryd.prog.info? 189).map (fun i => (i.zero, i.size, i.bytes)) = some (some (.slice none 0 0), 1, 24) := by kernel_rfl
theorem sz190 : (Tryd.prog.info? 190).map (·.size) = some 1 := by kernel_rfl
theorem co190 : Tryd.prog.cellsOf 190 = 1 := by kernel_rfl
theorem bo190 : Tryd.prog.bytesOf 190 = 8 := by kernel_rfl
theorem inf190 : (Tryd.prog.info? 190).map (fun i => (i.zero, i.size, i.bytes)) = some (some (.nilFunc), 1, 8) := by kernel_rfl
theorem sz191 : (Tryd.prog.info? 191).map (·.size) = some 1 := by kernel_rfl
theorem co191 : Tryd.prog.cellsOf 191 = 1 := by kernel_rfl
theorem bo191 : Tryd.prog.bytesOf 191 = 8 := by kernel_rfl
theorem inf191 : (Tryd.prog.info? 191).map (fun i => (i.zero, i.size, i.bytes)) = some (some (.nilFunc), 1, 8) := by kernel_rfl
theorem sz192 : (Tryd.prog.info? 192).map (·.size) = some 1 := by kernel_rfl
theorem co192 : Tryd.prog.cellsOf 192 = 1 := by kernel_rfl
theorem bo192 : Tryd.prog.bytesOf 192 = 8 := by kernel_rfl
theorem inf192 : (Tryd.prog.info? 192).map (fun i => (i.zero, i.size, i.bytes)) = some (some (.nilFunc), 1, 8) := by kernel_rfl
theorem sz193 : (Tryd.prog.info? 193).map (·.size) = some 1 := by kernel_rfl
theorem co193 : Tryd.prog.cellsOf 193 = 1 := by kernel_rfl
theorem bo193 : Tryd.prog.bytesOf 193 = 8 := by kernel_rfl
theorem inf193 : (Tryd.prog.info? 193).map (fun i => (i.zero, i.size, i.bytes)) = some (some (.nilFunc), 1, 8) := by kernel_rfl
theorem sz194 : (Tryd.prog.info? 194).map (·.size) = some 1 := by kernel_rfl
theorem co194 : Tryd.prog.cellsOf 194 = 1 := by kernel_rfl
theorem bo194 : Tryd.prog.bytesOf 194 = 8 := by kernel_rfl
theorem inf194 : (Tryd.prog.info? 194).map (fun i => (i.zero, i.size, i.bytes)) = some (some (.nilFunc), 1, 8) := by kernel_rfl
theorem sz195 : (Tryd.prog.info? 195).map (·.size) = some 1 := by kernel_rfl
theorem co195 : Tryd.prog.cellsOf 195 = 1 := by kernel_rfl
theorem bo195 : Tryd.prog.bytesOf 195 = 8 := by kernel_rfl
theorem z195 : ∀ w, (zeroValue 195).run Tryd.prog w = .ok (.int .u64 0) w := fun _ => by kernel_rfl
theorem inf195 : (Tryd.prog.info? 195).map (fun i => (i.zero, i.size, i.bytes)) = some (some (.int .u64 0), 1, 8) := by kernel_rfl
theorem sz197 : (Tryd.prog.info? 197).map (·.size) = some 1 := by kernel_rfl
theorem co197 : Tryd.prog.cellsOf 197 = 1 := by kernel_rfl
theorem bo197 : Tryd.prog.bytesOf 197 = 8 := by kernel_rfl
theorem inf197 : (Tryd.prog.info? 197).map (fun i => (i.zero, i.size, i.bytes)) = some (some (.nilFunc), 1, 8) := by kernel_rfl
theorem sz198 : (Tryd.prog.info? 198).map (·.size) = some 1 := by kernel_rfl
theorem co198 : Tryd.prog.cellsOf 198 = 1 := by kernel_rfl
theorem bo198 : Tryd.prog.bytesOf 198 = 8 := by kernel_rfl
theorem inf198 : (Tryd.prog.info? 198).map (fun i => (i.zero, i.size, i.bytes)) = some (some (.nilFunc), 1, 8) := by kernel_rfl
theorem sz199 : (Tryd.prog.info? 199).map (·.size) = some 1 := by kernel_rfl
theorem co199 : Tryd.prog.cellsOf 199 = 1 := by kernel_rfl
theorem bo199 : Tryd.prog.bytesOf 199 = 8 := by kernel_rfl
theorem inf199 : (Tryd.prog.info? 199).map (fun i => (i.zero, i.size, i.bytes)) = some (some (.nilFunc), 1, 8) := by kernel_rfl
theorem sz200 : (Tryd.prog.info? 200).map (·.size) = some 1 := by kernel_rfl
theorem co200 : Tryd.prog.cellsOf 200 = 1 := by kernel_rfl
theorem bo200 : Tryd.prog.bytesOf 200 = 8 := by kernel_rfl
theorem inf200 : (Tryd.prog.info? 200).map (fun i => (i.zero, i.size, i.bytes)) = some (some (.nilFunc), 1, 8) := by kernel_rfl
theorem sz201 : (Tryd.prog.info? 201).map (·.size) = some 1 := by kernel_rfl
theorem co201 : Tryd.prog.cellsOf 201 = 1 := by kernel_rfl
theorem bo201 : Tryd.prog.bytesOf 201 = 8 := by kernel_rfl
theorem inf201 : (Tryd.prog.info? 201).map (fun i => (i.zero, i.size, i.bytes)) = some (some (.nilFunc), 1, 8) := by kernel_rfl
theorem sz202 : (Tryd.prog.info? 202).map (·.size) = some 1 := by kernel_rfl
theorem co202 : Tryd.prog.cellsOf 202 = 1 := by kernel_rfl
theorem bo202 : Tryd.prog.bytesOf 202 = 8 := by kernel_rfl
theorem inf202 : (Tryd.prog.info? 202).map (fun i => (i.zero, i.size, i.bytes)) = some (some (.nilFunc), 1, 8) := by kernel_rfl
theorem sz203 : (Tryd.prog.info? 203).map (·.size) = some 1 := by kernel_rfl
theorem co203 : Tryd.prog.cellsOf 203 = 1 := by kernel_rfl
theorem bo203 : Tryd.prog.bytesOf 203 = 8 := by kernel_rfl
theorem inf203 : (Tryd.prog.info? 203).map (fun i => (i.zero, i.size, i.bytes)) = some (some (.nilFunc), 1, 8) := by kernel_rfl
theorem sz204 : (Tryd.prog.info? 204).map (·.size) = some 1 := by kernel_rfl
theorem co204 : Tryd.prog.cellsOf 204 = 1 := by kernel_rfl
theorem bo204 : Tryd.prog.bytesOf 204 = 8 := by kernel_rfl
theorem inf204 : (Tryd.prog.info? 204).map (fun i => (i.zero, i.size, i.bytes)) = some (some (.nilFunc), 1, 8) := by kernel_rfl
theorem sz205 : (Tryd.prog.info? 205).map (·.size) = some 1 := by kernel_rfl
theorem co205 : Tryd.prog.cellsOf 205 = 1 := by kernel_rfl
theorem bo205 : Tryd.prog.bytesOf 205 = 24 := by kernel_rfl
theorem z205 : ∀ w, (zeroValue 205).run Tryd.prog w = .ok (.slice none 0 0) w := fun _ => by kernel_rfl
theorem inf205 : (Tryd.prog.info? 205).map (fun i => (i.zero, i.size, i.bytes)) = some (some (.slice none 0 0), 1, 24) := by kernel_rfl
theorem sz206 : (Tryd.prog.info? 206).map (·.size) = some 1 := by kernel_rfl
theorem co206 : Tryd.prog.cellsOf 206 = 1 := by kernel_rfl
theorem bo206 : Tryd.prog.bytesOf 206 = 8 := by kernel_rfl
theorem inf206 : (Tryd.prog.info? 206).map (fun i => (i.zero, i.size, i.bytes)) = some (some (.nilFunc), 1, 8) := by kernel_rfl
theorem sz208 : (Tryd.prog.info? 208).map (·.size) = some 1 := by kernel_rfl
theorem co208 : Tryd.prog.cellsOf 208 = 1 := by kernel_rfl
theorem bo208 : Tryd.prog.bytesOf 208 = 8 := by kernel_rfl
theorem inf208 : (Tryd.prog.info? 208).map (fun i => (i.zero, i.size, i.bytes)) = some (some (.nilFunc), 1, 8) := by kernel_rfl
theorem sz209 : (Tryd.prog.info? 209).map (·.size) = some 1 := by kernel_rfl
theorem co209 : Tryd.prog.cellsOf 209 = 1 := by kernel_rfl
theorem bo209 : Tryd.prog.bytesOf 209 = 24 := by kernel_rfl
theorem z209 : ∀ w, (zeroValue 209).run Tryd.prog w = .ok (.slice none 0 0) w := fun _ => by kernel_rfl
theorem inf209 : (Tryd.prog.info? 209).map (fun i => (i.zero, i.size, i.bytes)) = some (some (.slice none 0 0), 1, 24) := by kernel_rfl
theorem sz210 : (Tryd.prog.info? 210).map (·.size) = some 1 := by kernel_rfl
theorem co210 : Tryd.prog.cellsOf 210 = 1 := by kernel_rfl
theorem bo210 : Tryd.prog.bytesOf 210 = 8 := by kernel_rfl
theorem inf210 : (Tryd.prog.info? 210).map (fun i => (i.zero, i.size, i.bytes)) = some (some (.nilFunc), 1, 8) := by kernel_rfl
theorem sz211 : (Tryd.prog.info? 211).map (·.size) = some 256 := by kernel_rfl
theorem co211 : Tryd.prog.cellsOf 211 = 256 := by kernel_rfl
theorem bo211 : Tryd.prog.bytesOf 211 = 256 := by kernel_rfl
theorem z211 : ∀ w, (zeroValue 211).run Tryd.prog w = .ok (.agg #[.bool false, .bool false, .bool false, .bool false, .bool false, .bool false, .bool false, .bool false, .bool false, .bool false, .bool false, .bool false, .bool false, .bool false, .bool false, .bool false, .bool false, .bool false, .bool false, .bool false, .bool false, .bool false, .bool false, .bool false, .bool false, .bool false, .bool false, .bool false, .bool false, .bool false, .bool false, .bool false, .bool false, .bool false, .bool false, .bool false, .bool false, .bool false, .bool false, .bool false, .bool false, .bool false, .bool false, .bool false, .bool false, .bool false, .bool false, .bool false, .bool false, .bool false, .bool false, .bool false, .bool false, .bool false, .bool false, .bool false, .bool false, .bool false, .bool false, .bool false, .bool false, .bool false, .bool false, .bool false, .bool false, .bool false, .bool false, .bool false, .bool false, .bool false, .bool false, .bool false, .bool false, .bool false, .bool false, .bool false, .bool false, .bool false, .bool false, .bool false, .bool false, .bool false, .bool false, .bool false, .bool false, .bool false, .bool false, .bool false, .bool false, .bool false, .bool false, .bool false, .bool false, .bool false, .bool false, .bool false, .bool false, .bool false, .bool false, .bool false, .bool false, .bool false, .bool false, .bool false, .bool false, .bool false, .bool false, .bool false, .bool false, .bool false, .bool false, .bool false, .bool false, .bool false, .bool false, .bool false, .bool false, .bool false, .bool false, .bool false, .bool false, .bool false, .bool false, .bool false, .bool false, .bool false, .bool false, .bool false, .bool false, .bool false, .bool false, .bool false, .bool false, .bool false, .bool false, .bool false, .bool false, .bool false, .bool false, .bool false, .bool false, .bool false, .bool false, .bool false, .bool false, .bool false, .bool false, .bool false, .bool false, .bool false, .bool false, .bool false, .bool false, .bool false, .bool false, .bool false, .bool false, .bool false, .bool false, .bool false, .bool false, .bool false, .bool false, .bool false, .bool false, .bool false, .bool false, .bool false, .bool false, .bool false, .bool false, .bool false, .bool false, .bool false, .bool false, .bool false, .bool false, .bool false, .bool false, .bool false, .bool false, .bool false, .bool false, .bool false, .bool false, .bool false, .bool false, .bool false, .bool false, .bool false, .bool false, .bool false, .bool false, .bool false, .bool false, .bool false, .bool false, .bool false, .bool false, .bool false, .bool false, .bool false, .bool false, .bool false, .bool false, .bool false, .bool false, .bool false, .bool false, .bool false, .bool false, .bool false, .bool false, .bool false, .bool false, .bool false, .bool false, .bool false, .bool false, .bool false, .bool false, .bool false, .bool false, .bool false, .bool false, .bool false, .bool false, .bool false, .bool false, .bool false, .bool false, .bool false, .bool false, .bool false, .bool false, .bool false, .bool false, .bool false, .bool false, .bool false, .bool false, .bool false, .bool false, .bool false, .bool false, .bool false, .bool false, .bool false, .bool false, .bool false, .bool false, .bool false, .bool false, .bool false, .bool false, .bool false]) w := fun _ => by kernel_rfl
theorem inf211 : (Tryd.prog.info? 211).map (fun i => (i.zero, i.size, i.bytes)) = some (some (.agg #[.bool false, .bool false, .bool false, .bool false, .bool false, .bool false, .bool false, .bool false, .bool false, .bool false, .bool false, .bool false, .bool false, .bool false, .bool false, .bool false, .bool false, .bool false, .bool false, .bool false, .bool false, .bool false, .bool false, .bool false, .bool false, .bool false, .bool false, .bool false, .bool false, .bool false, .bool false, .bool false, .bool false, .bool false, .bool false, .bool false, .bool false, .bool false, .bool false, .bool false, .bool false, .bool false, .bool false, .bool false, .bool false, .bool false, .bool false, .bool false, .bool false, .bool false, .bool false, .bool false, .bool false, .bool false, .bool false, .bool false, .bool false, .bool false, .bool false, .bool false, .bool false, .bool false, .bool false, .bool false, .bool false, .bool false, .bool false, .bool false, .bool false, .bool false, .bool false, .bool false, .bool false, .bool false, .bool false, .bool false, .bool false, .bool false, .bool false, .bool false, .bool false, .bool false, .bool false, .bool false, .bool false, .bool false, .bool false, .bool false, .bool false, .bool false, .bool false, .bool false, .bool false, .bool false, .bool false, .bool false, .bool false, .bool false, .bool false, .bool false, .bool false, .bool false, .bool false, .bool false, .bool false, .bool false, .bool false, .bool false, .bool false, .bool false, .bool false, .bool false, .bool false, .bool false, .bool false, .bool false, .bool false, .bool false, .bool false, .bool false, .bool false, .bool false, .bool false, .bool false, .bool false, .bool false, .bool false, .bool false, .bool false, .bool false, .bool false, .bool false, .bool false, .bool false, .bool false, .bool false, .bool false, .bool false, .bool false, .bool false, .bool false, .bool false, .bool false, .bool false, .bool false, .bool false, .bool false, .bool false, .bool false, .bool false, .bool false, .bool false, .bool false, .bool false, .bool false, .bool false, .bool false, .bool false, .bool false, .bool false, .bool false, .bool false, .bool false, .bool false, .bool false, .bool false, .bool false, .bool false, .bool false, .bool false, .bool false, .bool false, .bool false, .bool false, .bool false, .bool false, .bool false, .bool false, .bool false, .bool false, .bool false, .bool false, .bool false, .bool false, .bool false, .bool false, .bool false, .bool false, .bool false, .bool false, .bool false, .bool false, .bool false, .bool false, .bool false, .bool false, .bool false, .bool false, .bool false, .bool false, .bool false, .bool false, .bool false, .bool false, .bool false, .bool false, .bool false, .bool false, .bool false, .bool false, .bool false, .bool false, .bool false, .bool false, .bool false, .bool false, .bool false, .bool false, .bool false, .bool false, .bool false, .bool false, .bool false, .bool false, .bool false, .bool false, .bool false, .bool false, .bool false, .bool false, .bool false, .bool false, .bool false, .bool false, .bool false, .bool false, .bool false, .bool false, .bool false, .bool false, .bool false, .bool false, .bool false, .bool false, .bool false, .bool false, .bool false, .bool false, .bool false, .bool false, .bool false, .bool false, .bool false, .bool false, .bool false, .bool false]), 256, 256) := by kernel_rfl
theorem sz212 : (Tryd.prog.info? 212).map (·.size) = some 256 := by kernel_rfl
theorem co212 : Tryd.prog.cellsOf 212 = 256 := by kernel_rfl
theorem bo212 : Tryd.prog.bytesOf 212 = 256 := by kernel_rfl
theorem z212 : ∀ w, (zeroValue 212).run Tryd.prog w = .ok (.agg #[.bool false, .bool false, .bool false, .bool false, .bool false, .bool false, .bool false, .bool false, .bool false, .bool false, .bool false, .bool false, .bool false, .bool false, .bool false, .bool false, .bool false, .bool false, .bool false, .bool false, .bool false, .bool false, .bool false, .bool false, .bool false, .bool false, .bool false, .bool false, .bool false, .bool false, .bool false, .bool false, .bool false, .bool false, .bool false, .bool false, .bool false, .bool false, .bool false, .bool false, .bool false, .bool false, .bool false, .bool false, .bool false, .bool false, .bool false, .bool false, .bool false, .bool false, .bool false, .bool false, .bool false, .bool false, .bool false, .bool false, .bool false, .bool false, .bool false, .bool false, .bool false, .bool false, .bool false, .bool false, .bool false, .bool false, .bool false, .bool false, .bool false, .bool false, .bool false, .bool false, .bool false, .bool false, .bool false, .bool false, .bool false, .bool false, .bool false, .bool false, .bool false, .bool false, .bool false, .bool false, .bool false, .bool false, .bool false, .bool false, .bool false, .bool false, .bool false, .bool false, .bool false, .bool false, .bool false, .bool false, .bool false, .bool false, .bool false, .bool false, .bool false, .bool false, .bool false, .bool false, .bool false, .bool false, .bool false, .bool false, .bool false, .bool false, .bool false, .bool false, .bool false, .bool false, .bool false, .bool false, .bool false, .bool false, .bool false, .bool false, .bool false, .bool false, .bool false, .bool false, .bool false, .bool false, .bool false, .bool false, .bool false, .bool false, .bool false, .bool false, .bool false, .bool false, .bool false, .bool false, .bool false, .bool false, .bool false, .bool false, .bool false, .bool false, .bool false, .bool false, .bool false, .bool false, .bool false, .bool false, .bool false, .bool false, .bool false, .bool false, .bool false, .bool false, .bool false, .bool false, .bool false, .bool false, .bool false, .bool false, .bool false, .bool false, .bool false, .bool false, .bool false, .bool false, .bool false, .bool false, .bool false, .bool false, .bool false, .bool false, .bool false, .bool false, .bool false, .bool false, .bool false, .bool false, .bool false, .bool false, .bool false, .bool false, .bool false, .bool false, .bool false, .bool false, .bool false, .bool false, .bool false, .bool false, .bool false, .bool false, .bool false, .bool false, .bool false, .bool false, .bool false, .bool false, .bool false, .bool false, .bool false, .bool false, .bool false, .bool false, .bool false, .bool false, .bool false, .bool false, .bool false, .bool false, .bool false, .bool false, .bool false, .bool false, .bool false, .bool false, .bool false, .bool false, .bool false, .bool false, .bool false, .bool false, .bool false, .bool false, .bool false, .bool false, .bool false, .bool false, .bool false, .bool false, .bool false, .bool false, .bool false, .bool false, .bool false, .bool false, .bool false, .bool false, .bool false, .bool false, .bool false, .bool false, .bool false, .bool false, .bool false, .bool false, .bool false, .bool false, .bool false, .bool false, .bool false, .bool false, .bool false, .bool false, .bool false, .bool false]) w := fun _ => by kernel_rfl
theorem inf212 : (Tryd.prog.info? 212).map (fun i => (i.zero, i.size, i.bytes)) = some (some (.agg #[.bool false, .bool false, .bool false, .bool false, .bool false, .bool false, .bool false, .bool false, .bool false, .bool false, .bool false, .bool false, .bool false, .bool false, .bool false, .bool false, .bool false, .bool false, .bool false, .bool false, .bool false, .bool false, .bool false, .bool false, .bool false, .bool false, .bool false, .bool false, .bool false, .bool false, .bool false, .bool false, .bool false, .bool false, .bool false, .bool false, .bool false, .bool false, .bool false, .bool false, .bool false, .bool false, .bool false, .bool false, .bool false, .bool false, .bool false, .bool false, .bool false, .bool false, .bool false, .bool false, .bool false, .bool false, .bool false, .bool false, .bool false, .bool false, .bool false, .bool false, .bool false, .bool false, .bool false, .bool false, .bool false, .bool false, .bool false, .bool false, .bool false, .bool false, .bool false, .bool false, .bool false, .bool false, .bool false, .bool false, .bool false, .bool false, .bool false, .bool false, .bool false, .bool false, .bool false, .bool false, .bool false, .bool false, .bool false, .bool false, .bool false, .bool false, .bool false, .bool false, .bool false, .bool false, .bool false, .bool false, .bool false, .bool false, .bool false, .bool false, .bool false, .bool false, .bool false, .bool false, .bool false, .bool false, .bool false, .bool false, .bool false, .bool false, .bool false, .bool false, .bool false, .bool false, .bool false, .bool false, .bool false, .bool false, .bool false, .bool false, .bool false, .bool false, .bool false, .bool false, .bool false, .bool false, .bool false, .bool false, .bool false, .bool false, .bool false, .bool false, .bool false, .bool false, .bool false, .bool false, .bool false, .bool false, .bool false, .bool false, .bool false, .bool false, .bool false, .bool false, .bool false, .bool false, .bool false, .bool false, .bool false, .bool false, .bool false, .bool false, .bool false, .bool false, .bool false, .bool false, .bool false, .bool false, .bool false, .bool false, .bool false, .bool false, .bool false, .bool false, .bool false, .bool false, .bool false, .bool false, .bool false, .bool false, .bool false, .bool false, .bool false, .bool false, .bool false, .bool false, .bool false, .bool false, .bool false, .bool false, .bool false, .bool false, .bool false, .bool false, .bool false, .bool false, .bool false, .bool false, .bool false, .bool false, .bool false, .bool false, .bool false, .bool false, .bool false, .bool false, .bool false, .bool false, .bool false, .bool false, .bool false, .bool false, .bool false, .bool false, .bool false, .bool false, .bool false, .bool false, .bool false, .bool false, .bool false, .bool false, .bool false, .bool false, .bool false, .bool false, .bool false, .bool false, .bool false, .bool false, .bool false, .bool false, .bool false, .bool false, .bool false, .bool false, .bool false, .bool false, .bool false, .bool false, .bool false, .bool false, .bool false, .bool false, .bool false, .bool false, .bool false, .bool false, .bool false, .bool false, .bool false, .bool false, .bool false, .bool false, .bool false, .bool false, .bool false, .bool false, .bool false, .bool false, .bool false, .bool false, .bool false, .bool false, .bool false, .bool false]), 256, 256) := by kernel_rfl
theorem sz214 : (Tryd.prog.info? 214).map (·.size) = some 1 := by kernel_rfl
theorem co214 : Tryd.prog.cellsOf 214 = 1 := by kernel_rfl
theorem bo214 : Tryd.prog.bytesOf 214 = 8 := by kernel_rfl
theorem inf214 : (Tryd.prog.info? 214).map (fun i => (i.zero, i.size, i.bytes)) = some (some (.nilFunc), 1, 8) := by kernel_rfl
theorem sz215 : (Tryd.prog.info? 215).map (·.size) = some 1 := by kernel_rfl
theorem co215 : Tryd.prog.cellsOf 215 = 1 := by kernel_rfl
theorem bo215 : Tryd.prog.bytesOf 215 = 8 := by kernel_rfl
theorem inf215 : (Tryd.prog.info? 215).map (fun i => (i.zero, i.size, i.bytes)) = some (some (.nilFunc), 1, 8) := by kernel_rfl
theorem sz216 : (Tryd.prog.info? 216).map (·.size) = some 1 := by kernel_rfl
theorem co216 : Tryd.prog.cellsOf 216 = 1 := by kernel_rfl
theorem bo216 : Tryd.prog.bytesOf 216 = 8 := by kernel_rfl
theorem z216 : ∀ w, (zeroValue 216).run Tryd.prog w = .ok (.pointer none) w := fun _ => by kernel_rfl
theorem inf216 : (Tryd.prog.info? 216).map (fun i => (i.zero, i.size, i.bytes)) = some (some (.pointer none), 1, 8) := by kernel_rfl
theorem sz217 : (Tryd.prog.info? 217).map (·.size) = some 1 := by kernel_rfl
theorem co217 : Tryd.prog.cellsOf 217 = 1 := by kernel_rfl
theorem bo217 : Tryd.prog.bytesOf 217 = 8 := by kernel_rfl
theorem z217 : ∀ w, (zeroValue 217).run Tryd.prog w = .ok (.pointer none) w := fun _ => by kernel_rfl
theorem inf217 : (Tryd.prog.info? 217).map (fun i => (i.zero, i.size, i.bytes)) = some (some (.pointer none), 1, 8) := by kernel_rfl
theorem sz218 : (Tryd.prog.info? 218).map (·.size) = some 1 := by kernel_rfl
theorem co218 : Tryd.prog.cellsOf 218 = 1 := by kernel_rfl
theorem bo218 : Tryd.prog.bytesOf 218 = 8 := by kernel_rfl
theorem inf218 : (Tryd.prog.info? 218).map (fun i => (i.zero, i.size, i.bytes)) = some (some (.nilFunc), 1, 8) := by kernel_rfl
theorem sz219 : (Tryd.prog.info? 219).map (·.size) = some 1 := by kernel_rfl
theorem co219 : Tryd.prog.cellsOf 219 = 1 := by kernel_rfl
theorem bo219 : Tryd.prog.bytesOf 219 = 8 := by kernel_rfl
theorem inf219 : (Tryd.prog.info? 219).map (fun i => (i.zero, i.size, i.bytes)) = some (some (.nilFunc), 1, 8) := by kernel_rfl
theorem sz220 : (Tryd.prog.info? 220).map (·.size) = some 1 := by kernel_rfl
theorem co220 : Tryd.prog.cellsOf 220 = 1 := by kernel_rfl
theorem bo220 : Tryd.prog.bytesOf 220 = 8 := by kernel_rfl
theorem inf220 : (Tryd.prog.info? 220).map (fun i => (i.zero, i.size, i.bytes)) = some (some (.nilFunc), 1, 8) := by kernel_rfl
theorem sz221 : (Tryd.prog.info? 221).map (·.size) = some 1 := by kernel_rfl
theorem co221 : Tryd.prog.cellsOf 221 = 1 := by kernel_rfl
theorem bo221 : Tryd.prog.bytesOf 221 = 8 := by kernel_rfl
theorem inf221 : (Tryd.prog.info? 221).map (fun i => (i.zero, i.size, i.bytes)) = some (some (.nilFunc), 1, 8) := by kernel_rfl
theorem sz222 : (Tryd.prog.info? 222).map (·.size) = some 1 := by kernel_rfl
theorem co222 : Tryd.prog.cellsOf 222 = 1 := by kernel_rfl
theorem bo222 : Tryd.prog.bytesOf 222 = 8 := by kernel_rfl
theorem inf222 : (Tryd.prog.info? 222).map (fun i => (i.zero, i.size, i.bytes)) = some (some (.nilFunc), 1, 8) := by kernel_rfl
theorem sz223 : (Tryd.prog.info? 223).map (·.size) = some 1 := by kernel_rfl
theorem co223 : Tryd.prog.cellsOf 223 = 1 := by kernel_rfl
theorem bo223 : Tryd.prog.bytesOf 223 = 8 := by kernel_rfl
theorem inf223 : (Tryd.prog.info? 223).map (fun i => (i.zero, i.size, i.bytes)) = some (some (.nilFunc), 1, 8) := by kernel_rfl
theorem sz224 : (Tryd.prog.info? 224).map (·.size) = some 1 := by kernel_rfl
theorem co224 : Tryd.prog.cellsOf 224 = 1 := by kernel_rfl
theorem bo224 : Tryd.prog.bytesOf 224 = 8 := by kernel_rfl
theorem inf224 : (Tryd.prog.info? 224).map (fun i => (i.zero, i.size, i.bytes)) = some (some (.nilFunc), 1, 8) := by kernel_rfl
theorem sz225 : (Tryd.prog.info? 225).map (·.size) = some 24 := by kernel_rfl
theorem co225 : Tryd.prog.cellsOf 225 = 24 := by kernel_rfl
theorem bo225 : Tryd.prog.bytesOf 225 = 24 := by kernel_rfl
theorem z225 : ∀ w, (zeroValue 225).run Tryd.prog w = .ok (.agg #[.int .u8 0, .int .u8 0, .int .u8 0, .int .u8 0, .int .u8 0, .int .u8 0, .int .u8 0, .int .u8 0, .int .u8 0, .int .u8 0, .int .u8 0, .int .u8 0, .int .u8 0, .int .u8 0, .int .u8 0, .int .u8 0, .int .u8 0, .int .u8 0, .int .u8 0, .int .u8 0, .int .u8 0, .int .u8 0, .int .u8 0, .int .u8 0]) w := fun _ => by kernel_rfl
theorem inf225 : (Tryd.prog.info? 225).map (fun i => (i.zero, i.size, i.bytes)) = some (some (.agg #[.int .u8 0, .int .u8 0, .int .u8 0, .int .u8 0, .int .u8 0, .int .u8 0, .int .u8 0, .int .u8 0, .int .u8 0, .int .u8 0, .int .u8 0, .int .u8 0, .int .u8 0, .int .u8 0, .int .u8 0, .int .u8 0, .int .u8 0, .int .u8 0, .int .u8 0, .int .u8 0, .int .u8 0, .int .u8 0, .int .u8 0, .int .u8 0]), 24, 24) := by kernel_rfl
theorem sz226 : (Tryd.prog.info? 226).map (·.size) = some 1 := by kernel_rfl
theorem co226 : Tryd.prog.cellsOf 226 = 1 := by kernel_rfl
theorem bo226 : Tryd.prog.bytesOf 226 = 8 := by kernel_rfl
theorem inf226 : (Tryd.prog.info? 226).map (fun i => (i.zero, i.size, i.bytes)) = some (some (.nilFunc), 1, 8) := by kernel_rfl
theorem sz227 : (Tryd.prog.info? 227).map (·.size) = some 1 := by kernel_rfl
theorem co227 : Tryd.prog.cellsOf 227 = 1 := by kernel_rfl
theorem bo227 : Tryd.prog.bytesOf 227 = 8 := by kernel_rfl
theorem inf227 : (Tryd.prog.info? 227).map (fun i => (i.zero, i.size, i.bytes)) = some (some (.nilFunc), 1, 8) := by kernel_rfl
theorem sz229 : (Tryd.prog.info? 229).map (·.size) = some 1 := by kernel_rfl
theorem co229 : Tryd.prog.cellsOf 229 = 1 := by kernel_rfl
theorem bo229 : Tryd.prog.bytesOf 229 = 8 := by kernel_rfl
theorem inf229 : (Tryd.prog.info? 229).map (fun i => (i.zero, i.size, i.bytes)) = some (some (.nilFunc), 1, 8) := by kernel_rfl
theorem sz230 : (Tryd.prog.info? 230).map (·.size) = some 1 := by kernel_rfl
theorem co230 : Tryd.prog.cellsOf 230 = 1 := by kernel_rfl
theorem bo230 : Tryd.prog.bytesOf 230 = 4 := by kernel_rfl
theorem z230 : ∀ w, (zeroValue 230).run Tryd.prog w = .ok (.int .u32 0) w := fun _ => by kernel_rfl
theorem inf230 : (Tryd.prog.info? 230).map (fun i => (i.zero, i.size, i.bytes)) = some (some (.int .u32 0), 1, 4) := by kernel_rfl
theorem sz232 : (Tryd.prog.info? 232).map (·.size) = some 1 := by kernel_rfl
theorem co232 : Tryd.prog.cellsOf 232 = 1 := by kernel_rfl
theorem bo232 : Tryd.prog.bytesOf 232 = 8 := by kernel_rfl
theorem inf232 : (Tryd.prog.info? 232).map (fun i => (i.zero, i.size, i.bytes)) = some (some (.nilFunc), 1, 8) := by kernel_rfl
theorem sz234 : (Tryd.prog.info? 234).map (·.size) = some 1 := by kernel_rfl
theorem co234 : Tryd.prog.cellsOf 234 = 1 := by kernel_rfl
theorem bo234 : Tryd.prog.bytesOf 234 = 8 := by kernel_rfl
theorem inf234 : (Tryd.prog.info? 234).map (fun i => (i.zero, i.size, i.bytes)) = some (some (.nilFunc), 1, 8) := by kernel_rfl
theorem sz235 : (Tryd.prog.info? 235).map (·.size) = some 1 := by kernel_rfl
theorem co235 : Tryd.prog.cellsOf 235 = 1 := by kernel_rfl
theorem bo235 : Tryd.prog.bytesOf 235 = 8 := by kernel_rfl
theorem inf235 : (Tryd.prog.info? 235).map (fun i => (i.zero, i.size, i.bytes)) = some (some (.nilFunc), 1, 8) := by kernel_rfl
theorem sz236 : (Tryd.prog.info? 236).map (·.size) = some 1 := by kernel_rfl
theorem co236 : Tryd.prog.cellsOf 236 = 1 := by kernel_rfl
theorem bo236 : Tryd.prog.bytesOf 236 = 8 := by kernel_rfl
theorem inf236 : (Tryd.prog.info? 236).map (fun i => (i.zero, i.size, i.bytes)) = some (some (.nilFunc), 1, 8) := by kernel_rfl
theorem sz237 : (Tryd.prog.info? 237).map (·.size) = some 1 := by kernel_rfl
theorem co237 : Tryd.prog.cellsOf 237 = 1 := by kernel_rfl
theorem bo237 : Tryd.prog.bytesOf 237 = 8 := by kernel_rfl
theorem inf237 : (Tryd.prog.info? 237).map (fun i => (i.zero, i.size, i.bytes)) = some (some (.nilFunc), 1, 8) := by kernel_rfl
theorem sz238 : (Tryd.prog.info? 238).map (·.size) = some 1 := by kernel_rfl
theorem co238 : Tryd.prog.cellsOf 238 = 1 := by kernel_rfl
theorem bo238 : Tryd.prog.bytesOf 238 = 8 := by kernel_rfl
theorem inf238 : (Tryd.prog.info? 238).map (fun i => (i.zero, i.size, i.bytes)) = some (some (.nilFunc), 1, 8) := by kernel_rfl
theorem sz239 : (Tryd.prog.info? 239).map (·.size) = some 1 := by kernel_rfl
theorem co239 : Tryd.prog.cellsOf 239 = 1 := by kernel_rfl
theorem bo239 : Tryd.prog.bytesOf 239 = 8 := by kernel_rfl
theorem z239 : ∀ w, (zeroValue 239).run Tryd.prog w = .ok (.int .i64 0) w := fun _ => by kernel_rfl
theorem inf239 : (Tryd.prog.info? 239).map (fun i => (i.zero, i.size, i.bytes)) = some (some (.int .i64 0), 1, 8) := by kernel_rfl
theorem sz241 : (Tryd.prog.info? 241).map (·.size) = some 1 := by kernel_rfl
theorem co241 : Tryd.prog.cellsOf 241 = 1 := by kernel_rfl
theorem bo241 : Tryd.prog.bytesOf 241 = 8 := by kernel_rfl
theorem inf241 : (Tryd.prog.info? 241).map (fun i => (i.zero, i.size, i.bytes)) = some (some (.nilFunc), 1, 8) := by kernel_rfl
theorem sz242 : (Tryd.prog.info? 242).map (·.size) = some 1 := by kernel_rfl
theorem co242 : Tryd.prog.cellsOf 242 = 1 := by kernel_rfl
theorem bo242 : Tryd.prog.bytesOf 242 = 8 := by kernel_rfl
theorem inf242 : (Tryd.prog.info? 242).map (fun i => (i.zero, i.size, i.bytes)) = some (some (.nilFunc), 1, 8) := by kernel_rfl
theorem sz243 : (Tryd.prog.info? 243).map (·.size) = some 1 := by kernel_rfl
theorem co243 : Tryd.prog.cellsOf 243 = 1 := by kernel_rfl
theorem bo243 : Tryd.prog.bytesOf 243 = 8 := by kernel_rfl
theorem inf243 : (Tryd.prog.info? 243).map (fun i => (i.zero, i.size, i.bytes)) = some (some (.nilFunc), 1, 8) := by kernel_rfl
theorem sz244 : (Tryd.prog.info? 244).map (·.size) = some 1 := by kernel_rfl
theorem co244 : Tryd.prog.cellsOf 244 = 1 := by kernel_rfl
theorem bo244 : Tryd.prog.bytesOf 244 = 8 := by kernel_rfl
theorem inf244 : (Tryd.prog.info? 244).map (fun i => (i.zero, i.size, i.bytes)) = some (some (.nilFunc), 1, 8) := by kernel_rfl
theorem sz245 : (Tryd.prog.info? 245).map (·.size) = some 1 := by kernel_rfl
theorem co245 : Tryd.prog.cellsOf 245 = 1 := by kernel_rfl
theorem bo245 : Tryd.prog.bytesOf 245 = 8 := by kernel_rfl
theorem inf245 : (Tryd.prog.info? 245).map (fun i => (i.zero, i.size, i.bytes)) = some (some (.nilFunc), 1, 8) := by kernel_rfl
theorem sz246 : (Tryd.prog.info? 246).map (·.size) = some 1 := by kernel_rfl
theorem co246 : Tryd.prog.cellsOf 246 = 1 := by kernel_rfl
theorem bo246 : Tryd.prog.bytesOf 246 = 8 := by kernel_rfl
theorem inf246 : (Tryd.prog.info? 246).map (fun i => (i.zero, i.size, i.bytes)) = some (some (.nilFunc), 1, 8) := by kernel_rfl
theorem sz247 : (Tryd.prog.info? 247).map (·.size) = some 1 := by kernel_rfl
theorem co247 : Tryd.prog.cellsOf 247 = 1 := by kernel_rfl
theorem bo247 : Tryd.prog.bytesOf 247 = 8 := by kernel_rfl
theorem inf247 : (Tryd.prog.info? 247).map (fun i => (i.zero, i.size, i.bytes)) = some (some (.nilFunc), 1, 8) := by kernel_rfl
theorem sz248 : (Tryd.prog.info? 248).map (·.size) = some 1 := by kernel_rfl
theorem co248 : Tryd.prog.cellsOf 248 = 1 := by kernel_rfl
theorem bo248 : Tryd.prog.bytesOf 248 = 8 := by kernel_rfl
theorem inf248 : (Tryd.prog.info? 248).map (fun i => (i.zero, i.size, i.bytes)) = some (some (.nilFunc), 1, 8) := by kernel_rfl
theorem sz249 : (Tryd.prog.info? 249).map (·.size) = some 1 := by kernel_rfl
theorem co249 : Tryd.prog.cellsOf 249 = 1 := by kernel_rfl
theorem bo249 : Tryd.prog.bytesOf 249 = 8 := by kernel_rfl
theorem inf249 : (Tryd.prog.info? 249).map (fun i => (i.zero, i.size, i.bytes)) = some (some (.nilFunc), 1, 8) := by kernel_rfl
theorem sz250 : (Tryd.prog.info? 250).map (·.size) = some 1 := by kernel_rfl
theorem co250 : Tryd.prog.cellsOf 250 = 1 := by kernel_rfl
theorem bo250 : Tryd.prog.bytesOf 250 = 8 := by kernel_rfl
theorem inf250 : (Tryd.prog.info? 250).map (fun i => (i.zero, i.size, i.bytes)) = some (some (.nilFunc), 1, 8) := by kernel_rfl
theorem sz251 : (Tryd.prog.info? 251).map (·.size) = some 1 := by kernel_rfl
theorem co251 : Tryd.prog.cellsOf 251 = 1 := by kernel_rfl
theorem bo251 : Tryd.prog.bytesOf 251 = 8 := by kernel_rfl
theorem inf251 : (Tryd.prog.info? 251).map (fun i => (i.zero, i.size, i.bytes)) = some (some (.nilFunc), 1, 8) := by kernel_rfl
theorem sz253 : (Tryd.prog.info? 253).map (·.size) = some 1 := by kernel_rfl
theorem co253 : Tryd.prog.cellsOf 253 = 1 := by kernel_rfl
theorem bo253 : Tryd.prog.bytesOf 253 = 8 := by kernel_rfl
theorem inf253 : (Tryd.prog.info? 253).map (fun i => (i.zero, i.size, i.bytes)) = some (some (.nilFunc), 1, 8) := by kernel_rfl
theorem sz254 : (Tryd.prog.info? 254).map (·.size) = some 1 := by kernel_rfl
theorem co254 : Tryd.prog.cellsOf 254 = 1 := by kernel_rfl
theorem bo254 : Tryd.prog.bytesOf 254 = 8 := by kernel_rfl
theorem inf254 : (Tryd.prog.info? 254).map (fun i => (i.zero, i.size, i.bytes)) = some (some (.nilFunc), 1, 8) := by kernel_rfl
theorem sz255 : (Tryd.prog.info? 255).map (·.size) = some 1 := by kernel_rfl
theorem co255 : Tryd.prog.cellsOf 255 = 1 := by kernel_rfl
theorem bo255 : Tryd.prog.bytesOf 255 = 8 := by kernel_rfl
theorem inf255 : (Tryd.prog.info? 255).map (fun i => (i.zero, i.size, i.bytes)) = some (some (.nilFunc), 1, 8) := by kernel_rfl
theorem sz256 : (Tryd.prog.info? 256).map (·.size) = some 1 := by kernel_rfl
theorem co256 : Tryd.prog.cellsOf 256 = 1 := by kernel_rfl
theorem bo256 : Tryd.prog.bytesOf 256 = 8 := by kernel_rfl
theorem inf256 : (Tryd.prog.info? 256).map (fun i => (i.zero, i.size, i.bytes)) = some (some (.nilFunc), 1, 8) := by kernel_rfl
theorem sz257 : (Tryd.prog.info? 257).map (·.size) = some 1 := by kernel_rfl
theorem co257 : Tryd.prog.cellsOf 257 = 1 := by kernel_rfl
theorem bo257 : Tryd.prog.bytesOf 257 = 8 := by kernel_rfl
theorem inf257 : (Tryd.prog.info? 257).map (fun i => (i.zero, i.size, i.bytes)) = some (some (.nilFunc), 1, 8) := by kernel_rfl
theorem sz258 : (Tryd.prog.info? 258).map (·.size) = some 1 := by kernel_rfl
theorem co258 : Tryd.prog.cellsOf 258 = 1 := by kernel_rfl
theorem bo258 : Tryd.prog.bytesOf 258 = 8 := by kernel_rfl
theorem inf258 : (Tryd.prog.info? 258).map (fun i => (i.zero, i.size, i.bytes)) = some (some (.nilFunc), 1, 8) := by kernel_rfl
theorem sz259 : (Tryd.prog.info? 259).map (·.size) = some 1 := by kernel_rfl
theorem co259 : Tryd.prog.cellsOf 259 = 1 := by kernel_rfl
theorem bo259 : Tryd.prog.bytesOf 259 = 8 := by kernel_rfl
theorem inf259 : (Tryd.prog.info? 259).map (fun i => (i.zero, i.size, i.bytes)) = some (some (.nilFunc), 1, 8) := by kernel_rfl
theorem sz260 : (Tryd.prog.info? 260).map (·.size) = some 20 := by kernel_rfl
theorem co260 : Tryd.prog.cellsOf 260 = 20 := by kernel_rfl
theorem bo260 : Tryd.prog.bytesOf 260 = 160 := by kernel_rfl
theorem z260 : ∀ w, (zeroValue 260).run Tryd.prog w = .ok (.agg #[.int .u64 0, .int .u64 0, .int .u64 0, .int .u64 0, .int .u64 0, .int .u64 0, .int .u64 0, .int .u64 0, .int .u64 0, .int .u64 0, .int .u64 0, .int .u64 0, .int .u64 0, .int .u64 0, .int .u64 0, .int .u64 0, .int .u64 0, .int .u64 0, .int .u64 0, .int .u64 0]) w := fun _ => by kernel_rfl
theorem inf260 : (Tryd.prog.info? 260).map (fun i => (i.zero, i.size, i.bytes)) = some (some (.agg #[.int .u64 0, .int .u64 0, .int .u64 0, .int .u64 0, .int .u64 0, .int .u64 0, .int .u64 0, .int .u64 0, .int .u64 0, .int .u64 0, .int .u64 0, .int .u64 0, .int .u64 0, .int .u64 0, .int .u64 0, .int .u64 0, .int .u64 0, .int .u64 0, .int .u64 0, .int .u64 0]), 20, 160) := by kernel_rfl
theorem sz261 : (Tryd.prog.info? 261).map (·.size) = some 65 := by kernel_rfl
theorem co261 : Tryd.prog.cellsOf 261 = 65 := by kernel_rfl
theorem bo261 : Tryd.prog.bytesOf 261 = 65 := by kernel_rfl
theorem z261 : ∀ w, (zeroValue 261).run Tryd.prog w = .ok (.agg #[.int .u8 0, .int .u8 0, .int .u8 0, .int .u8 0, .int .u8 0, .int .u8 0, .int .u8 0, .int .u8 0, .int .u8 0, .int .u8 0, .int .u8 0, .int .u8 0, .int .u8 0, .int .u8 0, .int .u8 0, .int .u8 0, .int .u8 0, .int .u8 0, .int .u8 0, .int .u8 0, .int .u8 0, .int .u8 0, .int .u8 0, .int .u8 0, .int .u8 0, .int .u8 0, .int .u8 0, .int .u8 0, .int .u8 0, .int .u8 0, .int .u8 0, .int .u8 0, .int .u8 0, .int .u8 0, .int .u8 0, .int .u8 0, .int .u8 0, .int .u8 0, .int .u8 0, .int .u8 0, .int .u8 0, .int .u8 0, .int .u8 0, .int .u8 0, .int .u8 0, .int .u8 0, .int .u8 0, .int .u8 0, .int .u8 0, .int .u8 0, .int .u8 0, .int .u8 0, .int .u8 0, .int .u8 0, .int .u8 0, .int .u8 0, .int .u8 0, .int .u8 0, .int .u8 0, .int .u8 0, .int .u8 0, .int .u8 0, .int .u8 0, .int .u8 0, .int .u8 0]) w := fun _ => by kernel_rfl
theorem inf261 : (Tryd.prog.info? 261).map (fun i => (i.zero, i.size, i.bytes)) = some (some (.agg #[.int .u8 0, .int .u8 0, .int .u8 0, .int .u8 0, .int .u8 0, .int .u8 0, .int .u8 0, .int .u8 0, .int .u8 0, .int .u8 0, .int .u8 0, .int .u8 0, .int .u8 0, .int .u8 0, .int .u8 0, .int .u8 0, .int .u8 0, .int .u8 0, .int .u8 0, .int .u8 0, .int .u8 0, .int .u8 0, .int .u8 0, .int .u8 0, .int .u8 0, .int .u8 0, .int .u8 0, .int .u8 0, .int .u8 0, .int .u8 0, .int .u8 0, .int .u8 0, .int .u8 0, .int .u8 0, .int .u8 0, .int .u8 0, .int .u8 0, .int .u8 0, .int .u8 0, .int .u8 0, .int .u8 0, .int .u8 0, .int .u8 0, .int .u8 0, .int .u8 0, .int .u8 0, .int .u8 0, .int .u8 0, .int .u8 0, .int .u8 0, .int .u8 0, .int .u8 0, .int .u8 0, .int .u8 0, .int .u8 0, .int .u8 0, .int .u8 0, .int .u8 0, .int .u8 0, .int .u8 0, .int .u8 0, .int .u8 0, .int .u8 0, .int .u8 0, .int .u8 0]), 65, 65) := by kernel_rfl
theorem sz262 : (Tryd.prog.info? 262).map (·.size) = some 1 := by kernel_rfl
theorem co262 : Tryd.prog.cellsOf 262 = 1 := by kernel_rfl
theorem bo262 : Tryd.prog.bytesOf 262 = 8 := by kernel_rfl
theorem z262 : ∀ w, (zeroValue 262).run Tryd.prog w = .ok (.int .u64 0) w := fun _ => by kernel_rfl
theorem inf262 : (Tryd.prog.info? 262).map (fun i => (i.zero, i.size, i.bytes)) = some (some (.int .u64 0), 1, 8) := by kernel_rfl
theorem sz263 : (Tryd.prog.info? 263).map (·.size) = some 1 := by kernel_rfl
theorem co263 : Tryd.prog.cellsOf 263 = 1 := by kernel_rfl
theorem bo263 : Tryd.prog.bytesOf 263 = 8 := by kernel_rfl
theorem inf263 : (Tryd.prog.info? 263).map (fun i => (i.zero, i.size, i.bytes)) = some (some (.nilFunc), 1, 8) := by kernel_rfl
theorem sz264 : (Tryd.prog.info? 264).map (·.size) = some 1 := by kernel_rfl
theorem co264 : Tryd.prog.cellsOf 264 = 1 := by kernel_rfl
theorem bo264 : Tryd.prog.bytesOf 264 = 8 := by kernel_rfl
theorem inf264 : (Tryd.prog.info? 264).map (fun i => (i.zero, i.size, i.bytes)) = some (some (.nilFunc), 1, 8) := by kernel_rfl
theorem sz265 : (Tryd.prog.info? 265).map (·.size) = some 1 := by kernel_rfl
theorem co265 : Tryd.prog.cellsOf 265 = 1 := by kernel_rfl
theorem bo265 : Tryd.prog.bytesOf 265 = 8 := by kernel_rfl
theorem inf265 : (Tryd.prog.info? 265).map (fun i => (i.zero, i.size, i.bytes)) = some (some (.nilFunc), 1, 8) := by kernel_rfl
theorem sz266 : (Tryd.prog.info? 266).map (·.size) = some 1 := by kernel_rfl
theorem co266 : Tryd.prog.cellsOf 266 = 1 := by kernel_rfl
theorem bo266 : Tryd.prog.bytesOf 266 = 8 := by kernel_rfl
theorem z266 : ∀ w, (zeroValue 266).run Tryd.prog w = .ok (.pointer none) w := fun _ => by kernel_rfl
theorem inf266 : (Tryd.prog.info? 266).map (fun i => (i.zero, i.size, i.bytes)) = some (some (.pointer none), 1, 8) := by kernel_rfl
theorem sz267 : (Tryd.prog.info? 267).map (·.size) = some 1 := by kernel_rfl
theorem co267 : Tryd.prog.cellsOf 267 = 1 := by kernel_rfl
theorem bo267 : Tryd.prog.bytesOf 267 = 8 := by kernel_rfl
theorem inf267 : (Tryd.prog.info? 267).map (fun i => (i.zero, i.size, i.bytes)) = some (some (.nilFunc), 1, 8) := by kernel_rfl
theorem sz268 : (Tryd.prog.info? 268).map (·.size) = some 1 := by kernel_rfl
theorem co268 : Tryd.prog.cellsOf 268 = 1 := by kernel_rfl
theorem bo268 : Tryd.prog.bytesOf 268 = 8 := by kernel_rfl
theorem inf268 : (Tryd.prog.info? 268).map (fun i => (i.zero, i.size, i.bytes)) = some (some (.nilFunc), 1, 8) := by kernel_rfl
theorem sz269 : (Tryd.prog.info? 269).map (·.size) = some 1 := by kernel_rfl
theorem co269 : Tryd.prog.cellsOf 269 = 1 := by kernel_rfl
theorem bo269 : Tryd.prog.bytesOf 269 = 8 := by kernel_rfl
theorem z269 : ∀ w, (zeroValue 269).run Tryd.prog w = .ok (.int .i64 0) w := fun _ => by kernel_rfl
theorem inf269 : (Tryd.prog.info? 269).map (fun i => (i.zero, i.size, i.bytes)) = some (some (.int .i64 0), 1, 8) := by kernel_rfl
theorem sz271 : (Tryd.prog.info? 271).map (·.size) = some 1 := by kernel_rfl
theorem co271 : Tryd.prog.cellsOf 271 = 1 := by kernel_rfl
theorem bo271 : Tryd.prog.bytesOf 271 = 8 := by kernel_rfl
theorem inf271 : (Tryd.prog.info? 271).map (fun i => (i.zero, i.size, i.bytes)) = some (some (.nilFunc), 1, 8) := by kernel_rfl
theorem sz272 : (Tryd.prog.info? 272).map (·.size) = some 1 := by kernel_rfl
theorem co272 : Tryd.prog.cellsOf 272 = 1 := by kernel_rfl
theorem bo272 : Tryd.prog.bytesOf 272 = 8 := by kernel_rfl
theorem z272 : ∀ w, (zeroValue 272).run Tryd.prog w = .ok (.pointer none) w := fun _ => by kernel_rfl
theorem inf272 : (Tryd.prog.info? 272).map (fun i => (i.zero, i.size, i.bytes)) = some (some (.pointer none), 1, 8) := by kernel_rfl
theorem sz273 : (Tryd.prog.info? 273).map (·.size) = some 1 := by kernel_rfl
theorem co273 : Tryd.prog.cellsOf 273 = 1 := by kernel_rfl
theorem bo273 : Tryd.prog.bytesOf 273 = 8 := by kernel_rfl
theorem inf273 : (Tryd.prog.info? 273).map (fun i => (i.zero, i.size, i.bytes)) = some (some (.nilFunc), 1, 8) := by kernel_rfl
theorem sz274 : (Tryd.prog.info? 274).map (·.size) = some 1 := by kernel_rfl
theorem co274 : Tryd.prog.cellsOf 274 = 1 := by kernel_rfl
theorem bo274 : Tryd.prog.bytesOf 274 = 8 := by kernel_rfl
theorem inf274 : (Tryd.prog.info? 274).map (fun i => (i.zero, i.size, i.bytes)) = some (some (.nilFunc), 1, 8) := by kernel_rfl
theorem sz275 : (Tryd.prog.info? 275).map (·.size) = some 1 := by kernel_rfl
theorem co275 : Tryd.prog.cellsOf 275 = 1 := by kernel_rfl
theorem bo275 : Tryd.prog.bytesOf 275 = 8 := by kernel_rfl
theorem inf275 : (Tryd.prog.info? 275).map (fun i => (i.zero, i.size, i.bytes)) = some (some (.nilFunc), 1, 8) := by kernel_rfl
theorem sz276 : (Tryd.prog.info? 276).map (·.size) = some 1 := by kernel_rfl
theorem co276 : Tryd.prog.cellsOf 276 = 1 := by kernel_rfl
theorem bo276 : Tryd.prog.bytesOf 276 = 8 := by kernel_rfl
theorem inf276 : (Tryd.prog.info? 276).map (fun i => (i.zero, i.size, i.bytes)) = some (some (.nilFunc), 1, 8) := by kernel_rfl
theorem sz277 : (Tryd.prog.info? 277).map (·.size) = some 1 := by kernel_rfl
theorem co277 : Tryd.prog.cellsOf 277 = 1 := by kernel_rfl
theorem bo277 : Tryd.prog.bytesOf 277 = 8 := by kernel_rfl
theorem z277 : ∀ w, (zeroValue 277).run Tryd.prog w = .ok (.pointer none) w := fun _ => by kernel_rfl
theorem inf277 : (Tryd.prog.info? 277).map (fun i => (i.zero, i.size, i.bytes)) = some (some (.pointer none), 1, 8) := by kernel_rfl
theorem sz279 : (Tryd.prog.info? 279).map (·.size) = some 1 := by kernel_rfl
theorem co279 : Tryd.prog.cellsOf 279 = 1 := by kernel_rfl
theorem bo279 : Tryd.prog.bytesOf 279 = 8 := by kernel_rfl
theorem inf279 : (Tryd.prog.info? 279).map (fun i => (i.zero, i.size, i.bytes)) = some (some (.nilFunc), 1, 8) := by kernel_rfl
theorem sz281 : (Tryd.prog.info? 281).map (·.size) = some 1 := by kernel_rfl
theorem co281 : Tryd.prog.cellsOf 281 = 1 := by kernel_rfl
theorem bo281 : Tryd.prog.bytesOf 281 = 8 := by kernel_rfl
theorem inf281 : (Tryd.prog.info? 281).map (fun i => (i.zero, i.size, i.bytes)) = some (some (.nilFunc), 1, 8) := by kernel_rfl
theorem sz282 : (Tryd.prog.info? 282).map (·.size) = some 3 := by kernel_rfl
theorem co282 : Tryd.prog.cellsOf 282 = 3 := by kernel_rfl
theorem bo282 : Tryd.prog.bytesOf 282 = 48 := by kernel_rfl
theorem z282 : ∀ w, (zeroValue 282).run Tryd.prog w = .ok (.agg #[.string ⟨#[]⟩, .string ⟨#[]⟩, .nilIface]) w := fun _ => by kernel_rfl
theorem inf282 : (Tryd.prog.info? 282).map (fun i => (i.zero, i.size, i.bytes)) = some (some (.agg #[.string ⟨#[]⟩, .string ⟨#[]⟩, .nilIface]), 3, 48) := by kernel_rfl
theorem fa282_0 : ∀ a w, (Instr.fieldAt 282 (.pointer (some a)) 0).run Tryd.prog w = .ok (.pointer (some (a.add 0))) w := run_field (b := 1) Tryd.underlying282 rfl rfl (by kernel_rfl) (by decide)
theorem fa282_1 : ∀ a w, (Instr.fieldAt 282 (.pointer (some a)) 1).run Tryd.prog w = .ok (.pointer (some (a.add 1))) w := run_field (b := 1) Tryd.underlying282 rfl rfl (by kernel_rfl) (by decide)
theorem fa282_2 : ∀ a w, (Instr.fieldAt 282 (.pointer (some a)) 2).run Tryd.prog w = .ok (.pointer (some (a.add 2))) w := run_field (b := 1) Tryd.underlying282 rfl rfl (by kernel_rfl) (by decide)
theorem sz283 : (Tryd.prog.info? 283).map (·.size) = some 3 := by kernel_rfl
theorem co283 : Tryd.prog.cellsOf 283 = 3 := by kernel_rfl
theorem bo283 : Tryd.prog.bytesOf 283 = 48 := by kernel_rfl
theorem z283 : ∀ w, (zeroValue 283).run Tryd.prog w = .ok (.agg #[.string ⟨#[]⟩, .string ⟨#[]⟩, .nilIface]) w := fun _ => by kernel_rfl
theorem inf283 : (Tryd.prog.info? 283).map (fun i => (i.zero, i.size, i.bytes)) = some (some (.agg #[.string ⟨#[]⟩, .string ⟨#[]⟩, .nilIface]), 3, 48) := by kernel_rfl
theorem fa283_0 : ∀ a w, (Instr.fieldAt 283 (.pointer (some a)) 0).run Tryd.prog w = .ok (.pointer (some (a.add 0))) w := run_field (b := 1) Tryd.underlying283 rfl rfl (by kernel_rfl) (by decide)
theorem fa283_1 : ∀ a w, (Instr.fieldAt 283 (.pointer (some a)) 1).run Tryd.prog w = .ok (.pointer (some (a.add 1))) w := run_field (b := 1) Tryd.underlying283 rfl rfl (by kernel_rfl) (by decide)
theorem fa283_2 : ∀ a w, (Instr.fieldAt 283 (.pointer (some a)) 2).run Tryd.prog w = .ok (.pointer (some (a.add 2))) w := run_field (b := 1) Tryd.underlying283 rfl rfl (by kernel_rfl) (by decide)
theorem sz284 : (Tryd.prog.info? 284).map (·.size) = some 1 := by kernel_rfl
theorem co284 : Tryd.prog.cellsOf 284 = 1 := by kernel_rfl
theorem bo284 : Tryd.prog.bytesOf 284 = 8 := by kernel_rfl
theorem inf284 : (Tryd.prog.info? 284).map (fun i => (i.zero, i.size, i.bytes)) = some (some (.nilFunc), 1, 8) := by kernel_rfl
theorem sz285 : (Tryd.prog.info? 285).map (·.size) = some 256 := by kernel_rfl
theorem co285 : Tryd.prog.cellsOf 285 = 256 := by kernel_rfl
theorem bo285 : Tryd.prog.bytesOf 285 = 256 := by kernel_rfl
theorem z285 : ∀ w, (zeroValue 285).run Tryd.prog w = .ok (.agg #[.int .u8 0, .int .u8 0, .int .u8 0, .int .u8 0, .int .u8 0, .int .u8 0, .int .u8 0, .int .u8 0, .int .u8 0, .int .u8 0, .int .u8 0, .int .u8 0, .int .u8 0, .int .u8 0, .int .u8 0, .int .u8 0, .int .u8 0, .int .u8 0, .int .u8 0, .int .u8 0, .int .u8 0, .int .u8 0, .int .u8 0, .int .u8 0, .int .u8 0, .int .u8 0, .int .u8 0, .int .u8 0, .int .u8 0, .int .u8 0, .int .u8 0, .int .u8 0, .int .u8 0, .int .u8 0, .int .u8 0, .int .u8 0, .int .u8 0, .int .u8 0, .int .u8 0, .int .u8 0, .int .u8 0, .int .u8 0, .int .u8 0, .int .u8 0, .int .u8 0, .int .u8 0, .int .u8 0, .int .u8 0, .int .u8 0, .int .u8 0, .int .u8 0, .int .u8 0, .int .u8 0, .int .u8 0, .int .u8 0, .int .u8 0, .int .u8 0, .int .u8 0, .int .u8 0, .int .u8 0, .int .u8 0, .int .u8 0, .int .u8 0, .int .u8 0, .int .u8 0, .int .u8 0, .int .u8 0, .int .u8 0, .int .u8 0, .int .u8 0, .int .u8 0, .int .u8 0, .int .u8 0, .int .u8 0, .int .u8 0, .int .u8 0, .int .u8 0, .int .u8 0, .int .u8 0, .int .u8 0, .int .u8 0, .int .u8 0, .int .u8 0, .int .u8 0, .int .u8 0, .int .u8 0, .int .u8 0, .int .u8 0, .int .u8 0, .int .u8 0, .int .u8 0, .int .u8 0, .int .u8 0, .int .u8 0, .int .u8 0, .int .u8 0, .int .u8 0, .int .u8 0, .int .u8 0, .int .u8 0, .int .u8 0, .int .u8 0, .int .u8 0, .int .u8 0, .int .u8 0, .int .u8 0, .int .u8 0, .int .u8 0, .int .u8 0, .int .u8 0, .int .u8 0, .int .u8 0, .int .u8 0, .int .u8 0, .int .u8 0, .int .u8 0, .int .u8 0, .int .u8 0, .int .u8 0, .int .u8 0, .int .u8 0, .int .u8 0, .int .u8 0, .int .u8 0, .int .u8 0, .int .u8 0, .int .u8 0, .int .u8 0, .int .u8 0, .int .u8 0, .int .u8 0, .int .u8 0, .int .u8 0, .int .u8 0, .int .u8 0, .int .u8 0, .int .u8 0, .int .u8 0, .int .u8 0, .int .u8 0, .int .u8 0, .int .u8 0, .int .u8 0, .int .u8 0, .int .u8 0, .int .u8 0, .int .u8 0, .int .u8 0, .int .u8 0, .int .u8 0, .int .u8 0, .int .u8 0, .int .u8 0, .int .u8 0, .int .u8 0, .int .u8 0, .int .u8 0, .int .u8 0, .int .u8 0, .int .u8 0, .int .u8 0, .int .u8 0, .int .u8 0, .int .u8 0, .int .u8 0, .int .u8 0, .int .u8 0, .int .u8 0, .int .u8 0, .int .u8 0, .int .u8 0, .int .u8 0, .int .u8 0, .int .u8 0, .int .u8 0, .int .u8 0, .int .u8 0, .int .u8 0, .int .u8 0, .int .u8 0, .int .u8 0, .int .u8 0, .int .u8 0, .int .u8 0, .int .u8 0, .int .u8 0, .int .u8 0, .int .u8 0, .int .u8 0, .int .u8 0, .int .u8 0, .int .u8 0, .int .u8 0, .int .u8 0, .int .u8 0, .int .u8 0, .int .u8 0, .int .u8 0, .int .u8 0, .int .u8 0, .int .u8 0, .int .u8 0, .int .u8 0, .int .u8 0, .int .u8 0, .int .u8 0, .int .u8 0, .int .u8 0, .int .u8 0, .int .u8 0, .int .u8 0, .int .u8 0, .int .u8 0, .int .u8 0, .int .u8 0, .int .u8 0, .int .u8 0, .int .u8 0, .int .u8 0, .int .u8 0, .int .u8 0, .int .u8 0, .int .u8 0, .int .u8 0, .int .u8 0, .int .u8 0, .int .u8 0, .int .u8 0, .int .u8 0, .int .u8 0, .int .u8 0, .int .u8 0, .int .u8 0, .int .u8 0, .int .u8 0, .int .u8 0, .int .u8 0, .int .u8 0, .int .u8 0, .int .u8 0, .int .u8 0, .int .u8 0, .int .u8 0, .int .u8 0, .int .u8 0, .int .u8 0, .int .u8 0, .int .u8 0, .int .u8 0, .int .u8 0, .int .u8 0, .int .u8 0, .int .u8 0, .int .u8 0, .int .u8 0, .int .u8 0]) w := fun _ => by kernel_rfl
theorem inf285 : (Tryd.prog.info? 285).map (fun i => (i.zero, i.size, i.bytes)) = some (some (.agg #[.int .u8 0, .int .u8 0, .int .u8 0, .int .u8 0, .int .u8 0, .int .u8 0, .int .u8 0, .int .u8 0, .int .u8 0, .int .u8 0, .int .u8 0, .int .u8 0, .int .u8 0, .int .u8 0, .int .u8 0, .int .u8 0, .int .u8 0, .int .u8 0, .int .u8 0, .int .u8 0, .int .u8 0, .int .u8 0, .int .u8 0, .int .u8 0, .int .u8 0, .int .u8 0, .int .u8 0, .int .u8 0, .int .u8 0, .int .u8 0, .int .u8 0, .int .u8 0, .int .u8 0, .int .u8 0, .int .u8 0, .int .u8 0, .int .u8 0, .int .u8 0, .int .u8 0, .int .u8 0, .int .u8 0, .int .u8 0, .int .u8 0, .int .u8 0, .int .u8 0, .int .u8 0, .int .u8 0, .int .u8 0, .int .u8 0, .int .u8 0, .int .u8 0, .int .u8 0, .int .u8 0, .int .u8 0, .int .u8 0, .int .u8 0, .int .u8 0, .int .u8 0, .int .u8 0, .int .u8 0, .int .u8 0, .int .u8 0, .int .u8 0, .int .u8 0, .int .u8 0, .int .u8 0, .int .u8 0, .int .u8 0, .int .u8 0, .int .u8 0, .int .u8 0, .int .u8 0, .int .u8 0, .int .u8 0, .int .u8 0, .int .u8 0, .int .u8 0, .int .u8 0, .int .u8 0, .int .u8 0, .int .u8 0, .int .u8 0, .int .u8 0, .int .u8 0, .int .u8 0, .int .u8 0, .int .u8 0, .int .u8 0, .int .u8 0, .int .u8 0, .int .u8 0, .int .u8 0, .int .u8 0, .int .u8 0, .int .u8 0, .int .u8 0, .int .u8 0, .int .u8 0, .int .u8 0, .int .u8 0, .int .u8 0, .int .u8 0, .int .u8 0, .int .u8 0, .int .u8 0, .int .u8 0, .int .u8 0, .int .u8 0, .int .u8 0, .int .u8 0, .int .u8 0, .int .u8 0, .int .u8 0, .int .u8 0, .int .u8 0, .int .u8 0, .int .u8 0, .int .u8 0, .int .u8 0, .int .u8 0, .int .u8 0, .int .u8 0, .int .u8 0, .int .u8 0, .int .u8 0, .int .u8 0, .int .u8 0, .int .u8 0, .int .u8 0, .int .u8 0, .int .u8 0, .int .u8 0, .int .u8 0, .int .u8 0, .int .u8 0, .int .u8 0, .int .u8 0, .int .u8 0, .int .u8 0, .int .u8 0, .int .u8 0, .int .u8 0, .int .u8 0, .int .u8 0, .int .u8 0, .int .u8 0, .int .u8 0, .int .u8 0, .int .u8 0, .int .u8 0, .int .u8 0, .int .u8 0, .int .u8 0, .int .u8 0, .int .u8 0, .int .u8 0, .int .u8 0, .int .u8 0, .int .u8 0, .int .u8 0, .int .u8 0, .int .u8 0, .int .u8 0, .int .u8 0, .int .u8 0, .int .u8 0, .int .u8 0, .int .u8 0, .int .u8 0, .int .u8 0, .int .u8 0, .int .u8 0, .int .u8 0, .int .u8 0, .int .u8 0, .int .u8 0, .int .u8 0, .int .u8 0, .int .u8 0, .int .u8 0, .int .u8 0, .int .u8 0, .int .u8 0, .int .u8 0, .int .u8 0, .int .u8 0, .int .u8 0, .int .u8 0, .int .u8 0, .int .u8 0, .int .u8 0, .int .u8 0, .int .u8 0, .int .u8 0, .int .u8 0, .int .u8 0, .int .u8 0, .int .u8 0, .int .u8 0, .int .u8 0, .int .u8 0, .int .u8 0, .int .u8 0, .int .u8 0, .int .u8 0, .int .u8 0, .int .u8 0, .int .u8 0, .int .u8 0, .int .u8 0, .int .u8 0, .int .u8 0, .int .u8 0, .int .u8 0, .int .u8 0, .int .u8 0, .int .u8 0, .int .u8 0, .int .u8 0, .int .u8 0, .int .u8 0, .int .u8 0, .int .u8 0, .int .u8 0, .int .u8 0, .int .u8 0, .int .u8 0, .int .u8 0, .int .u8 0, .int .u8 0, .int .u8 0, .int .u8 0, .int .u8 0, .int .u8 0, .int .u8 0, .int .u8 0, .int .u8 0, .int .u8 0, .int .u8 0, .int .u8 0, .int .u8 0, .int .u8 0, .int .u8 0, .int .u8 0, .int .u8 0, .int .u8 0, .int .u8 0, .int .u8 0, .int .u8 0, .int .u8 0, .int .u8 0, .int .u8 0, .int .u8 0, .int .u8 0, .int .u8 0, .int .u8 0]), 256, 256) := by kernel_rfl
theorem sz286 : (Tryd.prog.info? 286).map (·.size) = some 2 := by kernel_rfl
theorem co286 : Tryd.prog.cellsOf 286 = 2 := by kernel_rfl
theorem bo286 : Tryd.prog.bytesOf 286 = 2 := by kernel_rfl
theorem z286 : ∀ w, (zeroValue 286).run Tryd.prog w = .ok (.agg #[.int .u8 0, .int .u8 0]) w := fun _ => by kernel_rfl
theorem inf286 : (Tryd.prog.info? 286).map (fun i => (i.zero, i.size, i.bytes)) = some (some (.agg #[.int .u8 0, .int .u8 0]), 2, 2) := by kernel_rfl
theorem fa286_0 : ∀ a w, (Instr.fieldAt 286 (.pointer (some a)) 0).run Tryd.prog w = .ok (.pointer (some (a.add 0))) w := run_field (b := 1) Tryd.underlying286 rfl rfl (by kernel_rfl) (by decide)
theorem fa286_1 : ∀ a w, (Instr.fieldAt 286 (.pointer (some a)) 1).run Tryd.prog w = .ok (.pointer (some (a.add 1))) w := run_field (b := 1) Tryd.underlying286 rfl rfl (by kernel_rfl) (by decide)
theorem sz287 : (Tryd.prog.info? 287).map (·.size) = some 2 := by kernel_rfl
theorem co287 : Tryd.prog.cellsOf 287 = 2 := by kernel_rfl
theorem bo287 : Tryd.prog.bytesOf 287 = 2 := by kernel_rfl
theorem z287 : ∀ w, (zeroValue 287).run Tryd.prog w = .ok (.agg #[.int .u8 0, .int .u8 0]) w := fun _ => by kernel_rfl
theorem inf287 : (Tryd.prog.info? 287).map (fun i => (i.zero, i.size, i.bytes)) = some (some (.agg #[.int .u8 0, .int .u8 0]), 2, 2) := by kernel_rfl
theorem fa287_0 : ∀ a w, (Instr.fieldAt 287 (.pointer (some a)) 0).run Tryd.prog w = .ok (.pointer (some (a.add 0))) w := run_field (b := 1) Tryd.underlying287 rfl rfl (by kernel_rfl) (by decide)
theorem fa287_1 : ∀ a w, (Instr.fieldAt 287 (.pointer (some a)) 1).run Tryd.prog w = .ok (.pointer (some (a.add 1))) w := run_field (b := 1) Tryd.underlying287 rfl rfl (by kernel_rfl) (by decide)
theorem sz288 : (Tryd.prog.info? 288).map (·.size) = some 32 := by kernel_rfl
theorem co288 : Tryd.prog.cellsOf 288 = 32 := by kernel_rfl
theorem bo288 : Tryd.prog.bytesOf 288 = 32 := by kernel_rfl
theorem z288 : ∀ w, (zeroValue 288).run Tryd.prog w = .ok (.agg #[.int .u8 0, .int .u8 0, .int .u8 0, .int .u8 0, .int .u8 0, .int .u8 0, .int .u8 0, .int .u8 0, .int .u8 0, .int .u8 0, .int .u8 0, .int .u8 0, .int .u8 0, .int .u8 0, .int .u8 0, .int .u8 0, .int .u8 0, .int .u8 0, .int .u8 0, .int .u8 0, .int .u8 0, .int .u8 0, .int .u8 0, .int .u8 0, .int .u8 0, .int .u8 0, .int .u8 0, .int .u8 0, .int .u8 0, .int .u8 0, .int .u8 0, .int .u8 0]) w := fun _ => by kernel_rfl
theorem inf288 : (Tryd.prog.info? 288).map (fun i => (i.zero, i.size, i.bytes)) = some (some (.agg #[.int .u8 0, .int .u8 0, .int .u8 0, .int .u8 0, .int .u8 0, .int .u8 0, .int .u8 0, .int .u8 0, .int .u8 0, .int .u8 0, .int .u8 0, .int .u8 0, .int .u8 0, .int .u8 0, .int .u8 0, .int .u8 0, .int .u8 0, .int .u8 0, .int .u8 0, .int .u8 0, .int .u8 0, .int .u8 0, .int .u8 0, .int .u8 0, .int .u8 0, .int .u8 0, .int .u8 0, .int .u8 0, .int .u8 0, .int .u8 0, .int .u8 0, .int .u8 0]), 32, 32) := by kernel_rfl
theorem sz289 : (Tryd.prog.info? 289).map (·.size) = some 1 := by kernel_rfl
theorem co289 : Tryd.prog.cellsOf 289 = 1 := by kernel_rfl
theorem bo289 : Tryd.prog.bytesOf 289 = 8 := by kernel_rfl
theorem inf289 : (Tryd.prog.info? 289).map (fun i => (i.zero, i.size, i.bytes)) = some (some (.nilFunc), 1, 8) := by kernel_rfl
theorem sz290 : (Tryd.prog.info? 290).map (·.size) = some 32 := by kernel_rfl
theorem co290 : Tryd.prog.cellsOf 290 = 32 := by kernel_rfl
theorem bo290 : Tryd.prog.bytesOf 290 = 32 := by kernel_rfl
theorem z290 : ∀ w, (zeroValue 290).run Tryd.prog w = .ok (.agg #[.int .u8 0, .int .u8 0, .int .u8 0, .int .u8 0, .int .u8 0, .int .u8 0, .int .u8 0, .int .u8 0, .int .u8 0, .int .u8 0, .int .u8 0, .int .u8 0, .int .u8 0, .int .u8 0, .int .u8 0, .int .u8 0, .int .u8 0, .int .u8 0, .int .u8 0, .int .u8 0, .int .u8 0, .int .u8 0, .int .u8 0, .int .u8 0, .int .u8 0, .int .u8 0, .int .u8 0, .int .u8 0, .int .u8 0, .int .u8 0, .int .u8 0, .int .u8 0]) w := fun _ => by kernel_rfl
theorem inf290 : (Tryd.prog.info? 290).map (fun i => (i.zero, i.size, i.bytes)) = some (some (.agg #[.int .u8 0, .int .u8 0, .int .u8 0, .int .u8 0, .int .u8 0, .int .u8 0, .int .u8 0, .int .u8 0, .int .u8 0, .int .u8 0, .int .u8 0, .int .u8 0, .int .u8 0, .int .u8 0, .int .u8 0, .int .u8 0, .int .u8 0, .int .u8 0, .int .u8 0, .int .u8 0, .int .u8 0, .int .u8 0, .int .u8 0, .int .u8 0, .int .u8 0, .int .u8 0, .int .u8 0, .int .u8 0, .int .u8 0, .int .u8 0, .int .u8 0, .int .u8 0]), 32, 32) := by kernel_rfl
theorem sz291 : (Tryd.prog.info? 291).map (·.size) = some 64 := by kernel_rfl
theorem co291 : Tryd.prog.cellsOf 291 = 64 := by kernel_rfl
theorem bo291 : Tryd.prog.bytesOf 291 = 64 := by kernel_rfl
theorem z291 : ∀ w, (zeroValue 291).run Tryd.prog w = .ok (.agg #[.int .u8 0, .int .u8 0, .int .u8 0, .int .u8 0, .int .u8 0, .int .u8 0, .int .u8 0, .int .u8 0, .int .u8 0, .int .u8 0, .int .u8 0, .int .u8 0, .int .u8 0, .int .u8 0, .int .u8 0, .int .u8 0, .int .u8 0, .int .u8 0, .int .u8 0, .int .u8 0, .int .u8 0, .int .u8 0, .int .u8 0, .int .u8 0, .int .u8 0, .int .u8 0, .int .u8 0, .int .u8 0, .int .u8 0, .int .u8 0, .int .u8 0, .int .u8 0, .int .u8 0, .int .u8 0, .int .u8 0, .int .u8 0, .int .u8 0, .int .u8 0, .int .u8 0, .int .u8 0, .int .u8 0, .int .u8 0, .int .u8 0, .int .u8 0, .int .u8 0, .int .u8 0, .int .u8 0, .int .u8 0, .int .u8 0, .int .u8 0, .int .u8 0, .int .u8 0, .int .u8 0, .int .u8 0, .int .u8 0, .int .u8 0, .int .u8 0, .int .u8 0, .int .u8 0, .int .u8 0, .int .u8 0, .int .u8 0, .int .u8 0, .int .u8 0]) w := fun _ => by kernel_rfl
theorem inf291 : (Tryd.prog.info? 291).map (fun i => (i.zero, i.size, i.bytes)) = some (some (.agg #[.int .u8 0, .int .u8 0, .int .u8 0, .int .u8 0, .int .u8 0, .int .u8 0, .int .u8 0, .int .u8 0, .int .u8 0, .int .u8 0, .int .u8 0, .int .u8 0, .int .u8 0, .int .u8 0, .int .u8 0, .int .u8 0, .int .u8 0, .int .u8 0, .int .u8 0, .int .u8 0, .int .u8 0, .int .u8 0, .int .u8 0, .int .u8 0, .int .u8 0, .int .u8 0, .int .u8 0, .int .u8 0, .int .u8 0, .int .u8 0, .int .u8 0, .int .u8 0, .int .u8 0, .int .u8 0, .int .u8 0, .int .u8 0, .int .u8 0, .int .u8 0, .int .u8 0, .int .u8 0, .int .u8 0, .int .u8 0, .int .u8 0, .int .u8 0, .int .u8 0, .int .u8 0, .int .u8 0, .int .u8 0, .int .u8 0, .int .u8 0, .int .u8 0, .int .u8 0, .int .u8 0, .int .u8 0, .int .u8 0, .int .u8 0, .int .u8 0, .int .u8 0, .int .u8 0, .int .u8 0, .int .u8 0, .int .u8 0, .int .u8 0, .int .u8 0]), 64, 64) := by kernel_rfl
theorem sz292 : (Tryd.prog.info? 292).map (·.size) = some 1 := by kernel_rfl
theorem co292 : Tryd.prog.cellsOf 292 = 1 := by kernel_rfl
theorem bo292 : Tryd.prog.bytesOf 292 = 8 := by kernel_rfl
theorem z292 : ∀ w, (zeroValue 292).run Tryd.prog w = .ok (.pointer none) w := fun _ => by kernel_rfl
theorem inf292 : (Tryd.prog.info? 292).map (fun i => (i.zero, i.size, i.bytes)) = some (some (.pointer none), 1, 8) := by kernel_rfl
theorem sz293 : (Tryd.prog.info? 293).map (·.size) = some 1 := by kernel_rfl
theorem co293 : Tryd.prog.cellsOf 293 = 1 := by kernel_rfl
theorem bo293 : Tryd.prog.bytesOf 293 = 16 := by kernel_rfl
theorem z293 : ∀ w, (zeroValue 293).run Tryd.prog w = .ok (.agg #[.string ⟨#[]⟩]) w := fun _ => by kernel_rfl
theorem inf293 : (Tryd.prog.info? 293).map (fun i => (i.zero, i.size, i.bytes)) = some (some (.agg #[.string ⟨#[]⟩]), 1, 16) := by kernel_rfl
theorem fa293_0 : ∀ a w, (Instr.fieldAt 293 (.pointer (some a)) 0).run Tryd.prog w = .ok (.pointer (some (a.add 0))) w := run_field (b := 1) Tryd.underlying293 rfl rfl (by kernel_rfl) (by decide)
theorem sz294 : (Tryd.prog.info? 294).map (·.size) = some 1 := by kernel_rfl
theorem co294 : Tryd.prog.cellsOf 294 = 1 := by kernel_rfl
theorem bo294 : Tryd.prog.bytesOf 294 = 16 := by kernel_rfl
theorem z294 : ∀ w, (zeroValue 294).run Tryd.prog w = .ok (.agg #[.string ⟨#[]⟩]) w := fun _ => by kernel_rfl
theorem inf294 : (Tryd.prog.info? 294).map (fun i => (i.zero, i.size, i.bytes)) = some (some (.agg #[.string ⟨#[]⟩]), 1, 16) := by kernel_rfl
theorem fa294_0 : ∀ a w, (Instr.fieldAt 294 (.pointer (some a)) 0).run Tryd.prog w = .ok (.pointer (some (a.add 0))) w := run_field (b := 1) Tryd.underlying294 rfl rfl (by kernel_rfl) (by decide)
theorem sz295 : (Tryd.prog.info? 295).map (·.size) = some 4 := by kernel_rfl
theorem co295 : Tryd.prog.cellsOf 295 = 4 := by kernel_rfl
theorem bo295 : Tryd.prog.bytesOf 295 = 40 := by kernel_rfl
theorem z295 : ∀ w, (zeroValue 295).run Tryd.prog w = .ok (.agg #[.pointer none, .pointer none, .pointer none, .string ⟨#[]⟩]) w := fun _ => by kernel_rfl
theorem inf295 : (Tryd.prog.info? 295).map (fun i => (i.zero, i.size, i.bytes)) = some (some (.agg #[.pointer none, .pointer none, .pointer none, .string ⟨#[]⟩]), 4, 40) := by kernel_rfl
theorem fa295_0 : ∀ a w, (Instr.fieldAt 295 (.pointer (some a)) 0).run Tryd.prog w = .ok (.pointer (some (a.add 0))) w := run_field (b := 1) Tryd.underlying295 rfl rfl (by kernel_rfl) (by decide)
theorem fa295_1 : ∀ a w, (Instr.fieldAt 295 (.pointer (some a)) 1).run Tryd.prog w = .ok (.pointer (some (a.add 1))) w := run_field (b := 1) Tryd.underlying295 rfl rfl (by kernel_rfl) (by decide)
theorem fa295_2 : ∀ a w, (Instr.fieldAt 295 (.pointer (some a)) 2).run Tryd.prog w = .ok (.pointer (some (a.add 2))) w := run_field (b := 1) Tryd.underlying295 rfl rfl (by kernel_rfl) (by decide)
theorem fa295_3 : ∀ a w, (Instr.fieldAt 295 (.pointer (some a)) 3).run Tryd.prog w = .ok (.pointer (some (a.add 3))) w := run_field (b := 1) Tryd.underlying295 rfl rfl (by kernel_rfl) (by decide)
theorem sz296 : (Tryd.prog.info? 296).map (·.size) = some 4 := by kernel_rfl
theorem co296 : Tryd.prog.cellsOf 296 = 4 := by kernel_rfl
theorem bo296 : Tryd.prog.bytesOf 296 = 40 := by kernel_rfl
theorem z296 : ∀ w, (zeroValue 296).run Tryd.prog w = .ok (.agg #[.pointer none, .pointer none, .pointer none, .string ⟨#[]⟩]) w := fun _ => by kernel_rfl
theorem inf296 : (Tryd.prog.info? 296).map (fun i => (i.zero, i.size, i.bytes)) = some (some (.agg #[.pointer none, .pointer none, .pointer none, .string ⟨#[]⟩]), 4, 40) := by kernel_rfl
theorem fa296_0 : ∀ a w, (Instr.fieldAt 296 (.pointer (some a)) 0).run Tryd.prog w = .ok (.pointer (some (a.add 0))) w := run_field (b := 1) Tryd.underlying296 rfl rfl (by kernel_rfl) (by decide)
theorem fa296_1 : ∀ a w, (Instr.fieldAt 296 (.pointer (some a)) 1).run Tryd.prog w = .ok (.pointer (some (a.add 1))) w := run_field (b := 1) Tryd.underlying296 rfl rfl (by kernel_rfl) (by decide)
theorem fa296_2 : ∀ a w, (Instr.fieldAt 296 (.pointer (some a)) 2).run Tryd.prog w = .ok (.pointer (some (a.add 2))) w := run_field (b := 1) Tryd.underlying296 rfl rfl (by kernel_rfl) (by decide)
theorem fa296_3 : ∀ a w, (Instr.fieldAt 296 (.pointer (some a)) 3).run Tryd.prog w = .ok (.pointer (some (a.add 3))) w := run_field (b := 1) Tryd.underlying296 rfl rfl (by kernel_rfl) (by decide)
theorem sz297 : (Tryd.prog.info? 297).map (·.size) = some 0 := by kernel_rfl
theorem co297 : Tryd.prog.cellsOf 297 = 0 := by kernel_rfl
theorem bo297 : Tryd.prog.bytesOf 297 = 0 := by kernel_rfl
theorem z297 : ∀ w, (zeroValue 297).run Tryd.prog w = .ok (.agg #[]) w := fun _ => by kernel_rfl
theorem inf297 : (Tryd.prog.info? 297).map (fun i => (i.zero, i.size, i.bytes)) = some (some (.agg #[]), 0, 0) := by kernel_rfl
theorem sz298 : (Tryd.prog.info? 298).map (·.size) = some 0 := by kernel_rfl
theorem co298 : Tryd.prog.cellsOf 298 = 0 := by kernel_rfl
theorem bo298 : Tryd.prog.bytesOf 298 = 0 := by kernel_rfl
theorem z298 : ∀ w, (zeroValue 298).run Tryd.prog w = .ok (.agg #[]) w := fun _ => by kernel_rfl
theorem inf298 : (Tryd.prog.info? 298).map (fun i => (i.zero, i.size, i.bytes)) = some (some (.agg #[]), 0, 0) := by kernel_rfl
theorem sz299 : (Tryd.prog.info? 299).map (·.size) = some 0 := by kernel_rfl
theorem co299 : Tryd.prog.cellsOf 299 = 0 := by kernel_rfl
theorem bo299 : Tryd.prog.bytesOf 299 = 0 := by kernel_rfl
theorem z299 : ∀ w, (zeroValue 299).run Tryd.prog w = .ok (.agg #[]) w := fun _ => by kernel_rfl
theorem inf299 : (Tryd.prog.info? 299).map (fun i => (i.zero, i.size, i.bytes)) = some (some (.agg #[]), 0, 0) := by kernel_rfl
theorem sz300 : (Tryd.prog.info? 300).map (·.size) = some 1 := by kernel_rfl
theorem co300 : Tryd.prog.cellsOf 300 = 1 := by kernel_rfl
theorem bo300 : Tryd.prog.bytesOf 300 = 1 := by kernel_rfl
theorem z300 : ∀ w, (zeroValue 300).run Tryd.prog w = .ok (.int .u8 0) w := fun _ => by kernel_rfl
theorem inf300 : (Tryd.prog.info? 300).map (fun i => (i.zero, i.size, i.bytes)) = some (some (.int .u8 0), 1, 1) := by kernel_rfl
theorem sz301 : (Tryd.prog.info? 301).map (·.size) = some 1 := by kernel_rfl
theorem co301 : Tryd.prog.cellsOf 301 = 1 := by kernel_rfl
theorem bo301 : Tryd.prog.bytesOf 301 = 1 := by kernel_rfl
theorem z301 : ∀ w, (zeroValue 301).run Tryd.prog w = .ok (.int .u8 0) w := fun _ => by kernel_rfl
theorem inf301 : (Tryd.prog.info? 301).map (fun i => (i.zero, i.size, i.bytes)) = some (some (.int .u8 0), 1, 1) := by kernel_rfl
theorem sz302 : (Tryd.prog.info? 302).map (·.size) = some 1 := by kernel_rfl
theorem co302 : Tryd.prog.cellsOf 302 = 1 := by kernel_rfl
theorem bo302 : Tryd.prog.bytesOf 302 = 8 := by kernel_rfl
theorem inf302 : (Tryd.prog.info? 302).map (fun i => (i.zero, i.size, i.bytes)) = some (some (.nilFunc), 1, 8) := by kernel_rfl
theorem sz303 : (Tryd.prog.info? 303).map (·.size) = some 1 := by kernel_rfl
theorem co303 : Tryd.prog.cellsOf 303 = 1 := by kernel_rfl
theorem bo303 : Tryd.prog.bytesOf 303 = 4 := by kernel_rfl
theorem z303 : ∀ w, (zeroValue 303).run Tryd.prog w = .ok (.int .i32 0) w := fun _ => by kernel_rfl
theorem inf303 : (Tryd.prog.info? 303).map (fun i => (i.zero, i.size, i.bytes)) = some (some (.int .i32 0), 1, 4) := by kernel_rfl
theorem sz304 : (Tryd.prog.info? 304).map (·.size) = some 1 := by kernel_rfl
theorem co304 : Tryd.prog.cellsOf 304 = 1 := by kernel_rfl
theorem bo304 : Tryd.prog.bytesOf 304 = 4 := by kernel_rfl
theorem z304 : ∀ w, (zeroValue 304).run Tryd.prog w = .ok (.int .i32 0) w := fun _ => by kernel_rfl
theorem inf304 : (Tryd.prog.info? 304).map (fun i => (i.zero, i.size, i.bytes)) = some (some (.int .i32 0), 1, 4) := by kernel_rfl
theorem sz305 : (Tryd.prog.info? 305).map (·.size) = some 11 := by kernel_rfl
theorem co305 : Tryd.prog.cellsOf 305 = 11 := by kernel_rfl
theorem bo305 : Tryd.prog.bytesOf 305 = 48 := by kernel_rfl
theorem z305 : ∀ w, (zeroValue 305).run Tryd.prog w = .ok (.agg #[.int .u64 0, .int .u64 0, .int .u32 0, .int .u8 0, .int .u8 0, .int .u8 0, .int .u8 0, .nilFunc, .pointer none, .int .i32 0, .int .i32 0]) w := fun _ => by kernel_rfl
theorem inf305 : (Tryd.prog.info? 305).map (fun i => (i.zero, i.size, i.bytes)) = some (some (.agg #[.int .u64 0, .int .u64 0, .int .u32 0, .int .u8 0, .int .u8 0, .int .u8 0, .int .u8 0, .nilFunc, .pointer none, .int .i32 0, .int .i32 0]), 11, 48) := by kernel_rfl
theorem fa305_0 : ∀ a w, (Instr.fieldAt 305 (.pointer (some a)) 0).run Tryd.prog w = .ok (.pointer (some (a.add 0))) w := run_field (b := 1) Tryd.underlying305 rfl rfl (by kernel_rfl) (by decide)
theorem fa305_1 : ∀ a w, (Instr.fieldAt 305 (.pointer (some a)) 1).run Tryd.prog w = .ok (.pointer (some (a.add 1))) w := run_field (b := 1) Tryd.underlying305 rfl rfl (by kernel_rfl) (by decide)
theorem fa305_2 : ∀ a w, (Instr.fieldAt 305 (.pointer (some a)) 2).run Tryd.prog w = .ok (.pointer (some (a.add 2))) w := run_field (b := 1) Tryd.underlying305 rfl rfl (by kernel_rfl) (by decide)
theorem fa305_3 : ∀ a w, (Instr.fieldAt 305 (.pointer (some a)) 3).run Tryd.prog w = .ok (.pointer (some (a.add 3))) w := run_field (b := 1) Tryd.underlying305 rfl rfl (by kernel_rfl) (by decide)
theorem fa305_4 : ∀ a w, (Instr.fieldAt 305 (.pointer (some a)) 4).run Tryd.prog w = .ok (.pointer (some (a.add 4))) w := run_field (b := 1) Tryd.underlying305 rfl rfl (by kernel_rfl) (by decide)
theorem fa305_5 : ∀ a w, (Instr.fieldAt 305 (.pointer (some a)) 5).run Tryd.prog w = .ok (.pointer (some (a.add 5))) w := run_field (b := 1) Tryd.underlying305 rfl rfl (by kernel_rfl) (by decide)
theorem fa305_6 : ∀ a w, (Instr.fieldAt 305 (.pointer (some a)) 6).run Tryd.prog w = .ok (.pointer (some (a.add 6))) w := run_field (b := 1) Tryd.underlying305 rfl rfl (by kernel_rfl) (by decide)
theorem fa305_7 : ∀ a w, (Instr.fieldAt 305 (.pointer (some a)) 7).run Tryd.prog w = .ok (.pointer (some (a.add 7))) w := run_field (b := 1) Tryd.underlying305 rfl rfl (by kernel_rfl) (by decide)
theorem fa305_8 : ∀ a w, (Instr.fieldAt 305 (.pointer (some a)) 8).run Tryd.prog w = .ok (.pointer (some (a.add 8))) w := run_field (b := 1) Tryd.underlying305 rfl rfl (by kernel_rfl) (by decide)
theorem fa305_9 : ∀ a w, (Instr.fieldAt 305 (.pointer (some a)) 9).run Tryd.prog w = .ok (.pointer (some (a.add 9))) w := run_field (b := 1) Tryd.underlying305 rfl rfl (by kernel_rfl) (by decide)
theorem fa305_10 : ∀ a w, (Instr.fieldAt 305 (.pointer (some a)) 10).run Tryd.prog w = .ok (.pointer (some (a.add 10))) w := run_field (b := 1) Tryd.underlying305 rfl rfl (by kernel_rfl) (by decide)
theorem sz306 : (Tryd.prog.info? 306).map (·.size) = some 11 := by kernel_rfl
theorem co306 : Tryd.prog.cellsOf 306 = 11 := by kernel_rfl
theorem bo306 : Tryd.prog.bytesOf 306 = 48 := by kernel_rfl
theorem z306 : ∀ w, (zeroValue 306).run Tryd.prog w = .ok (.agg #[.int .u64 0, .int .u64 0, .int .u32 0, .int .u8 0, .int .u8 0, .int .u8 0, .int .u8 0, .nilFunc, .pointer none, .int .i32 0, .int .i32 0]) w := fun _ => by kernel_rfl
theorem inf306 : (Tryd.prog.info? 306).map (fun i => (i.zero, i.size, i.bytes)) = some (some (.agg #[.int .u64 0, .int .u64 0, .int .u32 0, .int .u8 0, .int .u8 0, .int .u8 0, .int .u8 0, .nilFunc, .pointer none, .int .i32 0, .int .i32 0]), 11, 48) := by kernel_rfl
theorem fa306_0 : ∀ a w, (Instr.fieldAt 306 (.pointer (some a)) 0).run Tryd.prog w = .ok (.pointer (some (a.add 0))) w := run_field (b := 1) Tryd.underlying306 rfl rfl (by kernel_rfl) (by decide)
theorem fa306_1 : ∀ a w, (Instr.fieldAt 306 (.pointer (some a)) 1).run Tryd.prog w = .ok (.pointer (some (a.add 1))) w := run_field (b := 1) Tryd.underlying306 rfl rfl (by kernel_rfl) (by decide)
theorem fa306_2 : ∀ a w, (Instr.fieldAt 306 (.pointer (some a)) 2).run Tryd.prog w = .ok (.pointer (some (a.add 2))) w := run_field (b := 1) Tryd.underlying306 rfl rfl (by kernel_rfl) (by decide)
theorem fa306_3 : ∀ a w, (Instr.fieldAt 306 (.pointer (some a)) 3).run Tryd.prog w = .ok (.pointer (some (a.add 3))) w := run_field (b := 1) Tryd.underlying306 rfl rfl (by kernel_rfl) (by decide)
theorem fa306_4 : ∀ a w, (Instr.fieldAt 306 (.pointer (some a)) 4).run Tryd.prog w = .ok (.pointer (some (a.add 4))) w := run_field (b := 1) Tryd.underlying306 rfl rfl (by kernel_rfl) (by decide)
theorem fa306_5 : ∀ a w, (Instr.fieldAt 306 (.pointer (some a)) 5).run Tryd.prog w = .ok (.pointer (some (a.add 5))) w := run_field (b := 1) Tryd.underlying306 rfl rfl (by kernel_rfl) (by decide)
theorem fa306_6 : ∀ a w, (Instr.fieldAt 306 (.pointer (some a)) 6).run Tryd.prog w = .ok (.pointer (some (a.add 6))) w := run_field (b := 1) Tryd.underlying306 rfl rfl (by kernel_rfl) (by decide)
theorem fa306_7 : ∀ a w, (Instr.fieldAt 306 (.pointer (some a)) 7).run Tryd.prog w = .ok (.pointer (some (a.add 7))) w := run_field (b := 1) Tryd.underlying306 rfl rfl (by kernel_rfl) (by decide)
theorem fa306_8 : ∀ a w, (Instr.fieldAt 306 (.pointer (some a)) 8).run Tryd.prog w = .ok (.pointer (some (a.add 8))) w := run_field (b := 1) Tryd.underlying306 rfl rfl (by kernel_rfl) (by decide)
theorem fa306_9 : ∀ a w, (Instr.fieldAt 306 (.pointer (some a)) 9).run Tryd.prog w = .ok (.pointer (some (a.add 9))) w := run_field (b := 1) Tryd.underlying306 rfl rfl (by kernel_rfl) (by decide)
theorem fa306_10 : ∀ a w, (Instr.fieldAt 306 (.pointer (some a)) 10).run Tryd.prog w = .ok (.pointer (some (a.add 10))) w := run_field (b := 1) Tryd.underlying306 rfl rfl (by kernel_rfl) (by decide)
theorem cf2 : ∀ args w, (callFunc 2 args).run Tryd.prog w = .ok (.enter 2 args) w := run_cf Tryd.func2 (by kernel_rfl) rfl
theorem cf3 : ∀ args w, (callFunc 3 args).run Tryd.prog w = .ok (.enter 3 args) w := run_cf Tryd.func3 (by kernel_rfl) rfl
theorem cf4 : ∀ args w, (callFunc 4 args).run Tryd.prog w = .ok (.enter 4 args) w := run_cf Tryd.func4 (by kernel_rfl) rfl
theorem cf5 : ∀ args w, (callFunc 5 args).run Tryd.prog w = .ok (.enter 5 args) w := run_cf Tryd.func5 (by kernel_rfl) rfl
theorem cf6 : ∀ args w, (callFunc 6 args).run Tryd.prog w = .ok (.enter 6 args) w := run_cf Tryd.func6 (by kernel_rfl) rfl
theorem cf7 : ∀ args w, (callFunc 7 args).run Tryd.prog w = .ok (.enter 7 args) w := run_cf Tryd.func7 (by kernel_rfl) rfl
theorem cf8 : ∀ args w, (callFunc 8 args).run Tryd.prog w = .ok (.enter 8 args) w := run_cf Tryd.func8 (by kernel_rfl) rfl
theorem cf9 : ∀ args w, (callFunc 9 args).run Tryd.prog w = .ok (.enter 9 args) w := run_cf Tryd.func9 (by kernel_rfl) rfl
theorem cf10 : ∀ args w, (callFunc 10 args).run Tryd.prog w = .ok (.enter 10 args) w := run_cf Tryd.func10 (by kernel_rfl) rfl
theorem cf11 : ∀ args w, (callFunc 11 args).run Tryd.prog w = .ok (.enter 11 args) w := run_cf Tryd.func11 (by kernel_rfl) rfl
theorem cf12 : ∀ args w, (callFunc 12 args).run Tryd.prog w = .ok (.enter 12 args) w := run_cf Tryd.func12 (by kernel_rfl) rfl
theorem cf13 : ∀ args w, (callFunc 13 args).run Tryd.prog w = .ok (.enter 13 args) w := run_cf Tryd.func13 (by kernel_rfl) rfl
theorem cf14 : ∀ args w, (callFunc 14 args).run Tryd.prog w = .ok (.enter 14 args) w := run_cf Tryd.func14 (by kernel_rfl) rfl
theorem cf15 : ∀ args w, (callFunc 15 args).run Tryd.prog w = .ok (.enter 15 args) w := run_cf Tryd.func15 (by kernel_rfl) rfl
theorem cf16 : ∀ args w, (callFunc 16 args).run Tryd.prog w = .ok (.enter 16 args) w := run_cf Tryd.func16 (by kernel_rfl) rfl
theorem cf17 : ∀ args w, (callFunc 17 args).run Tryd.prog w = .ok (.enter 17 args) w := run_cf Tryd.func17 (by kernel_rfl) rfl
theorem cf18 : ∀ args w, (callFunc 18 args).run Tryd.prog w = .ok (.enter 18 args) w := run_cf Tryd.func18 (by kernel_rfl) rfl
theorem cf19 : ∀ args w, (callFunc 19 args).run Tryd.prog w = .ok (.enter 19 args) w := run_cf Tryd.func19 (by kernel_rfl) rfl
theorem cf20 : ∀ args w, (callFunc 20 args).run Tryd.prog w = .ok (.enter 20 args) w := run_cf Tryd.func20 (by kernel_rfl) rfl
theorem cf21 : ∀ args w, (callFunc 21 args).run Tryd.prog w = .ok (.enter 21 args) w := run_cf Tryd.func21 (by kernel_rfl) rfl
theorem cf22 : ∀ args w, (callFunc 22 args).run Tryd.prog w = .ok (.enter 22 args) w := run_cf Tryd.func22 (by kernel_rfl) rfl
theorem cf23 : ∀ args w, (callFunc 23 args).run Tryd.prog w = .ok (.enter 23 args) w := run_cf Tryd.func23 (by kernel_rfl) rfl
theorem cf24 : ∀ args w, (callFunc 24 args).run Tryd.prog w = .ok (.enter 24 args) w := run_cf Tryd.func24 (by kernel_rfl) rfl
theorem cf25 : ∀ args w, (callFunc 25 args).run Tryd.prog w = .ok (.enter 25 args) w := run_cf Tryd.func25 (by kernel_rfl) rfl
theorem cf26 : ∀ args w, (callFunc 26 args).run Tryd.prog w = .ok (.enter 26 args) w := run_cf Tryd.func26 (by kernel_rfl) rfl
theorem cf27 : ∀ args w, (callFunc 27 args).run Tryd.prog w = .ok (.enter 27 args) w := run_cf Tryd.func27 (by kernel_rfl) rfl
theorem cf28 : ∀ args w, (callFunc 28 args).run Tryd.prog w = .ok (.enter 28 args) w := run_cf Tryd.func28 (by kernel_rfl) rfl
theorem cf29 : ∀ args w, (callFunc 29 args).run Tryd.prog w = .ok (.enter 29 args) w := run_cf Tryd.func29 (by kernel_rfl) rfl
theorem cf30 : ∀ args w, (callFunc 30 args).run Tryd.prog w = .ok (.enter 30 args) w := run_cf Tryd.func30 (by kernel_rfl) rfl
theorem cf31 : ∀ args w, (callFunc 31 args).run Tryd.prog w = .ok (.enter 31 args) w := run_cf Tryd.func31 (by kernel_rfl) rfl
theorem cf32 : ∀ args w, (callFunc 32 args).run Tryd.prog w = .ok (.enter 32 args) w := run_cf Tryd.func32 (by kernel_rfl) rfl
theorem cf33 : ∀ args w, (callFunc 33 args).run Tryd.prog w = .ok (.enter 33 args) w := run_cf Tryd.func33 (by kernel_rfl) rfl
theorem cf34 : ∀ args w, (callFunc 34 args).run Tryd.prog w = .ok (.enter 34 args) w := run_cf Tryd.func34 (by kernel_rfl) rfl
theorem cf35 : ∀ args w, (callFunc 35 args).run Tryd.prog w = .ok (.enter 35 args) w := run_cf Tryd.func35 (by kernel_rfl) rfl
theorem cf36 : ∀ args w, (callFunc 36 args).run Tryd.prog w = .ok (.enter 36 args) w := run_cf Tryd.func36 (by kernel_rfl) rfl
theorem cf37 : ∀ args w, (callFunc 37 args).run Tryd.prog w = .ok (.enter 37 args) w := run_cf Tryd.func37 (by kernel_rfl) rfl
theorem cf38 : ∀ args w, (callFunc 38 args).run Tryd.prog w = .ok (.enter 38 args) w := run_cf Tryd.func38 (by kernel_rfl) rfl
theorem cf39 : ∀ args w, (callFunc 39 args).run Tryd.prog w = .ok (.enter 39 args) w := run_cf Tryd.func39 (by kernel_rfl) rfl
theorem cf40 : ∀ args w, (callFunc 40 args).run Tryd.prog w = .ok (.enter 40 args) w := run_cf Tryd.func40 (by kernel_rfl) rfl
theorem cf41 : ∀ args w, (callFunc 41 args).run Tryd.prog w = .ok (.enter 41 args) w := run_cf Tryd.func41 (by kernel_rfl) rfl
theorem cf42 : ∀ args w, (callFunc 42 args).run Tryd.prog w = .ok (.enter 42 args) w := run_cf Tryd.func42 (by kernel_rfl) rfl
theorem cf43 : ∀ args w, (callFunc 43 args).run Tryd.prog w = .ok (.enter 43 args) w := run_cf Tryd.func43 (by kernel_rfl) rfl
theorem cf44 : ∀ args w, (callFunc 44 args).run Tryd.prog w = .ok (.enter 44 args) w := run_cf Tryd.func44 (by kernel_rfl) rfl
theorem cf45 : ∀ args w, (callFunc 45 args).run Tryd.prog w = .ok (.enter 45 args) w := run_cf Tryd.func45 (by kernel_rfl) rfl
theorem cf46 : ∀ args w, (callFunc 46 args).run Tryd.prog w = .ok (.enter 46 args) w := run_cf Tryd.func46 (by kernel_rfl) rfl
theorem cf47 : ∀ args w, (callFunc 47 args).run Tryd.prog w = .ok (.enter 47 args) w := run_cf Tryd.func47 (by kernel_rfl) rfl
theorem cf48 : ∀ args w, (callFunc 48 args).run Tryd.prog w = .ok (.enter 48 args) w := run_cf Tryd.func48 (by kernel_rfl) rfl
theorem cf49 : ∀ args w, (callFunc 49 args).run Tryd.prog w = .ok (.enter 49 args) w := run_cf Tryd.func49 (by kernel_rfl) rfl
theorem cf50 : ∀ args w, (callFunc 50 args).run Tryd.prog w = .ok (.enter 50 args) w := run_cf Tryd.func50 (by kernel_rfl) rfl
theorem cf51 : ∀ args w, (callFunc 51 args).run Tryd.prog w = .ok (.enter 51 args) w := run_cf Tryd.func51 (by kernel_rfl) rfl
theorem cf52 : ∀ args w, (callFunc 52 args).run Tryd.prog w = .ok (.enter 52 args) w := run_cf Tryd.func52 (by kernel_rfl) rfl
theorem cf53 : ∀ args w, (callFunc 53 args).run Tryd.prog w = .ok (.enter 53 args) w := run_cf Tryd.func53 (by kernel_rfl) rfl
theorem cf54 : ∀ args w, (callFunc 54 args).run Tryd.prog w = .ok (.enter 54 args) w := run_cf Tryd.func54 (by kernel_rfl) rfl
theorem cf55 : ∀ args w, (callFunc 55 args).run Tryd.prog w = .ok (.enter 55 args) w := run_cf Tryd.func55 (by kernel_rfl) rfl
theorem cf56 : ∀ args w, (callFunc 56 args).run Tryd.prog w = .ok (.enter 56 args) w := run_cf Tryd.func56 (by kernel_rfl) rfl
theorem cf57 : ∀ args w, (callFunc 57 args).run Tryd.prog w = .ok (.enter 57 args) w := run_cf Tryd.func57 (by kernel_rfl) rfl
theorem cf58 : ∀ args w, (callFunc 58 args).run Tryd.prog w = .ok (.enter 58 args) w := run_cf Tryd.func58 (by kernel_rfl) rfl
theorem cf59 : ∀ args w, (callFunc 59 args).run Tryd.prog w = .ok (.enter 59 args) w := run_cf Tryd.func59 (by kernel_rfl) rfl
theorem cf60 : ∀ args w, (callFunc 60 args).run Tryd.prog w = .ok (.enter 60 args) w := run_cf Tryd.func60 (by kernel_rfl) rfl
theorem cf61 : ∀ args w, (callFunc 61 args).run Tryd.prog w = .ok (.enter 61 args) w := run_cf Tryd.func61 (by kernel_rfl) rfl
theorem cf62 : ∀ args w, (callFunc 62 args).run Tryd.prog w = .ok (.enter 62 args) w := run_cf Tryd.func62 (by kernel_rfl) rfl
theorem cf63 : ∀ args w, (callFunc 63 args).run Tryd.prog w = .ok (.enter 63 args) w := run_cf Tryd.func63 (by kernel_rfl) rfl
theorem cf64 : ∀ args w, (callFunc 64 args).run Tryd.prog w = .ok (.enter 64 args) w := run_cf Tryd.func64 (by kernel_rfl) rfl
theorem cf65 : ∀ args w, (callFunc 65 args).run Tryd.prog w = .ok (.enter 65 args) w := run_cf Tryd.func65 (by kernel_rfl) rfl
theorem cf66 : ∀ args w, (callFunc 66 args).run Tryd.prog w = .ok (.enter 66 args) w := run_cf Tryd.func66 (by kernel_rfl) rfl
theorem cf67 : ∀ args w, (callFunc 67 args).run Tryd.prog w = .ok (.enter 67 args) w := run_cf Tryd.func67 (by kernel_rfl) rfl
theorem cf68 : ∀ args w, (callFunc 68 args).run Tryd.prog w = .ok (.enter 68 args) w := run_cf Tryd.func68 (by kernel_rfl) rfl
theorem cf69 : ∀ args w, (callFunc 69 args).run Tryd.prog w = .ok (.enter 69 args) w := run_cf Tryd.func69 (by kernel_rfl) rfl
theorem cf70 : ∀ args w, (callFunc 70 args).run Tryd.prog w = .ok (.enter 70 args) w := run_cf Tryd.func70 (by kernel_rfl) rfl
theorem cf71 : ∀ args w, (callFunc 71 args).run Tryd.prog w = .ok (.enter 71 args) w := run_cf Tryd.func71 (by kernel_rfl) rfl
theorem cf72 : ∀ args w, (callFunc 72 args).run Tryd.prog w = .ok (.enter 72 args) w := run_cf Tryd.func72 (by kernel_rfl) rfl
theorem cf73 : ∀ args w, (callFunc 73 args).run Tryd.prog w = .ok (.enter 73 args) w := run_cf Tryd.func73 (by kernel_rfl) rfl
theorem cf74 : ∀ args w, (callFunc 74 args).run Tryd.prog w = .ok (.enter 74 args) w := run_cf Tryd.func74 (by kernel_rfl) rfl
theorem cf75 : ∀ args w, (callFunc 75 args).run Tryd.prog w = .ok (.enter 75 args) w := run_cf Tryd.func75 (by kernel_rfl) rfl
theorem cf76 : ∀ args w, (callFunc 76 args).run Tryd.prog w = .ok (.enter 76 args) w := run_cf Tryd.func76 (by kernel_rfl) rfl
theorem cf77 : ∀ args w, (callFunc 77 args).run Tryd.prog w = .ok (.enter 77 args) w := run_cf Tryd.func77 (by kernel_rfl) rfl
theorem cf78 : ∀ args w, (callFunc 78 args).run Tryd.prog w = .ok (.enter 78 args) w := run_cf Tryd.func78 (by kernel_rfl) rfl
theorem cf79 : ∀ args w, (callFunc 79 args).run Tryd.prog w = .ok (.enter 79 args) w := run_cf Tryd.func79 (by kernel_rfl) rfl
theorem cf80 : ∀ args w, (callFunc 80 args).run Tryd.prog w = .ok (.enter 80 args) w := run_cf Tryd.func80 (by kernel_rfl) rfl
theorem cf81 : ∀ args w, (callFunc 81 args).run Tryd.prog w = .ok (.enter 81 args) w := run_cf Tryd.func81 (by kernel_rfl) rfl
theorem cf82 : ∀ args w, (callFunc 82 args).run Tryd.prog w = .ok (.enter 82 args) w := run_cf Tryd.func82 (by kernel_rfl) rfl
theorem cf83 : ∀ args w, (callFunc 83 args).run Tryd.prog w = .ok (.enter 83 args) w := run_cf Tryd.func83 (by kernel_rfl) rfl
theorem cf84 : ∀ args w, (callFunc 84 args).run Tryd.prog w = .ok (.enter 84 args) w := run_cf Tryd.func84 (by kernel_rfl) rfl
theorem cf85 : ∀ args w, (callFunc 85 args).run Tryd.prog w = .ok (.enter 85 args) w := run_cf Tryd.func85 (by kernel_rfl) rfl
theorem cf86 : ∀ args w, (callFunc 86 args).run Tryd.prog w = .ok (.enter 86 args) w := run_cf Tryd.func86 (by kernel_rfl) rfl
theorem cf87 : ∀ args w, (callFunc 87 args).run Tryd.prog w = .ok (.enter 87 args) w := run_cf Tryd.func87 (by kernel_rfl) rfl
theorem cf88 : ∀ args w, (callFunc 88 args).run Tryd.prog w = .ok (.enter 88 args) w := run_cf Tryd.func88 (by kernel_rfl) rfl
theorem cf89 : ∀ args w, (callFunc 89 args).run Tryd.prog w = .ok (.enter 89 args) w := run_cf Tryd.func89 (by kernel_rfl) rfl
theorem cf90 : ∀ args w, (callFunc 90 args).run Tryd.prog w = .ok (.enter 90 args) w := run_cf Tryd.func90 (by kernel_rfl) rfl
theorem cf91 : ∀ args w, (callFunc 91 args).run Tryd.prog w = .ok (.enter 91 args) w := run_cf Tryd.func91 (by kernel_rfl) rfl
theorem cf92 : ∀ args w, (callFunc 92 args).run Tryd.prog w = .ok (.enter 92 args) w := run_cf Tryd.func92 (by kernel_rfl) rfl
theorem cf93 : ∀ args w, (callFunc 93 args).run Tryd.prog w = .ok (.enter 93 args) w := run_cf Tryd.func93 (by kernel_rfl) rfl
theorem cf94 : ∀ args w, (callFunc 94 args).run Tryd.prog w = .ok (.enter 94 args) w := run_cf Tryd.func94 (by kernel_rfl) rfl
theorem cf95 : ∀ args w, (callFunc 95 args).run Tryd.prog w = .ok (.enter 95 args) w := run_cf Tryd.func95 (by kernel_rfl) rfl
theorem cf96 : ∀ args w, (callFunc 96 args).run Tryd.prog w = .ok (.enter 96 args) w := run_cf Tryd.func96 (by kernel_rfl) rfl
theorem cf97 : ∀ args w, (callFunc 97 args).run Tryd.prog w = .ok (.enter 97 args) w := run_cf Tryd.func97 (by kernel_rfl) rfl
theorem cf98 : ∀ args w, (callFunc 98 args).run Tryd.prog w = .ok (.enter 98 args) w := run_cf Tryd.func98 (by kernel_rfl) rfl
theorem cf99 : ∀ args w, (callFunc 99 args).run Tryd.prog w = .ok (.enter 99 args) w := run_cf Tryd.func99 (by kernel_rfl) rfl
theorem cf100 : ∀ args w, (callFunc 100 args).run Tryd.prog w = .ok (.enter 100 args) w := run_cf Tryd.func100 (by kernel_rfl) rfl
theorem cf101 : ∀ args w, (callFunc 101 args).run Tryd.prog w = .ok (.enter 101 args) w := run_cf Tryd.func101 (by kernel_rfl) rfl
theorem cf102 : ∀ args w, (callFunc 102 args).run Tryd.prog w = .ok (.enter 102 args) w := run_cf Tryd.func102 (by kernel_rfl) rfl
theorem cf103 : ∀ args w, (callFunc 103 args).run Tryd.prog w = .ok (.enter 103 args) w := run_cf Tryd.func103 (by kernel_rfl) rfl
theorem cf104 : ∀ args w, (callFunc 104 args).run Tryd.prog w = .ok (.enter 104 args) w := run_cf Tryd.func104 (by kernel_rfl) rfl
theorem cf105 : ∀ args w, (callFunc 105 args).run Tryd.prog w = .ok (.enter 105 args) w := run_cf Tryd.func105 (by kernel_rfl) rfl
theorem cf106 : ∀ args w, (callFunc 106 args).run Tryd.prog w = .ok (.enter 106 args) w := run_cf Tryd.func106 (by kernel_rfl) rfl
theorem cf107 : ∀ args w, (callFunc 107 args).run Tryd.prog w = .ok (.enter 107 args) w := run_cf Tryd.func107 (by kernel_rfl) rfl
theorem cf108 : ∀ args w, (callFunc 108 args).run Tryd.prog w = .ok (.enter 108 args) w := run_cf Tryd.func108 (by kernel_rfl) rfl
theorem cf109 : ∀ args w, (callFunc 109 args).run Tryd.prog w = .ok (.enter 109 args) w := run_cf Tryd.func109 (by kernel_rfl) rfl
theorem cf110 : ∀ args w, (callFunc 110 args).run Tryd.prog w = .ok (.enter 110 args) w := run_cf Tryd.func110 (by kernel_rfl) rfl
theorem cf111 : ∀ args w, (callFunc 111 args).run Tryd.prog w = .ok (.enter 111 args) w := run_cf Tryd.func111 (by kernel_rfl) rfl
theorem cf112 : ∀ args w, (callFunc 112 args).run Tryd.prog w = .ok (.enter 112 args) w := run_cf Tryd.func112 (by kernel_rfl) rfl
theorem cf113 : ∀ args w, (callFunc 113 args).run Tryd.prog w = .ok (.enter 113 args) w := run_cf Tryd.func113 (by kernel_rfl) rfl
theorem cf114 : ∀ args w, (callFunc 114 args).run Tryd.prog w = .ok (.enter 114 args) w := run_cf Tryd.func114 (by kernel_rfl) rfl
theorem cf115 : ∀ args w, (callFunc 115 args).run Tryd.prog w = .ok (.enter 115 args) w := run_cf Tryd.func115 (by kernel_rfl) rfl
theorem cf116 : ∀ args w, (callFunc 116 args).run Tryd.prog w = .ok (.enter 116 args) w := run_cf Tryd.func116 (by kernel_rfl) rfl
theorem cf117 : ∀ args w, (callFunc 117 args).run Tryd.prog w = .ok (.enter 117 args) w := run_cf Tryd.func117 (by kernel_rfl) rfl
theorem cf118 : ∀ args w, (callFunc 118 args).run Tryd.prog w = .ok (.enter 118 args) w := run_cf Tryd.func118 (by kernel_rfl) rfl
theorem cf119 : ∀ args w, (callFunc 119 args).run Tryd.prog w = .ok (.enter 119 args) w := run_cf Tryd.func119 (by kernel_rfl) rfl
theorem cf120 : ∀ args w, (callFunc 120 args).run Tryd.prog w = .ok (.enter 120 args) w := run_cf Tryd.func120 (by kernel_rfl) rfl
theorem cf121 : ∀ args w, (callFunc 121 args).run Tryd.prog w = .ok (.enter 121 args) w := run_cf Tryd.func121 (by kernel_rfl) rfl
theorem cf122 : ∀ args w, (callFunc 122 args).run Tryd.prog w = .ok (.enter 122 args) w := run_cf Tryd.func122 (by kernel_rfl) rfl
theorem cf123 : ∀ args w, (callFunc 123 args).run Tryd.prog w = .ok (.enter 123 args) w := run_cf Tryd.func123 (by kernel_rfl) rfl
theorem cf124 : ∀ args w, (callFunc 124 args).run Tryd.prog w = .ok (.enter 124 args) w := run_cf Tryd.func124 (by kernel_rfl) rfl
theorem cf125 : ∀ args w, (callFunc 125 args).run Tryd.prog w = .ok (.enter 125 args) w := run_cf Tryd.func125 (by kernel_rfl) rfl
theorem cf126 : ∀ args w, (callFunc 126 args).run Tryd.prog w = .ok (.enter 126 args) w := run_cf Tryd.func126 (by kernel_rfl) rfl
theorem cf127 : ∀ args w, (callFunc 127 args).run Tryd.prog w = .ok (.enter 127 args) w := run_cf Tryd.func127 (by kernel_rfl) rfl
theorem cf128 : ∀ args w, (callFunc 128 args).run Tryd.prog w = .ok (.enter 128 args) w := run_cf Tryd.func128 (by kernel_rfl) rfl
theorem cf129 : ∀ args w, (callFunc 129 args).run Tryd.prog w = .ok (.enter 129 args) w := run_cf Tryd.func129 (by kernel_rfl) rfl
theorem cf130 : ∀ args w, (callFunc 130 args).run Tryd.prog w = .ok (.enter 130 args) w := run_cf Tryd.func130 (by kernel_rfl) rfl
theorem cf131 : ∀ args w, (callFunc 131 args).run Tryd.prog w = .ok (.enter 131 args) w := run_cf Tryd.func131 (by kernel_rfl) rfl
theorem cf132 : ∀ args w, (callFunc 132 args).run Tryd.prog w = .ok (.enter 132 args) w := run_cf Tryd.func132 (by kernel_rfl) rfl
theorem cf133 : ∀ args w, (callFunc 133 args).run Tryd.prog w = .ok (.enter 133 args) w := run_cf Tryd.func133 (by kernel_rfl) rfl
theorem cf134 : ∀ args w, (callFunc 134 args).run Tryd.prog w = .ok (.enter 134 args) w := run_cf Tryd.func134 (by kernel_rfl) rfl
theorem cf135 : ∀ args w, (callFunc 135 args).run Tryd.prog w = .ok (.enter 135 args) w := run_cf Tryd.func135 (by kernel_rfl) rfl
theorem cf136 : ∀ args w, (callFunc 136 args).run Tryd.prog w = .ok (.enter 136 args) w := run_cf Tryd.func136 (by kernel_rfl) rfl
theorem cf137 : ∀ args w, (callFunc 137 args).run Tryd.prog w = .ok (.enter 137 args) w := run_cf Tryd.func137 (by kernel_rfl) rfl
theorem cf138 : ∀ args w, (callFunc 138 args).run Tryd.prog w = .ok (.enter 138 args) w := run_cf Tryd.func138 (by kernel_rfl) rfl
theorem cf139 : ∀ args w, (callFunc 139 args).run Tryd.prog w = .ok (.enter 139 args) w := run_cf Tryd.func139 (by kernel_rfl) rfl
theorem cf140 : ∀ args w, (callFunc 140 args).run Tryd.prog w = .ok (.enter 140 args) w := run_cf Tryd.func140 (by kernel_rfl) rfl
theorem cf141 : ∀ args w, (callFunc 141 args).run Tryd.prog w = .ok (.enter 141 args) w := run_cf Tryd.func141 (by kernel_rfl) rfl
theorem cf142 : ∀ args w, (callFunc 142 args).run Tryd.prog w = .ok (.enter 142 args) w := run_cf Tryd.func142 (by kernel_rfl) rfl
theorem cf143 : ∀ args w, (callFunc 143 args).run Tryd.prog w = .ok (.enter 143 args) w := run_cf Tryd.func143 (by kernel_rfl) rfl
theorem cf144 : ∀ args w, (callFunc 144 args).run Tryd.prog w = .ok (.enter 144 args) w := run_cf Tryd.func144 (by kernel_rfl) rfl
theorem cf145 : ∀ args w, (callFunc 145 args).run Tryd.prog w = .ok (.enter 145 args) w := run_cf Tryd.func145 (by kernel_rfl) rfl
theorem cf146 : ∀ args w, (callFunc 146 args).run Tryd.prog w = .ok (.enter 146 args) w := run_cf Tryd.func146 (by kernel_rfl) rfl
theorem cf147 : ∀ args w, (callFunc 147 args).run Tryd.prog w = .ok (.enter 147 args) w := run_cf Tryd.func147 (by kernel_rfl) rfl
theorem cf148 : ∀ args w, (callFunc 148 args).run Tryd.prog w = .ok (.enter 148 args) w := run_cf Tryd.func148 (by kernel_rfl) rfl
theorem cf149 : ∀ args w, (callFunc 149 args).run Tryd.prog w = .ok (.enter 149 args) w := run_cf Tryd.func149 (by kernel_rfl) rfl
theorem cf150 : ∀ args w, (callFunc 150 args).run Tryd.prog w = .ok (.enter 150 args) w := run_cf Tryd.func150 (by kernel_rfl) rfl
theorem cf151 : ∀ args w, (callFunc 151 args).run Tryd.prog w = .ok (.enter 151 args) w := run_cf Tryd.func151 (by kernel_rfl) rfl
theorem cf152 : ∀ args w, (callFunc 152 args).run Tryd.prog w = .ok (.enter 152 args) w := run_cf Tryd.func152 (by kernel_rfl) rfl
theorem cf153 : ∀ args w, (callFunc 153 args).run Tryd.prog w = .ok (.enter 153 args) w := run_cf Tryd.func153 (by kernel_rfl) rfl
theorem cf154 : ∀ args w, (callFunc 154 args).run Tryd.prog w = .ok (.enter 154 args) w := run_cf Tryd.func154 (by kernel_rfl) rfl
theorem cf155 : ∀ args w, (callFunc 155 args).run Tryd.prog w = .ok (.enter 155 args) w := run_cf Tryd.func155 (by kernel_rfl) rfl
theorem cf156 : ∀ args w, (callFunc 156 args).run Tryd.prog w = .ok (.enter 156 args) w := run_cf Tryd.func156 (by kernel_rfl) rfl
theorem cf157 : ∀ args w, (callFunc 157 args).run Tryd.prog w = .ok (.enter 157 args) w := run_cf Tryd.func157 (by kernel_rfl) rfl
theorem cf158 : ∀ args w, (callFunc 158 args).run Tryd.prog w = .ok (.enter 158 args) w := run_cf Tryd.func158 (by kernel_rfl) rfl
theorem cf159 : ∀ args w, (callFunc 159 args).run Tryd.prog w = .ok (.enter 159 args) w := run_cf Tryd.func159 (by kernel_rfl) rfl
theorem cf160 : ∀ args w, (callFunc 160 args).run Tryd.prog w = .ok (.enter 160 args) w := run_cf Tryd.func160 (by kernel_rfl) rfl
theorem cf161 : ∀ args w, (callFunc 161 args).run Tryd.prog w = .ok (.enter 161 args) w := run_cf Tryd.func161 (by kernel_rfl) rfl
theorem cf162 : ∀ args w, (callFunc 162 args).run Tryd.prog w = .ok (.enter 162 args) w := run_cf Tryd.func162 (by kernel_rfl) rfl
theorem cf163 : ∀ args w, (callFunc 163 args).run Tryd.prog w = .ok (.enter 163 args) w := run_cf Tryd.func163 (by kernel_rfl) rfl
theorem cf164 : ∀ args w, (callFunc 164 args).run Tryd.prog w = .ok (.enter 164 args) w := run_cf Tryd.func164 (by kernel_rfl) rfl
theorem cf165 : ∀ args w, (callFunc 165 args).run Tryd.prog w = .ok (.enter 165 args) w := run_cf Tryd.func165 (by kernel_rfl) rfl
theorem cf166 : ∀ args w, (callFunc 166 args).run Tryd.prog w = .ok (.enter 166 args) w := run_cf Tryd.func166 (by kernel_rfl) rfl
theorem cf167 : ∀ args w, (callFunc 167 args).run Tryd.prog w = .ok (.enter 167 args) w := run_cf Tryd.func167 (by kernel_rfl) rfl
theorem cf168 : ∀ args w, (callFunc 168 args).run Tryd.prog w = .ok (.enter 168 args) w := run_cf Tryd.func168 (by kernel_rfl) rfl
theorem cf169 : ∀ args w, (callFunc 169 args).run Tryd.prog w = .ok (.enter 169 args) w := run_cf Tryd.func169 (by kernel_rfl) rfl
theorem cf170 : ∀ args w, (callFunc 170 args).run Tryd.prog w = .ok (.enter 170 args) w := run_cf Tryd.func170 (by kernel_rfl) rfl
theorem cf171 : ∀ args w, (callFunc 171 args).run Tryd.prog w = .ok (.enter 171 args) w := run_cf Tryd.func171 (by kernel_rfl) rfl
theorem cf172 : ∀ args w, (callFunc 172 args).run Tryd.prog w = .ok (.enter 172 args) w := run_cf Tryd.func172 (by kernel_rfl) rfl
theorem cf173 : ∀ args w, (callFunc 173 args).run Tryd.prog w = .ok (.enter 173 args) w := run_cf Tryd.func173 (by kernel_rfl) rfl
theorem cf174 : ∀ args w, (callFunc 174 args).run Tryd.prog w = .ok (.enter 174 args) w := run_cf Tryd.func174 (by kernel_rfl) rfl
theorem cf175 : ∀ args w, (callFunc 175 args).run Tryd.prog w = .ok (.enter 175 args) w := run_cf Tryd.func175 (by kernel_rfl) rfl
theorem cf176 : ∀ args w, (callFunc 176 args).run Tryd.prog w = .ok (.enter 176 args) w := run_cf Tryd.func176 (by kernel_rfl) rfl
theorem cf177 : ∀ args w, (callFunc 177 args).run Tryd.prog w = .ok (.enter 177 args) w := run_cf Tryd.func177 (by kernel_rfl) rfl
theorem cf178 : ∀ args w, (callFunc 178 args).run Tryd.prog w = .ok (.enter 178 args) w := run_cf Tryd.func178 (by kernel_rfl) rfl
theorem cf179 : ∀ args w, (callFunc 179 args).run Tryd.prog w = .ok (.enter 179 args) w := run_cf Tryd.func179 (by kernel_rfl) rfl
theorem cf180 : ∀ args w, (callFunc 180 args).run Tryd.prog w = .ok (.enter 180 args) w := run_cf Tryd.func180 (by kernel_rfl) rfl
theorem cf181 : ∀ args w, (callFunc 181 args).run Tryd.prog w = .ok (.enter 181 args) w := run_cf Tryd.func181 (by kernel_rfl) rfl
theorem cf182 : ∀ args w, (callFunc 182 args).run Tryd.prog w = .ok (.enter 182 args) w := run_cf Tryd.func182 (by kernel_rfl) rfl
theorem cf183 : ∀ args w, (callFunc 183 args).run Tryd.prog w = .ok (.enter 183 args) w := run_cf Tryd.func183 (by kernel_rfl) rfl
theorem cf184 : ∀ args w, (callFunc 184 args).run Tryd.prog w = .ok (.enter 184 args) w := run_cf Tryd.func184 (by kernel_rfl) rfl
theorem cf185 : ∀ args w, (callFunc 185 args).run Tryd.prog w = .ok (.enter 185 args) w := run_cf Tryd.func185 (by kernel_rfl) rfl
theorem cf186 : ∀ args w, (callFunc 186 args).run Tryd.prog w = .ok (.enter 186 args) w := run_cf Tryd.func186 (by kernel_rfl) rfl
theorem cf187 : ∀ args w, (callFunc 187 args).run Tryd.prog w = .ok (.enter 187 args) w := run_cf Tryd.func187 (by kernel_rfl) rfl
theorem cf188 : ∀ args w, (callFunc 188 args).run Tryd.prog w = .ok (.enter 188 args) w := run_cf Tryd.func188 (by kernel_rfl) rfl
theorem cf189 : ∀ args w, (callFunc 189 args).run Tryd.prog w = .ok (.enter 189 args) w := run_cf Tryd.func189 (by kernel_rfl) rfl
theorem cf190 : ∀ args w, (callFunc 190 args).run Tryd.prog w = .ok (.enter 190 args) w := run_cf Tryd.func190 (by kernel_rfl) rfl
theorem cf191 : ∀ args w, (callFunc 191 args).run Tryd.prog w = .ok (.enter 191 args) w := run_cf Tryd.func191 (by kernel_rfl) rfl
theorem cf192 : ∀ args w, (callFunc 192 args).run Tryd.prog w = .ok (.enter 192 args) w := run_cf Tryd.func192 (by kernel_rfl) rfl
theorem cf193 : ∀ args w, (callFunc 193 args).run Tryd.prog w = .ok (.enter 193 args) w := run_cf Tryd.func193 (by kernel_rfl) rfl
theorem cf194 : ∀ args w, (callFunc 194 args).run Tryd.prog w = .ok (.enter 194 args) w := run_cf Tryd.func194 (by kernel_rfl) rfl
theorem cf195 : ∀ args w, (callFunc 195 args).run Tryd.prog w = .ok (.enter 195 args) w := run_cf Tryd.func195 (by kernel_rfl) rfl
theorem cf196 : ∀ args w, (callFunc 196 args).run Tryd.prog w = .ok (.enter 196 args) w := run_cf Tryd.func196 (by kernel_rfl) rfl
theorem cf197 : ∀ args w, (callFunc 197 args).run Tryd.prog w = .ok (.enter 197 args) w := run_cf Tryd.func197 (by kernel_rfl) rfl
theorem cf198 : ∀ args w, (callFunc 198 args).run Tryd.prog w = .ok (.enter 198 args) w := run_cf Tryd.func198 (by kernel_rfl) rfl
theorem cf199 : ∀ args w, (callFunc 199 args).run Tryd.prog w = .ok (.enter 199 args) w := run_cf Tryd.func199 (by kernel_rfl) rfl
theorem cf200 : ∀ args w, (callFunc 200 args).run Tryd.prog w = .ok (.enter 200 args) w := run_cf Tryd.func200 (by kernel_rfl) rfl
theorem cf201 : ∀ args w, (callFunc 201 args).run Tryd.prog w = .ok (.enter 201 args) w := run_cf Tryd.func201 (by kernel_rfl) rfl
theorem cf202 : ∀ args w, (callFunc 202 args).run Tryd.prog w = .ok (.enter 202 args) w := run_cf Tryd.func202 (by kernel_rfl) rfl
theorem cf203 : ∀ args w, (callFunc 203 args).run Tryd.prog w = .ok (.enter 203 args) w := run_cf Tryd.func203 (by kernel_rfl) rfl
theorem cf204 : ∀ args w, (callFunc 204 args).run Tryd.prog w = .ok (.enter 204 args) w := run_cf Tryd.func204 (by kernel_rfl) rfl
theorem cf205 : ∀ args w, (callFunc 205 args).run Tryd.prog w = .ok (.enter 205 args) w := run_cf Tryd.func205 (by kernel_rfl) rfl
theorem cf206 : ∀ args w, (callFunc 206 args).run Tryd.prog w = .ok (.enter 206 args) w := run_cf Tryd.func206 (by kernel_rfl) rfl
theorem cf208 : ∀ args w, (callFunc 208 args).run Tryd.prog w = .ok (.enter 208 args) w := run_cf Tryd.func208 (by kernel_rfl) rfl
theorem cf209 : ∀ args w, (callFunc 209 args).run Tryd.prog w = .ok (.enter 209 args) w := run_cf Tryd.func209 (by kernel_rfl) rfl
theorem cf210 : ∀ args w, (callFunc 210 args).run Tryd.prog w = .ok (.enter 210 args) w := run_cf Tryd.func210 (by kernel_rfl) rfl
theorem cf211 : ∀ args w, (callFunc 211 args).run Tryd.prog w = .ok (.enter 211 args) w := run_cf Tryd.func211 (by kernel_rfl) rfl
theorem cf212 : ∀ args w, (callFunc 212 args).run Tryd.prog w = .ok (.enter 212 args) w := run_cf Tryd.func212 (by kernel_rfl) rfl
theorem cf213 : ∀ args w, (callFunc 213 args).run Tryd.prog w = .ok (.enter 213 args) w := run_cf Tryd.func213 (by kernel_rfl) rfl
theorem cf214 : ∀ args w, (callFunc 214 args).run Tryd.prog w = .ok (.enter 214 args) w := run_cf Tryd.func214 (by kernel_rfl) rfl
theorem cf215 : ∀ args w, (callFunc 215 args).run Tryd.prog w = .ok (.enter 215 args) w := run_cf Tryd.func215 (by kernel_rfl) rfl
theorem cf216 : ∀ args w, (callFunc 216 args).run Tryd.prog w = .ok (.enter 216 args) w := run_cf Tryd.func216 (by kernel_rfl) rfl
theorem cf217 : ∀ args w, (callFunc 217 args).run Tryd.prog w = .ok (.enter 217 args) w := run_cf Tryd.func217 (by kernel_rfl) rfl
theorem cf218 : ∀ args w, (callFunc 218 args).run Tryd.prog w = .ok (.enter 218 args) w := run_cf Tryd.func218 (by kernel_rfl) rfl
theorem cf219 : ∀ args w, (callFunc 219 args).run Tryd.prog w = .ok (.enter 219 args) w := run_cf Tryd.func219 (by kernel_rfl) rfl
theorem cf220 : ∀ args w, (callFunc 220 args).run Tryd.prog w = .ok (.enter 220 args) w := run_cf Tryd.func220 (by kernel_rfl) rfl
theorem cf221 : ∀ args w, (callFunc 221 args).run Tryd.prog w = .ok (.enter 221 args) w := run_cf Tryd.func221 (by kernel_rfl) rfl
theorem cf222 : ∀ args w, (callFunc 222 args).run Tryd.prog w = .ok (.enter 222 args) w := run_cf Tryd.func222 (by kernel_rfl) rfl
theorem cf223 : ∀ args w, (callFunc 223 args).run Tryd.prog w = .ok (.enter 223 args) w := run_cf Tryd.func223 (by kernel_rfl) rfl
theorem cf224 : ∀ args w, (callFunc 224 args).run Tryd.prog w = .ok (.enter 224 args) w := run_cf Tryd.func224 (by kernel_rfl) rfl
theorem cf225 : ∀ args w, (callFunc 225 args).run Tryd.prog w = .ok (.enter 225 args) w := run_cf Tryd.func225 (by kernel_rfl) rfl
theorem cf226 : ∀ args w, (callFunc 226 args).run Tryd.prog w = .ok (.enter 226 args) w := run_cf Tryd.func226 (by kernel_rfl) rfl
theorem cf227 : ∀ args w, (callFunc 227 args).run Tryd.prog w = .ok (.enter 227 args) w := run_cf Tryd.func227 (by kernel_rfl) rfl
theorem cf228 : ∀ args w, (callFunc 228 args).run Tryd.prog w = .ok (.enter 228 args) w := run_cf Tryd.func228 (by kernel_rfl) rfl
theorem cf229 : ∀ args w, (callFunc 229 args).run Tryd.prog w = .ok (.enter 229 args) w := run_cf Tryd.func229 (by kernel_rfl) rfl
theorem cf230 : ∀ args w, (callFunc 230 args).run Tryd.prog w = .ok (.enter 230 args) w := run_cf Tryd.func230 (by kernel_rfl) rfl
theorem cf231 : ∀ args w, (callFunc 231 args).run Tryd.prog w = .ok (.enter 231 args) w := run_cf Tryd.func231 (by kernel_rfl) rfl
theorem cf232 : ∀ args w, (callFunc 232 args).run Tryd.prog w = .ok (.enter 232 args) w := run_cf Tryd.func232 (by kernel_rfl) rfl
theorem cf233 : ∀ args w, (callFunc 233 args).run Tryd.prog w = .ok (.enter 233 args) w := run_cf Tryd.func233 (by kernel_rfl) rfl
theorem cf234 : ∀ args w, (callFunc 234 args).run Tryd.prog w = .ok (.enter 234 args) w := run_cf Tryd.func234 (by kernel_rfl) rfl
theorem cf235 : ∀ args w, (callFunc 235 args).run Tryd.prog w = .ok (.enter 235 args) w := run_cf Tryd.func235 (by kernel_rfl) rfl
theorem cf236 : ∀ args w, (callFunc 236 args).run Tryd.prog w = .ok (.enter 236 args) w := run_cf Tryd.func236 (by kernel_rfl) rfl
theorem cf237 : ∀ args w, (callFunc 237 args).run Tryd.prog w = .ok (.enter 237 args) w := run_cf Tryd.func237 (by kernel_rfl) rfl
theorem cf238 : ∀ args w, (callFunc 238 args).run Tryd.prog w = .ok (.enter 238 args) w := run_cf Tryd.func238 (by kernel_rfl) rfl
theorem cf239 : ∀ args w, (callFunc 239 args).run Tryd.prog w = .ok (.enter 239 args) w := run_cf Tryd.func239 (by kernel_rfl) rfl
theorem cf240 : ∀ args w, (callFunc 240 args).run Tryd.prog w = .ok (.enter 240 args) w := run_cf Tryd.func240 (by kernel_rfl) rfl
theorem cf241 : ∀ args w, (callFunc 241 args).run Tryd.prog w = .ok (.enter 241 args) w := run_cf Tryd.func241 (by kernel_rfl) rfl
theorem cf242 : ∀ args w, (callFunc 242 args).run Tryd.prog w = .ok (.enter 242 args) w := run_cf Tryd.func242 (by kernel_rfl) rfl
theorem cf243 : ∀ args w, (callFunc 243 args).run Tryd.prog w = .ok (.enter 243 args) w := run_cf Tryd.func243 (by kernel_rfl) rfl
theorem cf244 : ∀ args w, (callFunc 244 args).run Tryd.prog w = .ok (.enter 244 args) w := run_cf Tryd.func244 (by kernel_rfl) rfl
theorem cf245 : ∀ args w, (callFunc 245 args).run Tryd.prog w = .ok (.enter 245 args) w := run_cf Tryd.func245 (by kernel_rfl) rfl
theorem cf246 : ∀ args w, (callFunc 246 args).run Tryd.prog w = .ok (.enter 246 args) w := run_cf Tryd.func246 (by kernel_rfl) rfl
theorem cf247 : ∀ args w, (callFunc 247 args).run Tryd.prog w = .ok (.enter 247 args) w := run_cf Tryd.func247 (by kernel_rfl) rfl
theorem cf248 : ∀ args w, (callFunc 248 args).run Tryd.prog w = .ok (.enter 248 args) w := run_cf Tryd.func248 (by kernel_rfl) rfl
theorem cf249 : ∀ args w, (callFunc 249 args).run Tryd.prog w = .ok (.enter 249 args) w := run_cf Tryd.func249 (by kernel_rfl) rfl
theorem cf250 : ∀ args w, (callFunc 250 args).run Tryd.prog w = .ok (.enter 250 args) w := run_cf Tryd.func250 (by kernel_rfl) rfl
theorem cf251 : ∀ args w, (callFunc 251 args).run Tryd.prog w = .ok (.enter 251 args) w := run_cf Tryd.func251 (by kernel_rfl) rfl
theorem cf252 : ∀ args w, (callFunc 252 args).run Tryd.prog w = .ok (.enter 252 args) w := run_cf Tryd.func252 (by kernel_rfl) rfl
theorem cf253 : ∀ args w, (callFunc 253 args).run Tryd.prog w = .ok (.enter 253 args) w := run_cf Tryd.func253 (by kernel_rfl) rfl
theorem cf254 : ∀ args w, (callFunc 254 args).run Tryd.prog w = .ok (.enter 254 args) w := run_cf Tryd.func254 (by kernel_rfl) rfl
theorem cf255 : ∀ args w, (callFunc 255 args).run Tryd.prog w = .ok (.enter 255 args) w := run_cf Tryd.func255 (by kernel_rfl) rfl
theorem cf256 : ∀ args w, (callFunc 256 args).run Tryd.prog w = .ok (.enter 256 args) w := run_cf Tryd.func256 (by kernel_rfl) rfl
theorem cf258 : ∀ args w, (callFunc 258 args).run Tryd.prog w = .ok (.enter 258 args) w := run_cf Tryd.func258 (by kernel_rfl) rfl
theorem cf260 : ∀ args w, (callFunc 260 args).run Tryd.prog w = .ok (.enter 260 args) w := run_cf Tryd.func260 (by kernel_rfl) rfl
theorem cf261 : ∀ args w, (callFunc 261 args).run Tryd.prog w = .ok (.enter 261 args) w := run_cf Tryd.func261 (by kernel_rfl) rfl
theorem cf262 : ∀ args w, (callFunc 262 args).run Tryd.prog w = .ok (.enter 262 args) w := run_cf Tryd.func262 (by kernel_rfl) rfl
theorem cf264 : ∀ args w, (callFunc 264 args).run Tryd.prog w = .ok (.enter 264 args) w := run_cf Tryd.func264 (by kernel_rfl) rfl
theorem cf265 : ∀ args w, (callFunc 265 args).run Tryd.prog w = .ok (.enter 265 args) w := run_cf Tryd.func265 (by kernel_rfl) rfl
theorem cf266 : ∀ args w, (callFunc 266 args).run Tryd.prog w = .ok (.enter 266 args) w := run_cf Tryd.func266 (by kernel_rfl) rfl
theorem cf267 : ∀ args w, (callFunc 267 args).run Tryd.prog w = .ok (.enter 267 args) w := run_cf Tryd.func267 (by kernel_rfl) rfl
theorem cf268 : ∀ args w, (callFunc 268 args).run Tryd.prog w = .ok (.enter 268 args) w := run_cf Tryd.func268 (by kernel_rfl) rfl
theorem cf269 : ∀ args w, (callFunc 269 args).run Tryd.prog w = .ok (.enter 269 args) w := run_cf Tryd.func269 (by kernel_rfl) rfl
theorem cf270 : ∀ args w, (callFunc 270 args).run Tryd.prog w = .ok (.enter 270 args) w := run_cf Tryd.func270 (by kernel_rfl) rfl
theorem cf271 : ∀ args w, (callFunc 271 args).run Tryd.prog w = .ok (.enter 271 args) w := run_cf Tryd.func271 (by kernel_rfl) rfl
theorem cf272 : ∀ args w, (callFunc 272 args).run Tryd.prog w = .ok (.enter 272 args) w := run_cf Tryd.func272 (by kernel_rfl) rfl
theorem cf273 : ∀ args w, (callFunc 273 args).run Tryd.prog w = .ok (.enter 273 args) w := run_cf Tryd.func273 (by kernel_rfl) rfl
theorem cf274 : ∀ args w, (callFunc 274 args).run Tryd.prog w = .ok (.enter 274 args) w := run_cf Tryd.func274 (by kernel_rfl) rfl
theorem cf275 : ∀ args w, (callFunc 275 args).run Tryd.prog w = .ok (.enter 275 args) w := run_cf Tryd.func275 (by kernel_rfl) rfl
theorem cf276 : ∀ args w, (callFunc 276 args).run Tryd.prog w = .ok (.enter 276 args) w := run_cf Tryd.func276 (by kernel_rfl) rfl
theorem cf277 : ∀ args w, (callFunc 277 args).run Tryd.prog w = .ok (.enter 277 args) w := run_cf Tryd.func277 (by kernel_rfl) rfl
theorem cf278 : ∀ args w, (callFunc 278 args).run Tryd.prog w = .ok (.enter 278 args) w := run_cf Tryd.func278 (by kernel_rfl) rfl
theorem cf279 : ∀ args w, (callFunc 279 args).run Tryd.prog w = .ok (.enter 279 args) w := run_cf Tryd.func279 (by kernel_rfl) rfl
theorem cf280 : ∀ args w, (callFunc 280 args).run Tryd.prog w = .ok (.enter 280 args) w := run_cf Tryd.func280 (by kernel_rfl) rfl
theorem cf281 : ∀ args w, (callFunc 281 args).run Tryd.prog w = .ok (.enter 281 args) w := run_cf Tryd.func281 (by kernel_rfl) rfl
theorem cf282 : ∀ args w, (callFunc 282 args).run Tryd.prog w = .ok (.enter 282 args) w := run_cf Tryd.func282 (by kernel_rfl) rfl
theorem cf283 : ∀ args w, (callFunc 283 args).run Tryd.prog w = .ok (.enter 283 args) w := run_cf Tryd.func283 (by kernel_rfl) rfl
theorem cf284 : ∀ args w, (callFunc 284 args).run Tryd.prog w = .ok (.enter 284 args) w := run_cf Tryd.func284 (by kernel_rfl) rfl
theorem cf285 : ∀ args w, (callFunc 285 args).run Tryd.prog w = .ok (.enter 285 args) w := run_cf Tryd.func285 (by kernel_rfl) rfl
theorem cf287 : ∀ args w, (callFunc 287 args).run Tryd.prog w = .ok (.enter 287 args) w := run_cf Tryd.func287 (by kernel_rfl) rfl
theorem cf288 : ∀ args w, (callFunc 288 args).run Tryd.prog w = .ok (.enter 288 args) w := run_cf Tryd.func288 (by kernel_rfl) rfl
theorem cf289 : ∀ args w, (callFunc 289 args).run Tryd.prog w = .ok (.enter 289 args) w := run_cf Tryd.func289 (by kernel_rfl) rfl
theorem cf290 : ∀ args w, (callFunc 290 args).run Tryd.prog w = .ok (.enter 290 args) w := run_cf Tryd.func290 (by kernel_rfl) rfl
theorem cf291 : ∀ args w, (callFunc 291 args).run Tryd.prog w = .ok (.enter 291 args) w := run_cf Tryd.func291 (by kernel_rfl) rfl
theorem cf292 : ∀ args w, (callFunc 292 args).run Tryd.prog w = .ok (.enter 292 args) w := run_cf Tryd.func292 (by kernel_rfl) rfl
theorem cf293 : ∀ args w, (callFunc 293 args).run Tryd.prog w = .ok (.enter 293 args) w := run_cf Tryd.func293 (by kernel_rfl) rfl
theorem cf294 : ∀ args w, (callFunc 294 args).run Tryd.prog w = .ok (.enter 294 args) w := run_cf Tryd.func294 (by kernel_rfl) rfl
theorem cf295 : ∀ args w, (callFunc 295 args).run Tryd.prog w = .ok (.enter 295 args) w := run_cf Tryd.func295 (by kernel_rfl) rfl
theorem cf296 : ∀ args w, (callFunc 296 args).run Tryd.prog w = .ok (.enter 296 args) w := run_cf Tryd.func296 (by kernel_rfl) rfl
theorem cf297 : ∀ args w, (callFunc 297 args).run Tryd.prog w = .ok (.enter 297 args) w := run_cf Tryd.func297 (by kernel_rfl) rfl
theorem cf327 : ∀ args w, (callFunc 327 args).run Tryd.prog w = .ok (.enter 327 args) w := run_cf Tryd.func327 (by kernel_rfl) rfl
end Go.Proofs.YtoeipmepmlikcaaDoor
