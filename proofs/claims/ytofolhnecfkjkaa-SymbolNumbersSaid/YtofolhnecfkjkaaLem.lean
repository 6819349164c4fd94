/- Closed facts on this seat's program: sizes, fields, zero values, calls. Written by a program of mine. -/
import Derived.Test.YtofolhnecfkjkaaLoud
import Derived.Test.YtofolhnecfkjkaaRows
namespace Go.Proofs.Ytofolhnecfkjkaa
open Go.RowKit Go.Eng

theorem sz1 : (Try.prog.info? 1).map (·.size) = some 1 := by kernel_rfl
theorem sz2 : (Try.prog.info? 2).map (·.size) = some 1 := by kernel_rfl
theorem z2 : ∀ w, (zeroValue 2).run Try.prog w = .ok (.int .i64 0) w := fun _ => by kernel_rfl
theorem inf2 : (Try.prog.info? 2).map (fun i => (i.zero, i.size, i.bytes)) = some (some (.int .i64 0), 1, 8) := by kernel_rfl
theorem sz3 : (Try.prog.info? 3).map (·.size) = some 1 := by kernel_rfl
theorem z3 : ∀ w, (zeroValue 3).run Try.prog w = .ok (.int .i64 0) w := fun _ => by kernel_rfl
theorem inf3 : (Try.prog.info? 3).map (fun i => (i.zero, i.size, i.bytes)) = some (some (.int .i64 0), 1, 8) := by kernel_rfl
theorem sz4 : (Try.prog.info? 4).map (·.size) = some 1 := by kernel_rfl
theorem z4 : ∀ w, (zeroValue 4).run Try.prog w = .ok (.bool false) w := fun _ => by kernel_rfl
theorem inf4 : (Try.prog.info? 4).map (fun i => (i.zero, i.size, i.bytes)) = some (some (.bool false), 1, 1) := by kernel_rfl
theorem sz5 : (Try.prog.info? 5).map (·.size) = some 1 := by kernel_rfl
theorem z5 : ∀ w, (zeroValue 5).run Try.prog w = .ok (.int .u8 0) w := fun _ => by kernel_rfl
theorem inf5 : (Try.prog.info? 5).map (fun i => (i.zero, i.size, i.bytes)) = some (some (.int .u8 0), 1, 1) := by kernel_rfl
theorem sz6 : (Try.prog.info? 6).map (·.size) = some 1 := by kernel_rfl
theorem z6 : ∀ w, (zeroValue 6).run Try.prog w = .ok (.int .u8 0) w := fun _ => by kernel_rfl
theorem inf6 : (Try.prog.info? 6).map (fun i => (i.zero, i.size, i.bytes)) = some (some (.int .u8 0), 1, 1) := by kernel_rfl
theorem sz7 : (Try.prog.info? 7).map (·.size) = some 4 := by kernel_rfl
theorem z7 : ∀ w, (zeroValue 7).run Try.prog w = .ok (.agg #[.int .i64 0, .int .i64 0, .bool false, .int .u8 0]) w := fun _ => by kernel_rfl
theorem inf7 : (Try.prog.info? 7).map (fun i => (i.zero, i.size, i.bytes)) = some (some (.agg #[.int .i64 0, .int .i64 0, .bool false, .int .u8 0]), 4, 24) := by kernel_rfl
theorem fa7_0 : ∀ a w, (Instr.fieldAt 7 (.pointer (some a)) 0).run Try.prog w = .ok (.pointer (some (a.add 0))) w := run_field (b := 1) Try.underlying7 rfl rfl (by kernel_rfl) (by decide)
theorem fa7_1 : ∀ a w, (Instr.fieldAt 7 (.pointer (some a)) 1).run Try.prog w = .ok (.pointer (some (a.add 1))) w := run_field (b := 1) Try.underlying7 rfl rfl (by kernel_rfl) (by decide)
theorem fa7_2 : ∀ a w, (Instr.fieldAt 7 (.pointer (some a)) 2).run Try.prog w = .ok (.pointer (some (a.add 2))) w := run_field (b := 1) Try.underlying7 rfl rfl (by kernel_rfl) (by decide)
theorem fa7_3 : ∀ a w, (Instr.fieldAt 7 (.pointer (some a)) 3).run Try.prog w = .ok (.pointer (some (a.add 3))) w := run_field (b := 1) Try.underlying7 rfl rfl (by kernel_rfl) (by decide)
theorem sz8 : (Try.prog.info? 8).map (·.size) = some 4 := by kernel_rfl
theorem z8 : ∀ w, (zeroValue 8).run Try.prog w = .ok (.agg #[.int .i64 0, .int .i64 0, .bool false, .int .u8 0]) w := fun _ => by kernel_rfl
theorem inf8 : (Try.prog.info? 8).map (fun i => (i.zero, i.size, i.bytes)) = some (some (.agg #[.int .i64 0, .int .i64 0, .bool false, .int .u8 0]), 4, 24) := by kernel_rfl
theorem fa8_0 : ∀ a w, (Instr.fieldAt 8 (.pointer (some a)) 0).run Try.prog w = .ok (.pointer (some (a.add 0))) w := run_field (b := 1) Try.underlying8 rfl rfl (by kernel_rfl) (by decide)
theorem fa8_1 : ∀ a w, (Instr.fieldAt 8 (.pointer (some a)) 1).run Try.prog w = .ok (.pointer (some (a.add 1))) w := run_field (b := 1) Try.underlying8 rfl rfl (by kernel_rfl) (by decide)
theorem fa8_2 : ∀ a w, (Instr.fieldAt 8 (.pointer (some a)) 2).run Try.prog w = .ok (.pointer (some (a.add 2))) w := run_field (b := 1) Try.underlying8 rfl rfl (by kernel_rfl) (by decide)
theorem fa8_3 : ∀ a w, (Instr.fieldAt 8 (.pointer (some a)) 3).run Try.prog w = .ok (.pointer (some (a.add 3))) w := run_field (b := 1) Try.underlying8 rfl rfl (by kernel_rfl) (by decide)
theorem sz9 : (Try.prog.info? 9).map (·.size) = some 1 := by kernel_rfl
theorem z9 : ∀ w, (zeroValue 9).run Try.prog w = .ok (.string ⟨#[]⟩) w := fun _ => by kernel_rfl
theorem inf9 : (Try.prog.info? 9).map (fun i => (i.zero, i.size, i.bytes)) = some (some (.string ⟨#[]⟩), 1, 16) := by kernel_rfl
theorem sz10 : (Try.prog.info? 10).map (·.size) = some 1 := by kernel_rfl
theorem z10 : ∀ w, (zeroValue 10).run Try.prog w = .ok (.string ⟨#[]⟩) w := fun _ => by kernel_rfl
theorem inf10 : (Try.prog.info? 10).map (fun i => (i.zero, i.size, i.bytes)) = some (some (.string ⟨#[]⟩), 1, 16) := by kernel_rfl
theorem sz11 : (Try.prog.info? 11).map (·.size) = some 1 := by kernel_rfl
theorem z11 : ∀ w, (zeroValue 11).run Try.prog w = .ok (.string ⟨#[]⟩) w := fun _ => by kernel_rfl
theorem inf11 : (Try.prog.info? 11).map (fun i => (i.zero, i.size, i.bytes)) = some (some (.string ⟨#[]⟩), 1, 16) := by kernel_rfl
theorem sz12 : (Try.prog.info? 12).map (·.size) = some 1 := by kernel_rfl
theorem z12 : ∀ w, (zeroValue 12).run Try.prog w = .ok (.int .u64 0) w := fun _ => by kernel_rfl
theorem inf12 : (Try.prog.info? 12).map (fun i => (i.zero, i.size, i.bytes)) = some (some (.int .u64 0), 1, 8) := by kernel_rfl
theorem sz13 : (Try.prog.info? 13).map (·.size) = some 2 := by kernel_rfl
theorem z13 : ∀ w, (zeroValue 13).run Try.prog w = .ok (.agg #[.string ⟨#[]⟩, .int .u64 0]) w := fun _ => by kernel_rfl
theorem inf13 : (Try.prog.info? 13).map (fun i => (i.zero, i.size, i.bytes)) = some (some (.agg #[.string ⟨#[]⟩, .int .u64 0]), 2, 24) := by kernel_rfl
theorem fa13_0 : ∀ a w, (Instr.fieldAt 13 (.pointer (some a)) 0).run Try.prog w = .ok (.pointer (some (a.add 0))) w := run_field (b := 1) Try.underlying13 rfl rfl (by kernel_rfl) (by decide)
theorem fa13_1 : ∀ a w, (Instr.fieldAt 13 (.pointer (some a)) 1).run Try.prog w = .ok (.pointer (some (a.add 1))) w := run_field (b := 1) Try.underlying13 rfl rfl (by kernel_rfl) (by decide)
theorem sz14 : (Try.prog.info? 14).map (·.size) = some 2 := by kernel_rfl
theorem z14 : ∀ w, (zeroValue 14).run Try.prog w = .ok (.agg #[.string ⟨#[]⟩, .int .u64 0]) w := fun _ => by kernel_rfl
theorem inf14 : (Try.prog.info? 14).map (fun i => (i.zero, i.size, i.bytes)) = some (some (.agg #[.string ⟨#[]⟩, .int .u64 0]), 2, 24) := by kernel_rfl
theorem fa14_0 : ∀ a w, (Instr.fieldAt 14 (.pointer (some a)) 0).run Try.prog w = .ok (.pointer (some (a.add 0))) w := run_field (b := 1) Try.underlying14 rfl rfl (by kernel_rfl) (by decide)
theorem fa14_1 : ∀ a w, (Instr.fieldAt 14 (.pointer (some a)) 1).run Try.prog w = .ok (.pointer (some (a.add 1))) w := run_field (b := 1) Try.underlying14 rfl rfl (by kernel_rfl) (by decide)
theorem sz15 : (Try.prog.info? 15).map (·.size) = some 1 := by kernel_rfl
theorem z15 : ∀ w, (zeroValue 15).run Try.prog w = .ok (.pointer none) w := fun _ => by kernel_rfl
theorem inf15 : (Try.prog.info? 15).map (fun i => (i.zero, i.size, i.bytes)) = some (some (.pointer none), 1, 8) := by kernel_rfl
theorem sz16 : (Try.prog.info? 16).map (·.size) = some 1 := by kernel_rfl
theorem z16 : ∀ w, (zeroValue 16).run Try.prog w = .ok (.pointer none) w := fun _ => by kernel_rfl
theorem inf16 : (Try.prog.info? 16).map (fun i => (i.zero, i.size, i.bytes)) = some (some (.pointer none), 1, 8) := by kernel_rfl
theorem sz17 : (Try.prog.info? 17).map (·.size) = some 1 := by kernel_rfl
theorem z17 : ∀ w, (zeroValue 17).run Try.prog w = .ok (.pointer none) w := fun _ => by kernel_rfl
theorem inf17 : (Try.prog.info? 17).map (fun i => (i.zero, i.size, i.bytes)) = some (some (.pointer none), 1, 8) := by kernel_rfl
theorem sz18 : (Try.prog.info? 18).map (·.size) = some 1 := by kernel_rfl
theorem z18 : ∀ w, (zeroValue 18).run Try.prog w = .ok (.agg #[.pointer none]) w := fun _ => by kernel_rfl
theorem inf18 : (Try.prog.info? 18).map (fun i => (i.zero, i.size, i.bytes)) = some (some (.agg #[.pointer none]), 1, 8) := by kernel_rfl
theorem fa18_0 : ∀ a w, (Instr.fieldAt 18 (.pointer (some a)) 0).run Try.prog w = .ok (.pointer (some (a.add 0))) w := run_field (b := 1) Try.underlying18 rfl rfl (by kernel_rfl) (by decide)
theorem sz19 : (Try.prog.info? 19).map (·.size) = some 1 := by kernel_rfl
theorem z19 : ∀ w, (zeroValue 19).run Try.prog w = .ok (.agg #[.pointer none]) w := fun _ => by kernel_rfl
theorem inf19 : (Try.prog.info? 19).map (fun i => (i.zero, i.size, i.bytes)) = some (some (.agg #[.pointer none]), 1, 8) := by kernel_rfl
theorem fa19_0 : ∀ a w, (Instr.fieldAt 19 (.pointer (some a)) 0).run Try.prog w = .ok (.pointer (some (a.add 0))) w := run_field (b := 1) Try.underlying19 rfl rfl (by kernel_rfl) (by decide)
theorem sz20 : (Try.prog.info? 20).map (·.size) = some 1 := by kernel_rfl
theorem z20 : ∀ w, (zeroValue 20).run Try.prog w = .ok (.nilIface) w := fun _ => by kernel_rfl
theorem inf20 : (Try.prog.info? 20).map (fun i => (i.zero, i.size, i.bytes)) = some (some (.nilIface), 1, 16) := by kernel_rfl
theorem sz21 : (Try.prog.info? 21).map (·.size) = some 1 := by kernel_rfl
theorem z21 : ∀ w, (zeroValue 21).run Try.prog w = .ok (.int .i32 0) w := fun _ => by kernel_rfl
theorem inf21 : (Try.prog.info? 21).map (fun i => (i.zero, i.size, i.bytes)) = some (some (.int .i32 0), 1, 4) := by kernel_rfl
theorem sz22 : (Try.prog.info? 22).map (·.size) = some 1 := by kernel_rfl
theorem z22 : ∀ w, (zeroValue 22).run Try.prog w = .ok (.int .i64 0) w := fun _ => by kernel_rfl
theorem inf22 : (Try.prog.info? 22).map (fun i => (i.zero, i.size, i.bytes)) = some (some (.int .i64 0), 1, 8) := by kernel_rfl
theorem sz24 : (Try.prog.info? 24).map (·.size) = some 1 := by kernel_rfl
theorem sz25 : (Try.prog.info? 25).map (·.size) = some 1 := by kernel_rfl
theorem sz26 : (Try.prog.info? 26).map (·.size) = some 1 := by kernel_rfl
theorem z26 : ∀ w, (zeroValue 26).run Try.prog w = .ok (.slice none 0 0) w := fun _ => by kernel_rfl
theorem inf26 : (Try.prog.info? 26).map (fun i => (i.zero, i.size, i.bytes)) = some (some (.slice none 0 0), 1, 24) := by kernel_rfl
theorem sz28 : (Try.prog.info? 28).map (·.size) = some 1 := by kernel_rfl
theorem sz29 : (Try.prog.info? 29).map (·.size) = some 1 := by kernel_rfl
theorem sz30 : (Try.prog.info? 30).map (·.size) = some 1 := by kernel_rfl
theorem sz31 : (Try.prog.info? 31).map (·.size) = some 1 := by kernel_rfl
theorem sz32 : (Try.prog.info? 32).map (·.size) = some 1 := by kernel_rfl
theorem z32 : ∀ w, (zeroValue 32).run Try.prog w = .ok (.slice none 0 0) w := fun _ => by kernel_rfl
theorem inf32 : (Try.prog.info? 32).map (fun i => (i.zero, i.size, i.bytes)) = some (some (.slice none 0 0), 1, 24) := by kernel_rfl
theorem sz33 : (Try.prog.info? 33).map (·.size) = some 1 := by kernel_rfl
theorem sz34 : (Try.prog.info? 34).map (·.size) = some 4 := by kernel_rfl
theorem z34 : ∀ w, (zeroValue 34).run Try.prog w = .ok (.agg #[.pointer none, .pointer none, .pointer none, .string ⟨#[]⟩]) w := fun _ => by kernel_rfl
theorem inf34 : (Try.prog.info? 34).map (fun i => (i.zero, i.size, i.bytes)) = some (some (.agg #[.pointer none, .pointer none, .pointer none, .string ⟨#[]⟩]), 4, 40) := by kernel_rfl
theorem fa34_0 : ∀ a w, (Instr.fieldAt 34 (.pointer (some a)) 0).run Try.prog w = .ok (.pointer (some (a.add 0))) w := run_field (b := 1) Try.underlying34 rfl rfl (by kernel_rfl) (by decide)
theorem fa34_1 : ∀ a w, (Instr.fieldAt 34 (.pointer (some a)) 1).run Try.prog w = .ok (.pointer (some (a.add 1))) w := run_field (b := 1) Try.underlying34 rfl rfl (by kernel_rfl) (by decide)
theorem fa34_2 : ∀ a w, (Instr.fieldAt 34 (.pointer (some a)) 2).run Try.prog w = .ok (.pointer (some (a.add 2))) w := run_field (b := 1) Try.underlying34 rfl rfl (by kernel_rfl) (by decide)
theorem fa34_3 : ∀ a w, (Instr.fieldAt 34 (.pointer (some a)) 3).run Try.prog w = .ok (.pointer (some (a.add 3))) w := run_field (b := 1) Try.underlying34 rfl rfl (by kernel_rfl) (by decide)
theorem sz35 : (Try.prog.info? 35).map (·.size) = some 4 := by kernel_rfl
theorem z35 : ∀ w, (zeroValue 35).run Try.prog w = .ok (.agg #[.pointer none, .pointer none, .pointer none, .string ⟨#[]⟩]) w := fun _ => by kernel_rfl
theorem inf35 : (Try.prog.info? 35).map (fun i => (i.zero, i.size, i.bytes)) = some (some (.agg #[.pointer none, .pointer none, .pointer none, .string ⟨#[]⟩]), 4, 40) := by kernel_rfl
theorem fa35_0 : ∀ a w, (Instr.fieldAt 35 (.pointer (some a)) 0).run Try.prog w = .ok (.pointer (some (a.add 0))) w := run_field (b := 1) Try.underlying35 rfl rfl (by kernel_rfl) (by decide)
theorem fa35_1 : ∀ a w, (Instr.fieldAt 35 (.pointer (some a)) 1).run Try.prog w = .ok (.pointer (some (a.add 1))) w := run_field (b := 1) Try.underlying35 rfl rfl (by kernel_rfl) (by decide)
theorem fa35_2 : ∀ a w, (Instr.fieldAt 35 (.pointer (some a)) 2).run Try.prog w = .ok (.pointer (some (a.add 2))) w := run_field (b := 1) Try.underlying35 rfl rfl (by kernel_rfl) (by decide)
theorem fa35_3 : ∀ a w, (Instr.fieldAt 35 (.pointer (some a)) 3).run Try.prog w = .ok (.pointer (some (a.add 3))) w := run_field (b := 1) Try.underlying35 rfl rfl (by kernel_rfl) (by decide)
theorem sz36 : (Try.prog.info? 36).map (·.size) = some 0 := by kernel_rfl
theorem z36 : ∀ w, (zeroValue 36).run Try.prog w = .ok (.agg #[]) w := fun _ => by kernel_rfl
theorem inf36 : (Try.prog.info? 36).map (fun i => (i.zero, i.size, i.bytes)) = some (some (.agg #[]), 0, 0) := by kernel_rfl
theorem sz37 : (Try.prog.info? 37).map (·.size) = some 0 := by kernel_rfl
theorem z37 : ∀ w, (zeroValue 37).run Try.prog w = .ok (.agg #[]) w := fun _ => by kernel_rfl
theorem inf37 : (Try.prog.info? 37).map (fun i => (i.zero, i.size, i.bytes)) = some (some (.agg #[]), 0, 0) := by kernel_rfl
theorem sz38 : (Try.prog.info? 38).map (·.size) = some 0 := by kernel_rfl
theorem z38 : ∀ w, (zeroValue 38).run Try.prog w = .ok (.agg #[]) w := fun _ => by kernel_rfl
theorem inf38 : (Try.prog.info? 38).map (fun i => (i.zero, i.size, i.bytes)) = some (some (.agg #[]), 0, 0) := by kernel_rfl
theorem sz39 : (Try.prog.info? 39).map (·.size) = some 1 := by kernel_rfl
theorem sz40 : (Try.prog.info? 40).map (·.size) = some 1 := by kernel_rfl
theorem z40 : ∀ w, (zeroValue 40).run Try.prog w = .ok (.int .u32 0) w := fun _ => by kernel_rfl
theorem inf40 : (Try.prog.info? 40).map (fun i => (i.zero, i.size, i.bytes)) = some (some (.int .u32 0), 1, 4) := by kernel_rfl
theorem sz41 : (Try.prog.info? 41).map (·.size) = some 1 := by kernel_rfl
theorem z41 : ∀ w, (zeroValue 41).run Try.prog w = .ok (.int .u8 0) w := fun _ => by kernel_rfl
theorem inf41 : (Try.prog.info? 41).map (fun i => (i.zero, i.size, i.bytes)) = some (some (.int .u8 0), 1, 1) := by kernel_rfl
theorem sz42 : (Try.prog.info? 42).map (·.size) = some 1 := by kernel_rfl
theorem z42 : ∀ w, (zeroValue 42).run Try.prog w = .ok (.int .u8 0) w := fun _ => by kernel_rfl
theorem inf42 : (Try.prog.info? 42).map (fun i => (i.zero, i.size, i.bytes)) = some (some (.int .u8 0), 1, 1) := by kernel_rfl
theorem sz43 : (Try.prog.info? 43).map (·.size) = some 1 := by kernel_rfl
theorem sz44 : (Try.prog.info? 44).map (·.size) = some 1 := by kernel_rfl
theorem z44 : ∀ w, (zeroValue 44).run Try.prog w = .ok (.pointer none) w := fun _ => by kernel_rfl
theorem inf44 : (Try.prog.info? 44).map (fun i => (i.zero, i.size, i.bytes)) = some (some (.pointer none), 1, 8) := by kernel_rfl
theorem sz45 : (Try.prog.info? 45).map (·.size) = some 1 := by kernel_rfl
theorem z45 : ∀ w, (zeroValue 45).run Try.prog w = .ok (.int .i32 0) w := fun _ => by kernel_rfl
theorem inf45 : (Try.prog.info? 45).map (fun i => (i.zero, i.size, i.bytes)) = some (some (.int .i32 0), 1, 4) := by kernel_rfl
theorem sz46 : (Try.prog.info? 46).map (·.size) = some 1 := by kernel_rfl
theorem z46 : ∀ w, (zeroValue 46).run Try.prog w = .ok (.int .i32 0) w := fun _ => by kernel_rfl
theorem inf46 : (Try.prog.info? 46).map (fun i => (i.zero, i.size, i.bytes)) = some (some (.int .i32 0), 1, 4) := by kernel_rfl
theorem sz47 : (Try.prog.info? 47).map (·.size) = some 11 := by kernel_rfl
theorem z47 : ∀ w, (zeroValue 47).run Try.prog w = .ok (.agg #[.int .u64 0, .int .u64 0, .int .u32 0, .int .u8 0, .int .u8 0, .int .u8 0, .int .u8 0, .nilFunc, .pointer none, .int .i32 0, .int .i32 0]) w := fun _ => by kernel_rfl
theorem inf47 : (Try.prog.info? 47).map (fun i => (i.zero, i.size, i.bytes)) = some (some (.agg #[.int .u64 0, .int .u64 0, .int .u32 0, .int .u8 0, .int .u8 0, .int .u8 0, .int .u8 0, .nilFunc, .pointer none, .int .i32 0, .int .i32 0]), 11, 48) := by kernel_rfl
theorem fa47_0 : ∀ a w, (Instr.fieldAt 47 (.pointer (some a)) 0).run Try.prog w = .ok (.pointer (some (a.add 0))) w := run_field (b := 1) Try.underlying47 rfl rfl (by kernel_rfl) (by decide)
theorem fa47_1 : ∀ a w, (Instr.fieldAt 47 (.pointer (some a)) 1).run Try.prog w = .ok (.pointer (some (a.add 1))) w := run_field (b := 1) Try.underlying47 rfl rfl (by kernel_rfl) (by decide)
theorem fa47_2 : ∀ a w, (Instr.fieldAt 47 (.pointer (some a)) 2).run Try.prog w = .ok (.pointer (some (a.add 2))) w := run_field (b := 1) Try.underlying47 rfl rfl (by kernel_rfl) (by decide)
theorem fa47_3 : ∀ a w, (Instr.fieldAt 47 (.pointer (some a)) 3).run Try.prog w = .ok (.pointer (some (a.add 3))) w := run_field (b := 1) Try.underlying47 rfl rfl (by kernel_rfl) (by decide)
theorem fa47_4 : ∀ a w, (Instr.fieldAt 47 (.pointer (some a)) 4).run Try.prog w = .ok (.pointer (some (a.add 4))) w := run_field (b := 1) Try.underlying47 rfl rfl (by kernel_rfl) (by decide)
theorem fa47_5 : ∀ a w, (Instr.fieldAt 47 (.pointer (some a)) 5).run Try.prog w = .ok (.pointer (some (a.add 5))) w := run_field (b := 1) Try.underlying47 rfl rfl (by kernel_rfl) (by decide)
theorem fa47_6 : ∀ a w, (Instr.fieldAt 47 (.pointer (some a)) 6).run Try.prog w = .ok (.pointer (some (a.add 6))) w := run_field (b := 1) Try.underlying47 rfl rfl (by kernel_rfl) (by decide)
theorem fa47_7 : ∀ a w, (Instr.fieldAt 47 (.pointer (some a)) 7).run Try.prog w = .ok (.pointer (some (a.add 7))) w := run_field (b := 1) Try.underlying47 rfl rfl (by kernel_rfl) (by decide)
theorem fa47_8 : ∀ a w, (Instr.fieldAt 47 (.pointer (some a)) 8).run Try.prog w = .ok (.pointer (some (a.add 8))) w := run_field (b := 1) Try.underlying47 rfl rfl (by kernel_rfl) (by decide)
theorem fa47_9 : ∀ a w, (Instr.fieldAt 47 (.pointer (some a)) 9).run Try.prog w = .ok (.pointer (some (a.add 9))) w := run_field (b := 1) Try.underlying47 rfl rfl (by kernel_rfl) (by decide)
theorem fa47_10 : ∀ a w, (Instr.fieldAt 47 (.pointer (some a)) 10).run Try.prog w = .ok (.pointer (some (a.add 10))) w := run_field (b := 1) Try.underlying47 rfl rfl (by kernel_rfl) (by decide)
theorem sz48 : (Try.prog.info? 48).map (·.size) = some 11 := by kernel_rfl
theorem z48 : ∀ w, (zeroValue 48).run Try.prog w = .ok (.agg #[.int .u64 0, .int .u64 0, .int .u32 0, .int .u8 0, .int .u8 0, .int .u8 0, .int .u8 0, .nilFunc, .pointer none, .int .i32 0, .int .i32 0]) w := fun _ => by kernel_rfl
theorem inf48 : (Try.prog.info? 48).map (fun i => (i.zero, i.size, i.bytes)) = some (some (.agg #[.int .u64 0, .int .u64 0, .int .u32 0, .int .u8 0, .int .u8 0, .int .u8 0, .int .u8 0, .nilFunc, .pointer none, .int .i32 0, .int .i32 0]), 11, 48) := by kernel_rfl
theorem fa48_0 : ∀ a w, (Instr.fieldAt 48 (.pointer (some a)) 0).run Try.prog w = .ok (.pointer (some (a.add 0))) w := run_field (b := 1) Try.underlying48 rfl rfl (by kernel_rfl) (by decide)
theorem fa48_1 : ∀ a w, (Instr.fieldAt 48 (.pointer (some a)) 1).run Try.prog w = .ok (.pointer (some (a.add 1))) w := run_field (b := 1) Try.underlying48 rfl rfl (by kernel_rfl) (by decide)
theorem fa48_2 : ∀ a w, (Instr.fieldAt 48 (.pointer (some a)) 2).run Try.prog w = .ok (.pointer (some (a.add 2))) w := run_field (b := 1) Try.underlying48 rfl rfl (by kernel_rfl) (by decide)
theorem fa48_3 : ∀ a w, (Instr.fieldAt 48 (.pointer (some a)) 3).run Try.prog w = .ok (.pointer (some (a.add 3))) w := run_field (b := 1) Try.underlying48 rfl rfl (by kernel_rfl) (by decide)
theorem fa48_4 : ∀ a w, (Instr.fieldAt 48 (.pointer (some a)) 4).run Try.prog w = .ok (.pointer (some (a.add 4))) w := run_field (b := 1) Try.underlying48 rfl rfl (by kernel_rfl) (by decide)
theorem fa48_5 : ∀ a w, (Instr.fieldAt 48 (.pointer (some a)) 5).run Try.prog w = .ok (.pointer (some (a.add 5))) w := run_field (b := 1) Try.underlying48 rfl rfl (by kernel_rfl) (by decide)
theorem fa48_6 : ∀ a w, (Instr.fieldAt 48 (.pointer (some a)) 6).run Try.prog w = .ok (.pointer (some (a.add 6))) w := run_field (b := 1) Try.underlying48 rfl rfl (by kernel_rfl) (by decide)
theorem fa48_7 : ∀ a w, (Instr.fieldAt 48 (.pointer (some a)) 7).run Try.prog w = .ok (.pointer (some (a.add 7))) w := run_field (b := 1) Try.underlying48 rfl rfl (by kernel_rfl) (by decide)
theorem fa48_8 : ∀ a w, (Instr.fieldAt 48 (.pointer (some a)) 8).run Try.prog w = .ok (.pointer (some (a.add 8))) w := run_field (b := 1) Try.underlying48 rfl rfl (by kernel_rfl) (by decide)
theorem fa48_9 : ∀ a w, (Instr.fieldAt 48 (.pointer (some a)) 9).run Try.prog w = .ok (.pointer (some (a.add 9))) w := run_field (b := 1) Try.underlying48 rfl rfl (by kernel_rfl) (by decide)
theorem fa48_10 : ∀ a w, (Instr.fieldAt 48 (.pointer (some a)) 10).run Try.prog w = .ok (.pointer (some (a.add 10))) w := run_field (b := 1) Try.underlying48 rfl rfl (by kernel_rfl) (by decide)
theorem sz49 : (Try.prog.info? 49).map (·.size) = some 1 := by kernel_rfl
theorem z49 : ∀ w, (zeroValue 49).run Try.prog w = .ok (.pointer none) w := fun _ => by kernel_rfl
theorem inf49 : (Try.prog.info? 49).map (fun i => (i.zero, i.size, i.bytes)) = some (some (.pointer none), 1, 8) := by kernel_rfl
theorem cf2 : ∀ args w, (callFunc 2 args).run Try.prog w = .ok (.enter 2 args) w := run_cf Try.func2 (by kernel_rfl) rfl
theorem cf3 : ∀ args w, (callFunc 3 args).run Try.prog w = .ok (.enter 3 args) w := run_cf Try.func3 (by kernel_rfl) rfl
theorem cf4 : ∀ args w, (callFunc 4 args).run Try.prog w = .ok (.enter 4 args) w := run_cf Try.func4 (by kernel_rfl) rfl
theorem cf5 : ∀ args w, (callFunc 5 args).run Try.prog w = .ok (.enter 5 args) w := run_cf Try.func5 (by kernel_rfl) rfl
theorem cf6 : ∀ args w, (callFunc 6 args).run Try.prog w = .ok (.enter 6 args) w := run_cf Try.func6 (by kernel_rfl) rfl
theorem cf7 : ∀ args w, (callFunc 7 args).run Try.prog w = .ok (.enter 7 args) w := run_cf Try.func7 (by kernel_rfl) rfl
theorem cf8 : ∀ args w, (callFunc 8 args).run Try.prog w = .ok (.enter 8 args) w := run_cf Try.func8 (by kernel_rfl) rfl
theorem cf9 : ∀ args w, (callFunc 9 args).run Try.prog w = .ok (.enter 9 args) w := run_cf Try.func9 (by kernel_rfl) rfl
theorem cf10 : ∀ args w, (callFunc 10 args).run Try.prog w = .ok (.enter 10 args) w := run_cf Try.func10 (by kernel_rfl) rfl
theorem cf11 : ∀ args w, (callFunc 11 args).run Try.prog w = .ok (.enter 11 args) w := run_cf Try.func11 (by kernel_rfl) rfl
theorem cf12 : ∀ args w, (callFunc 12 args).run Try.prog w = .ok (.enter 12 args) w := run_cf Try.func12 (by kernel_rfl) rfl
end Go.Proofs.Ytofolhnecfkjkaa
