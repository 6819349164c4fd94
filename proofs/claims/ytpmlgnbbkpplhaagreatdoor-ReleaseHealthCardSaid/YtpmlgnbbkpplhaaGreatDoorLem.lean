/- Closed facts on this seat's program: sizes, fields, zero values, calls. Written by a program of mine. -/
import Derived.Test.YtpmlgnbbkpplhaaGreatDoorMore
import Derived.Test.YtpmlgnbbkpplhaaGreatDoorRows
namespace Go.Proofs.YtpmlgnbbkpplhaaGreatDoor
open Go.RowKit Go.Eng

theorem z2 : ∀ w, (zeroValue 2).run Tryz.prog w = .ok (.int .i64 0) w := fun _ => by kernel_rfl
theorem sz3 : (Tryz.prog.info? 3).map (·.size) = some 1 := by kernel_rfl
theorem co3 : Tryz.prog.cellsOf 3 = 1 := by kernel_rfl
theorem z3 : ∀ w, (zeroValue 3).run Tryz.prog w = .ok (.int .i64 0) w := fun _ => by kernel_rfl
theorem inf3 : (Tryz.prog.info? 3).map (fun i => (i.zero, i.size, i.bytes)) = some (some (.int .i64 0), 1, 8) := by kernel_rfl
theorem co4 : Tryz.prog.cellsOf 4 = 1 := by kernel_rfl
theorem z4 : ∀ w, (zeroValue 4).run Tryz.prog w = .ok (.bool false) w := fun _ => by kernel_rfl
theorem sz5 : (Tryz.prog.info? 5).map (·.size) = some 1 := by kernel_rfl
theorem co5 : Tryz.prog.cellsOf 5 = 1 := by kernel_rfl
theorem z5 : ∀ w, (zeroValue 5).run Tryz.prog w = .ok (.int .u8 0) w := fun _ => by kernel_rfl
theorem inf5 : (Tryz.prog.info? 5).map (fun i => (i.zero, i.size, i.bytes)) = some (some (.int .u8 0), 1, 1) := by kernel_rfl
theorem sz9 : (Tryz.prog.info? 9).map (·.size) = some 1 := by kernel_rfl
theorem co9 : Tryz.prog.cellsOf 9 = 1 := by kernel_rfl
theorem z9 : ∀ w, (zeroValue 9).run Tryz.prog w = .ok (.string ⟨#[]⟩) w := fun _ => by kernel_rfl
theorem inf9 : (Tryz.prog.info? 9).map (fun i => (i.zero, i.size, i.bytes)) = some (some (.string ⟨#[]⟩), 1, 16) := by kernel_rfl
theorem z20 : ∀ w, (zeroValue 20).run Tryz.prog w = .ok (.nilIface) w := fun _ => by kernel_rfl
theorem z21 : ∀ w, (zeroValue 21).run Tryz.prog w = .ok (.int .i32 0) w := fun _ => by kernel_rfl
theorem z22 : ∀ w, (zeroValue 22).run Tryz.prog w = .ok (.slice none 0 0) w := fun _ => by kernel_rfl
theorem z23 : ∀ w, (zeroValue 23).run Tryz.prog w = .ok (.agg #[.int .i64 0, .slice none 0 0, .int .i64 0, .int .i64 0, .string ⟨#[]⟩, .string ⟨#[]⟩]) w := fun _ => by kernel_rfl
theorem z24 : ∀ w, (zeroValue 24).run Tryz.prog w = .ok (.agg #[.int .i64 0, .slice none 0 0, .int .i64 0, .int .i64 0, .string ⟨#[]⟩, .string ⟨#[]⟩]) w := fun _ => by kernel_rfl
theorem co25 : Tryz.prog.cellsOf 25 = 1 := by kernel_rfl
theorem z25 : ∀ w, (zeroValue 25).run Tryz.prog w = .ok (.slice none 0 0) w := fun _ => by kernel_rfl
theorem co26 : Tryz.prog.cellsOf 26 = 1 := by kernel_rfl
theorem co27 : Tryz.prog.cellsOf 27 = 1 := by kernel_rfl
theorem sz29 : (Tryz.prog.info? 29).map (·.size) = some 9 := by kernel_rfl
theorem co29 : Tryz.prog.cellsOf 29 = 9 := by kernel_rfl
theorem fa29_0 : ∀ a w, (Instr.fieldAt 29 (.pointer (some a)) 0).run Tryz.prog w = .ok (.pointer (some (a.add 0))) w := run_field (b := 1) Tryz.underlying29 rfl rfl (by kernel_rfl) (by decide)
theorem fa29_1 : ∀ a w, (Instr.fieldAt 29 (.pointer (some a)) 1).run Tryz.prog w = .ok (.pointer (some (a.add 1))) w := run_field (b := 1) Tryz.underlying29 rfl rfl (by kernel_rfl) (by decide)
theorem fa29_2 : ∀ a w, (Instr.fieldAt 29 (.pointer (some a)) 2).run Tryz.prog w = .ok (.pointer (some (a.add 2))) w := run_field (b := 1) Tryz.underlying29 rfl rfl (by kernel_rfl) (by decide)
theorem fa29_3 : ∀ a w, (Instr.fieldAt 29 (.pointer (some a)) 3).run Tryz.prog w = .ok (.pointer (some (a.add 3))) w := run_field (b := 1) Tryz.underlying29 rfl rfl (by kernel_rfl) (by decide)
theorem fa29_4 : ∀ a w, (Instr.fieldAt 29 (.pointer (some a)) 4).run Tryz.prog w = .ok (.pointer (some (a.add 4))) w := run_field (b := 1) Tryz.underlying29 rfl rfl (by kernel_rfl) (by decide)
theorem fa29_5 : ∀ a w, (Instr.fieldAt 29 (.pointer (some a)) 5).run Tryz.prog w = .ok (.pointer (some (a.add 5))) w := run_field (b := 1) Tryz.underlying29 rfl rfl (by kernel_rfl) (by decide)
theorem fa29_6 : ∀ a w, (Instr.fieldAt 29 (.pointer (some a)) 6).run Tryz.prog w = .ok (.pointer (some (a.add 6))) w := run_field (b := 1) Tryz.underlying29 rfl rfl (by kernel_rfl) (by decide)
theorem fa29_7 : ∀ a w, (Instr.fieldAt 29 (.pointer (some a)) 7).run Tryz.prog w = .ok (.pointer (some (a.add 7))) w := run_field (b := 1) Tryz.underlying29 rfl rfl (by kernel_rfl) (by decide)
theorem fa29_8 : ∀ a w, (Instr.fieldAt 29 (.pointer (some a)) 8).run Tryz.prog w = .ok (.pointer (some (a.add 8))) w := run_field (b := 1) Tryz.underlying29 rfl rfl (by kernel_rfl) (by decide)
theorem sz40 : (Tryz.prog.info? 40).map (·.size) = some 1 := by kernel_rfl
theorem sz42 : (Tryz.prog.info? 42).map (·.size) = some 5 := by kernel_rfl
theorem z42 : ∀ w, (zeroValue 42).run Tryz.prog w = .ok (.agg #[.string ⟨#[]⟩, .int .i64 0, .int .i64 0, .int .i64 0, .slice none 0 0]) w := fun _ => by kernel_rfl
theorem inf42 : (Tryz.prog.info? 42).map (fun i => (i.zero, i.size, i.bytes)) = some (some (.agg #[.string ⟨#[]⟩, .int .i64 0, .int .i64 0, .int .i64 0, .slice none 0 0]), 5, 64) := by kernel_rfl
theorem fa42_0 : ∀ a w, (Instr.fieldAt 42 (.pointer (some a)) 0).run Tryz.prog w = .ok (.pointer (some (a.add 0))) w := run_field (b := 1) Tryz.underlying42 rfl rfl (by kernel_rfl) (by decide)
theorem fa42_1 : ∀ a w, (Instr.fieldAt 42 (.pointer (some a)) 1).run Tryz.prog w = .ok (.pointer (some (a.add 1))) w := run_field (b := 1) Tryz.underlying42 rfl rfl (by kernel_rfl) (by decide)
theorem fa42_2 : ∀ a w, (Instr.fieldAt 42 (.pointer (some a)) 2).run Tryz.prog w = .ok (.pointer (some (a.add 2))) w := run_field (b := 1) Tryz.underlying42 rfl rfl (by kernel_rfl) (by decide)
theorem fa42_3 : ∀ a w, (Instr.fieldAt 42 (.pointer (some a)) 3).run Tryz.prog w = .ok (.pointer (some (a.add 3))) w := run_field (b := 1) Tryz.underlying42 rfl rfl (by kernel_rfl) (by decide)
theorem fa42_4 : ∀ a w, (Instr.fieldAt 42 (.pointer (some a)) 4).run Tryz.prog w = .ok (.pointer (some (a.add 4))) w := run_field (b := 1) Tryz.underlying42 rfl rfl (by kernel_rfl) (by decide)
theorem z51 : ∀ w, (zeroValue 51).run Tryz.prog w = .ok (.agg #[.int .i64 0, .int .i64 0, .string ⟨#[]⟩, .bool false, .int .i64 0, .int .i64 0, .int .i64 0, .int .i64 0]) w := fun _ => by kernel_rfl
theorem sz52 : (Tryz.prog.info? 52).map (·.size) = some 8 := by kernel_rfl
theorem z52 : ∀ w, (zeroValue 52).run Tryz.prog w = .ok (.agg #[.int .i64 0, .int .i64 0, .string ⟨#[]⟩, .bool false, .int .i64 0, .int .i64 0, .int .i64 0, .int .i64 0]) w := fun _ => by kernel_rfl
theorem fa52_0 : ∀ a w, (Instr.fieldAt 52 (.pointer (some a)) 0).run Tryz.prog w = .ok (.pointer (some (a.add 0))) w := run_field (b := 1) Tryz.underlying52 rfl rfl (by kernel_rfl) (by decide)
theorem fa52_1 : ∀ a w, (Instr.fieldAt 52 (.pointer (some a)) 1).run Tryz.prog w = .ok (.pointer (some (a.add 1))) w := run_field (b := 1) Tryz.underlying52 rfl rfl (by kernel_rfl) (by decide)
theorem fa52_2 : ∀ a w, (Instr.fieldAt 52 (.pointer (some a)) 2).run Tryz.prog w = .ok (.pointer (some (a.add 2))) w := run_field (b := 1) Tryz.underlying52 rfl rfl (by kernel_rfl) (by decide)
theorem fa52_3 : ∀ a w, (Instr.fieldAt 52 (.pointer (some a)) 3).run Tryz.prog w = .ok (.pointer (some (a.add 3))) w := run_field (b := 1) Tryz.underlying52 rfl rfl (by kernel_rfl) (by decide)
theorem fa52_4 : ∀ a w, (Instr.fieldAt 52 (.pointer (some a)) 4).run Tryz.prog w = .ok (.pointer (some (a.add 4))) w := run_field (b := 1) Tryz.underlying52 rfl rfl (by kernel_rfl) (by decide)
theorem fa52_5 : ∀ a w, (Instr.fieldAt 52 (.pointer (some a)) 5).run Tryz.prog w = .ok (.pointer (some (a.add 5))) w := run_field (b := 1) Tryz.underlying52 rfl rfl (by kernel_rfl) (by decide)
theorem fa52_6 : ∀ a w, (Instr.fieldAt 52 (.pointer (some a)) 6).run Tryz.prog w = .ok (.pointer (some (a.add 6))) w := run_field (b := 1) Tryz.underlying52 rfl rfl (by kernel_rfl) (by decide)
theorem fa52_7 : ∀ a w, (Instr.fieldAt 52 (.pointer (some a)) 7).run Tryz.prog w = .ok (.pointer (some (a.add 7))) w := run_field (b := 1) Tryz.underlying52 rfl rfl (by kernel_rfl) (by decide)
theorem z75 : ∀ w, (zeroValue 75).run Tryz.prog w = .ok (.slice none 0 0) w := fun _ => by kernel_rfl
theorem sz83 : (Tryz.prog.info? 83).map (·.size) = some 2 := by kernel_rfl
theorem fa83_0 : ∀ a w, (Instr.fieldAt 83 (.pointer (some a)) 0).run Tryz.prog w = .ok (.pointer (some (a.add 0))) w := run_field (b := 1) Tryz.underlying83 rfl rfl (by kernel_rfl) (by decide)
theorem fa83_1 : ∀ a w, (Instr.fieldAt 83 (.pointer (some a)) 1).run Tryz.prog w = .ok (.pointer (some (a.add 1))) w := run_field (b := 1) Tryz.underlying83 rfl rfl (by kernel_rfl) (by decide)
theorem z85 : ∀ w, (zeroValue 85).run Tryz.prog w = .ok (.slice none 0 0) w := fun _ => by kernel_rfl
theorem sz87 : (Tryz.prog.info? 87).map (·.size) = some 5 := by kernel_rfl
theorem co87 : Tryz.prog.cellsOf 87 = 5 := by kernel_rfl
theorem bo87 : Tryz.prog.bytesOf 87 = 56 := by kernel_rfl
theorem z87 : ∀ w, (zeroValue 87).run Tryz.prog w = .ok (.agg #[.int .i64 0, .int .i64 0, .string ⟨#[]⟩, .int .i64 0, .string ⟨#[]⟩]) w := fun _ => by kernel_rfl
theorem inf87 : (Tryz.prog.info? 87).map (fun i => (i.zero, i.size, i.bytes)) = some (some (.agg #[.int .i64 0, .int .i64 0, .string ⟨#[]⟩, .int .i64 0, .string ⟨#[]⟩]), 5, 56) := by kernel_rfl
theorem fa87_0 : ∀ a w, (Instr.fieldAt 87 (.pointer (some a)) 0).run Tryz.prog w = .ok (.pointer (some (a.add 0))) w := run_field (b := 1) Tryz.underlying87 rfl rfl (by kernel_rfl) (by decide)
theorem fa87_1 : ∀ a w, (Instr.fieldAt 87 (.pointer (some a)) 1).run Tryz.prog w = .ok (.pointer (some (a.add 1))) w := run_field (b := 1) Tryz.underlying87 rfl rfl (by kernel_rfl) (by decide)
theorem fa87_2 : ∀ a w, (Instr.fieldAt 87 (.pointer (some a)) 2).run Tryz.prog w = .ok (.pointer (some (a.add 2))) w := run_field (b := 1) Tryz.underlying87 rfl rfl (by kernel_rfl) (by decide)
theorem fa87_3 : ∀ a w, (Instr.fieldAt 87 (.pointer (some a)) 3).run Tryz.prog w = .ok (.pointer (some (a.add 3))) w := run_field (b := 1) Tryz.underlying87 rfl rfl (by kernel_rfl) (by decide)
theorem fa87_4 : ∀ a w, (Instr.fieldAt 87 (.pointer (some a)) 4).run Tryz.prog w = .ok (.pointer (some (a.add 4))) w := run_field (b := 1) Tryz.underlying87 rfl rfl (by kernel_rfl) (by decide)
theorem sz96 : (Tryz.prog.info? 96).map (·.size) = some 9 := by kernel_rfl
theorem z96 : ∀ w, (zeroValue 96).run Tryz.prog w = .ok (.agg #[.string ⟨#[]⟩, .int .i64 0, .int .i64 0, .int .i64 0, .int .i64 0, .int .i64 0, .int .i64 0, .int .i64 0, .int .i64 0]) w := fun _ => by kernel_rfl
theorem inf96 : (Tryz.prog.info? 96).map (fun i => (i.zero, i.size, i.bytes)) = some (some (.agg #[.string ⟨#[]⟩, .int .i64 0, .int .i64 0, .int .i64 0, .int .i64 0, .int .i64 0, .int .i64 0, .int .i64 0, .int .i64 0]), 9, 80) := by kernel_rfl
theorem fa96_1 : ∀ a w, (Instr.fieldAt 96 (.pointer (some a)) 1).run Tryz.prog w = .ok (.pointer (some (a.add 1))) w := run_field (b := 1) Tryz.underlying96 rfl rfl (by kernel_rfl) (by decide)
theorem fa96_2 : ∀ a w, (Instr.fieldAt 96 (.pointer (some a)) 2).run Tryz.prog w = .ok (.pointer (some (a.add 2))) w := run_field (b := 1) Tryz.underlying96 rfl rfl (by kernel_rfl) (by decide)
theorem fa96_3 : ∀ a w, (Instr.fieldAt 96 (.pointer (some a)) 3).run Tryz.prog w = .ok (.pointer (some (a.add 3))) w := run_field (b := 1) Tryz.underlying96 rfl rfl (by kernel_rfl) (by decide)
theorem fa96_4 : ∀ a w, (Instr.fieldAt 96 (.pointer (some a)) 4).run Tryz.prog w = .ok (.pointer (some (a.add 4))) w := run_field (b := 1) Tryz.underlying96 rfl rfl (by kernel_rfl) (by decide)
theorem fa96_5 : ∀ a w, (Instr.fieldAt 96 (.pointer (some a)) 5).run Tryz.prog w = .ok (.pointer (some (a.add 5))) w := run_field (b := 1) Tryz.underlying96 rfl rfl (by kernel_rfl) (by decide)
theorem fa96_6 : ∀ a w, (Instr.fieldAt 96 (.pointer (some a)) 6).run Tryz.prog w = .ok (.pointer (some (a.add 6))) w := run_field (b := 1) Tryz.underlying96 rfl rfl (by kernel_rfl) (by decide)
theorem fa96_7 : ∀ a w, (Instr.fieldAt 96 (.pointer (some a)) 7).run Tryz.prog w = .ok (.pointer (some (a.add 7))) w := run_field (b := 1) Tryz.underlying96 rfl rfl (by kernel_rfl) (by decide)
theorem fa96_8 : ∀ a w, (Instr.fieldAt 96 (.pointer (some a)) 8).run Tryz.prog w = .ok (.pointer (some (a.add 8))) w := run_field (b := 1) Tryz.underlying96 rfl rfl (by kernel_rfl) (by decide)
theorem sz104 : (Tryz.prog.info? 104).map (·.size) = some 2 := by kernel_rfl
theorem co104 : Tryz.prog.cellsOf 104 = 2 := by kernel_rfl
theorem bo104 : Tryz.prog.bytesOf 104 = 32 := by kernel_rfl
theorem z104 : ∀ w, (zeroValue 104).run Tryz.prog w = .ok (.agg #[.string ⟨#[]⟩, .string ⟨#[]⟩]) w := fun _ => by kernel_rfl
theorem fa104_0 : ∀ a w, (Instr.fieldAt 104 (.pointer (some a)) 0).run Tryz.prog w = .ok (.pointer (some (a.add 0))) w := run_field (b := 1) Tryz.underlying104 rfl rfl (by kernel_rfl) (by decide)
theorem fa104_1 : ∀ a w, (Instr.fieldAt 104 (.pointer (some a)) 1).run Tryz.prog w = .ok (.pointer (some (a.add 1))) w := run_field (b := 1) Tryz.underlying104 rfl rfl (by kernel_rfl) (by decide)
theorem sz107 : (Tryz.prog.info? 107).map (·.size) = some 3 := by kernel_rfl
theorem co107 : Tryz.prog.cellsOf 107 = 3 := by kernel_rfl
theorem bo107 : Tryz.prog.bytesOf 107 = 40 := by kernel_rfl
theorem z107 : ∀ w, (zeroValue 107).run Tryz.prog w = .ok (.agg #[.int .i64 0, .string ⟨#[]⟩, .string ⟨#[]⟩]) w := fun _ => by kernel_rfl
theorem fa107_0 : ∀ a w, (Instr.fieldAt 107 (.pointer (some a)) 0).run Tryz.prog w = .ok (.pointer (some (a.add 0))) w := run_field (b := 1) Tryz.underlying107 rfl rfl (by kernel_rfl) (by decide)
theorem fa107_1 : ∀ a w, (Instr.fieldAt 107 (.pointer (some a)) 1).run Tryz.prog w = .ok (.pointer (some (a.add 1))) w := run_field (b := 1) Tryz.underlying107 rfl rfl (by kernel_rfl) (by decide)
theorem fa107_2 : ∀ a w, (Instr.fieldAt 107 (.pointer (some a)) 2).run Tryz.prog w = .ok (.pointer (some (a.add 2))) w := run_field (b := 1) Tryz.underlying107 rfl rfl (by kernel_rfl) (by decide)
theorem co112 : Tryz.prog.cellsOf 112 = 1 := by kernel_rfl
theorem sz114 : (Tryz.prog.info? 114).map (·.size) = some 3 := by kernel_rfl
theorem co114 : Tryz.prog.cellsOf 114 = 3 := by kernel_rfl
theorem bo114 : Tryz.prog.bytesOf 114 = 56 := by kernel_rfl
theorem z114 : ∀ w, (zeroValue 114).run Tryz.prog w = .ok (.agg #[.string ⟨#[]⟩, .string ⟨#[]⟩, .slice none 0 0]) w := fun _ => by kernel_rfl
theorem fa114_0 : ∀ a w, (Instr.fieldAt 114 (.pointer (some a)) 0).run Tryz.prog w = .ok (.pointer (some (a.add 0))) w := run_field (b := 1) Tryz.underlying114 rfl rfl (by kernel_rfl) (by decide)
theorem fa114_1 : ∀ a w, (Instr.fieldAt 114 (.pointer (some a)) 1).run Tryz.prog w = .ok (.pointer (some (a.add 1))) w := run_field (b := 1) Tryz.underlying114 rfl rfl (by kernel_rfl) (by decide)
theorem fa114_2 : ∀ a w, (Instr.fieldAt 114 (.pointer (some a)) 2).run Tryz.prog w = .ok (.pointer (some (a.add 2))) w := run_field (b := 1) Tryz.underlying114 rfl rfl (by kernel_rfl) (by decide)
theorem sz119 : (Tryz.prog.info? 119).map (·.size) = some 6 := by kernel_rfl
theorem co119 : Tryz.prog.cellsOf 119 = 6 := by kernel_rfl
theorem bo119 : Tryz.prog.bytesOf 119 = 72 := by kernel_rfl
theorem z119 : ∀ w, (zeroValue 119).run Tryz.prog w = .ok (.agg #[.string ⟨#[]⟩, .string ⟨#[]⟩, .string ⟨#[]⟩, .int .i64 0, .int .i64 0, .bool false]) w := fun _ => by kernel_rfl
theorem fa119_0 : ∀ a w, (Instr.fieldAt 119 (.pointer (some a)) 0).run Tryz.prog w = .ok (.pointer (some (a.add 0))) w := run_field (b := 1) Tryz.underlying119 rfl rfl (by kernel_rfl) (by decide)
theorem fa119_1 : ∀ a w, (Instr.fieldAt 119 (.pointer (some a)) 1).run Tryz.prog w = .ok (.pointer (some (a.add 1))) w := run_field (b := 1) Tryz.underlying119 rfl rfl (by kernel_rfl) (by decide)
theorem fa119_2 : ∀ a w, (Instr.fieldAt 119 (.pointer (some a)) 2).run Tryz.prog w = .ok (.pointer (some (a.add 2))) w := run_field (b := 1) Tryz.underlying119 rfl rfl (by kernel_rfl) (by decide)
theorem fa119_3 : ∀ a w, (Instr.fieldAt 119 (.pointer (some a)) 3).run Tryz.prog w = .ok (.pointer (some (a.add 3))) w := run_field (b := 1) Tryz.underlying119 rfl rfl (by kernel_rfl) (by decide)
theorem fa119_4 : ∀ a w, (Instr.fieldAt 119 (.pointer (some a)) 4).run Tryz.prog w = .ok (.pointer (some (a.add 4))) w := run_field (b := 1) Tryz.underlying119 rfl rfl (by kernel_rfl) (by decide)
theorem z146 : ∀ w, (zeroValue 146).run Tryz.prog w = .ok (.slice none 0 0) w := fun _ => by kernel_rfl
theorem sz157 : (Tryz.prog.info? 157).map (·.size) = some 4 := by kernel_rfl
theorem z157 : ∀ w, (zeroValue 157).run Tryz.prog w = .ok (.agg #[.string ⟨#[]⟩, .string ⟨#[]⟩, .string ⟨#[]⟩, .slice none 0 0]) w := fun _ => by kernel_rfl
theorem fa157_0 : ∀ a w, (Instr.fieldAt 157 (.pointer (some a)) 0).run Tryz.prog w = .ok (.pointer (some (a.add 0))) w := run_field (b := 1) Tryz.underlying157 rfl rfl (by kernel_rfl) (by decide)
theorem fa157_1 : ∀ a w, (Instr.fieldAt 157 (.pointer (some a)) 1).run Tryz.prog w = .ok (.pointer (some (a.add 1))) w := run_field (b := 1) Tryz.underlying157 rfl rfl (by kernel_rfl) (by decide)
theorem fa157_2 : ∀ a w, (Instr.fieldAt 157 (.pointer (some a)) 2).run Tryz.prog w = .ok (.pointer (some (a.add 2))) w := run_field (b := 1) Tryz.underlying157 rfl rfl (by kernel_rfl) (by decide)
theorem fa157_3 : ∀ a w, (Instr.fieldAt 157 (.pointer (some a)) 3).run Tryz.prog w = .ok (.pointer (some (a.add 3))) w := run_field (b := 1) Tryz.underlying157 rfl rfl (by kernel_rfl) (by decide)
theorem z164 : ∀ w, (zeroValue 164).run Tryz.prog w = .ok (.map none) w := fun _ => by kernel_rfl
theorem sz188 : (Tryz.prog.info? 188).map (·.size) = some 1 := by kernel_rfl
theorem sz197 : (Tryz.prog.info? 197).map (·.size) = some 1 := by kernel_rfl
theorem sz199 : (Tryz.prog.info? 199).map (·.size) = some 2 := by kernel_rfl
theorem fa199_0 : ∀ a w, (Instr.fieldAt 199 (.pointer (some a)) 0).run Tryz.prog w = .ok (.pointer (some (a.add 0))) w := run_field (b := 1) Tryz.underlying199 rfl rfl (by kernel_rfl) (by decide)
theorem fa199_1 : ∀ a w, (Instr.fieldAt 199 (.pointer (some a)) 1).run Tryz.prog w = .ok (.pointer (some (a.add 1))) w := run_field (b := 1) Tryz.underlying199 rfl rfl (by kernel_rfl) (by decide)
theorem z286 : ∀ w, (zeroValue 286).run Tryz.prog w = .ok (.agg #[.int .u8 0, .int .u8 0, .int .u8 0, .int .u8 0, .int .u8 0, .int .u8 0, .int .u8 0, .int .u8 0, .int .u8 0, .int .u8 0, .int .u8 0, .int .u8 0, .int .u8 0, .int .u8 0, .int .u8 0, .int .u8 0, .int .u8 0, .int .u8 0, .int .u8 0, .int .u8 0, .int .u8 0, .int .u8 0, .int .u8 0, .int .u8 0, .int .u8 0, .int .u8 0, .int .u8 0, .int .u8 0, .int .u8 0, .int .u8 0, .int .u8 0, .int .u8 0, .int .u8 0, .int .u8 0, .int .u8 0, .int .u8 0, .int .u8 0, .int .u8 0, .int .u8 0, .int .u8 0, .int .u8 0, .int .u8 0, .int .u8 0, .int .u8 0, .int .u8 0, .int .u8 0, .int .u8 0, .int .u8 0, .int .u8 0, .int .u8 0, .int .u8 0, .int .u8 0, .int .u8 0, .int .u8 0, .int .u8 0, .int .u8 0, .int .u8 0, .int .u8 0, .int .u8 0, .int .u8 0, .int .u8 0, .int .u8 0, .int .u8 0, .int .u8 0, .int .u8 0]) w := fun _ => by kernel_rfl
theorem cf19 : ∀ args w, (callFunc 19 args).run Tryz.prog w = .ok (.enter 19 args) w := run_cf Tryz.func19 (by kernel_rfl) rfl
theorem cf20 : ∀ args w, (callFunc 20 args).run Tryz.prog w = .ok (.enter 20 args) w := run_cf Tryz.func20 (by kernel_rfl) rfl
theorem cf21 : ∀ args w, (callFunc 21 args).run Tryz.prog w = .ok (.enter 21 args) w := run_cf Tryz.func21 (by kernel_rfl) rfl
theorem cf22 : ∀ args w, (callFunc 22 args).run Tryz.prog w = .ok (.enter 22 args) w := run_cf Tryz.func22 (by kernel_rfl) rfl
theorem cf23 : ∀ args w, (callFunc 23 args).run Tryz.prog w = .ok (.enter 23 args) w := run_cf Tryz.func23 (by kernel_rfl) rfl
theorem cf24 : ∀ args w, (callFunc 24 args).run Tryz.prog w = .ok (.enter 24 args) w := run_cf Tryz.func24 (by kernel_rfl) rfl
theorem cf25 : ∀ args w, (callFunc 25 args).run Tryz.prog w = .ok (.enter 25 args) w := run_cf Tryz.func25 (by kernel_rfl) rfl
theorem cf26 : ∀ args w, (callFunc 26 args).run Tryz.prog w = .ok (.enter 26 args) w := run_cf Tryz.func26 (by kernel_rfl) rfl
theorem cf29 : ∀ args w, (callFunc 29 args).run Tryz.prog w = .ok (.enter 29 args) w := run_cf Tryz.func29 (by kernel_rfl) rfl
theorem cf32 : ∀ args w, (callFunc 32 args).run Tryz.prog w = .ok (.enter 32 args) w := run_cf Tryz.func32 (by kernel_rfl) rfl
theorem cf33 : ∀ args w, (callFunc 33 args).run Tryz.prog w = .ok (.enter 33 args) w := run_cf Tryz.func33 (by kernel_rfl) rfl
theorem cf34 : ∀ args w, (callFunc 34 args).run Tryz.prog w = .ok (.enter 34 args) w := run_cf Tryz.func34 (by kernel_rfl) rfl
theorem cf35 : ∀ args w, (callFunc 35 args).run Tryz.prog w = .ok (.enter 35 args) w := run_cf Tryz.func35 (by kernel_rfl) rfl
theorem cf36 : ∀ args w, (callFunc 36 args).run Tryz.prog w = .ok (.enter 36 args) w := run_cf Tryz.func36 (by kernel_rfl) rfl
theorem cf37 : ∀ args w, (callFunc 37 args).run Tryz.prog w = .ok (.enter 37 args) w := run_cf Tryz.func37 (by kernel_rfl) rfl
theorem cf38 : ∀ args w, (callFunc 38 args).run Tryz.prog w = .ok (.enter 38 args) w := run_cf Tryz.func38 (by kernel_rfl) rfl
theorem cf39 : ∀ args w, (callFunc 39 args).run Tryz.prog w = .ok (.enter 39 args) w := run_cf Tryz.func39 (by kernel_rfl) rfl
theorem cf40 : ∀ args w, (callFunc 40 args).run Tryz.prog w = .ok (.enter 40 args) w := run_cf Tryz.func40 (by kernel_rfl) rfl
theorem cf41 : ∀ args w, (callFunc 41 args).run Tryz.prog w = .ok (.enter 41 args) w := run_cf Tryz.func41 (by kernel_rfl) rfl
theorem cf42 : ∀ args w, (callFunc 42 args).run Tryz.prog w = .ok (.enter 42 args) w := run_cf Tryz.func42 (by kernel_rfl) rfl
theorem cf43 : ∀ args w, (callFunc 43 args).run Tryz.prog w = .ok (.enter 43 args) w := run_cf Tryz.func43 (by kernel_rfl) rfl
theorem cf45 : ∀ args w, (callFunc 45 args).run Tryz.prog w = .ok (.enter 45 args) w := run_cf Tryz.func45 (by kernel_rfl) rfl
theorem cf50 : ∀ args w, (callFunc 50 args).run Tryz.prog w = .ok (.enter 50 args) w := run_cf Tryz.func50 (by kernel_rfl) rfl
theorem cf51 : ∀ args w, (callFunc 51 args).run Tryz.prog w = .ok (.enter 51 args) w := run_cf Tryz.func51 (by kernel_rfl) rfl
theorem cf52 : ∀ args w, (callFunc 52 args).run Tryz.prog w = .ok (.enter 52 args) w := run_cf Tryz.func52 (by kernel_rfl) rfl
theorem cf53 : ∀ args w, (callFunc 53 args).run Tryz.prog w = .ok (.enter 53 args) w := run_cf Tryz.func53 (by kernel_rfl) rfl
theorem cf54 : ∀ args w, (callFunc 54 args).run Tryz.prog w = .ok (.enter 54 args) w := run_cf Tryz.func54 (by kernel_rfl) rfl
theorem cf55 : ∀ args w, (callFunc 55 args).run Tryz.prog w = .ok (.enter 55 args) w := run_cf Tryz.func55 (by kernel_rfl) rfl
theorem cf62 : ∀ args w, (callFunc 62 args).run Tryz.prog w = .ok (.enter 62 args) w := run_cf Tryz.func62 (by kernel_rfl) rfl
theorem cf63 : ∀ args w, (callFunc 63 args).run Tryz.prog w = .ok (.enter 63 args) w := run_cf Tryz.func63 (by kernel_rfl) rfl
theorem cf64 : ∀ args w, (callFunc 64 args).run Tryz.prog w = .ok (.enter 64 args) w := run_cf Tryz.func64 (by kernel_rfl) rfl
theorem cf65 : ∀ args w, (callFunc 65 args).run Tryz.prog w = .ok (.enter 65 args) w := run_cf Tryz.func65 (by kernel_rfl) rfl
theorem cf66 : ∀ args w, (callFunc 66 args).run Tryz.prog w = .ok (.enter 66 args) w := run_cf Tryz.func66 (by kernel_rfl) rfl
theorem cf79 : ∀ args w, (callFunc 79 args).run Tryz.prog w = .ok (.enter 79 args) w := run_cf Tryz.func79 (by kernel_rfl) rfl
theorem cf84 : ∀ args w, (callFunc 84 args).run Tryz.prog w = .ok (.enter 84 args) w := run_cf Tryz.func84 (by kernel_rfl) rfl
theorem cf86 : ∀ args w, (callFunc 86 args).run Tryz.prog w = .ok (.enter 86 args) w := run_cf Tryz.func86 (by kernel_rfl) rfl
theorem cf87 : ∀ args w, (callFunc 87 args).run Tryz.prog w = .ok (.enter 87 args) w := run_cf Tryz.func87 (by kernel_rfl) rfl
theorem cf88 : ∀ args w, (callFunc 88 args).run Tryz.prog w = .ok (.enter 88 args) w := run_cf Tryz.func88 (by kernel_rfl) rfl
theorem cf89 : ∀ args w, (callFunc 89 args).run Tryz.prog w = .ok (.enter 89 args) w := run_cf Tryz.func89 (by kernel_rfl) rfl
theorem cf90 : ∀ args w, (callFunc 90 args).run Tryz.prog w = .ok (.enter 90 args) w := run_cf Tryz.func90 (by kernel_rfl) rfl
theorem cf91 : ∀ args w, (callFunc 91 args).run Tryz.prog w = .ok (.enter 91 args) w := run_cf Tryz.func91 (by kernel_rfl) rfl
theorem cf92 : ∀ args w, (callFunc 92 args).run Tryz.prog w = .ok (.enter 92 args) w := run_cf Tryz.func92 (by kernel_rfl) rfl
theorem cf93 : ∀ args w, (callFunc 93 args).run Tryz.prog w = .ok (.enter 93 args) w := run_cf Tryz.func93 (by kernel_rfl) rfl
theorem cf94 : ∀ args w, (callFunc 94 args).run Tryz.prog w = .ok (.enter 94 args) w := run_cf Tryz.func94 (by kernel_rfl) rfl
theorem cf95 : ∀ args w, (callFunc 95 args).run Tryz.prog w = .ok (.enter 95 args) w := run_cf Tryz.func95 (by kernel_rfl) rfl
theorem cf96 : ∀ args w, (callFunc 96 args).run Tryz.prog w = .ok (.enter 96 args) w := run_cf Tryz.func96 (by kernel_rfl) rfl
theorem cf97 : ∀ args w, (callFunc 97 args).run Tryz.prog w = .ok (.enter 97 args) w := run_cf Tryz.func97 (by kernel_rfl) rfl
theorem cf98 : ∀ args w, (callFunc 98 args).run Tryz.prog w = .ok (.enter 98 args) w := run_cf Tryz.func98 (by kernel_rfl) rfl
theorem cf99 : ∀ args w, (callFunc 99 args).run Tryz.prog w = .ok (.enter 99 args) w := run_cf Tryz.func99 (by kernel_rfl) rfl
theorem cf100 : ∀ args w, (callFunc 100 args).run Tryz.prog w = .ok (.enter 100 args) w := run_cf Tryz.func100 (by kernel_rfl) rfl
theorem cf101 : ∀ args w, (callFunc 101 args).run Tryz.prog w = .ok (.enter 101 args) w := run_cf Tryz.func101 (by kernel_rfl) rfl
theorem cf102 : ∀ args w, (callFunc 102 args).run Tryz.prog w = .ok (.enter 102 args) w := run_cf Tryz.func102 (by kernel_rfl) rfl
theorem cf103 : ∀ args w, (callFunc 103 args).run Tryz.prog w = .ok (.enter 103 args) w := run_cf Tryz.func103 (by kernel_rfl) rfl
theorem cf104 : ∀ args w, (callFunc 104 args).run Tryz.prog w = .ok (.enter 104 args) w := run_cf Tryz.func104 (by kernel_rfl) rfl
theorem cf105 : ∀ args w, (callFunc 105 args).run Tryz.prog w = .ok (.enter 105 args) w := run_cf Tryz.func105 (by kernel_rfl) rfl
theorem cf106 : ∀ args w, (callFunc 106 args).run Tryz.prog w = .ok (.enter 106 args) w := run_cf Tryz.func106 (by kernel_rfl) rfl
theorem cf107 : ∀ args w, (callFunc 107 args).run Tryz.prog w = .ok (.enter 107 args) w := run_cf Tryz.func107 (by kernel_rfl) rfl
theorem cf108 : ∀ args w, (callFunc 108 args).run Tryz.prog w = .ok (.enter 108 args) w := run_cf Tryz.func108 (by kernel_rfl) rfl
theorem cf110 : ∀ args w, (callFunc 110 args).run Tryz.prog w = .ok (.enter 110 args) w := run_cf Tryz.func110 (by kernel_rfl) rfl
theorem cf113 : ∀ args w, (callFunc 113 args).run Tryz.prog w = .ok (.enter 113 args) w := run_cf Tryz.func113 (by kernel_rfl) rfl
theorem cf114 : ∀ args w, (callFunc 114 args).run Tryz.prog w = .ok (.enter 114 args) w := run_cf Tryz.func114 (by kernel_rfl) rfl
theorem cf115 : ∀ args w, (callFunc 115 args).run Tryz.prog w = .ok (.enter 115 args) w := run_cf Tryz.func115 (by kernel_rfl) rfl
theorem cf116 : ∀ args w, (callFunc 116 args).run Tryz.prog w = .ok (.enter 116 args) w := run_cf Tryz.func116 (by kernel_rfl) rfl
theorem cf117 : ∀ args w, (callFunc 117 args).run Tryz.prog w = .ok (.enter 117 args) w := run_cf Tryz.func117 (by kernel_rfl) rfl
theorem cf118 : ∀ args w, (callFunc 118 args).run Tryz.prog w = .ok (.enter 118 args) w := run_cf Tryz.func118 (by kernel_rfl) rfl
theorem cf119 : ∀ args w, (callFunc 119 args).run Tryz.prog w = .ok (.enter 119 args) w := run_cf Tryz.func119 (by kernel_rfl) rfl
theorem cf120 : ∀ args w, (callFunc 120 args).run Tryz.prog w = .ok (.enter 120 args) w := run_cf Tryz.func120 (by kernel_rfl) rfl
theorem cf121 : ∀ args w, (callFunc 121 args).run Tryz.prog w = .ok (.enter 121 args) w := run_cf Tryz.func121 (by kernel_rfl) rfl
theorem cf122 : ∀ args w, (callFunc 122 args).run Tryz.prog w = .ok (.enter 122 args) w := run_cf Tryz.func122 (by kernel_rfl) rfl
theorem cf126 : ∀ args w, (callFunc 126 args).run Tryz.prog w = .ok (.enter 126 args) w := run_cf Tryz.func126 (by kernel_rfl) rfl
theorem cf127 : ∀ args w, (callFunc 127 args).run Tryz.prog w = .ok (.enter 127 args) w := run_cf Tryz.func127 (by kernel_rfl) rfl
theorem cf128 : ∀ args w, (callFunc 128 args).run Tryz.prog w = .ok (.enter 128 args) w := run_cf Tryz.func128 (by kernel_rfl) rfl
theorem cf129 : ∀ args w, (callFunc 129 args).run Tryz.prog w = .ok (.enter 129 args) w := run_cf Tryz.func129 (by kernel_rfl) rfl
theorem cf130 : ∀ args w, (callFunc 130 args).run Tryz.prog w = .ok (.enter 130 args) w := run_cf Tryz.func130 (by kernel_rfl) rfl
theorem cf132 : ∀ args w, (callFunc 132 args).run Tryz.prog w = .ok (.enter 132 args) w := run_cf Tryz.func132 (by kernel_rfl) rfl
theorem cf133 : ∀ args w, (callFunc 133 args).run Tryz.prog w = .ok (.enter 133 args) w := run_cf Tryz.func133 (by kernel_rfl) rfl
theorem cf134 : ∀ args w, (callFunc 134 args).run Tryz.prog w = .ok (.enter 134 args) w := run_cf Tryz.func134 (by kernel_rfl) rfl
theorem cf135 : ∀ args w, (callFunc 135 args).run Tryz.prog w = .ok (.enter 135 args) w := run_cf Tryz.func135 (by kernel_rfl) rfl
theorem cf136 : ∀ args w, (callFunc 136 args).run Tryz.prog w = .ok (.enter 136 args) w := run_cf Tryz.func136 (by kernel_rfl) rfl
theorem cf137 : ∀ args w, (callFunc 137 args).run Tryz.prog w = .ok (.enter 137 args) w := run_cf Tryz.func137 (by kernel_rfl) rfl
theorem cf138 : ∀ args w, (callFunc 138 args).run Tryz.prog w = .ok (.enter 138 args) w := run_cf Tryz.func138 (by kernel_rfl) rfl
theorem cf139 : ∀ args w, (callFunc 139 args).run Tryz.prog w = .ok (.enter 139 args) w := run_cf Tryz.func139 (by kernel_rfl) rfl
theorem cf140 : ∀ args w, (callFunc 140 args).run Tryz.prog w = .ok (.enter 140 args) w := run_cf Tryz.func140 (by kernel_rfl) rfl
theorem cf141 : ∀ args w, (callFunc 141 args).run Tryz.prog w = .ok (.enter 141 args) w := run_cf Tryz.func141 (by kernel_rfl) rfl
theorem cf145 : ∀ args w, (callFunc 145 args).run Tryz.prog w = .ok (.enter 145 args) w := run_cf Tryz.func145 (by kernel_rfl) rfl
theorem cf146 : ∀ args w, (callFunc 146 args).run Tryz.prog w = .ok (.enter 146 args) w := run_cf Tryz.func146 (by kernel_rfl) rfl
theorem cf147 : ∀ args w, (callFunc 147 args).run Tryz.prog w = .ok (.enter 147 args) w := run_cf Tryz.func147 (by kernel_rfl) rfl
theorem cf148 : ∀ args w, (callFunc 148 args).run Tryz.prog w = .ok (.enter 148 args) w := run_cf Tryz.func148 (by kernel_rfl) rfl
theorem cf149 : ∀ args w, (callFunc 149 args).run Tryz.prog w = .ok (.enter 149 args) w := run_cf Tryz.func149 (by kernel_rfl) rfl
theorem cf177 : ∀ args w, (callFunc 177 args).run Tryz.prog w = .ok (.enter 177 args) w := run_cf Tryz.func177 (by kernel_rfl) rfl
theorem cf181 : ∀ args w, (callFunc 181 args).run Tryz.prog w = .ok (.enter 181 args) w := run_cf Tryz.func181 (by kernel_rfl) rfl
theorem cf189 : ∀ args w, (callFunc 189 args).run Tryz.prog w = .ok (.enter 189 args) w := run_cf Tryz.func189 (by kernel_rfl) rfl
theorem cf190 : ∀ args w, (callFunc 190 args).run Tryz.prog w = .ok (.enter 190 args) w := run_cf Tryz.func190 (by kernel_rfl) rfl
theorem cf195 : ∀ args w, (callFunc 195 args).run Tryz.prog w = .ok (.enter 195 args) w := run_cf Tryz.func195 (by kernel_rfl) rfl
theorem cf196 : ∀ args w, (callFunc 196 args).run Tryz.prog w = .ok (.enter 196 args) w := run_cf Tryz.func196 (by kernel_rfl) rfl
theorem cf197 : ∀ args w, (callFunc 197 args).run Tryz.prog w = .ok (.enter 197 args) w := run_cf Tryz.func197 (by kernel_rfl) rfl
theorem cf198 : ∀ args w, (callFunc 198 args).run Tryz.prog w = .ok (.enter 198 args) w := run_cf Tryz.func198 (by kernel_rfl) rfl
theorem cf199 : ∀ args w, (callFunc 199 args).run Tryz.prog w = .ok (.enter 199 args) w := run_cf Tryz.func199 (by kernel_rfl) rfl
theorem cf200 : ∀ args w, (callFunc 200 args).run Tryz.prog w = .ok (.enter 200 args) w := run_cf Tryz.func200 (by kernel_rfl) rfl
theorem cf202 : ∀ args w, (callFunc 202 args).run Tryz.prog w = .ok (.enter 202 args) w := run_cf Tryz.func202 (by kernel_rfl) rfl
theorem cf203 : ∀ args w, (callFunc 203 args).run Tryz.prog w = .ok (.enter 203 args) w := run_cf Tryz.func203 (by kernel_rfl) rfl
theorem cf204 : ∀ args w, (callFunc 204 args).run Tryz.prog w = .ok (.enter 204 args) w := run_cf Tryz.func204 (by kernel_rfl) rfl
theorem cf205 : ∀ args w, (callFunc 205 args).run Tryz.prog w = .ok (.enter 205 args) w := run_cf Tryz.func205 (by kernel_rfl) rfl
theorem cf210 : ∀ args w, (callFunc 210 args).run Tryz.prog w = .ok (.enter 210 args) w := run_cf Tryz.func210 (by kernel_rfl) rfl
theorem cf212 : ∀ args w, (callFunc 212 args).run Tryz.prog w = .ok (.enter 212 args) w := run_cf Tryz.func212 (by kernel_rfl) rfl
theorem cf213 : ∀ args w, (callFunc 213 args).run Tryz.prog w = .ok (.enter 213 args) w := run_cf Tryz.func213 (by kernel_rfl) rfl
theorem cf214 : ∀ args w, (callFunc 214 args).run Tryz.prog w = .ok (.enter 214 args) w := run_cf Tryz.func214 (by kernel_rfl) rfl
theorem cf216 : ∀ args w, (callFunc 216 args).run Tryz.prog w = .ok (.enter 216 args) w := run_cf Tryz.func216 (by kernel_rfl) rfl
theorem cf217 : ∀ args w, (callFunc 217 args).run Tryz.prog w = .ok (.enter 217 args) w := run_cf Tryz.func217 (by kernel_rfl) rfl
theorem cf219 : ∀ args w, (callFunc 219 args).run Tryz.prog w = .ok (.enter 219 args) w := run_cf Tryz.func219 (by kernel_rfl) rfl
theorem cf220 : ∀ args w, (callFunc 220 args).run Tryz.prog w = .ok (.enter 220 args) w := run_cf Tryz.func220 (by kernel_rfl) rfl
theorem cf227 : ∀ args w, (callFunc 227 args).run Tryz.prog w = .ok (.enter 227 args) w := run_cf Tryz.func227 (by kernel_rfl) rfl
theorem cf228 : ∀ args w, (callFunc 228 args).run Tryz.prog w = .ok (.enter 228 args) w := run_cf Tryz.func228 (by kernel_rfl) rfl
theorem cf230 : ∀ args w, (callFunc 230 args).run Tryz.prog w = .ok (.enter 230 args) w := run_cf Tryz.func230 (by kernel_rfl) rfl
theorem cf236 : ∀ args w, (callFunc 236 args).run Tryz.prog w = .ok (.enter 236 args) w := run_cf Tryz.func236 (by kernel_rfl) rfl
theorem cf238 : ∀ args w, (callFunc 238 args).run Tryz.prog w = .ok (.enter 238 args) w := run_cf Tryz.func238 (by kernel_rfl) rfl
theorem cf242 : ∀ args w, (callFunc 242 args).run Tryz.prog w = .ok (.enter 242 args) w := run_cf Tryz.func242 (by kernel_rfl) rfl
theorem cf243 : ∀ args w, (callFunc 243 args).run Tryz.prog w = .ok (.enter 243 args) w := run_cf Tryz.func243 (by kernel_rfl) rfl
theorem cf244 : ∀ args w, (callFunc 244 args).run Tryz.prog w = .ok (.enter 244 args) w := run_cf Tryz.func244 (by kernel_rfl) rfl
theorem cf263 : ∀ args w, (callFunc 263 args).run Tryz.prog w = .ok (.enter 263 args) w := run_cf Tryz.func263 (by kernel_rfl) rfl
theorem cf264 : ∀ args w, (callFunc 264 args).run Tryz.prog w = .ok (.enter 264 args) w := run_cf Tryz.func264 (by kernel_rfl) rfl
theorem cf292 : ∀ args w, (callFunc 292 args).run Tryz.prog w = .ok (.enter 292 args) w := run_cf Tryz.func292 (by kernel_rfl) rfl
theorem cf301 : ∀ args w, (callFunc 301 args).run Tryz.prog w = .ok (.enter 301 args) w := run_cf Tryz.func301 (by kernel_rfl) rfl
theorem cf309 : ∀ args w, (callFunc 309 args).run Tryz.prog w = .ok (.enter 309 args) w := run_cf Tryz.func309 (by kernel_rfl) rfl
theorem cf310 : ∀ args w, (callFunc 310 args).run Tryz.prog w = .ok (.enter 310 args) w := run_cf Tryz.func310 (by kernel_rfl) rfl
theorem cf316 : ∀ args w, (callFunc 316 args).run Tryz.prog w = .ok (.enter 316 args) w := run_cf Tryz.func316 (by kernel_rfl) rfl
theorem cf319 : ∀ args w, (callFunc 319 args).run Tryz.prog w = .ok (.enter 319 args) w := run_cf Tryz.func319 (by kernel_rfl) rfl
end Go.Proofs.YtpmlgnbbkpplhaaGreatDoor
