/- SymbolChecks: the program's answers and the reference's are one. -/
import Derived.Test.YtofolhnecfkjkaaDoorFind
import Derived.Test.YtofolhnecfkjkaaDoorFlt
namespace Go.Proofs.YtofolhnecfkjkaaDoor
set_option linter.unusedSimpArgs false
set_option linter.unusedVariables false
set_option maxRecDepth 20000
open Go.RowKit Go.Eng
theorem SymbolChecks_any (t : Tab) (l : Sl SMod) (x y : Int) (w : World) (hok : t.Ok w) (hl : l.Ok SMod.enc 4 w) (hq : l.q ≤ 4611686018427387904) (hn : ∀ m ∈ l.l, m.name.length ≤ 4611686018427387904 ∧ m.id.length ≤ 4611686018427387904) :
    Calls Tryd.prog 3 #[.agg #[str t.id, .int .i64 t.size, .slice t.fi.A t.fi.q t.fi.c, .slice t.fu.A t.fu.q t.fu.c, .slice t.ro.A t.ro.q t.ro.c, .slice t.ca.A t.ca.q t.ca.c], .slice l.A l.q l.c, .int .i64 x, .int .i64 y] w fun e w' => e = .returned (.bool true) ∧ Below w.heap.size w w' := by
  refine enter_args (args := [.agg #[str t.id, .int .i64 t.size, .slice t.fi.A t.fi.q t.fi.c, .slice t.fu.A t.fu.q t.fu.c, .slice t.ro.A t.ro.q t.ro.c, .slice t.ca.A t.ca.q t.ca.c], .slice l.A l.q l.c, .int .i64 x, .int .i64 y]) (F := _) Tryd.func3 rfl Tryd.ntmps3 rfl rfl ?_
  intro Rb hRb hRn
  refine T_seq ?_
  refine T_region ?_
  refine S_box 4 4 rfl rfl rfl rfl rfl ?_
  intro b4
  refine S_ 8 rfl rfl rfl _ (y_assign rfl rfl) ?_
  refine S_go (fun _ _ h => h) ?_
  refine T_seq ?_
  refine T_region ?_
  refine S_ 18 rfl rfl rfl _ (y_loadA 4 rfl rfl rfl Tryd.underlying27 rfl sz27) ?_
  refine S_ 19 rfl rfl rfl _ (y_move rfl rfl) ?_
  refine S_ 20 rfl rfl rfl _ (y_call rfl rfl rfl cf9 (fun _ w hM => FuncAt_any t x w (hok.below hM.below))) ?_
  refine S_ 17 rfl rfl rfl _ (y_move rfl rfl) ?_
  refine S_ 21 rfl rfl rfl _ (y_extract rfl rfl rfl) ?_
  refine S_ 22 rfl rfl rfl _ (y_extract rfl rfl rfl) ?_
  refine S_ 9 rfl rfl rfl _ (y_assign rfl rfl) ?_
  refine S_ 10 rfl rfl rfl _ (y_assign rfl rfl) ?_
  refine S_go (fun _ _ h => h) ?_
  refine T_seq ?_
  refine T_region ?_
  refine S_ 24 rfl rfl rfl _ (y_move rfl rfl) ?_
  refine S_ 25 rfl rfl rfl _ (y_move rfl rfl) ?_
  refine S_ 26 rfl rfl rfl _ (y_call rfl rfl rfl cf10 (fun _ w hM => ModuleAt_any l y w (hl.below hM.below) hq)) ?_
  refine S_ 23 rfl rfl rfl _ (y_move rfl rfl) ?_
  refine S_ 27 rfl rfl rfl _ (y_extract rfl rfl rfl) ?_
  refine S_ 28 rfl rfl rfl _ (y_extract rfl rfl rfl) ?_
  refine S_ 11 rfl rfl rfl _ (y_assign rfl rfl) ?_
  refine S_ 12 rfl rfl rfl _ (y_assign rfl rfl) ?_
  refine S_go (fun _ _ h => h) ?_
  refine T_seq ?_
  refine T_region ?_
  refine S_ 30 rfl rfl rfl _ (y_loadA 4 rfl rfl rfl Tryd.underlying27 rfl sz27) ?_
  refine S_ 31 rfl rfl rfl _ (y_move rfl rfl) ?_
  refine S_ 32 rfl rfl rfl _ (y_call rfl rfl rfl cf11 (fun _ w hM => FuncOf_any t x w (hok.below hM.below))) ?_
  refine S_ 29 rfl rfl rfl _ (y_move rfl rfl) ?_
  refine S_ 33 rfl rfl rfl _ (y_extract rfl rfl rfl) ?_
  refine S_ 34 rfl rfl rfl _ (y_extract rfl rfl rfl) ?_
  refine S_ 13 rfl rfl rfl _ (y_assign rfl rfl) ?_
  refine S_ 14 rfl rfl rfl _ (y_assign rfl rfl) ?_
  refine S_go (fun _ _ h => h) ?_
  refine T_seq ?_
  refine T_region ?_
  refine S_ 36 rfl rfl rfl _ (y_move rfl rfl) ?_
  refine S_ 37 rfl rfl rfl _ (y_move rfl rfl) ?_
  refine S_ 38 rfl rfl rfl _ (y_call rfl rfl rfl cf12 (fun _ w hM => ModuleOf_any l y w (hl.below hM.below) hq)) ?_
  refine S_ 35 rfl rfl rfl _ (y_move rfl rfl) ?_
  refine S_ 39 rfl rfl rfl _ (y_extract rfl rfl rfl) ?_
  refine S_ 40 rfl rfl rfl _ (y_extract rfl rfl rfl) ?_
  refine S_ 15 rfl rfl rfl _ (y_assign rfl rfl) ?_
  refine S_ 16 rfl rfl rfl _ (y_assign rfl rfl) ?_
  refine S_go (fun _ _ h => h) ?_
  refine T_seq ?_
  refine T_draws (by kernel_rfl) (by kernel_rfl) ?_
  refine D_ 41 rfl rfl rfl _ (y_loadA 4 rfl rfl rfl Tryd.underlying27 rfl sz27) ?_
  refine D_ 42 rfl rfl rfl _ (y_call rfl rfl rfl cf13 (fun _ w hM => CheckTable_any t w (hok.below hM.below))) ?_
  refine D_ 43 rfl rfl rfl _ (y_loadA 4 rfl rfl rfl Tryd.underlying27 rfl sz27) ?_
  refine D_ 44 rfl rfl rfl _ (y_call rfl rfl rfl cf14 (fun _ w hM => TableFault_any t w (hok.below hM.below))) ?_
  refine D_ 45 rfl rfl rfl _ (y_bin rfl rfl rfl (fun _ => b_eql)) ?_
  refine D_ 46 rfl rfl rfl _ (y_move rfl rfl) ?_
  refine Dg_ 47 rfl rfl rfl rfl rfl rfl _ (y_move rfl rfl) ?_
  refine Dg_ 48 rfl rfl rfl rfl rfl rfl _ (y_call rfl rfl rfl cf15 (fun _ w hM => CheckModules_any l w (hl.below hM.below) hq hn)) ?_
  refine Dg_ 49 rfl rfl rfl rfl rfl rfl _ (y_move rfl rfl) ?_
  refine Dg_ 50 rfl rfl rfl rfl rfl rfl _ (y_call rfl rfl rfl cf16 (fun _ w hM => ModulesFault_any l w (hl.below hM.below) hq hn)) ?_
  refine Dg_ 51 rfl rfl rfl rfl rfl rfl _ (y_bin rfl rfl rfl (fun _ => b_eql)) ?_
  refine D_ 52 rfl rfl rfl _ (y_and rfl rfl rfl) ?_
  refine D_ 53 rfl rfl rfl _ (y_move rfl rfl) ?_
  refine Dg_ 54 rfl rfl rfl rfl rfl rfl _ (y_move rfl rfl) ?_
  refine Dg_ 55 rfl rfl rfl rfl rfl rfl _ (y_move rfl rfl) ?_
  refine Dg_ 56 rfl rfl rfl rfl rfl rfl _ (y_bin rfl rfl rfl (fun _ => b_eql)) ?_
  refine D_ 57 rfl rfl rfl _ (y_and rfl rfl rfl) ?_
  refine D_ 58 rfl rfl rfl _ (y_move rfl rfl) ?_
  refine Dg_ 59 rfl rfl rfl rfl rfl rfl _ (y_move rfl rfl) ?_
  refine Dg_ 60 rfl rfl rfl rfl rfl rfl _ (y_move rfl rfl) ?_
  refine Dg_ 61 rfl rfl rfl rfl rfl rfl _ (y_bin rfl rfl rfl (fun _ => b_eqlb Tryd.underlying4)) ?_
  refine D_ 62 rfl rfl rfl _ (y_and rfl rfl rfl) ?_
  refine D_ 63 rfl rfl rfl _ (y_move rfl rfl) ?_
  refine Dg_ 64 rfl rfl rfl rfl rfl rfl _ (y_move rfl rfl) ?_
  refine Dg_ 65 rfl rfl rfl rfl rfl rfl _ (y_move rfl rfl) ?_
  refine Dg_ 66 rfl rfl rfl rfl rfl rfl _ (y_bin rfl rfl rfl (fun _ => b_eql)) ?_
  refine D_ 67 rfl rfl rfl _ (y_and rfl rfl rfl) ?_
  refine D_ 68 rfl rfl rfl _ (y_move rfl rfl) ?_
  refine Dg_ 69 rfl rfl rfl rfl rfl rfl _ (y_move rfl rfl) ?_
  refine Dg_ 70 rfl rfl rfl rfl rfl rfl _ (y_move rfl rfl) ?_
  refine Dg_ 71 rfl rfl rfl rfl rfl rfl _ (y_bin rfl rfl rfl (fun _ => b_eqlb Tryd.underlying4)) ?_
  refine D_ 72 rfl rfl rfl _ (y_and rfl rfl rfl) ?_
  refine D_ 8 rfl rfl rfl _ (y_assign rfl rfl) ?_
  refine D_go (fun _ _ h => h) ?_
  refine T_ret (fun a w hF hM => hRb a w (post1 rfl rfl (fun w hM => ?_) a w hF hM))
  exact ⟨by simp, hM.below⟩
end Go.Proofs.YtofolhnecfkjkaaDoor
