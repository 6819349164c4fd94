/- The law EventChecks walked. Conditions: those of the theorem. -/
import Derived.Test.YtoeipmepmlikcaaDoorESame
import Derived.Test.YtoeipmepmlikcaaDoorESum
import Derived.Test.YtoeipmepmlikcaaDoorGrd
namespace Go.Proofs.YtoeipmepmlikcaaDoor
set_option linter.unusedSimpArgs false
set_option linter.unusedVariables false
set_option maxRecDepth 20000
open Go.RowKit Go.Eng
set_option maxHeartbeats 1600000 in
theorem EventChecks_any (a b : Evt) (nm s : List UInt8) (w : World) (ha : a.Ok w) (hb : b.Ok w) (hs : s.length ≤ 4611686018427387904) (hT : TzTab w) :
    Calls Tryd.prog 5 #[a.val, b.val, str nm, str s] w fun e w' => e = .returned (.bool true) ∧ Below w.heap.size w w' := by
  refine enter_args (args := [.agg #[str a.id, .int .i64 a.at_, .int .i64 a.lv, .slice a.fa.A a.fa.q a.fa.c, .slice a.ta.A a.ta.q a.ta.c, .slice a.cr.A a.cr.q a.cr.c, str a.rel, str a.us, .int .i64 a.wt], .agg #[str b.id, .int .i64 b.at_, .int .i64 b.lv, .slice b.fa.A b.fa.q b.fa.c, .slice b.ta.A b.ta.q b.ta.c, .slice b.cr.A b.cr.q b.cr.c, str b.rel, str b.us, .int .i64 b.wt], str nm, str s]) (F := _) Tryd.func5 rfl Tryd.ntmps5 rfl rfl ?_
  intro Rb hRb hRn
  refine T_seq ?_
  refine T_region ?_
  refine S_box 4 4 rfl rfl rfl rfl rfl ?_
  intro b4
  refine S_box 5 5 rfl rfl rfl rfl rfl ?_
  intro b5
  refine S_ 8 rfl rfl rfl _ (y_assign rfl rfl) ?_
  refine S_go (fun _ _ h => h) ?_
  refine T_seq ?_
  refine T_region ?_
  refine S_ 14 rfl rfl rfl _ (y_loadA 4 rfl rfl rfl Tryd.underlying52 rfl sz52) ?_
  refine S_ 15 rfl rfl rfl _ (y_move rfl rfl) ?_
  refine S_ 16 rfl rfl rfl _ (y_call rfl rfl rfl cf31 (fun _ w hM => Tag_any a _ w (ha.below hM.below))) ?_
  refine S_ 13 rfl rfl rfl _ (y_move rfl rfl) ?_
  refine S_ 17 rfl rfl rfl _ (y_extract rfl rfl rfl) ?_
  refine S_ 18 rfl rfl rfl _ (y_extract rfl rfl rfl) ?_
  refine S_ 9 rfl rfl rfl _ (y_assign rfl rfl) ?_
  refine S_ 10 rfl rfl rfl _ (y_assign rfl rfl) ?_
  refine S_go (fun _ _ h => h) ?_
  refine T_seq ?_
  refine T_region ?_
  refine S_ 20 rfl rfl rfl _ (y_loadA 4 rfl rfl rfl Tryd.underlying52 rfl sz52) ?_
  refine S_ 21 rfl rfl rfl _ (y_move rfl rfl) ?_
  refine S_ 22 rfl rfl rfl _ (y_call rfl rfl rfl cf32 (fun _ w hM => Tagged_any a _ w (ha.below hM.below))) ?_
  refine S_ 19 rfl rfl rfl _ (y_move rfl rfl) ?_
  refine S_ 23 rfl rfl rfl _ (y_extract rfl rfl rfl) ?_
  refine S_ 24 rfl rfl rfl _ (y_extract rfl rfl rfl) ?_
  refine S_ 11 rfl rfl rfl _ (y_assign rfl rfl) ?_
  refine S_ 12 rfl rfl rfl _ (y_assign rfl rfl) ?_
  refine S_go (fun _ _ h => h) ?_
  refine T_seq ?_
  refine T_perm [0, 2, 1, 3, 4, 5, 6, 7, 9, 10, 8, 11, 12, 13, 14, 15, 16, 17, 18, 19, 20, 21, 22, 23, 24, 25, 26, 27, 28, 29, 30, 31, 32, 33, 34, 35, 37, 36, 38, 39, 40, 41] [true, false, true, false, true, true, true, true, false, true, true, false, true, true, true, true, true, false, true, true, true, true, true, true, true, true, true, true, true, true, false, false, false, true, true, true, false, true, false, true, true, true] [0, 1, 0, 7, 15, 31, 63, 63, 255, 63, 63, 2047, 4095, 8191, 16383, 32767, 32767, 131071, 262143, 524287, 1048575, 1048575, 4194303, 8388607, 16777215, 33554431, 33554431, 134217727, 268435455, 536870911, 1073741823, 2147483647, 4294967295, 8589934591, 17179869183, 34359738367, 68719476735, 34359738367, 274877906943, 549755813887, 1099511627775, 2199023255551] [(0, [4]), (2, [4]), (6, [4]), (7, [5]), (9, [4]), (10, [5]), (15, [4]), (16, [4])] (by kernel_rfl) (by kernel_rfl) (by kernel_rfl) rfl (by kernel_rfl) ?_
  refine Rf_ 0 25 rfl rfl rfl rfl rfl _ ⟨rfl, trivial⟩ (Y.z (y_loadA 4 rfl rfl rfl Tryd.underlying52 rfl sz52) rfl) ?_
  refine Rf_ 2 27 rfl rfl rfl rfl rfl _ ⟨rfl, trivial⟩ (Y.z (y_loadA 4 rfl rfl rfl Tryd.underlying52 rfl sz52) rfl) ?_
  refine R_chain 1 rfl rfl ?_
  refine S_ 26 rfl rfl rfl _ (y_call rfl rfl rfl cf33 (fun _ w hM => Check_any a w (ha.below hM.below))) ?_
  refine R_next ⟨.inl rfl, .inr ⟨rfl, trivial⟩, .inl rfl, .inl rfl, .inl rfl, .inl rfl, .inl rfl, .inl rfl, trivial⟩ ?_
  refine R_chain 3 rfl rfl ?_
  refine S_ 28 rfl rfl rfl _ (y_call rfl rfl rfl cf34 (fun _ w hM => EventFault_any a w (ha.below hM.below))) ?_
  refine R_next ⟨.inl rfl, .inl rfl, .inl rfl, .inl rfl, .inl rfl, .inl rfl, .inl rfl, .inl rfl, trivial⟩ ?_
  refine Rf_ 4 29 rfl rfl rfl rfl rfl _ trivial (Y.z (y_as (v' := .bool true) (by simp) (y_bin rfl rfl rfl (fun _ => b_eql))) rfl) ?_
  refine Rf_ 5 30 rfl rfl rfl rfl rfl _ trivial (Y.z (y_move rfl rfl) rfl) ?_
  refine Rfg_ 6 31 rfl rfl rfl rfl rfl rfl rfl rfl _ ⟨rfl, trivial⟩ (Y.z (y_loadA 4 rfl rfl rfl Tryd.underlying52 rfl sz52) rfl) ?_
  refine Rfg_ 7 32 rfl rfl rfl rfl rfl rfl rfl rfl _ ⟨rfl, trivial⟩ (Y.z (y_loadA 5 rfl rfl rfl Tryd.underlying52 rfl sz52) rfl) ?_
  refine Rfg_ 9 34 rfl rfl rfl rfl rfl rfl rfl rfl _ ⟨rfl, trivial⟩ (Y.z (y_loadA 4 rfl rfl rfl Tryd.underlying52 rfl sz52) rfl) ?_
  refine Rfg_ 10 35 rfl rfl rfl rfl rfl rfl rfl rfl _ ⟨rfl, trivial⟩ (Y.z (y_loadA 5 rfl rfl rfl Tryd.underlying52 rfl sz52) rfl) ?_
  refine R_chain 8 rfl rfl ?_
  refine Sg_ 33 rfl rfl rfl rfl rfl rfl _ (y_call rfl rfl rfl cf35 (fun _ w hM => Same_any a b w (ha.below hM.below) (hb.below hM.below))) ?_
  refine R_next ⟨.inl rfl, .inl rfl, .inl rfl, .inl rfl, .inr ⟨rfl, trivial⟩, .inr ⟨rfl, trivial⟩, .inl rfl, .inl rfl, trivial⟩ ?_
  refine R_chain 11 rfl rfl ?_
  refine Sg_ 36 rfl rfl rfl rfl rfl rfl _ (y_call rfl rfl rfl cf36 (fun _ w hM => SameEvent_any a b w (ha.below hM.below) (hb.below hM.below))) ?_
  refine R_next ⟨.inl rfl, .inl rfl, .inl rfl, .inl rfl, .inl rfl, .inl rfl, .inl rfl, .inl rfl, trivial⟩ ?_
  refine Rfg_ 12 37 rfl rfl rfl rfl rfl rfl rfl rfl _ trivial (Y.z (y_as (v' := .bool true) (by simp) (y_bin rfl rfl rfl (fun _ => b_eqlb Tryd.underlying4))) rfl) ?_
  refine Rf_ 13 38 rfl rfl rfl rfl rfl _ trivial (Y.z (y_as (v' := .bool true) (by exact rfl) (y_and rfl rfl rfl)) rfl) ?_
  refine Rf_ 14 39 rfl rfl rfl rfl rfl _ trivial (Y.z (y_move rfl rfl) rfl) ?_
  refine Rfg_ 15 40 rfl rfl rfl rfl rfl rfl rfl rfl _ ⟨rfl, trivial⟩ (Y.z (y_loadA 4 rfl rfl rfl Tryd.underlying52 rfl sz52) rfl) ?_
  refine Rfg_ 16 41 rfl rfl rfl rfl rfl rfl rfl rfl _ ⟨rfl, trivial⟩ (Y.z (y_loadA 4 rfl rfl rfl Tryd.underlying52 rfl sz52) rfl) ?_
  refine R_chain 17 rfl rfl ?_
  refine Sg_ 42 rfl rfl rfl rfl rfl rfl _ (y_call rfl rfl rfl cf35 (fun _ w hM => Same_any a a w (ha.below hM.below) (ha.below hM.below))) ?_
  refine R_next ⟨.inl rfl, .inl rfl, .inl rfl, .inl rfl, .inl rfl, .inl rfl, .inl rfl, .inl rfl, trivial⟩ ?_
  refine Rf_ 18 43 rfl rfl rfl rfl rfl _ trivial (Y.z (y_as (v' := .bool true) (by rw [sameE_refl]; rfl) (y_and rfl rfl rfl)) rfl) ?_
  refine Rf_ 19 44 rfl rfl rfl rfl rfl _ trivial (Y.z (y_move rfl rfl) rfl) ?_
  refine Rfg_ 20 45 rfl rfl rfl rfl rfl rfl rfl rfl _ trivial (Y.z (y_move rfl rfl) rfl) ?_
  refine Rfg_ 21 46 rfl rfl rfl rfl rfl rfl rfl rfl _ trivial (Y.z (y_move rfl rfl) rfl) ?_
  refine Rfg_ 22 47 rfl rfl rfl rfl rfl rfl rfl rfl _ trivial (Y.z (y_as (v' := .bool true) (by simp) (y_bin rfl rfl rfl (fun _ => b_eqls))) rfl) ?_
  refine Rf_ 23 48 rfl rfl rfl rfl rfl _ trivial (Y.z (y_as (v' := .bool true) (by exact rfl) (y_and rfl rfl rfl)) rfl) ?_
  refine Rf_ 24 49 rfl rfl rfl rfl rfl _ trivial (Y.z (y_move rfl rfl) rfl) ?_
  refine Rfg_ 25 50 rfl rfl rfl rfl rfl rfl rfl rfl _ trivial (Y.z (y_move rfl rfl) rfl) ?_
  refine Rfg_ 26 51 rfl rfl rfl rfl rfl rfl rfl rfl _ trivial (Y.z (y_move rfl rfl) rfl) ?_
  refine Rfg_ 27 52 rfl rfl rfl rfl rfl rfl rfl rfl _ trivial (Y.z (y_as (v' := .bool true) (by simp) (y_bin rfl rfl rfl (fun _ => b_eqlb Tryd.underlying4))) rfl) ?_
  refine Rf_ 28 53 rfl rfl rfl rfl rfl _ trivial (Y.z (y_as (v' := .bool true) (by exact rfl) (y_and rfl rfl rfl)) rfl) ?_
  refine Rf_ 29 54 rfl rfl rfl rfl rfl _ trivial (Y.z (y_move rfl rfl) rfl) ?_
  refine R_chain 30 rfl rfl ?_
  refine S_unguard rfl rfl rfl rfl rfl ?_
  refine S_callOwn 55 55 rfl rfl rfl rfl rfl rfl rfl cf37 (fun A c => .slice A (5) c) 9 1 (5) (levels.flatMap strE) (fun w hM => Levels_any w) ?_
  intro A55 c55
  refine R_next ⟨.inl rfl, .inl rfl, .inl rfl, .inl rfl, .inl rfl, .inl rfl, .inl rfl, .inl rfl, trivial⟩ ?_
  refine R_chain 31 rfl rfl ?_
  refine S_unguard rfl rfl rfl rfl rfl ?_
  refine S_callOwn 56 56 rfl rfl rfl rfl rfl rfl rfl cf38 (fun A c => .slice A (5) c) 9 1 (5) (levels.flatMap strE) (fun w hM => LevelWords_any w) ?_
  intro A56 c56
  refine R_next ⟨.inl rfl, .inl rfl, .inl rfl, .inl rfl, .inl rfl, .inl rfl, .inl rfl, .inl rfl, trivial⟩ ?_
  refine R_chain 32 rfl rfl ?_
  refine Sg_ 57 rfl rfl rfl rfl rfl rfl _ (y_call rfl rfl rfl cf26 (fun _ w hM => EqualS_any _ _ _ _ _ _ levels levels w (owned_T (enc := strE) hM rfl (i := 55) rfl) (owned_T (enc := strE) hM rfl (i := 56) rfl) (by decide) (by decide))) ?_
  refine R_next ⟨.inl rfl, .inl rfl, .inl rfl, .inl rfl, .inl rfl, .inl rfl, .inl rfl, .inl rfl, trivial⟩ ?_
  refine Rf_ 33 58 rfl rfl rfl rfl rfl _ trivial (Y.z (y_as (v' := .bool true) (by kernel_rfl) (y_and rfl rfl rfl)) rfl) ?_
  refine Rf_ 34 59 rfl rfl rfl rfl rfl _ trivial (Y.z (y_move rfl rfl) rfl) ?_
  refine Rfg_ 35 60 rfl rfl rfl rfl rfl rfl rfl rfl _ trivial (Y.z (y_move rfl rfl) rfl) ?_
  refine Rfg_ 37 62 rfl rfl rfl rfl rfl rfl rfl rfl _ trivial (Y.z (y_move rfl rfl) rfl) ?_
  refine R_chain 36 rfl rfl ?_
  refine Sg_ 61 rfl rfl rfl rfl rfl rfl _ (y_call rfl rfl rfl cf39 (fun _ w hM => Sum_any s hs w (hT.below hM.below))) ?_
  refine R_next ⟨.inl rfl, .inl rfl, .inl rfl, .inl rfl, .inl rfl, .inl rfl, .inl rfl, .inl rfl, trivial⟩ ?_
  refine R_chain 38 rfl rfl ?_
  refine Sg_ 63 rfl rfl rfl rfl rfl rfl _ (y_call rfl rfl rfl cf40 (fun _ w hM => SumOf_any s hs w (hT.below hM.below))) ?_
  refine R_next ⟨.inl rfl, .inl rfl, .inl rfl, .inl rfl, .inl rfl, .inl rfl, .inl rfl, .inl rfl, trivial⟩ ?_
  refine Rfg_ 39 64 rfl rfl rfl rfl rfl rfl rfl rfl _ trivial (Y.z (y_as (v' := .bool true) (by simp) (y_bin rfl rfl rfl (fun _ => b_eqls))) rfl) ?_
  refine Rf_ 40 65 rfl rfl rfl rfl rfl _ trivial (Y.z (y_as (v' := .bool true) (by exact rfl) (y_and rfl rfl rfl)) rfl) ?_
  refine Rf_ 41 8 rfl rfl rfl rfl rfl _ trivial (Y.z (y_assign rfl rfl) rfl) ?_
  refine R_go (fun _ _ h => h) ?_
  refine T_ret (fun a w hF hM => hRb a w (post1 rfl rfl (fun w hM => ?_) a w hF hM))
  exact ⟨rfl, hM.below⟩
end Go.Proofs.YtoeipmepmlikcaaDoor
