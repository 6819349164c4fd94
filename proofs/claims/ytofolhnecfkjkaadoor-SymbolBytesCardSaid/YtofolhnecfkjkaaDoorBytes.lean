/- The law on bytes, walked. Condition: the table lies in memory. -/
import Derived.Test.YtofolhnecfkjkaaDoorSame
namespace Go.Proofs.YtofolhnecfkjkaaDoor
set_option linter.unusedSimpArgs false
set_option linter.unusedVariables false
set_option maxRecDepth 20000
open Go.RowKit Go.Eng
theorem two {i : Nat} (a b : List UInt8) (h : i < 2) : [str a, str b][i]? = some (str ([a, b].getD i [])) := by
  match i, h with
  | 0, _ => rfl
  | 1, _ => rfl
theorem same_ok {x : List UInt8} {o u : Tab} (ho : o.pl = readP x) (hu : u.pl = readP x) : (sameB o (if readNo x = 0 then u else Tab0) && decide (readNo x = readNo x)) = true := by
  rw [decide_eq_true rfl, Bool.and_true, sameB_iff]
  split
  · rw [ho, hu]
  · rename_i h
    rw [ho, readP, if_neg h]; rfl
theorem SymbolBytes_any (t : Tab) (s : List UInt8) (w : World) (hok : t.Ok w) :
    Calls Tryd.prog 5 #[.agg #[str t.id, .int .i64 t.size, .slice t.fi.A t.fi.q t.fi.c, .slice t.fu.A t.fu.q t.fu.c, .slice t.ro.A t.ro.q t.ro.c, .slice t.ca.A t.ca.q t.ca.c], str s] w fun e w' => e = .returned (.bool true) ∧ Below w.heap.size w w' := by
  refine enter_args (args := [.agg #[str t.id, .int .i64 t.size, .slice t.fi.A t.fi.q t.fi.c, .slice t.fu.A t.fu.q t.fu.c, .slice t.ro.A t.ro.q t.ro.c, .slice t.ca.A t.ca.q t.ca.c], str s]) (F := _) Tryd.func5 rfl Tryd.ntmps5 rfl rfl ?_
  intro Rb hRb hRn
  refine T_seq ?_
  refine T_region ?_
  refine S_box 2 2 rfl rfl rfl rfl rfl ?_
  intro b2
  refine S_ 4 rfl rfl rfl _ (y_assign rfl rfl) ?_
  refine S_go (fun _ _ h => h) ?_
  refine T_seq ?_
  refine T_region ?_
  refine S_ 15 rfl rfl rfl _ (y_loadA 2 rfl rfl rfl Tryd.underlying27 rfl sz27) ?_
  refine S_ 16 rfl rfl rfl _ (y_call rfl rfl rfl cf14 (fun _ w hM => TableFault_any t w (hok.below hM.below))) ?_
  refine S_ 5 rfl rfl rfl _ (y_assign rfl rfl) ?_
  refine S_go (fun _ _ h => h) ?_
  refine T_seq ?_
  refine T_region ?_
  refine S_ 6 rfl rfl rfl _ (y_assign rfl rfl) ?_
  refine S_go (fun _ _ h => h) ?_
  refine T_seq ?_
  refine T_seq ?_
  refine T_region ?_
  refine S_ 17 rfl rfl rfl _ (y_move rfl rfl) ?_
  refine S_ 18 rfl rfl rfl _ (y_bin rfl rfl rfl (fun _ => b_eql)) ?_
  refine S_go (fun _ _ h => h) ?_
  refine T_cond rfl (fun h18 => ?_) (fun h18 => ?_)
  · try simp only [decide_eq_true_eq, decide_eq_false_iff_not, Bool.or_eq_true, Bool.or_eq_false_iff, Bool.and_eq_true, Bool.and_eq_false_iff, Bool.not_eq_true', Bool.not_eq_false', Bool.not_eq_true, Bool.not_eq_false, Bool.not_true, Bool.not_false, Int.not_lt, Int.not_le, not_or, not_and, Classical.not_not] at h18
    have e1 : writeNo t = (if (1000000 : Int) < (tabB t).length then 4 else 0) := fst_b h18 rfl
    refine T_seq ?_
    refine T_region ?_
    refine S_ 19 rfl rfl rfl _ (y_loadA 2 rfl rfl rfl Tryd.underlying27 rfl sz27) ?_
    refine S_ 20 rfl rfl rfl _ (y_call rfl rfl rfl cf20 (fun _ w hM => TableBytes_any t w (hok.below hM.below) h18)) ?_
    refine S_ 6 rfl rfl rfl _ (y_assign rfl rfl) ?_
    refine S_go (fun _ _ h => h) ?_
    refine T_region ?_
    refine S_ 21 rfl rfl rfl _ (y_move rfl rfl) ?_
    refine S_ 22 rfl rfl rfl _ (y_call rfl rfl rfl cf21 (fun _ w _ => long_any _ w)) ?_
    refine S_ 5 rfl rfl rfl _ (y_assign rfl rfl) ?_
    refine S_go (fun _ _ h => h) ?_
    refine T_seq ?_
    refine T_region ?_
    refine S_ 24 rfl rfl rfl _ (y_loadA 2 rfl rfl rfl Tryd.underlying27 rfl sz27) ?_
    refine S_ 25 rfl rfl rfl _ (y_call rfl rfl rfl cf22 (fun _ w hM => Write_any t w (hok.below hM.below))) ?_
    refine S_ 23 rfl rfl rfl _ (y_move rfl rfl) ?_
    refine S_ 26 rfl rfl rfl _ (y_extract rfl rfl rfl) ?_
    refine S_ 27 rfl rfl rfl _ (y_extract rfl rfl rfl) ?_
    refine S_ 7 rfl rfl rfl _ (y_assign rfl rfl) ?_
    refine S_ 8 rfl rfl rfl _ (y_assign rfl rfl) ?_
    refine S_go (fun _ _ h => h) ?_
    refine T_seq ?_
    refine T_seq ?_
    refine T_region ?_
    refine S_ 28 rfl rfl rfl _ (y_move rfl rfl) ?_
    refine S_ 29 rfl rfl rfl _ (y_move rfl rfl) ?_
    refine S_ 30 rfl rfl rfl _ (y_move rfl rfl) ?_
    refine S_ 31 rfl rfl rfl _ (y_move rfl rfl) ?_
    refine S_ 32 rfl rfl rfl _ (y_call rfl rfl rfl cf23 (fun _ w _ => told_any _ _ _ _ w)) ?_
    refine S_ 33 rfl rfl rfl _ (y_not rfl rfl) ?_
    refine S_go (fun _ _ h => h) ?_
    refine T_cond rfl (fun h33 => ?_) (fun h33 => ?_)
    · skip
      exfalso
      revert h33
      rw [writeS, e1]
      simp [h18]
    · skip
      refine T_skip_go (fun _ _ h => h) ?_
      refine T_seq ?_
      refine T_seq ?_
      refine T_region ?_
      refine S_ 34 rfl rfl rfl _ (y_move rfl rfl) ?_
      refine S_ 35 rfl rfl rfl _ (y_move rfl rfl) ?_
      refine S_buildSlice 36 36 rfl rfl rfl rfl rfl Tryd.underlying22 inf9 rfl (by decide) (by decide) rfl rfl (by decide) rfl (_) rfl ?_
      intro b36
      refine S_ 37 rfl rfl rfl _ (y_len_slice rfl rfl Tryd.underlying22) ?_
      refine S_ 38 rfl rfl rfl _ (y_move rfl rfl) ?_
      refine S_go (fun _ _ h => h) ?_
      refine T_block ?_
      refine T_loopK1 (kf := [(4, 4), (10, 14), (38, 58)]) (kl := [(4, 4), (10, 14), (38, 58)]) (fun (i : Nat) => [(38, true, .int .i64 (i : Int))]) (fun (i : Nat) => []) (fun (i : Nat) => i ≤ 2) (fun (i : Nat) => 2 - i) 0 (by repeat (first | exact kf_nil | (apply kf_in; focus rfl) | (apply kf_out; focus rfl))) (by repeat (first | exact kl_nil | exact kl_rest (by assumption) rfl | (apply kl_in; focus rfl) | (apply kl_out; focus rfl))) ?_ ?_ ?_ ?_
      · omega
      · exact ⟨rfl, trivial⟩
      · exact trivial
      rintro i hp1
      refine T_seq ?_
      refine T_region ?_
      refine S_ 39 rfl rfl rfl _ (y_bin rfl rfl rfl (fun _ => b_lss)) ?_
      refine S_go (fun _ _ h => h) ?_
      refine T_seq ?_
      refine T_cond rfl (fun h39 => ?_) (fun h39 => ?_)
      · try simp only [decide_eq_true_eq, decide_eq_false_iff_not, Bool.or_eq_true, Bool.or_eq_false_iff, Bool.and_eq_true, Bool.and_eq_false_iff, Bool.not_eq_true', Bool.not_eq_false', Bool.not_eq_true, Bool.not_eq_false, Bool.not_true, Bool.not_false, Int.not_lt, Int.not_le, not_or, not_and, Classical.not_not] at h39
        refine T_skip_go (fun _ _ h => h) ?_
        refine T_seq ?_
        refine T_block ?_
        refine T_seq ?_
        refine T_region ?_
        refine S_ 40 rfl rfl rfl _ (y_indexOwn 36 rfl rfl rfl rfl Tryd.underlying22 sz9 (fun _ => by omega)) ?_
        refine S_ 41 rfl rfl rfl _ (y_load_own 36 rfl rfl rfl (fun _ => by omega) (fun _ => two _ _ (by omega)) Tryd.underlying9 rfl) ?_
        generalize List.getD _ i [] = x
        refine S_ 10 rfl rfl rfl _ (y_assign rfl rfl) ?_
        refine S_go (fun _ _ h => h) ?_
        refine T_seq ?_
        refine T_region ?_
        refine S_ 43 rfl rfl rfl _ (y_move rfl rfl) ?_
        refine S_callN 44 [] [(908, 808), (909, 809), (910, 810), (911, 811)] (X := OT) rfl rfl rfl rfl rfl rfl rfl cf24 rfl (fun z => .tuple #[z.tab.val, .int .i64 (readNo x)]) (fun z => z.tab.pl = readP x ∧ z.small) (fun z => [(908, rF z.fA z.fc z.fl), (909, rU z.uA z.uc z.ul), (910, rR z.rA z.rc z.rl), (911, rC z.cA z.cc z.cl)]) (fun _ => rfl) (fun _ => rfl) (fun K1 hK1 w hM => Read_any hK1 x w hM) ?_
        intro o ho
        refine S_ 42 rfl rfl rfl _ (y_move rfl rfl) ?_
        refine S_ 45 rfl rfl rfl _ (y_extract rfl rfl rfl) ?_
        refine S_ 46 rfl rfl rfl _ (y_extract rfl rfl rfl) ?_
        refine S_alloc 11 11 rfl rfl rfl rfl z27 ?_
        intro b11
        refine S_store 11 rfl rfl rfl rfl rfl rfl sz27 rfl rfl ?_
        refine S_ 12 rfl rfl rfl _ (y_assign rfl rfl) ?_
        refine S_go (fun _ _ h => h) ?_
        refine T_seq ?_
        refine T_region ?_
        refine S_ 48 rfl rfl rfl _ (y_move rfl rfl) ?_
        refine S_callN 49 [] [(908, 708), (909, 709), (910, 710), (911, 711)] (X := OT) rfl rfl rfl rfl rfl rfl rfl cf25 rfl (fun z => .tuple #[z.tab.val, .int .i64 (readNo x)]) (fun z => z.tab.pl = readP x ∧ z.small) (fun z => [(908, rF z.fA z.fc z.fl), (909, rU z.uA z.uc z.ul), (910, rR z.rA z.rc z.rl), (911, rC z.cA z.cc z.cl)]) (fun _ => rfl) (fun _ => rfl) (fun K1 hK1 w hM => TableRead_any hK1 x w hM) ?_
        intro u hu
        refine S_ 47 rfl rfl rfl _ (y_move rfl rfl) ?_
        refine S_ 50 rfl rfl rfl _ (y_extract rfl rfl rfl) ?_
        refine S_ 51 rfl rfl rfl _ (y_extract rfl rfl rfl) ?_
        refine S_alloc 13 13 rfl rfl rfl rfl z27 ?_
        intro b13
        refine S_store 13 rfl rfl rfl rfl rfl rfl sz27 rfl rfl ?_
        refine S_ 14 rfl rfl rfl _ (y_assign rfl rfl) ?_
        refine S_go (fun _ _ h => h) ?_
        refine T_seq ?_
        refine T_region ?_
        refine S_ 52 rfl rfl rfl _ (y_loadA 11 rfl rfl rfl Tryd.underlying27 rfl sz27) ?_
        refine S_ 53 rfl rfl rfl _ (y_move rfl rfl) ?_
        refine S_ 54 rfl rfl rfl _ (y_loadA 13 rfl rfl rfl Tryd.underlying27 rfl sz27) ?_
        refine S_ 55 rfl rfl rfl _ (y_move rfl rfl) ?_
        refine S_ 56 rfl rfl rfl _ (y_call rfl rfl rfl cf26 (fun _ w hM => table_any o.tab u.tab _ _ w (OT.okI 808 hM ho.2 rfl rfl rfl rfl) (OT.okI 708 hM hu.2 rfl rfl rfl rfl))) ?_
        refine S_ 57 rfl rfl rfl _ (y_not rfl rfl) ?_
        refine S_go (fun _ _ h => h) ?_
        refine T_cond rfl (fun h57 => ?_) (fun h57 => ?_)
        · skip
          rw [same_ok ho.1 hu.1] at h57; cases h57
        · skip
          refine T_skip_go (fun _ _ h => h) ?_
          refine T_region ?_
          refine S_ 58 rfl rfl rfl _ (y_bin rfl rfl rfl (fun hg => b_add (by omega))) ?_
          refine S_ 38 rfl rfl rfl _ (y_move rfl rfl) ?_
          refine S_nil (nextK1 (kf := [(4, 4), (10, 14), (38, 58)]) (kl := [(4, 4), (10, 14), (38, 58)]) (i + 1) (by repeat (first | exact kf_nil | (apply kf_in; focus rfl) | (apply kf_out; focus rfl))) (by repeat (first | exact kl_none | exact kl_tail (by assumption) rfl (by repeat (first | exact ti_refl | (apply ti_cons; focus rfl))) | refine kl_cons rfl rfl ?_)) ?_ ?_ ?_ ?_)
          · omega
          · omega
          · exact ⟨rfl, trivial⟩
          · exact trivial
      · try simp only [decide_eq_true_eq, decide_eq_false_iff_not, Bool.or_eq_true, Bool.or_eq_false_iff, Bool.and_eq_true, Bool.and_eq_false_iff, Bool.not_eq_true', Bool.not_eq_false', Bool.not_eq_true, Bool.not_eq_false, Bool.not_true, Bool.not_false, Int.not_lt, Int.not_le, not_or, not_and, Classical.not_not] at h39
        refine T_exit_go (fun _ _ h => h) ?_
        refine T_seq ?_
        refine T_region ?_
        refine S_ 4 rfl rfl rfl _ (y_assign rfl rfl) ?_
        refine S_go (fun _ _ h => h) ?_
        refine T_ret (fun a w hF hM => hRb a w (post1 rfl rfl (fun w hM => ?_) a w hF hM))
        exact ⟨rfl, hM.below⟩
  · try simp only [decide_eq_true_eq, decide_eq_false_iff_not, Bool.or_eq_true, Bool.or_eq_false_iff, Bool.and_eq_true, Bool.and_eq_false_iff, Bool.not_eq_true', Bool.not_eq_false', Bool.not_eq_true, Bool.not_eq_false, Bool.not_true, Bool.not_false, Int.not_lt, Int.not_le, not_or, not_and, Classical.not_not] at h18
    have e1 : writeNo t = tabNo t := fst_a rfl h18
    refine T_skip_go (fun _ _ h => h) ?_
    refine T_seq ?_
    refine T_region ?_
    refine S_ 24 rfl rfl rfl _ (y_loadA 2 rfl rfl rfl Tryd.underlying27 rfl sz27) ?_
    refine S_ 25 rfl rfl rfl _ (y_call rfl rfl rfl cf22 (fun _ w hM => Write_any t w (hok.below hM.below))) ?_
    refine S_ 23 rfl rfl rfl _ (y_move rfl rfl) ?_
    refine S_ 26 rfl rfl rfl _ (y_extract rfl rfl rfl) ?_
    refine S_ 27 rfl rfl rfl _ (y_extract rfl rfl rfl) ?_
    refine S_ 7 rfl rfl rfl _ (y_assign rfl rfl) ?_
    refine S_ 8 rfl rfl rfl _ (y_assign rfl rfl) ?_
    refine S_go (fun _ _ h => h) ?_
    refine T_seq ?_
    refine T_seq ?_
    refine T_region ?_
    refine S_ 28 rfl rfl rfl _ (y_move rfl rfl) ?_
    refine S_ 29 rfl rfl rfl _ (y_move rfl rfl) ?_
    refine S_ 30 rfl rfl rfl _ (y_move rfl rfl) ?_
    refine S_ 31 rfl rfl rfl _ (y_move rfl rfl) ?_
    refine S_ 32 rfl rfl rfl _ (y_call rfl rfl rfl cf23 (fun _ w _ => told_any _ _ _ _ w)) ?_
    refine S_ 33 rfl rfl rfl _ (y_not rfl rfl) ?_
    refine S_go (fun _ _ h => h) ?_
    refine T_cond rfl (fun h33 => ?_) (fun h33 => ?_)
    · skip
      exfalso
      revert h33
      rw [writeS, e1]
      simp [h18]
    · skip
      refine T_skip_go (fun _ _ h => h) ?_
      refine T_seq ?_
      refine T_seq ?_
      refine T_region ?_
      refine S_ 34 rfl rfl rfl _ (y_move rfl rfl) ?_
      refine S_ 35 rfl rfl rfl _ (y_move rfl rfl) ?_
      refine S_buildSlice 36 36 rfl rfl rfl rfl rfl Tryd.underlying22 inf9 rfl (by decide) (by decide) rfl rfl (by decide) rfl (_) rfl ?_
      intro b36
      refine S_ 37 rfl rfl rfl _ (y_len_slice rfl rfl Tryd.underlying22) ?_
      refine S_ 38 rfl rfl rfl _ (y_move rfl rfl) ?_
      refine S_go (fun _ _ h => h) ?_
      refine T_block ?_
      refine T_loopK1 (kf := [(4, 4), (10, 14), (38, 58)]) (kl := [(4, 4), (10, 14), (38, 58)]) (fun (i : Nat) => [(38, true, .int .i64 (i : Int))]) (fun (i : Nat) => []) (fun (i : Nat) => i ≤ 2) (fun (i : Nat) => 2 - i) 0 (by repeat (first | exact kf_nil | (apply kf_in; focus rfl) | (apply kf_out; focus rfl))) (by repeat (first | exact kl_nil | exact kl_rest (by assumption) rfl | (apply kl_in; focus rfl) | (apply kl_out; focus rfl))) ?_ ?_ ?_ ?_
      · omega
      · exact ⟨rfl, trivial⟩
      · exact trivial
      rintro i hp1
      refine T_seq ?_
      refine T_region ?_
      refine S_ 39 rfl rfl rfl _ (y_bin rfl rfl rfl (fun _ => b_lss)) ?_
      refine S_go (fun _ _ h => h) ?_
      refine T_seq ?_
      refine T_cond rfl (fun h39 => ?_) (fun h39 => ?_)
      · try simp only [decide_eq_true_eq, decide_eq_false_iff_not, Bool.or_eq_true, Bool.or_eq_false_iff, Bool.and_eq_true, Bool.and_eq_false_iff, Bool.not_eq_true', Bool.not_eq_false', Bool.not_eq_true, Bool.not_eq_false, Bool.not_true, Bool.not_false, Int.not_lt, Int.not_le, not_or, not_and, Classical.not_not] at h39
        refine T_skip_go (fun _ _ h => h) ?_
        refine T_seq ?_
        refine T_block ?_
        refine T_seq ?_
        refine T_region ?_
        refine S_ 40 rfl rfl rfl _ (y_indexOwn 36 rfl rfl rfl rfl Tryd.underlying22 sz9 (fun _ => by omega)) ?_
        refine S_ 41 rfl rfl rfl _ (y_load_own 36 rfl rfl rfl (fun _ => by omega) (fun _ => two _ _ (by omega)) Tryd.underlying9 rfl) ?_
        generalize List.getD _ i [] = x
        refine S_ 10 rfl rfl rfl _ (y_assign rfl rfl) ?_
        refine S_go (fun _ _ h => h) ?_
        refine T_seq ?_
        refine T_region ?_
        refine S_ 43 rfl rfl rfl _ (y_move rfl rfl) ?_
        refine S_callN 44 [] [(908, 808), (909, 809), (910, 810), (911, 811)] (X := OT) rfl rfl rfl rfl rfl rfl rfl cf24 rfl (fun z => .tuple #[z.tab.val, .int .i64 (readNo x)]) (fun z => z.tab.pl = readP x ∧ z.small) (fun z => [(908, rF z.fA z.fc z.fl), (909, rU z.uA z.uc z.ul), (910, rR z.rA z.rc z.rl), (911, rC z.cA z.cc z.cl)]) (fun _ => rfl) (fun _ => rfl) (fun K1 hK1 w hM => Read_any hK1 x w hM) ?_
        intro o ho
        refine S_ 42 rfl rfl rfl _ (y_move rfl rfl) ?_
        refine S_ 45 rfl rfl rfl _ (y_extract rfl rfl rfl) ?_
        refine S_ 46 rfl rfl rfl _ (y_extract rfl rfl rfl) ?_
        refine S_alloc 11 11 rfl rfl rfl rfl z27 ?_
        intro b11
        refine S_store 11 rfl rfl rfl rfl rfl rfl sz27 rfl rfl ?_
        refine S_ 12 rfl rfl rfl _ (y_assign rfl rfl) ?_
        refine S_go (fun _ _ h => h) ?_
        refine T_seq ?_
        refine T_region ?_
        refine S_ 48 rfl rfl rfl _ (y_move rfl rfl) ?_
        refine S_callN 49 [] [(908, 708), (909, 709), (910, 710), (911, 711)] (X := OT) rfl rfl rfl rfl rfl rfl rfl cf25 rfl (fun z => .tuple #[z.tab.val, .int .i64 (readNo x)]) (fun z => z.tab.pl = readP x ∧ z.small) (fun z => [(908, rF z.fA z.fc z.fl), (909, rU z.uA z.uc z.ul), (910, rR z.rA z.rc z.rl), (911, rC z.cA z.cc z.cl)]) (fun _ => rfl) (fun _ => rfl) (fun K1 hK1 w hM => TableRead_any hK1 x w hM) ?_
        intro u hu
        refine S_ 47 rfl rfl rfl _ (y_move rfl rfl) ?_
        refine S_ 50 rfl rfl rfl _ (y_extract rfl rfl rfl) ?_
        refine S_ 51 rfl rfl rfl _ (y_extract rfl rfl rfl) ?_
        refine S_alloc 13 13 rfl rfl rfl rfl z27 ?_
        intro b13
        refine S_store 13 rfl rfl rfl rfl rfl rfl sz27 rfl rfl ?_
        refine S_ 14 rfl rfl rfl _ (y_assign rfl rfl) ?_
        refine S_go (fun _ _ h => h) ?_
        refine T_seq ?_
        refine T_region ?_
        refine S_ 52 rfl rfl rfl _ (y_loadA 11 rfl rfl rfl Tryd.underlying27 rfl sz27) ?_
        refine S_ 53 rfl rfl rfl _ (y_move rfl rfl) ?_
        refine S_ 54 rfl rfl rfl _ (y_loadA 13 rfl rfl rfl Tryd.underlying27 rfl sz27) ?_
        refine S_ 55 rfl rfl rfl _ (y_move rfl rfl) ?_
        refine S_ 56 rfl rfl rfl _ (y_call rfl rfl rfl cf26 (fun _ w hM => table_any o.tab u.tab _ _ w (OT.okI 808 hM ho.2 rfl rfl rfl rfl) (OT.okI 708 hM hu.2 rfl rfl rfl rfl))) ?_
        refine S_ 57 rfl rfl rfl _ (y_not rfl rfl) ?_
        refine S_go (fun _ _ h => h) ?_
        refine T_cond rfl (fun h57 => ?_) (fun h57 => ?_)
        · skip
          rw [same_ok ho.1 hu.1] at h57; cases h57
        · skip
          refine T_skip_go (fun _ _ h => h) ?_
          refine T_region ?_
          refine S_ 58 rfl rfl rfl _ (y_bin rfl rfl rfl (fun hg => b_add (by omega))) ?_
          refine S_ 38 rfl rfl rfl _ (y_move rfl rfl) ?_
          refine S_nil (nextK1 (kf := [(4, 4), (10, 14), (38, 58)]) (kl := [(4, 4), (10, 14), (38, 58)]) (i + 1) (by repeat (first | exact kf_nil | (apply kf_in; focus rfl) | (apply kf_out; focus rfl))) (by repeat (first | exact kl_none | exact kl_tail (by assumption) rfl (by repeat (first | exact ti_refl | (apply ti_cons; focus rfl))) | refine kl_cons rfl rfl ?_)) ?_ ?_ ?_ ?_)
          · omega
          · omega
          · exact ⟨rfl, trivial⟩
          · exact trivial
      · try simp only [decide_eq_true_eq, decide_eq_false_iff_not, Bool.or_eq_true, Bool.or_eq_false_iff, Bool.and_eq_true, Bool.and_eq_false_iff, Bool.not_eq_true', Bool.not_eq_false', Bool.not_eq_true, Bool.not_eq_false, Bool.not_true, Bool.not_false, Int.not_lt, Int.not_le, not_or, not_and, Classical.not_not] at h39
        refine T_exit_go (fun _ _ h => h) ?_
        refine T_seq ?_
        refine T_region ?_
        refine S_ 4 rfl rfl rfl _ (y_assign rfl rfl) ?_
        refine S_go (fun _ _ h => h) ?_
        refine T_ret (fun a w hF hM => hRb a w (post1 rfl rfl (fun w hM => ?_) a w hF hM))
        exact ⟨rfl, hM.below⟩
end Go.Proofs.YtofolhnecfkjkaaDoor
