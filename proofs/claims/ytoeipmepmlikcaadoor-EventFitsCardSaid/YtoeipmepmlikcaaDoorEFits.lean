/- The law EventFits walked. Conditions: those of each theorem. -/
import Derived.Test.YtoeipmepmlikcaaDoorEFitd
import Derived.Test.YtoeipmepmlikcaaDoorEChk
namespace Go.Proofs.YtoeipmepmlikcaaDoor
set_option linter.unusedSimpArgs false
set_option linter.unusedVariables false
set_option maxRecDepth 20000
open Go.RowKit Go.Eng
def wantE (no : Int) (u : Evt) : Evt := if no ≠ 0 then evZ else u
theorem one_any (v u : Evt) (x no : Int) (w : World) (hv : v.Ok w) (hu : u.Ok w) :
    Calls Tryd.prog 55 #[v.val, .int .i64 x, u.val, .int .i64 no] w fun e w' => e = .returned (.bool (sameE v (wantE no u) && decide (x = no))) ∧ Below w.heap.size w w' := by
  refine enter_args (args := [.agg #[str v.id, .int .i64 v.at_, .int .i64 v.lv, .slice v.fa.A v.fa.q v.fa.c, .slice v.ta.A v.ta.q v.ta.c, .slice v.cr.A v.cr.q v.cr.c, str v.rel, str v.us, .int .i64 v.wt], .int .i64 x, .agg #[str u.id, .int .i64 u.at_, .int .i64 u.lv, .slice u.fa.A u.fa.q u.fa.c, .slice u.ta.A u.ta.q u.ta.c, .slice u.cr.A u.cr.q u.cr.c, str u.rel, str u.us, .int .i64 u.wt], .int .i64 no]) (F := _) Tryd.func55 rfl Tryd.ntmps55 rfl rfl ?_
  intro Rb hRb hRn
  refine T_seq ?_
  refine T_region ?_
  refine S_box 4 4 rfl rfl rfl rfl rfl ?_
  intro b4
  refine S_box 6 6 rfl rfl rfl rfl rfl ?_
  intro b6
  refine S_ 8 rfl rfl rfl _ (y_assign rfl rfl) ?_
  refine S_go (fun _ _ h => h) ?_
  refine T_seq ?_
  refine T_seq ?_
  refine T_region ?_
  refine S_ 9 rfl rfl rfl _ (y_move rfl rfl) ?_
  refine S_ 10 rfl rfl rfl _ (y_bin rfl rfl rfl (fun _ => b_neq)) ?_
  refine S_go (fun _ _ h => h) ?_
  refine T_cond rfl (fun h10 => ?_) (fun h10 => ?_)
  · try simp only [decide_eq_true_eq, decide_eq_false_iff_not, Bool.or_eq_true, Bool.or_eq_false_iff, Bool.and_eq_true, Bool.and_eq_false_iff, Bool.not_eq_true', Bool.not_eq_false', Bool.not_eq_true, Bool.not_eq_false, Bool.not_true, Bool.not_false, Int.not_lt, Int.not_le, not_or, not_and, Classical.not_not] at h10
    refine T_region ?_
    refine S_ 11 rfl rfl rfl _ (y_build (zv := .agg #[.string ⟨#[]⟩, .int .i64 0, .int .i64 0, .slice none 0 0, .slice none 0 0, .slice none 0 0, .string ⟨#[]⟩, .string ⟨#[]⟩, .int .i64 0]) (pl := [(0, 1), (1, 1), (2, 1), (3, 1), (4, 1), (5, 1), (6, 1), (7, 1), (8, 1)]) (out := [.string ⟨#[]⟩, .int .i64 0, .int .i64 0, .slice none 0 0, .slice none 0 0, .slice none 0 0, .string ⟨#[]⟩, .string ⟨#[]⟩, .int .i64 0]) rfl rfl Tryd.underlying52 z52 (by kernel_rfl) rfl) ?_
    refine S_store 6 rfl rfl rfl rfl rfl rfl sz52 rfl rfl ?_
    refine S_go (fun _ _ h => h) ?_
    refine T_seq ?_
    refine T_region ?_
    refine S_ 12 rfl rfl rfl _ (y_loadA 4 rfl rfl rfl Tryd.underlying52 rfl sz52) ?_
    refine S_ 13 rfl rfl rfl _ (y_loadA 6 rfl rfl rfl Tryd.underlying52 rfl sz52) ?_
    refine S_ 14 rfl rfl rfl _ (y_call rfl rfl rfl cf36 (fun _ w hM => SameEvent_any v evZ w (hv.below hM.below) (evZ_ok w))) ?_
    refine S_ 15 rfl rfl rfl _ (y_move rfl rfl) ?_
    refine Sg_ 16 rfl rfl rfl rfl rfl rfl _ (y_move rfl rfl) ?_
    refine Sg_ 17 rfl rfl rfl rfl rfl rfl _ (y_move rfl rfl) ?_
    refine Sg_ 18 rfl rfl rfl rfl rfl rfl _ (y_bin rfl rfl rfl (fun _ => b_eql)) ?_
    refine S_ 19 rfl rfl rfl _ (y_and rfl rfl rfl) ?_
    refine S_ 8 rfl rfl rfl _ (y_assign rfl rfl) ?_
    refine S_go (fun _ _ h => h) ?_
    refine T_ret (fun a w hF hM => hRb a w (post1 rfl rfl (fun w hM => ?_) a w hF hM))
    exact ⟨by rw [wantE, if_pos h10], hM.below⟩
  · try simp only [decide_eq_true_eq, decide_eq_false_iff_not, Bool.or_eq_true, Bool.or_eq_false_iff, Bool.and_eq_true, Bool.and_eq_false_iff, Bool.not_eq_true', Bool.not_eq_false', Bool.not_eq_true, Bool.not_eq_false, Bool.not_true, Bool.not_false, Int.not_lt, Int.not_le, not_or, not_and, Classical.not_not] at h10
    refine T_skip_go (fun _ _ h => h) ?_
    refine T_seq ?_
    refine T_region ?_
    refine S_ 12 rfl rfl rfl _ (y_loadA 4 rfl rfl rfl Tryd.underlying52 rfl sz52) ?_
    refine S_ 13 rfl rfl rfl _ (y_loadA 6 rfl rfl rfl Tryd.underlying52 rfl sz52) ?_
    refine S_ 14 rfl rfl rfl _ (y_call rfl rfl rfl cf36 (fun _ w hM => SameEvent_any v u w (hv.below hM.below) (hu.below hM.below))) ?_
    refine S_ 15 rfl rfl rfl _ (y_move rfl rfl) ?_
    refine Sg_ 16 rfl rfl rfl rfl rfl rfl _ (y_move rfl rfl) ?_
    refine Sg_ 17 rfl rfl rfl rfl rfl rfl _ (y_move rfl rfl) ?_
    refine Sg_ 18 rfl rfl rfl rfl rfl rfl _ (y_bin rfl rfl rfl (fun _ => b_eql)) ?_
    refine S_ 19 rfl rfl rfl _ (y_and rfl rfl rfl) ?_
    refine S_ 8 rfl rfl rfl _ (y_assign rfl rfl) ?_
    refine S_go (fun _ _ h => h) ?_
    refine T_ret (fun a w hF hM => hRb a w (post1 rfl rfl (fun w hM => ?_) a w hF hM))
    exact ⟨by rw [wantE, if_neg (by simpa using h10)], hM.below⟩
def intEnc (n : Int) : List Value := [.int .i64 n]
theorem first2_any (A : Option Addr) (c : Nat) (m k : Int) (w : World) (hl : SlT intEnc 1 w A 2 [m, k]) : Calls Tryd.prog 51 #[.slice A 2 c] w fun e w' => e = .returned (.int .i64 (fst m k)) ∧ Below w.heap.size w w' := by
  refine enter_args (args := [.slice A 2 c]) (F := _) Tryd.func51 rfl Tryd.ntmps51 rfl rfl ?_
  intro Rb hRb hRn
  refine T_seq ?_
  refine T_region ?_
  refine S_ 2 rfl rfl rfl _ (y_assign rfl rfl) ?_
  refine S_go (fun _ _ h => h) ?_
  refine T_seq ?_
  refine T_seq ?_
  refine T_region ?_
  refine S_ 5 rfl rfl rfl _ (y_move rfl rfl) ?_
  refine S_ 6 rfl rfl rfl _ (y_len_slice rfl rfl Tryd.underlying158) ?_
  refine S_ 7 rfl rfl rfl _ (y_move rfl rfl) ?_
  refine S_go (fun _ _ h => h) ?_
  refine T_block ?_
  refine T_loopK1 (kf := [(2, 2), (4, 4), (7, 14)]) (kl := [(2, 2), (4, 4), (7, 14)]) (fun (i : Nat) => [(7, true, .int .i64 (i : Int))]) (fun (i : Nat) => []) (fun (i : Nat) => i ≤ 2 ∧ fst m k = (([m, k].drop i).find? (fun x => decide (x ≠ 0))).getD 0) (fun (i : Nat) => 2 - i) 0 (by repeat (first | exact kf_nil | (apply kf_in; focus rfl) | (apply kf_out; focus rfl))) (by repeat (first | exact kl_nil | exact kl_rest (by assumption) rfl | (apply kl_in; focus rfl) | (apply kl_out; focus rfl))) ?_ ?_ ?_ ?_
  · exact ⟨by omega, by unfold fst; by_cases hm : m = 0 <;> by_cases hk : k = 0 <;> simp [hm, hk]⟩
  · exact ⟨rfl, trivial⟩
  · exact trivial
  rintro i ⟨hp1, hp2⟩
  refine T_seq ?_
  refine T_region ?_
  refine S_ 8 rfl rfl rfl _ (y_bin rfl rfl rfl (fun _ => b_lss)) ?_
  refine S_go (fun _ _ h => h) ?_
  refine T_seq ?_
  refine T_cond rfl (fun h8 => ?_) (fun h8 => ?_)
  · try simp only [decide_eq_true_eq, decide_eq_false_iff_not, Bool.or_eq_true, Bool.or_eq_false_iff, Bool.and_eq_true, Bool.and_eq_false_iff, Bool.not_eq_true', Bool.not_eq_false', Bool.not_eq_true, Bool.not_eq_false, Bool.not_true, Bool.not_false, Int.not_lt, Int.not_le, not_or, not_and, Classical.not_not] at h8
    obtain ⟨x, hx1, hx2⟩ := hl.at (i := i) (by omega)
    refine T_skip_go (fun _ _ h => h) ?_
    refine T_seq ?_
    refine T_block ?_
    refine T_seq ?_
    refine T_region ?_
    refine S_ 9 rfl rfl rfl _ (y_indexAddr rfl rfl rfl Tryd.underlying158 sz23 (fun hg => hl.isSome (by omega)) (fun _ => by omega)) ?_
    refine S_ 10 rfl rfl rfl _ (y_loadT1 (val := (fun n : Int => Value.int .i64 n)) rfl rfl hl (fun _ => hx1) Tryd.underlying23 rfl) ?_
    refine S_ 4 rfl rfl rfl _ (y_assign rfl rfl) ?_
    refine S_go (fun _ _ h => h) ?_
    refine T_seq ?_
    refine T_region ?_
    refine S_ 11 rfl rfl rfl _ (y_move rfl rfl) ?_
    refine S_ 12 rfl rfl rfl _ (y_bin rfl rfl rfl (fun _ => b_neq)) ?_
    refine S_go (fun _ _ h => h) ?_
    refine T_cond rfl (fun h12 => ?_) (fun h12 => ?_)
    · try simp only [decide_eq_true_eq, decide_eq_false_iff_not, Bool.or_eq_true, Bool.or_eq_false_iff, Bool.and_eq_true, Bool.and_eq_false_iff, Bool.not_eq_true', Bool.not_eq_false', Bool.not_eq_true, Bool.not_eq_false, Bool.not_true, Bool.not_false, Int.not_lt, Int.not_le, not_or, not_and, Classical.not_not] at h12
      refine T_seq ?_
      refine T_region ?_
      refine S_ 13 rfl rfl rfl _ (y_move rfl rfl) ?_
      refine S_ 2 rfl rfl rfl _ (y_assign rfl rfl) ?_
      refine S_go (fun _ _ h => h) ?_
      refine T_ret (fun a w hF hM => hRb a w (post1 rfl rfl (fun w hM => ?_) a w hF hM))
      exact ⟨by rw [hp2, hx2, List.find?_cons_of_pos (by simpa using h12)]; rfl, hM.below⟩
    · try simp only [decide_eq_true_eq, decide_eq_false_iff_not, Bool.or_eq_true, Bool.or_eq_false_iff, Bool.and_eq_true, Bool.and_eq_false_iff, Bool.not_eq_true', Bool.not_eq_false', Bool.not_eq_true, Bool.not_eq_false, Bool.not_true, Bool.not_false, Int.not_lt, Int.not_le, not_or, not_and, Classical.not_not] at h12
      refine T_skip_go (fun _ _ h => h) ?_
      refine T_region ?_
      refine S_ 14 rfl rfl rfl _ (y_bin rfl rfl rfl (fun hg => b_add (by omega))) ?_
      refine S_ 7 rfl rfl rfl _ (y_move rfl rfl) ?_
      refine S_nil (nextK1 (kf := [(2, 2), (4, 4), (7, 14)]) (kl := [(2, 2), (4, 4), (7, 14)]) (i + 1) (by repeat (first | exact kf_nil | (apply kf_in; focus rfl) | (apply kf_out; focus rfl))) (by repeat (first | exact kl_nil | exact kl_rest (by assumption) rfl | (apply kl_in; focus rfl) | (apply kl_out; focus rfl))) ?_ ?_ ?_ ?_)
      · omega
      · exact ⟨by omega, by rw [hp2, hx2, List.find?_cons_of_neg (by simpa using h12)]⟩
      · exact ⟨rfl, trivial⟩
      · exact trivial
  · try simp only [decide_eq_true_eq, decide_eq_false_iff_not, Bool.or_eq_true, Bool.or_eq_false_iff, Bool.and_eq_true, Bool.and_eq_false_iff, Bool.not_eq_true', Bool.not_eq_false', Bool.not_eq_true, Bool.not_eq_false, Bool.not_true, Bool.not_false, Int.not_lt, Int.not_le, not_or, not_and, Classical.not_not] at h8
    refine T_exit_go (fun _ _ h => h) ?_
    refine T_seq ?_
    refine T_region ?_
    refine S_ 2 rfl rfl rfl _ (y_assign rfl rfl) ?_
    refine S_go (fun _ _ h => h) ?_
    refine T_ret (fun a w hF hM => hRb a w (post1 rfl rfl (fun w hM => ?_) a w hF hM))
    exact ⟨by rw [hp2, hl.end (by omega)]; rfl, hM.below⟩
theorem conts_same {a b : Evt} (h1 : a.id = b.id) (h2 : a.at_ = b.at_) (h3 : a.lv = b.lv) (h4 : a.fa.l.map Flt.cont = b.fa.l.map Flt.cont) (h5 : a.ta.l = b.ta.l) (h6 : a.cr.l = b.cr.l) (h7 : a.rel = b.rel) (h8 : a.us = b.us) (h9 : a.wt = b.wt) : sameE a b = true := by
  rw [sameE, h1, h2, h3, flts_same h4, h5, h6, h7, h8, h9]
  simp [eqL_refl (fun a => (STag.eqB_iff a a).2 rfl), eqL_refl (fun a => (SCrumb.eqB_iff a a).2 rfl)]
theorem wi_same {e u v : Evt} {ts : List STag} (hu : WiP e ts u) (hv : WiP e ts v) : sameE u v = true :=
  conts_same (hu.id.trans hv.id.symm) (hu.at_.trans hv.at_.symm) (hu.lv.trans hv.lv.symm) (hu.fa.trans hv.fa.symm) (hu.ta.trans hv.ta.symm) (hu.cr.trans hv.cr.symm) (hu.rel.trans hv.rel.symm) (hu.us.trans hv.us.symm) (hu.wt.trans hv.wt.symm)
theorem fi_same {e u v : Evt} {f c t x : Int} (hu : FitP e f c t x u) (hv : FitP e f c t x v) : sameE u v = true :=
  conts_same (hu.id.trans hv.id.symm) (hu.at_.trans hv.at_.symm) (hu.lv.trans hv.lv.symm) (hu.fa.trans hv.fa.symm) (hu.ta.trans hv.ta.symm) (hu.cr.trans hv.cr.symm) (hu.rel.trans hv.rel.symm) (hu.us.trans hv.us.symm) (hu.wt.trans hv.wt.symm)
theorem z_same : sameE evZ evZ = true := conts_same rfl rfl rfl rfl rfl rfl rfl rfl rfl
theorem one_true {v u : Evt} {no : Int} (h1 : no ≠ 0 → v = evZ) (h2 : no = 0 → sameE v u = true) : (sameE v (wantE no u) && decide (no = no)) = true := by
  rw [wantE]
  by_cases h : no = 0
  · rw [if_neg (by simpa using h), h2 h]; simp
  · rw [if_pos h, h1 h, z_same]; simp
set_option maxHeartbeats 1600000 in
theorem EventFits_any (e : Evt) (ts : Sl STag) (f c t x : Int) (w : World) (he : e.Ok w) (hts : TagsOk w ts) (ht32 : ts.q * 32 ≤ 140737488351232) :
    Calls Tryd.prog 9 #[e.val, .slice ts.A ts.q ts.c, .agg #[.int .i64 f, .int .i64 c, .int .i64 t, .int .i64 x]] w fun en w' => en = .returned (.bool true) ∧ Below w.heap.size w w' := by
  have hfn : fst (evNo e) (if limBad f c t x = true then 2 else 0) = fitNo e f c t x := by rw [fst, fitNo]
  have hwn : evNo e = 0 → withNo e ts.l = wtNo e ts.l := fun h => by rw [withNo, if_neg (by simp [h]), wtNo]
  have hwe : ¬ evNo e = 0 → withNo e ts.l = evNo e := fun h => by rw [withNo, if_pos h]
  refine enter_args (args := [.agg #[str e.id, .int .i64 e.at_, .int .i64 e.lv, .slice e.fa.A e.fa.q e.fa.c, .slice e.ta.A e.ta.q e.ta.c, .slice e.cr.A e.cr.q e.cr.c, str e.rel, str e.us, .int .i64 e.wt], .slice ts.A ts.q ts.c, .agg #[.int .i64 f, .int .i64 c, .int .i64 t, .int .i64 x]]) (F := _) Tryd.func9 rfl Tryd.ntmps9 rfl rfl ?_
  intro Rb hRb hRn
  refine T_seq ?_
  refine T_region ?_
  refine S_box 3 3 rfl rfl rfl rfl rfl ?_
  intro b3
  refine S_box 5 5 rfl rfl rfl rfl rfl ?_
  intro b5
  refine S_ 6 rfl rfl rfl _ (y_assign rfl rfl) ?_
  refine S_go (fun _ _ h => h) ?_
  refine T_seq ?_
  refine T_region ?_
  refine S_ 16 rfl rfl rfl _ (y_loadA 3 rfl rfl rfl Tryd.underlying52 rfl sz52) ?_
  refine S_ 17 rfl rfl rfl _ (y_call rfl rfl rfl cf34 (fun _ w hM => EventFault_any e w (he.below hM.below))) ?_
  refine S_ 7 rfl rfl rfl _ (y_assign rfl rfl) ?_
  refine S_go (fun _ _ h => h) ?_
  refine T_seq ?_
  refine T_region ?_
  refine S_ 19 rfl rfl rfl _ (y_loadA 3 rfl rfl rfl Tryd.underlying52 rfl sz52) ?_
  refine S_ 20 rfl rfl rfl _ (y_move rfl rfl) ?_
  refine S_callN 21 [] [(900, 900)] (X := FitR) rfl rfl rfl rfl rfl rfl rfl cf50 rfl (fun z => .tuple #[z.ev.val, .int .i64 (withNo e ts.l)]) (fun z => ((withNo e ts.l = 0 → WiP e ts.l z.ev) ∧ (withNo e ts.l ≠ 0 → z.ev = evZ)) ∧ Sees w z.rs fun w => z.ev.Ok w) (fun z => [(900, .many z.rs)]) (fun _ => rfl) (fun _ => rfl) (fun K1 hK1 w1 hM => With_any hK1 e ts w1 he hts hM) ?_
  rintro ya ha
  refine S_ 18 rfl rfl rfl _ (y_move rfl rfl) ?_
  refine S_ 22 rfl rfl rfl _ (y_extract rfl rfl rfl) ?_
  refine S_ 23 rfl rfl rfl _ (y_extract rfl rfl rfl) ?_
  refine S_alloc 8 8 rfl rfl rfl rfl z52 ?_
  intro b8
  refine S_store 8 rfl rfl rfl rfl rfl rfl sz52 rfl rfl ?_
  refine S_ 9 rfl rfl rfl _ (y_assign rfl rfl) ?_
  refine S_go (fun _ _ h => h) ?_
  refine T_seq ?_
  refine T_region ?_
  refine S_ 25 rfl rfl rfl _ (y_loadA 3 rfl rfl rfl Tryd.underlying52 rfl sz52) ?_
  refine S_ 26 rfl rfl rfl _ (y_loadA 5 rfl rfl rfl Tryd.underlying64 rfl sz64) ?_
  refine S_callN 27 [] [(900, 901)] (X := FitR) rfl rfl rfl rfl rfl rfl rfl cf42 rfl (fun z => .tuple #[z.ev.val, .int .i64 (fitNo e f c t x)]) (fun z => ((fitNo e f c t x = 0 → FitP e f c t x z.ev) ∧ (fitNo e f c t x ≠ 0 → z.ev = evZ)) ∧ Sees w z.rs fun w => z.ev.Ok w) (fun z => [(900, .many z.rs)]) (fun _ => rfl) (fun _ => rfl) (fun K1 hK1 w1 hM => Fit_any hK1 e f c t x w1 he hM) ?_
  rintro b hb
  refine S_ 24 rfl rfl rfl _ (y_move rfl rfl) ?_
  refine S_ 28 rfl rfl rfl _ (y_extract rfl rfl rfl) ?_
  refine S_ 29 rfl rfl rfl _ (y_extract rfl rfl rfl) ?_
  refine S_alloc 10 10 rfl rfl rfl rfl z52 ?_
  intro b10
  refine S_store 10 rfl rfl rfl rfl rfl rfl sz52 rfl rfl ?_
  refine S_ 11 rfl rfl rfl _ (y_assign rfl rfl) ?_
  refine S_go (fun _ _ h => h) ?_
  refine T_seq ?_
  refine T_region ?_
  refine S_ 30 rfl rfl rfl _ (y_move rfl rfl) ?_
  refine S_ 31 rfl rfl rfl _ (y_move rfl rfl) ?_
  refine S_ 32 rfl rfl rfl _ (y_loadA 5 rfl rfl rfl Tryd.underlying64 rfl sz64) ?_
  refine S_ 33 rfl rfl rfl _ (y_call rfl rfl rfl cf52 (fun _ w _ => LimitsFault_any f c t x w)) ?_
  refine S_buildSlice 34 34 rfl rfl rfl rfl rfl Tryd.underlying158 inf23 rfl (by decide) (by decide) rfl rfl (by decide) rfl (_) rfl ?_
  intro b34
  refine S_ 35 rfl rfl rfl _ (y_as (v' := .int .i64 (fitNo e f c t x)) (by rw [hfn]) (y_call rfl rfl rfl cf51 (fun _ w hM => first2_any _ _ (evNo e) (if limBad f c t x = true then 2 else 0) w ⟨own_reads hM (i := 34) rfl, rfl⟩))) ?_
  refine S_ 12 rfl rfl rfl _ (y_assign rfl rfl) ?_
  refine S_ 13 rfl rfl rfl _ (y_assign rfl rfl) ?_
  refine S_go (fun _ _ h => h) ?_
  refine T_seq ?_
  refine T_region ?_
  refine S_alloc 14 14 rfl rfl rfl rfl z52 ?_
  intro b14
  refine S_alloc 15 15 rfl rfl rfl rfl z52 ?_
  intro b15
  refine S_go (fun _ _ h => h) ?_
  refine T_seq ?_
  refine T_seq ?_
  refine T_region ?_
  refine S_ 36 rfl rfl rfl _ (y_move rfl rfl) ?_
  refine S_ 37 rfl rfl rfl _ (y_bin rfl rfl rfl (fun _ => b_eql)) ?_
  refine S_go (fun _ _ h => h) ?_
  refine T_cond rfl (fun h37 => ?_) (fun h37 => ?_)
  · try simp only [decide_eq_true_eq, decide_eq_false_iff_not, Bool.or_eq_true, Bool.or_eq_false_iff, Bool.and_eq_true, Bool.and_eq_false_iff, Bool.not_eq_true', Bool.not_eq_false', Bool.not_eq_true, Bool.not_eq_false, Bool.not_true, Bool.not_false, Int.not_lt, Int.not_le, not_or, not_and, Classical.not_not] at h37
    have h37 : evNo e = 0 := h37
    refine T_region ?_
    refine S_ 39 rfl rfl rfl _ (y_loadA 3 rfl rfl rfl Tryd.underlying52 rfl sz52) ?_
    refine S_ 40 rfl rfl rfl _ (y_move rfl rfl) ?_
    refine S_callN 41 [] [(900, 902)] (X := FitR) rfl rfl rfl rfl rfl rfl rfl cf53 rfl (fun z => .tuple #[z.ev.val, .int .i64 (wtNo e ts.l)]) (fun z => ((wtNo e ts.l = 0 → WiP e ts.l z.ev) ∧ (wtNo e ts.l ≠ 0 → z.ev = evZ)) ∧ Sees w z.rs fun w => z.ev.Ok w) (fun z => [(900, .many z.rs)]) (fun _ => rfl) (fun _ => rfl) (fun K1 hK1 w1 hM => WithTags_any hK1 e ts w1 he h37 hts ht32 hM) ?_
    rintro u hu
    refine S_ 38 rfl rfl rfl _ (y_move rfl rfl) ?_
    refine S_ 42 rfl rfl rfl _ (y_extract rfl rfl rfl) ?_
    refine S_ 43 rfl rfl rfl _ (y_extract rfl rfl rfl) ?_
    refine S_store 14 rfl rfl rfl rfl rfl rfl sz52 rfl rfl ?_
    refine S_ 12 rfl rfl rfl _ (y_assign rfl rfl) ?_
    refine S_go (fun _ _ h => h) ?_
    refine T_seq ?_
    refine T_seq ?_
    refine T_region ?_
    refine S_ 44 rfl rfl rfl _ (y_move rfl rfl) ?_
    refine S_ 45 rfl rfl rfl _ (y_bin rfl rfl rfl (fun _ => b_eql)) ?_
    refine S_go (fun _ _ h => h) ?_
    refine T_cond rfl (fun h45 => ?_) (fun h45 => ?_)
    · try simp only [decide_eq_true_eq, decide_eq_false_iff_not, Bool.or_eq_true, Bool.or_eq_false_iff, Bool.and_eq_true, Bool.and_eq_false_iff, Bool.not_eq_true', Bool.not_eq_false', Bool.not_eq_true, Bool.not_eq_false, Bool.not_true, Bool.not_false, Int.not_lt, Int.not_le, not_or, not_and, Classical.not_not] at h45
      have h45 : fitNo e f c t x = 0 := h45
      refine T_region ?_
      refine S_ 46 rfl rfl rfl _ (y_loadA 3 rfl rfl rfl Tryd.underlying52 rfl sz52) ?_
      refine S_ 47 rfl rfl rfl _ (y_loadA 5 rfl rfl rfl Tryd.underlying64 rfl sz64) ?_
      refine S_callN 48 [] [(900, 903)] (X := FitR) rfl rfl rfl rfl rfl rfl rfl cf54 rfl (fun z => z.ev.val) (fun z => FitP e f c t x z.ev ∧ Sees w z.rs fun w => z.ev.Ok w) (fun z => [(900, .many z.rs)]) (fun _ => rfl) (fun _ => rfl) (fun K1 hK1 w1 hM => Fitted_any hK1 e f c t x w1 he h45 hM) ?_
      rintro v hv
      refine S_store 15 rfl rfl rfl rfl rfl rfl sz52 rfl rfl ?_
      refine S_go (fun _ _ h => h) ?_
      refine T_seq ?_
      refine T_region ?_
      refine S_ 49 rfl rfl rfl _ (y_loadA 8 rfl rfl rfl Tryd.underlying52 rfl sz52) ?_
      refine S_ 50 rfl rfl rfl _ (y_move rfl rfl) ?_
      refine S_ 51 rfl rfl rfl _ (y_loadA 14 rfl rfl rfl Tryd.underlying52 rfl sz52) ?_
      refine S_ 52 rfl rfl rfl _ (y_move rfl rfl) ?_
      refine S_ 53 rfl rfl rfl _ (y_call rfl rfl rfl cf55 (fun _ w hM => one_any ya.ev u.ev _ _ w (ha.2.at hM 900 rfl) (hu.2.at hM 902 rfl))) ?_
      refine S_ 54 rfl rfl rfl _ (y_move rfl rfl) ?_
      refine Sg_ 55 rfl rfl rfl rfl rfl rfl _ (y_loadA 10 rfl rfl rfl Tryd.underlying52 rfl sz52) ?_
      refine Sg_ 56 rfl rfl rfl rfl rfl rfl _ (y_move rfl rfl) ?_
      refine Sg_ 57 rfl rfl rfl rfl rfl rfl _ (y_loadA 15 rfl rfl rfl Tryd.underlying52 rfl sz52) ?_
      refine Sg_ 58 rfl rfl rfl rfl rfl rfl _ (y_move rfl rfl) ?_
      refine Sg_ 59 rfl rfl rfl rfl rfl rfl _ (y_call rfl rfl rfl cf55 (fun _ w hM => one_any b.ev v.ev _ _ w (hb.2.at hM 901 rfl) (hv.2.at hM 903 rfl))) ?_
      refine S_ 60 rfl rfl rfl _ (y_and rfl rfl rfl) ?_
      refine S_ 6 rfl rfl rfl _ (y_assign rfl rfl) ?_
      refine S_go (fun _ _ h => h) ?_
      refine T_ret (fun a w hF hM => hRb a w (post1 rfl rfl (fun w hM => ?_) a w hF hM))
      have e1 := one_true (v := ya.ev) (u := u.ev) (no := withNo e ts.l) ha.1.2 (fun h => wi_same (ha.1.1 h) (hu.1.1 (hwn h37 ▸ h)))
      have e2 := one_true (v := b.ev) (u := v.ev) (no := fitNo e f c t x) hb.1.2 (fun h => fi_same (hb.1.1 h) hv.1)
      exact ⟨by rw [← hwn h37, e1, e2]; rfl, hM.below⟩
    · try simp only [decide_eq_true_eq, decide_eq_false_iff_not, Bool.or_eq_true, Bool.or_eq_false_iff, Bool.and_eq_true, Bool.and_eq_false_iff, Bool.not_eq_true', Bool.not_eq_false', Bool.not_eq_true, Bool.not_eq_false, Bool.not_true, Bool.not_false, Int.not_lt, Int.not_le, not_or, not_and, Classical.not_not] at h45
      have h45 : ¬ fitNo e f c t x = 0 := h45
      refine T_skip_go (fun _ _ h => h) ?_
      refine T_seq ?_
      refine T_region ?_
      refine S_ 49 rfl rfl rfl _ (y_loadA 8 rfl rfl rfl Tryd.underlying52 rfl sz52) ?_
      refine S_ 50 rfl rfl rfl _ (y_move rfl rfl) ?_
      refine S_ 51 rfl rfl rfl _ (y_loadA 14 rfl rfl rfl Tryd.underlying52 rfl sz52) ?_
      refine S_ 52 rfl rfl rfl _ (y_move rfl rfl) ?_
      refine S_ 53 rfl rfl rfl _ (y_call rfl rfl rfl cf55 (fun _ w hM => one_any ya.ev u.ev _ _ w (ha.2.at hM 900 rfl) (hu.2.at hM 902 rfl))) ?_
      refine S_ 54 rfl rfl rfl _ (y_move rfl rfl) ?_
      refine Sg_ 55 rfl rfl rfl rfl rfl rfl _ (y_loadA 10 rfl rfl rfl Tryd.underlying52 rfl sz52) ?_
      refine Sg_ 56 rfl rfl rfl rfl rfl rfl _ (y_move rfl rfl) ?_
      refine Sg_ 57 rfl rfl rfl rfl rfl rfl _ (y_loadA 15 rfl rfl rfl Tryd.underlying52 rfl sz52) ?_
      refine Sg_ 58 rfl rfl rfl rfl rfl rfl _ (y_move rfl rfl) ?_
      refine Sg_ 59 rfl rfl rfl rfl rfl rfl _ (y_call rfl rfl rfl cf55 (fun _ w hM => one_any b.ev evZ _ _ w (hb.2.at hM 901 rfl) (evZ_ok w))) ?_
      refine S_ 60 rfl rfl rfl _ (y_and rfl rfl rfl) ?_
      refine S_ 6 rfl rfl rfl _ (y_assign rfl rfl) ?_
      refine S_go (fun _ _ h => h) ?_
      refine T_ret (fun a w hF hM => hRb a w (post1 rfl rfl (fun w hM => ?_) a w hF hM))
      have e1 := one_true (v := ya.ev) (u := u.ev) (no := withNo e ts.l) ha.1.2 (fun h => wi_same (ha.1.1 h) (hu.1.1 (hwn h37 ▸ h)))
      have e2 := one_true (v := b.ev) (u := evZ) (no := fitNo e f c t x) hb.1.2 (fun h => absurd h h45)
      exact ⟨by rw [← hwn h37, e1, e2]; rfl, hM.below⟩
  · try simp only [decide_eq_true_eq, decide_eq_false_iff_not, Bool.or_eq_true, Bool.or_eq_false_iff, Bool.and_eq_true, Bool.and_eq_false_iff, Bool.not_eq_true', Bool.not_eq_false', Bool.not_eq_true, Bool.not_eq_false, Bool.not_true, Bool.not_false, Int.not_lt, Int.not_le, not_or, not_and, Classical.not_not] at h37
    have h37 : ¬ evNo e = 0 := h37
    refine T_skip_go (fun _ _ h => h) ?_
    refine T_seq ?_
    refine T_seq ?_
    refine T_region ?_
    refine S_ 44 rfl rfl rfl _ (y_move rfl rfl) ?_
    refine S_ 45 rfl rfl rfl _ (y_bin rfl rfl rfl (fun _ => b_eql)) ?_
    refine S_go (fun _ _ h => h) ?_
    refine T_cond rfl (fun h45 => ?_) (fun h45 => ?_)
    · try simp only [decide_eq_true_eq, decide_eq_false_iff_not, Bool.or_eq_true, Bool.or_eq_false_iff, Bool.and_eq_true, Bool.and_eq_false_iff, Bool.not_eq_true', Bool.not_eq_false', Bool.not_eq_true, Bool.not_eq_false, Bool.not_true, Bool.not_false, Int.not_lt, Int.not_le, not_or, not_and, Classical.not_not] at h45
      have h45 : fitNo e f c t x = 0 := h45
      refine T_region ?_
      refine S_ 46 rfl rfl rfl _ (y_loadA 3 rfl rfl rfl Tryd.underlying52 rfl sz52) ?_
      refine S_ 47 rfl rfl rfl _ (y_loadA 5 rfl rfl rfl Tryd.underlying64 rfl sz64) ?_
      refine S_callN 48 [] [(900, 903)] (X := FitR) rfl rfl rfl rfl rfl rfl rfl cf54 rfl (fun z => z.ev.val) (fun z => FitP e f c t x z.ev ∧ Sees w z.rs fun w => z.ev.Ok w) (fun z => [(900, .many z.rs)]) (fun _ => rfl) (fun _ => rfl) (fun K1 hK1 w1 hM => Fitted_any hK1 e f c t x w1 he h45 hM) ?_
      rintro v hv
      refine S_store 15 rfl rfl rfl rfl rfl rfl sz52 rfl rfl ?_
      refine S_go (fun _ _ h => h) ?_
      refine T_seq ?_
      refine T_region ?_
      refine S_ 49 rfl rfl rfl _ (y_loadA 8 rfl rfl rfl Tryd.underlying52 rfl sz52) ?_
      refine S_ 50 rfl rfl rfl _ (y_move rfl rfl) ?_
      refine S_ 51 rfl rfl rfl _ (y_loadA 14 rfl rfl rfl Tryd.underlying52 rfl sz52) ?_
      refine S_ 52 rfl rfl rfl _ (y_move rfl rfl) ?_
      refine S_ 53 rfl rfl rfl _ (y_call rfl rfl rfl cf55 (fun _ w hM => one_any ya.ev evZ _ _ w (ha.2.at hM 900 rfl) (evZ_ok w))) ?_
      refine S_ 54 rfl rfl rfl _ (y_move rfl rfl) ?_
      refine Sg_ 55 rfl rfl rfl rfl rfl rfl _ (y_loadA 10 rfl rfl rfl Tryd.underlying52 rfl sz52) ?_
      refine Sg_ 56 rfl rfl rfl rfl rfl rfl _ (y_move rfl rfl) ?_
      refine Sg_ 57 rfl rfl rfl rfl rfl rfl _ (y_loadA 15 rfl rfl rfl Tryd.underlying52 rfl sz52) ?_
      refine Sg_ 58 rfl rfl rfl rfl rfl rfl _ (y_move rfl rfl) ?_
      refine Sg_ 59 rfl rfl rfl rfl rfl rfl _ (y_call rfl rfl rfl cf55 (fun _ w hM => one_any b.ev v.ev _ _ w (hb.2.at hM 901 rfl) (hv.2.at hM 903 rfl))) ?_
      refine S_ 60 rfl rfl rfl _ (y_and rfl rfl rfl) ?_
      refine S_ 6 rfl rfl rfl _ (y_assign rfl rfl) ?_
      refine S_go (fun _ _ h => h) ?_
      refine T_ret (fun a w hF hM => hRb a w (post1 rfl rfl (fun w hM => ?_) a w hF hM))
      have e1 := one_true (v := ya.ev) (u := evZ) (no := withNo e ts.l) ha.1.2 (fun h => absurd (hwe h37 ▸ h) h37)
      have e2 := one_true (v := b.ev) (u := v.ev) (no := fitNo e f c t x) hb.1.2 (fun h => fi_same (hb.1.1 h) hv.1)
      exact ⟨by rw [← hwe h37, e1, e2]; rfl, hM.below⟩
    · try simp only [decide_eq_true_eq, decide_eq_false_iff_not, Bool.or_eq_true, Bool.or_eq_false_iff, Bool.and_eq_true, Bool.and_eq_false_iff, Bool.not_eq_true', Bool.not_eq_false', Bool.not_eq_true, Bool.not_eq_false, Bool.not_true, Bool.not_false, Int.not_lt, Int.not_le, not_or, not_and, Classical.not_not] at h45
      have h45 : ¬ fitNo e f c t x = 0 := h45
      refine T_skip_go (fun _ _ h => h) ?_
      refine T_seq ?_
      refine T_region ?_
      refine S_ 49 rfl rfl rfl _ (y_loadA 8 rfl rfl rfl Tryd.underlying52 rfl sz52) ?_
      refine S_ 50 rfl rfl rfl _ (y_move rfl rfl) ?_
      refine S_ 51 rfl rfl rfl _ (y_loadA 14 rfl rfl rfl Tryd.underlying52 rfl sz52) ?_
      refine S_ 52 rfl rfl rfl _ (y_move rfl rfl) ?_
      refine S_ 53 rfl rfl rfl _ (y_call rfl rfl rfl cf55 (fun _ w hM => one_any ya.ev evZ _ _ w (ha.2.at hM 900 rfl) (evZ_ok w))) ?_
      refine S_ 54 rfl rfl rfl _ (y_move rfl rfl) ?_
      refine Sg_ 55 rfl rfl rfl rfl rfl rfl _ (y_loadA 10 rfl rfl rfl Tryd.underlying52 rfl sz52) ?_
      refine Sg_ 56 rfl rfl rfl rfl rfl rfl _ (y_move rfl rfl) ?_
      refine Sg_ 57 rfl rfl rfl rfl rfl rfl _ (y_loadA 15 rfl rfl rfl Tryd.underlying52 rfl sz52) ?_
      refine Sg_ 58 rfl rfl rfl rfl rfl rfl _ (y_move rfl rfl) ?_
      refine Sg_ 59 rfl rfl rfl rfl rfl rfl _ (y_call rfl rfl rfl cf55 (fun _ w hM => one_any b.ev evZ _ _ w (hb.2.at hM 901 rfl) (evZ_ok w))) ?_
      refine S_ 60 rfl rfl rfl _ (y_and rfl rfl rfl) ?_
      refine S_ 6 rfl rfl rfl _ (y_assign rfl rfl) ?_
      refine S_go (fun _ _ h => h) ?_
      refine T_ret (fun a w hF hM => hRb a w (post1 rfl rfl (fun w hM => ?_) a w hF hM))
      have e1 := one_true (v := ya.ev) (u := evZ) (no := withNo e ts.l) ha.1.2 (fun h => absurd (hwe h37 ▸ h) h37)
      have e2 := one_true (v := b.ev) (u := evZ) (no := fitNo e f c t x) hb.1.2 (fun h => absurd h h45)
      exact ⟨by rw [← hwe h37, e1, e2]; rfl, hM.below⟩
end Go.Proofs.YtoeipmepmlikcaaDoor
