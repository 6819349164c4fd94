/- The law EventFitted walked. Conditions: those of the theorem. -/
import Derived.Test.YtoeipmepmlikcaaDoorEFitP
import Derived.Test.YtoeipmepmlikcaaDoorESum
namespace Go.Proofs.YtoeipmepmlikcaaDoor
set_option linter.unusedSimpArgs false
set_option linter.unusedVariables false
set_option maxRecDepth 20000
open Go.RowKit Go.Eng
theorem awakeEvent_any (w : World) (hT : TzTab w) :
    Calls Tryd.prog 46 #[] w fun e w' => e = .returned (.bool true) ∧ Below w.heap.size w w' := by
  refine enter_args (args := []) (F := _) Tryd.func46 rfl Tryd.ntmps46 rfl rfl ?_
  intro Rb hRb hRn
  refine T_seq ?_
  refine T_region ?_
  refine S_ 0 rfl rfl rfl _ (y_assign rfl rfl) ?_
  refine S_go (fun _ _ h => h) ?_
  refine T_seq ?_
  refine T_region ?_
  refine S_ 1 rfl rfl rfl _ (y_call rfl rfl rfl cf39 (fun _ w hM => Sum_any [] (by decide) w (hT.below hM.below))) ?_
  refine S_ 2 rfl rfl rfl _ (y_bin rfl rfl rfl (fun _ => b_eqls)) ?_
  refine S_ 0 rfl rfl rfl _ (y_assign rfl rfl) ?_
  refine S_go (fun _ _ h => h) ?_
  refine T_ret (fun a w hF hM => hRb a w (post1 rfl rfl (fun w hM => ?_) a w hF hM))
  exact ⟨by kernel_rfl, hM.below⟩
set_option maxHeartbeats 1600000 in
theorem EventFitted_any (e : Evt) (f c t x : Int) (w : World) (he : e.Ok w) (hT : TzTab w) :
    Calls Tryd.prog 7 #[e.val, .agg #[.int .i64 f, .int .i64 c, .int .i64 t, .int .i64 x]] w fun en w' => en = .returned (.bool true) ∧ Below w.heap.size w w' := by
  refine enter_args (args := [.agg #[str e.id, .int .i64 e.at_, .int .i64 e.lv, .slice e.fa.A e.fa.q e.fa.c, .slice e.ta.A e.ta.q e.ta.c, .slice e.cr.A e.cr.q e.cr.c, str e.rel, str e.us, .int .i64 e.wt], .agg #[.int .i64 f, .int .i64 c, .int .i64 t, .int .i64 x]]) (F := _) Tryd.func7 rfl Tryd.ntmps7 rfl rfl ?_
  intro Rb hRb hRn
  refine T_seq ?_
  refine T_region ?_
  refine S_box 2 2 rfl rfl rfl rfl rfl ?_
  intro b2
  refine S_box 3 3 rfl rfl rfl rfl rfl ?_
  intro b3
  refine S_ 4 rfl rfl rfl _ (y_assign rfl rfl) ?_
  refine S_go (fun _ _ h => h) ?_
  refine T_seq ?_
  refine T_seq ?_
  refine T_region ?_
  refine S_ 10 rfl rfl rfl _ (y_call rfl rfl rfl cf46 (fun _ w hM => awakeEvent_any w (hT.below hM.below))) ?_
  refine S_ 11 rfl rfl rfl _ (y_not rfl rfl) ?_
  refine S_go (fun _ _ h => h) ?_
  refine T_cond rfl (fun h11 => ?_) (fun h11 => ?_)
  · skip
    cases h11
  · skip
    refine T_skip_go (fun _ _ h => h) ?_
    refine T_seq ?_
    refine T_region ?_
    refine S_ 13 rfl rfl rfl _ (y_loadA 2 rfl rfl rfl Tryd.underlying52 rfl sz52) ?_
    refine S_ 14 rfl rfl rfl _ (y_loadA 3 rfl rfl rfl Tryd.underlying64 rfl sz64) ?_
    refine S_callN 15 [] [(900, 900)] (X := FitR) rfl rfl rfl rfl rfl rfl rfl cf42 rfl (fun z => .tuple #[z.ev.val, .int .i64 (fitNo e f c t x)]) (fun z => (fitNo e f c t x = 0 → FitP e f c t x z.ev) ∧ Sees w z.rs fun w => z.ev.Ok w) (fun z => [(900, .many z.rs)]) (fun _ => rfl) (fun _ => rfl) (fun K1 hK1 w1 hM => Fit_any hK1 e f c t x w1 he hM) ?_
    rintro z hz1
    refine S_ 12 rfl rfl rfl _ (y_move rfl rfl) ?_
    refine S_ 16 rfl rfl rfl _ (y_extract rfl rfl rfl) ?_
    refine S_ 17 rfl rfl rfl _ (y_extract rfl rfl rfl) ?_
    refine S_alloc 5 5 rfl rfl rfl rfl z52 ?_
    intro b5
    refine S_store 5 rfl rfl rfl rfl rfl rfl sz52 rfl rfl ?_
    refine S_ 6 rfl rfl rfl _ (y_assign rfl rfl) ?_
    refine S_go (fun _ _ h => h) ?_
    refine T_seq ?_
    refine T_seq ?_
    refine T_region ?_
    refine S_ 18 rfl rfl rfl _ (y_move rfl rfl) ?_
    refine S_ 19 rfl rfl rfl _ (y_bin rfl rfl rfl (fun _ => b_neq)) ?_
    refine S_go (fun _ _ h => h) ?_
    refine T_cond rfl (fun h19 => ?_) (fun h19 => ?_)
    · try simp only [decide_eq_true_eq, decide_eq_false_iff_not, Bool.or_eq_true, Bool.or_eq_false_iff, Bool.and_eq_true, Bool.and_eq_false_iff, Bool.not_eq_true', Bool.not_eq_false', Bool.not_eq_true, Bool.not_eq_false, Bool.not_true, Bool.not_false, Int.not_lt, Int.not_le, not_or, not_and, Classical.not_not] at h19
      refine T_seq ?_
      refine T_region ?_
      refine S_ 4 rfl rfl rfl _ (y_assign rfl rfl) ?_
      refine S_go (fun _ _ h => h) ?_
      refine T_ret (fun a w hF hM => hRb a w (post1 rfl rfl (fun w hM => ?_) a w hF hM))
      exact ⟨rfl, hM.below⟩
    · try simp only [decide_eq_true_eq, decide_eq_false_iff_not, Bool.or_eq_true, Bool.or_eq_false_iff, Bool.and_eq_true, Bool.and_eq_false_iff, Bool.not_eq_true', Bool.not_eq_false', Bool.not_eq_true, Bool.not_eq_false, Bool.not_true, Bool.not_false, Int.not_lt, Int.not_le, not_or, not_and, Classical.not_not] at h19
      have hno : fitNo e f c t x = 0 := h19
      have hP := hz1.1 hno
      refine T_skip_go (fun _ _ h => h) ?_
      refine T_seq ?_
      refine T_region ?_
      refine S_rebase fun w1 hM1 => ?_
      have hb1 := hM1.below
      have hv := hz1.2.at hM1 900 rfl
      have C2 := hM1.box_cells 2 rfl
      have C3 := hM1.box_cells 3 rfl
      have C5 := hM1.box_cells 5 rfl
      refine S_ 21 rfl rfl rfl _ (y_loadA_far rfl rfl C5.1 C5.2 Tryd.underlying52 rfl sz52) ?_
      refine S_ 22 rfl rfl rfl _ (y_loadA_far rfl rfl C3.1 C3.2 Tryd.underlying64 rfl sz64) ?_
      refine S_callN 23 [] [(900, 900)] (X := FitR) rfl rfl rfl rfl rfl rfl rfl cf42 rfl (fun z2 => .tuple #[z2.ev.val, .int .i64 (fitNo z.ev f c t x)]) (fun z2 => (fitNo z.ev f c t x = 0 → FitP z.ev f c t x z2.ev) ∧ Sees w1 z2.rs fun w => z2.ev.Ok w) (fun z2 => [(900, .many z2.rs)]) (fun _ => rfl) (fun _ => rfl) (fun K1 hK1 w2 hM => Fit_any hK1 z.ev f c t x w2 hv hM) ?_
      rintro z2 hz2
      refine S_ 20 rfl rfl rfl _ (y_move rfl rfl) ?_
      refine S_ 24 rfl rfl rfl _ (y_extract rfl rfl rfl) ?_
      refine S_ 25 rfl rfl rfl _ (y_extract rfl rfl rfl) ?_
      refine S_alloc 7 7 rfl rfl rfl rfl z52 ?_
      intro b7
      refine S_store 7 rfl rfl rfl rfl rfl rfl sz52 rfl rfl ?_
      refine S_ 6 rfl rfl rfl _ (y_assign rfl rfl) ?_
      refine S_go (fun _ _ h => h) ?_
      refine T_seq ?_
      refine T_seq ?_
      refine T_region ?_
      refine S_rebase fun w3 hM3 => ?_
      have hb3 := hM3.below
      have hu := hz2.2.at hM3 900 rfl
      have D2 := cells_below C2 hb3
      have D3 := cells_below C3 hb3
      have D5 := cells_below C5 hb3
      have D7 := hM3.box_cells 7 rfl
      have hv2 := hv.below hb3
      have he2 := (he.below hb1).below hb3
      have h23 : fitNo z.ev f c t x = 0 := by rw [fitNo, if_neg (by simp [fit_right he hv hno hP]), if_neg (by simp [(fit_parts hno).2])]
      have hvq := hv2.fa.ok.t.len
      have heq := he2.fa.ok.t.len
      have hfq : z.ev.fa.q = e.fa.q := by have := congrArg List.length hP.fa; simp only [List.length_map] at this; omega
      have hql := he.fa.q
      have hlm := lim_parts (fit_parts hno).2
      have hcq : (z.ev.cr.q : Int) ≤ c := by
        have h1 := hv.cr.ok.t.len
        have h2 := congrArg List.length hP.cr
        simp only [List.length_map, List.length_drop] at h2
        have h3 := he.cr.ok.t.len
        omega
      have htq : (z.ev.ta.q : Int) ≤ t := by
        have h1 := hv.ta.ok.t.len
        have h2 := congrArg List.length hP.ta
        rw [List.length_take] at h2
        omega
      refine S_ 26 rfl rfl rfl _ (y_move rfl rfl) ?_
      refine S_ 27 rfl rfl rfl _ (y_bin rfl rfl rfl (fun _ => b_neq)) ?_
      refine S_ 28 rfl rfl rfl _ (y_move rfl rfl) ?_
      refine Sg_ 29 rfl rfl rfl rfl rfl rfl _ (y_loadA_far rfl rfl D5.1 D5.2 Tryd.underlying52 rfl sz52) ?_
      refine Sg_ 30 rfl rfl rfl rfl rfl rfl _ (y_loadA_far rfl rfl D7.1 D7.2 Tryd.underlying52 rfl sz52) ?_
      refine Sg_ 31 rfl rfl rfl rfl rfl rfl _ (y_call rfl rfl rfl cf35 (fun _ w hM => Same_any z.ev z2.ev w (hv2.below hM.below) (hu.below hM.below))) ?_
      refine Sg_ 32 rfl rfl rfl rfl rfl rfl _ (y_not rfl rfl) ?_
      refine S_ 33 rfl rfl rfl _ (y_or rfl rfl rfl) ?_
      refine S_ 34 rfl rfl rfl _ (y_move rfl rfl) ?_
      refine Sg_ 35 rfl rfl rfl rfl rfl rfl _ (y_loadA_far rfl rfl D5.1 D5.2 Tryd.underlying52 rfl sz52) ?_
      refine Sg_ 36 rfl rfl rfl rfl rfl rfl _ (y_call rfl rfl rfl cf33 (fun _ w hM => Check_any z.ev w (hv2.below hM.below))) ?_
      refine Sg_ 37 rfl rfl rfl rfl rfl rfl _ (y_bin rfl rfl rfl (fun _ => b_neq)) ?_
      refine S_ 38 rfl rfl rfl _ (y_or rfl rfl rfl) ?_
      refine S_ 39 rfl rfl rfl _ (y_move rfl rfl) ?_
      refine Sg_ 40 rfl rfl rfl rfl rfl rfl _ (y_fieldAddr rfl rfl fa52_5) ?_
      refine Sg_ 41 rfl rfl rfl rfl rfl rfl _ (y_load_far rfl rfl (D5.1 5 _ rfl) D5.2 Tryd.underlying50 rfl) ?_
      refine Sg_ 42 rfl rfl rfl rfl rfl rfl _ (y_len_slice rfl rfl Tryd.underlying50) ?_
      refine Sg_ 43 rfl rfl rfl rfl rfl rfl _ (y_fieldAddr rfl rfl fa64_1) ?_
      refine Sg_ 44 rfl rfl rfl rfl rfl rfl _ (y_load_far rfl rfl (D3.1 1 _ rfl) D3.2 Tryd.underlying3 rfl) ?_
      refine Sg_ 45 rfl rfl rfl rfl rfl rfl _ (y_bin rfl rfl rfl (fun _ => b_gtr)) ?_
      refine S_ 46 rfl rfl rfl _ (y_or rfl rfl rfl) ?_
      refine S_ 47 rfl rfl rfl _ (y_move rfl rfl) ?_
      refine Sg_ 48 rfl rfl rfl rfl rfl rfl _ (y_fieldAddr rfl rfl fa52_4) ?_
      refine Sg_ 49 rfl rfl rfl rfl rfl rfl _ (y_load_far rfl rfl (D5.1 4 _ rfl) D5.2 Tryd.underlying49 rfl) ?_
      refine Sg_ 50 rfl rfl rfl rfl rfl rfl _ (y_len_slice rfl rfl Tryd.underlying49) ?_
      refine Sg_ 51 rfl rfl rfl rfl rfl rfl _ (y_fieldAddr rfl rfl fa64_2) ?_
      refine Sg_ 52 rfl rfl rfl rfl rfl rfl _ (y_load_far rfl rfl (D3.1 2 _ rfl) D3.2 Tryd.underlying3 rfl) ?_
      refine Sg_ 53 rfl rfl rfl rfl rfl rfl _ (y_bin rfl rfl rfl (fun _ => b_gtr)) ?_
      refine S_ 54 rfl rfl rfl _ (y_or rfl rfl rfl) ?_
      refine S_go (fun _ _ h => h) ?_
      refine T_cond rfl (fun h54 => ?_) (fun h54 => ?_)
      · skip
        rw [h23, fit_again he hv hno hP (hz2.1 h23), fit_right he hv hno hP] at h54
        simp at h54
        omega
      · skip
        refine T_skip_go (fun _ _ h => h) ?_
        refine T_seq ?_
        refine T_seq ?_
        refine T_region ?_
        refine S_ 55 rfl rfl rfl _ (y_fieldAddr rfl rfl fa52_3) ?_
        refine S_ 56 rfl rfl rfl _ (y_load_far rfl rfl (D5.1 3 _ rfl) D5.2 Tryd.underlying48 rfl) ?_
        refine S_ 57 rfl rfl rfl _ (y_len_slice rfl rfl Tryd.underlying48) ?_
        refine S_ 58 rfl rfl rfl _ (y_move rfl rfl) ?_
        refine S_go (fun _ _ h => h) ?_
        refine T_block ?_
        refine T_loopK1 (kf := [(4, 4), (8, 9), (58, 93)]) (kl := [(4, 4), (8, 9), (58, 93)]) (fun (i : Nat) => [(58, true, .int .i64 (i : Int))]) (fun (i : Nat) => []) (fun (i : Nat) => i ≤ z.ev.fa.q) (fun (i : Nat) => z.ev.fa.q - i) 0 (by repeat (first | exact kf_nil | (apply kf_in; focus rfl) | (apply kf_out; focus rfl))) (by repeat (first | exact kl_nil | exact kl_rest (by assumption) rfl | (apply kl_in; focus rfl) | (apply kl_out; focus rfl))) ?_ ?_ ?_ ?_
        · omega
        · exact ⟨rfl, trivial⟩
        · exact trivial
        rintro i hp1
        refine T_seq ?_
        refine T_region ?_
        refine S_ 59 rfl rfl rfl _ (y_bin rfl rfl rfl (fun _ => b_lss)) ?_
        refine S_go (fun _ _ h => h) ?_
        refine T_seq ?_
        refine T_cond rfl (fun h59 => ?_) (fun h59 => ?_)
        · try simp only [decide_eq_true_eq, decide_eq_false_iff_not, Bool.or_eq_true, Bool.or_eq_false_iff, Bool.and_eq_true, Bool.and_eq_false_iff, Bool.not_eq_true', Bool.not_eq_false', Bool.not_eq_true, Bool.not_eq_false, Bool.not_true, Bool.not_false, Int.not_lt, Int.not_le, not_or, not_and, Classical.not_not] at h59
          obtain ⟨v, hx1, hx2⟩ := hv2.fa.ok.t.at (i := i) (by omega)
          obtain ⟨y, hy1, hy2⟩ := map_at hP.fa hx1
          refine T_skip_go (fun _ _ h => h) ?_
          refine T_seq ?_
          refine T_block ?_
          refine T_seq ?_
          refine T_region ?_
          refine S_ 60 rfl rfl rfl _ (y_move rfl rfl) ?_
          refine S_ 61 rfl rfl rfl _ (y_indexAddr rfl rfl rfl Tryd.underlying48 sz70 (fun hg => hv2.fa.ok.t.isSome (by omega)) (fun _ => by omega)) ?_
          refine S_ 62 rfl rfl rfl _ (y_loadT rfl rfl hv2.fa.ok.t (fun _ => rfl) (fun _ => hx1) Tryd.underlying70 rfl sz70) ?_
          refine S_alloc 9 9 rfl rfl rfl rfl z70 ?_
          intro b9
          refine S_ 8 rfl rfl rfl _ (y_assign rfl rfl) ?_
          refine S_store 9 rfl rfl rfl rfl rfl rfl sz70 rfl rfl ?_
          refine S_go (fun _ _ h => h) ?_
          refine T_seq ?_
          refine T_draws (by kernel_rfl) (by kernel_rfl) ?_
          refine D_ 63 rfl rfl rfl _ (y_fieldAddr rfl rfl fa70_2) ?_
          refine D_ 64 rfl rfl rfl _ (y_load 9 rfl rfl rfl rfl Tryd.underlying68 rfl) ?_
          refine D_ 65 rfl rfl rfl _ (y_len_slice rfl rfl Tryd.underlying68) ?_
          refine D_ 66 rfl rfl rfl _ (y_fieldAddr rfl rfl fa64_0) ?_
          refine D_ 67 rfl rfl rfl _ (y_load_far rfl rfl (D3.1 0 _ rfl) D3.2 Tryd.underlying3 rfl) ?_
          refine D_ 68 rfl rfl rfl _ (y_bin rfl rfl rfl (fun _ => b_gtr)) ?_
          refine D_ 69 rfl rfl rfl _ (y_move rfl rfl) ?_
          refine Dg_ 70 rfl rfl rfl rfl rfl rfl _ (y_fieldAddr rfl rfl fa70_1) ?_
          refine Dg_ 71 rfl rfl rfl rfl rfl rfl _ (y_load 9 rfl rfl rfl rfl Tryd.underlying9 rfl) ?_
          refine Dg_ 72 rfl rfl rfl rfl rfl rfl _ (y_len_str rfl rfl Tryd.underlying9) ?_
          refine Dg_ 73 rfl rfl rfl rfl rfl rfl _ (y_fieldAddr rfl rfl fa64_3) ?_
          refine Dg_ 74 rfl rfl rfl rfl rfl rfl _ (y_load_far rfl rfl (D3.1 3 _ rfl) D3.2 Tryd.underlying3 rfl) ?_
          refine Dg_ 75 rfl rfl rfl rfl rfl rfl _ (y_bin rfl rfl rfl (fun _ => b_gtr)) ?_
          refine D_ 76 rfl rfl rfl _ (y_or rfl rfl rfl) ?_
          refine D_ 77 rfl rfl rfl _ (y_move rfl rfl) ?_
          refine Dg_ 78 rfl rfl rfl rfl rfl rfl _ (y_fieldAddr rfl rfl fa70_2) ?_
          refine Dg_ 79 rfl rfl rfl rfl rfl rfl _ (y_load 9 rfl rfl rfl rfl Tryd.underlying68 rfl) ?_
          refine Dg_ 80 rfl rfl rfl rfl rfl rfl _ (y_len_slice rfl rfl Tryd.underlying68) ?_
          refine Dg_ 81 rfl rfl rfl rfl rfl rfl _ (y_fieldAddr rfl rfl fa52_3) ?_
          refine Dg_ 82 rfl rfl rfl rfl rfl rfl _ (y_load_far rfl rfl (D2.1 3 _ rfl) D2.2 Tryd.underlying48 rfl) ?_
          refine Dg_ 83 rfl rfl rfl rfl rfl rfl _ (y_move rfl rfl) ?_
          refine Dg_ 84 rfl rfl rfl rfl rfl rfl _ (y_indexAddr rfl rfl rfl Tryd.underlying48 sz70 (fun hg => he2.fa.ok.t.isSome (by simp only [Bool.true_and, Bool.and_eq_true, beq_iff_eq, decide_eq_true_eq, decide_eq_false_iff_not, Int.not_lt, Int.not_le] at hg; omega)) (fun hg => by simp only [Bool.true_and, Bool.and_eq_true, beq_iff_eq, decide_eq_true_eq, decide_eq_false_iff_not, Int.not_lt, Int.not_le] at hg; omega)) ?_
          refine Dg_ 85 rfl rfl rfl rfl rfl rfl _ (y_fieldEl rfl rfl he2.fa.ok.t.rd (fun hg => by simp only [Bool.true_and, Bool.and_eq_true, beq_iff_eq, decide_eq_true_eq, decide_eq_false_iff_not, Int.not_lt, Int.not_le] at hg; omega) fa70_2) ?_
          refine Dg_ 86 rfl rfl rfl rfl rfl rfl _ (y_load_fT rfl rfl he2.fa.ok.t (fun _ => rfl) (fun _ => hy1) rfl Tryd.underlying68 rfl) ?_
          refine Dg_ 87 rfl rfl rfl rfl rfl rfl _ (y_len_slice rfl rfl Tryd.underlying68) ?_
          refine Dg_ 88 rfl rfl rfl rfl rfl rfl _ (y_fieldAddr rfl rfl fa64_0) ?_
          refine Dg_ 89 rfl rfl rfl rfl rfl rfl _ (y_load_far rfl rfl (D3.1 0 _ rfl) D3.2 Tryd.underlying3 rfl) ?_
          refine Dg_ 90 rfl rfl rfl rfl rfl rfl _ (y_minG rfl rfl rfl) ?_
          refine Dg_ 91 rfl rfl rfl rfl rfl rfl _ (y_bin rfl rfl rfl (fun _ => b_lss)) ?_
          refine D_ 92 rfl rfl rfl _ (y_or rfl rfl rfl) ?_
          refine D_go (fun _ _ h => h) ?_
          refine T_cond rfl (fun h92 => ?_) (fun h92 => ?_)
          · skip
            simp only [Flt.cont, fitF, Prod.mk.injEq] at hy2
            obtain ⟨hk, ht, hl⟩ := hy2
            have a1 := (hv2.fa.n v (mem_at hx1)).fr.ok.t.len
            have a2 := (he2.fa.n y (mem_at hy1)).fr.ok.t.len
            have a3 := cutF_len y.fr.l f.toNat
            have a4 := cutS_le (s := y.t) (n := x) (by omega)
            rw [← ht] at a4
            rw [← hl] at a3
            simp only [Bool.or_eq_true, decide_eq_true_eq] at h92
            rcases h92 with (h | h) | h
            · omega
            · omega
            · split at h <;> omega
          · skip
            refine T_skip_go (fun _ _ h => h) ?_
            refine T_region ?_
            refine S_ 93 rfl rfl rfl _ (y_bin rfl rfl rfl (fun hg => b_add (by omega))) ?_
            refine S_ 58 rfl rfl rfl _ (y_move rfl rfl) ?_
            refine S_nil (nextK1 (kf := [(4, 4), (8, 9), (58, 93)]) (kl := [(4, 4), (8, 9), (58, 93)]) (i + 1) (by repeat (first | exact kf_nil | (apply kf_in; focus rfl) | (apply kf_out; focus rfl))) (by repeat (first | exact kl_nil | exact kl_rest (by assumption) rfl | (apply kl_in; focus rfl) | (apply kl_out; focus rfl))) ?_ ?_ ?_ ?_)
            · omega
            · omega
            · exact ⟨rfl, trivial⟩
            · exact trivial
        · try simp only [decide_eq_true_eq, decide_eq_false_iff_not, Bool.or_eq_true, Bool.or_eq_false_iff, Bool.and_eq_true, Bool.and_eq_false_iff, Bool.not_eq_true', Bool.not_eq_false', Bool.not_eq_true, Bool.not_eq_false, Bool.not_true, Bool.not_false, Int.not_lt, Int.not_le, not_or, not_and, Classical.not_not] at h59
          refine T_exit_go (fun _ _ h => h) ?_
          refine T_seq ?_
          refine T_region ?_
          refine S_ 4 rfl rfl rfl _ (y_assign rfl rfl) ?_
          refine S_go (fun _ _ h => h) ?_
          refine T_ret (fun a w hF hM => hRb a w (post1 rfl rfl (fun w hM => ?_) a w hF hM))
          exact ⟨rfl, hb1.trans ((hb3.trans (hM.below.mono hb3.size)).mono hb1.size)⟩
end Go.Proofs.YtoeipmepmlikcaaDoor
