/- The law SymbolCovers walked; the sort of Shares is a premise (SortsShares). -/
import Derived.Test.YtofolhnecfkjkaaDoorCov
import Derived.Test.YtofolhnecfkjkaaDoorAwake
namespace Go.Proofs.YtofolhnecfkjkaaDoor
set_option linter.unusedSimpArgs false
set_option linter.unusedVariables false
set_option maxRecDepth 20000
open Go.RowKit Go.Eng
theorem at_none {t : Tab} {x : Int} (h0 : tabNo t = 0) (h : atNo t x ≠ 0 ∨ findI (SFunc.has x) t.fu.l 0 < 0) : findI (SFunc.has x) t.fu.l 0 < 0 ∧ atAll t x = [] := by
  have hf : findI (SFunc.has x) t.fu.l 0 < 0 := by
    rcases h with h | h
    · by_cases hf : findI (SFunc.has x) t.fu.l 0 < 0
      · exact hf
      · refine func_in (size := t.size) _ 0 0 (funcs_of h0) (Int.le_refl _) (Decidable.byContradiction fun hn => h ?_)
        have e : outB x 0 (t.size - 1) = false := by simp only [outB, Bool.or_eq_false_iff, decide_eq_false_iff_not]; omega
        exact fst_b h0 (by rw [if_f e, if_neg hf])
    · exact h
  refine ⟨hf, ?_⟩
  unfold atAll
  split
  · rw [atOut]; exact if_pos hf
  · rfl
theorem at_some {t : Tab} {x : Int} (h0 : tabNo t = 0) (h1 : atNo t x = 0) (h2 : 0 ≤ findI (SFunc.has x) t.fu.l 0) : ∃ (n : Nat) (fn : SFunc) (q : List SPlace) (p : SPlace), findI (SFunc.has x) t.fu.l 0 = n ∧ t.fu.l[n]? = some fn ∧ atAll t x = q ++ [p] ∧ p.fn = fn.name ∧ q.length ≤ 10 := by
  obtain ⟨n, fn, hn, hfn, _⟩ := findI_at t.fu.l 0 (Int.le_refl _) h2
  obtain ⟨q, p, e1, e2, e3⟩ := atOut_last (x := x) (n := n) h0 (by omega) hfn
  refine ⟨n, fn, q, p, by omega, hfn, ?_, e2, e3⟩
  have ho : outB x 0 (t.size - 1) = false := by
    cases h : outB x 0 (t.size - 1) with
    | false => rfl
    | true =>
      have := (fst_zero h1).2
      rw [if_t h] at this
      cases this
  rw [atAll, if_pos ⟨h0, ho⟩, e1]
set_option maxHeartbeats 1600000 in
theorem SymbolCovers_any {le : SShare → SShare → Bool} (hS : SortsShares le) (t : Tab) (x : Int) (w : World) (hok : t.Ok w) :
    Calls Tryd.prog 8 #[.agg #[str t.id, .int .i64 t.size, .slice t.fi.A t.fi.q t.fi.c, .slice t.fu.A t.fu.q t.fu.c, .slice t.ro.A t.ro.q t.ro.c, .slice t.ca.A t.ca.q t.ca.c], .int .i64 x] w fun e w' => e = .returned (.bool true) ∧ Below w.heap.size w w' := by
  have hq := hok.small
  have hft := hok.fu.t
  have hfl := hft.len
  refine enter_args (args := [.agg #[str t.id, .int .i64 t.size, .slice t.fi.A t.fi.q t.fi.c, .slice t.fu.A t.fu.q t.fu.c, .slice t.ro.A t.ro.q t.ro.c, .slice t.ca.A t.ca.q t.ca.c], .int .i64 x]) (F := _) Tryd.func8 rfl Tryd.ntmps8 rfl rfl ?_
  intro Rb hRb hRn
  refine T_seq ?_
  refine T_region ?_
  refine S_box 2 2 rfl rfl rfl rfl rfl ?_
  intro b2
  refine S_ 4 rfl rfl rfl _ (y_assign rfl rfl) ?_
  refine S_go (fun _ _ h => h) ?_
  refine T_seq ?_
  refine T_seq ?_
  refine T_region ?_
  refine S_ 16 rfl rfl rfl _ (y_call rfl rfl rfl cf17 (fun _ w _ => awake_any w)) ?_
  refine S_ 17 rfl rfl rfl _ (y_not rfl rfl) ?_
  refine S_go (fun _ _ h => h) ?_
  refine T_cond rfl (fun h17 => ?_) (fun h17 => ?_)
  · skip
    simp at h17
  · skip
    refine T_skip_go (fun _ _ h => h) ?_
    refine T_seq ?_
    refine T_region ?_
    refine S_ 19 rfl rfl rfl _ (y_loadA 2 rfl rfl rfl Tryd.underlying27 rfl sz27) ?_
    refine S_callN 20 [] [(13, 13)] (X := List SShare × Option Addr × Nat) rfl rfl rfl rfl rfl rfl rfl cf38 rfl (fun z => .tuple #[.slice z.2.1 z.1.length z.2.2, .int .i64 (tabNo t)]) (fun z => ShOk le t z.1) (fun z => [(13, shIt z.2.1 z.2.2 z.1)]) (fun _ => rfl) (fun _ => rfl) (fun K1 hK1 w hM => Shares_any hS hK1 t w hok hM) ?_
    rintro ⟨l, A, c⟩ hl
    dsimp only at hl
    refine S_ 18 rfl rfl rfl _ (y_move rfl rfl) ?_
    refine S_ 21 rfl rfl rfl _ (y_extract rfl rfl rfl) ?_
    refine S_ 22 rfl rfl rfl _ (y_extract rfl rfl rfl) ?_
    refine S_ 5 rfl rfl rfl _ (y_assign rfl rfl) ?_
    refine S_ 6 rfl rfl rfl _ (y_assign rfl rfl) ?_
    refine S_go (fun _ _ h => h) ?_
    refine T_seq ?_
    refine T_seq ?_
    refine T_region ?_
    refine S_ 23 rfl rfl rfl _ (y_move rfl rfl) ?_
    refine S_ 24 rfl rfl rfl _ (y_bin rfl rfl rfl (fun _ => b_neq)) ?_
    refine S_go (fun _ _ h => h) ?_
    refine T_cond rfl (fun h24 => ?_) (fun h24 => ?_)
    · try simp only [decide_eq_true_eq, decide_eq_false_iff_not, Bool.or_eq_true, Bool.or_eq_false_iff, Bool.and_eq_true, Bool.and_eq_false_iff, Bool.not_eq_true', Bool.not_eq_false', Bool.not_eq_true, Bool.not_eq_false, Bool.not_true, Bool.not_false, Int.not_lt, Int.not_le, not_or, not_and, Classical.not_not] at h24
      refine T_seq ?_
      refine T_region ?_
      refine S_ 4 rfl rfl rfl _ (y_assign rfl rfl) ?_
      refine S_go (fun _ _ h => h) ?_
      refine T_ret (fun a w hF hM => hRb a w (post1 rfl rfl (fun w hM => ?_) a w hF hM))
      exact ⟨rfl, hM.below⟩
    · try simp only [decide_eq_true_eq, decide_eq_false_iff_not, Bool.or_eq_true, Bool.or_eq_false_iff, Bool.and_eq_true, Bool.and_eq_false_iff, Bool.not_eq_true', Bool.not_eq_false', Bool.not_eq_true, Bool.not_eq_false, Bool.not_true, Bool.not_false, Int.not_lt, Int.not_le, not_or, not_and, Classical.not_not] at h24
      obtain ⟨hs_pos, hs_sum, hs_len⟩ := hl.sum h24
      obtain ⟨⟨_, hso⟩, hb1, hb2, hb3, hb4⟩ := rows_of h24
      have hsz := size_of_out hso
      have hfz := funcs_of h24
      have htot := lenF_le _ 0 hfz (by omega)
      refine T_skip_go (fun _ _ h => h) ?_
      refine T_seq ?_
      refine T_region ?_
      refine S_ 7 rfl rfl rfl _ (y_assign rfl rfl) ?_
      refine S_ 8 rfl rfl rfl _ (y_assign rfl rfl) ?_
      refine S_go (fun _ _ h => h) ?_
      refine T_seq ?_
      refine T_seq ?_
      refine T_region ?_
      refine S_ 25 rfl rfl rfl _ (y_move rfl rfl) ?_
      refine S_ 26 rfl rfl rfl _ (y_len_slice rfl rfl Tryd.underlying74) ?_
      refine S_ 27 rfl rfl rfl _ (y_move rfl rfl) ?_
      refine S_go (fun _ _ h => h) ?_
      refine T_block ?_
      refine T_loopK2 (kf := [(4, 4), (7, 7), (10, 10), (27, 38)]) (kl := [(4, 4), (7, 7), (10, 10), (27, 38)]) (fun (i : Nat) (s1 : Int) => [(27, true, .int .i64 (i : Int)), (7, true, .int .i64 s1)]) (fun (i : Nat) (s1 : Int) => []) (fun (i : Nat) (s1 : Int) => i ≤ l.length ∧ s1 + sumS (l.drop i) = lenF t.fu.l ∧ 0 ≤ s1) (fun (i : Nat) (s1 : Int) => l.length - i) 0 0 (by repeat (first | exact kf_nil | (apply kf_in; focus rfl) | (apply kf_out; focus rfl))) (by repeat (first | exact kl_nil | exact kl_rest (by assumption) rfl | (apply kl_in; focus rfl) | (apply kl_out; focus rfl))) ?_ ?_ ?_ ?_
      · exact ⟨by omega, by rw [List.drop_zero, hs_sum]; omega, by omega⟩
      · exact ⟨rfl, rfl, trivial⟩
      · exact trivial
      rintro i s1 ⟨hp1, hp2, hp3⟩
      refine T_seq ?_
      refine T_region ?_
      refine S_ 28 rfl rfl rfl _ (y_bin rfl rfl rfl (fun _ => b_lss)) ?_
      refine S_go (fun _ _ h => h) ?_
      refine T_seq ?_
      refine T_cond rfl (fun h28 => ?_) (fun h28 => ?_)
      · try simp only [decide_eq_true_eq, decide_eq_false_iff_not, Bool.or_eq_true, Bool.or_eq_false_iff, Bool.and_eq_true, Bool.and_eq_false_iff, Bool.not_eq_true', Bool.not_eq_false', Bool.not_eq_true, Bool.not_eq_false, Bool.not_true, Bool.not_false, Int.not_lt, Int.not_le, not_or, not_and, Classical.not_not] at h28
        obtain ⟨s, hs1, hs2⟩ := at_lt (l := l) (i := i) (by omega)
        have hsp := hs_pos s (mem_at hs1)
        have hsr := sumS_le (l.drop (i + 1)) fun s hs => hs_pos s (List.mem_of_mem_drop hs)
        rw [hs2, sumS] at hp2
        refine T_skip_go (fun _ _ h => h) ?_
        refine T_seq ?_
        refine T_block ?_
        refine T_seq ?_
        refine T_region ?_
        refine S_ 29 rfl rfl rfl _ (y_indexOwn 13 rfl rfl rfl rfl Tryd.underlying74 sz78 (fun _ => by show i < l.length; omega)) ?_
        refine S_ 30 rfl rfl rfl _ (y_loadO 13 rfl rfl rfl rfl (fun _ => rfl) (fun _ => hs1) Tryd.underlying78 rfl sz78) ?_
        refine S_alloc 10 10 rfl rfl rfl rfl z78 ?_
        intro b10
        refine S_store 10 rfl rfl rfl rfl rfl rfl sz78 rfl rfl ?_
        refine S_go (fun _ _ h => h) ?_
        refine T_seq ?_
        refine T_seq ?_
        refine T_region ?_
        refine S_ 31 rfl rfl rfl _ (y_fieldAddr rfl rfl fa78_1) ?_
        refine S_ 32 rfl rfl rfl _ (y_load 10 rfl rfl rfl rfl Tryd.underlying3 rfl) ?_
        refine S_ 33 rfl rfl rfl _ (y_bin rfl rfl rfl (fun _ => b_lss)) ?_
        refine S_go (fun _ _ h => h) ?_
        refine T_cond rfl (fun h33 => ?_) (fun h33 => ?_)
        · try simp only [decide_eq_true_eq, decide_eq_false_iff_not, Bool.or_eq_true, Bool.or_eq_false_iff, Bool.and_eq_true, Bool.and_eq_false_iff, Bool.not_eq_true', Bool.not_eq_false', Bool.not_eq_true, Bool.not_eq_false, Bool.not_true, Bool.not_false, Int.not_lt, Int.not_le, not_or, not_and, Classical.not_not] at h33
          omega
        · try simp only [decide_eq_true_eq, decide_eq_false_iff_not, Bool.or_eq_true, Bool.or_eq_false_iff, Bool.and_eq_true, Bool.and_eq_false_iff, Bool.not_eq_true', Bool.not_eq_false', Bool.not_eq_true, Bool.not_eq_false, Bool.not_true, Bool.not_false, Int.not_lt, Int.not_le, not_or, not_and, Classical.not_not] at h33
          refine T_skip_go (fun _ _ h => h) ?_
          refine T_region ?_
          refine S_ 34 rfl rfl rfl _ (y_move rfl rfl) ?_
          refine S_ 35 rfl rfl rfl _ (y_fieldAddr rfl rfl fa78_1) ?_
          refine S_ 36 rfl rfl rfl _ (y_load 10 rfl rfl rfl rfl Tryd.underlying3 rfl) ?_
          refine S_ 37 rfl rfl rfl _ (y_bin rfl rfl rfl (fun hg => b_add (by omega))) ?_
          refine S_ 7 rfl rfl rfl _ (y_assign rfl rfl) ?_
          refine S_go (fun _ _ h => h) ?_
          refine T_region ?_
          refine S_ 38 rfl rfl rfl _ (y_bin rfl rfl rfl (fun hg => b_add (by omega))) ?_
          refine S_ 27 rfl rfl rfl _ (y_move rfl rfl) ?_
          refine S_nil (nextK2 (kf := [(4, 4), (7, 7), (10, 10), (27, 38)]) (kl := [(4, 4), (7, 7), (10, 10), (27, 38)]) (i + 1) (s1 + s.n) (by repeat (first | exact kf_nil | (apply kf_in; focus rfl) | (apply kf_out; focus rfl))) (by repeat (first | exact kl_nil | exact kl_rest (by assumption) rfl | (apply kl_in; focus rfl) | (apply kl_out; focus rfl))) ?_ ?_ ?_ ?_)
          · omega
          · exact ⟨by omega, by omega, by omega⟩
          · exact ⟨rfl, rfl, trivial⟩
          · exact trivial
      · try simp only [decide_eq_true_eq, decide_eq_false_iff_not, Bool.or_eq_true, Bool.or_eq_false_iff, Bool.and_eq_true, Bool.and_eq_false_iff, Bool.not_eq_true', Bool.not_eq_false', Bool.not_eq_true, Bool.not_eq_false, Bool.not_true, Bool.not_false, Int.not_lt, Int.not_le, not_or, not_and, Classical.not_not] at h28
        have hz : l.drop i = [] := List.drop_eq_nil_of_le (by omega)
        rw [hz, sumS] at hp2
        refine T_exit_go (fun _ _ h => h) ?_
        refine T_seq ?_
        refine T_seq ?_
        refine T_region ?_
        refine S_ 39 rfl rfl rfl _ (y_fieldAddr rfl rfl fa27_3) ?_
        refine S_ 40 rfl rfl rfl _ (y_load 2 rfl rfl rfl rfl Tryd.underlying23 rfl) ?_
        refine S_ 41 rfl rfl rfl _ (y_len_slice rfl rfl Tryd.underlying23) ?_
        refine S_ 42 rfl rfl rfl _ (y_move rfl rfl) ?_
        refine S_go (fun _ _ h => h) ?_
        refine T_block ?_
        refine T_loopK3 (kf := [(8, 8), (12, 12), (42, 53)]) (kl := [(8, 8), (12, 12), (42, 53)]) (fun (k : Nat) (s2 : Int) (b : Int) => [(42, true, .int .i64 (k : Int)), (8, true, .int .i64 s2)]) (fun (k : Nat) (s2 : Int) (b : Int) => []) (fun (k : Nat) (s2 : Int) (b : Int) => k ≤ t.fu.q ∧ s2 + lenF (t.fu.l.drop k) = lenF t.fu.l ∧ 0 ≤ s2 ∧ funcsNo t.size (t.fu.l.drop k) b = 0) (fun (k : Nat) (s2 : Int) (b : Int) => t.fu.q - k) 0 0 0 (by repeat (first | exact kf_nil | (apply kf_in; focus rfl) | (apply kf_out; focus rfl))) (by repeat (first | exact kl_nil | exact kl_rest (by assumption) rfl | (apply kl_in; focus rfl) | (apply kl_out; focus rfl))) ?_ ?_ ?_ ?_
        · exact ⟨by omega, by rw [List.drop_zero]; omega, by omega, hfz⟩
        · exact ⟨rfl, rfl, trivial⟩
        · exact trivial
        rintro k s2 b ⟨hr1, hr2, hr3, hr4⟩
        refine T_seq ?_
        refine T_region ?_
        refine S_ 43 rfl rfl rfl _ (y_bin rfl rfl rfl (fun _ => b_lss)) ?_
        refine S_go (fun _ _ h => h) ?_
        refine T_seq ?_
        refine T_cond rfl (fun h43 => ?_) (fun h43 => ?_)
        · try simp only [decide_eq_true_eq, decide_eq_false_iff_not, Bool.or_eq_true, Bool.or_eq_false_iff, Bool.and_eq_true, Bool.and_eq_false_iff, Bool.not_eq_true', Bool.not_eq_false', Bool.not_eq_true, Bool.not_eq_false, Bool.not_true, Bool.not_false, Int.not_lt, Int.not_le, not_or, not_and, Classical.not_not] at h43
          obtain ⟨g, hx1, hx2⟩ := hft.at (i := k) (by omega)
          rw [hx2] at hr2 hr4
          obtain ⟨⟨hg1, hg2, hg3⟩, hg4, hg5⟩ := func_step hr4
          have hgl := lenF_le _ g.to hg5 hg3
          rw [lenF] at hr2
          refine T_skip_go (fun _ _ h => h) ?_
          refine T_seq ?_
          refine T_block ?_
          refine T_seq ?_
          refine T_region ?_
          refine S_ 44 rfl rfl rfl _ (y_indexAddr rfl rfl rfl Tryd.underlying23 sz80 (fun hg => hft.isSome (by omega)) (fun _ => by omega)) ?_
          refine S_ 45 rfl rfl rfl _ (y_loadT rfl rfl hft (fun _ => rfl) (fun _ => hx1) Tryd.underlying80 rfl sz80) ?_
          refine S_alloc 12 12 rfl rfl rfl rfl z80 ?_
          intro b12
          refine S_store 12 rfl rfl rfl rfl rfl rfl sz80 rfl rfl ?_
          refine S_go (fun _ _ h => h) ?_
          refine T_region ?_
          refine S_ 46 rfl rfl rfl _ (y_move rfl rfl) ?_
          refine S_ 47 rfl rfl rfl _ (y_fieldAddr rfl rfl fa80_2) ?_
          refine S_ 48 rfl rfl rfl _ (y_load 12 rfl rfl rfl rfl Tryd.underlying3 rfl) ?_
          refine S_ 49 rfl rfl rfl _ (y_fieldAddr rfl rfl fa80_1) ?_
          refine S_ 50 rfl rfl rfl _ (y_load 12 rfl rfl rfl rfl Tryd.underlying3 rfl) ?_
          refine S_ 51 rfl rfl rfl _ (y_bin rfl rfl rfl (fun hg => b_sub (by omega))) ?_
          refine S_ 52 rfl rfl rfl _ (y_bin rfl rfl rfl (fun hg => b_add (by omega))) ?_
          refine S_ 8 rfl rfl rfl _ (y_assign rfl rfl) ?_
          refine S_go (fun _ _ h => h) ?_
          refine T_region ?_
          refine S_ 53 rfl rfl rfl _ (y_bin rfl rfl rfl (fun hg => b_add (by omega))) ?_
          refine S_ 42 rfl rfl rfl _ (y_move rfl rfl) ?_
          refine S_nil (nextK3 (kf := [(8, 8), (12, 12), (42, 53)]) (kl := [(8, 8), (12, 12), (42, 53)]) (k + 1) (s2 + (g.to - g.fr)) g.to (by repeat (first | exact kf_nil | (apply kf_in; focus rfl) | (apply kf_out; focus rfl))) (by repeat (first | exact kl_nil | exact kl_rest (by assumption) rfl | (apply kl_in; focus rfl) | (apply kl_out; focus rfl))) ?_ ?_ ?_ ?_)
          · omega
          · exact ⟨by omega, by omega, by omega, hg5⟩
          · exact ⟨rfl, rfl, trivial⟩
          · exact trivial
        · try simp only [decide_eq_true_eq, decide_eq_false_iff_not, Bool.or_eq_true, Bool.or_eq_false_iff, Bool.and_eq_true, Bool.and_eq_false_iff, Bool.not_eq_true', Bool.not_eq_false', Bool.not_eq_true, Bool.not_eq_false, Bool.not_true, Bool.not_false, Int.not_lt, Int.not_le, not_or, not_and, Classical.not_not] at h43
          have hz2 : t.fu.l.drop k = [] := hft.end (by omega)
          rw [hz2, lenF] at hr2
          refine T_exit_go (fun _ _ h => h) ?_
          refine T_seq ?_
          refine T_seq ?_
          refine T_region ?_
          refine S_ 54 rfl rfl rfl _ (y_move rfl rfl) ?_
          refine S_ 55 rfl rfl rfl _ (y_move rfl rfl) ?_
          refine S_ 56 rfl rfl rfl _ (y_bin rfl rfl rfl (fun _ => b_neq)) ?_
          refine S_go (fun _ _ h => h) ?_
          refine T_cond rfl (fun h56 => ?_) (fun h56 => ?_)
          · try simp only [decide_eq_true_eq, decide_eq_false_iff_not, Bool.or_eq_true, Bool.or_eq_false_iff, Bool.and_eq_true, Bool.and_eq_false_iff, Bool.not_eq_true', Bool.not_eq_false', Bool.not_eq_true, Bool.not_eq_false, Bool.not_true, Bool.not_false, Int.not_lt, Int.not_le, not_or, not_and, Classical.not_not] at h56
            omega
          · try simp only [decide_eq_true_eq, decide_eq_false_iff_not, Bool.or_eq_true, Bool.or_eq_false_iff, Bool.and_eq_true, Bool.and_eq_false_iff, Bool.not_eq_true', Bool.not_eq_false', Bool.not_eq_true, Bool.not_eq_false, Bool.not_true, Bool.not_false, Int.not_lt, Int.not_le, not_or, not_and, Classical.not_not] at h56
            refine T_skip_go (fun _ _ h => h) ?_
            refine T_seq ?_
            refine T_region ?_
            refine S_ 58 rfl rfl rfl _ (y_loadA 2 rfl rfl rfl Tryd.underlying27 rfl sz27) ?_
            refine S_ 59 rfl rfl rfl _ (y_move rfl rfl) ?_
            refine S_ 60 rfl rfl rfl _ (y_call rfl rfl rfl cf9 (fun _ w hM => FuncAt_any t x w (hok.below hM.below))) ?_
            refine S_ 57 rfl rfl rfl _ (y_move rfl rfl) ?_
            refine S_ 61 rfl rfl rfl _ (y_extract rfl rfl rfl) ?_
            refine S_ 62 rfl rfl rfl _ (y_extract rfl rfl rfl) ?_
            refine S_ 13 rfl rfl rfl _ (y_assign rfl rfl) ?_
            refine S_ 14 rfl rfl rfl _ (y_assign rfl rfl) ?_
            refine S_go (fun _ _ h => h) ?_
            refine T_seq ?_
            refine T_region ?_
            refine S_ 64 rfl rfl rfl _ (y_loadA 2 rfl rfl rfl Tryd.underlying27 rfl sz27) ?_
            refine S_ 65 rfl rfl rfl _ (y_move rfl rfl) ?_
            refine S_callOwn 66 66 rfl rfl rfl rfl rfl rfl rfl cf19 (fun A c => .tuple #[.slice A (atAll t x).length c, .int .i64 (atNo t x)]) 46 3 ((atAll t x).length) ((atAll t x).flatMap SPlace.enc) (fun w hM => At_any t x w (hok.below hM.below)) ?_
            intro A66 c66
            refine S_ 63 rfl rfl rfl _ (y_move rfl rfl) ?_
            refine S_ 67 rfl rfl rfl _ (y_extract rfl rfl rfl) ?_
            refine S_ 68 rfl rfl rfl _ (y_extract rfl rfl rfl) ?_
            refine S_ 15 rfl rfl rfl _ (y_assign rfl rfl) ?_
            refine S_ 6 rfl rfl rfl _ (y_assign rfl rfl) ?_
            refine S_go (fun _ _ h => h) ?_
            refine T_seq ?_
            refine T_seq ?_
            refine T_region ?_
            refine S_ 69 rfl rfl rfl _ (y_move rfl rfl) ?_
            refine S_ 70 rfl rfl rfl _ (y_bin rfl rfl rfl (fun _ => b_neq)) ?_
            refine S_ 71 rfl rfl rfl _ (y_move rfl rfl) ?_
            refine Sg_ 72 rfl rfl rfl rfl rfl rfl _ (y_move rfl rfl) ?_
            refine Sg_ 73 rfl rfl rfl rfl rfl rfl _ (y_not rfl rfl) ?_
            refine S_ 74 rfl rfl rfl _ (y_or rfl rfl rfl) ?_
            refine S_go (fun _ _ h => h) ?_
            refine T_cond rfl (fun h74 => ?_) (fun h74 => ?_)
            · skip
              have hno : atNo t x ≠ 0 ∨ findI (SFunc.has x) t.fu.l 0 < 0 := by
                by_cases ha : atNo t x = 0
                · right; simpa [ha] using h74
                · exact .inl ha
              obtain ⟨hn1, hn2⟩ := at_none h24 hno
              refine T_seq ?_
              refine T_region ?_
              refine S_ 75 rfl rfl rfl _ (y_move rfl rfl) ?_
              refine S_ 76 rfl rfl rfl _ (y_not rfl rfl) ?_
              refine S_ 77 rfl rfl rfl _ (y_move rfl rfl) ?_
              refine Sg_ 78 rfl rfl rfl rfl rfl rfl _ (y_move rfl rfl) ?_
              refine Sg_ 79 rfl rfl rfl rfl rfl rfl _ (y_len_slice rfl rfl Tryd.underlying42) ?_
              refine Sg_ 80 rfl rfl rfl rfl rfl rfl _ (y_bin rfl rfl rfl (fun _ => b_eql)) ?_
              refine S_ 81 rfl rfl rfl _ (y_and rfl rfl rfl) ?_
              refine S_ 4 rfl rfl rfl _ (y_assign rfl rfl) ?_
              refine S_go (fun _ _ h => h) ?_
              refine T_ret (fun a w hF hM => hRb a w (post1 rfl rfl (fun w hM => ?_) a w hF hM))
              exact ⟨by rw [hn2, decide_eq_false (by omega : ¬ 0 ≤ findI (SFunc.has x) t.fu.l 0)]; rfl, hM.below⟩
            · skip
              have hyes : atNo t x = 0 ∧ 0 ≤ findI (SFunc.has x) t.fu.l 0 := by simpa using h74
              obtain ⟨n, fn, qs, p, hn, hfn, hall, hpn, hql⟩ := at_some h24 hyes.1 hyes.2
              have hif : (if findI (SFunc.has x) t.fu.l 0 < 0 then 0 else findI (SFunc.has x) t.fu.l 0) = (n : Int) := by rw [if_neg (by omega)]; omega
              have hnl := (List.getElem?_eq_some_iff.1 hfn).1
              have hlen : (atAll t x).length = qs.length + 1 := by rw [hall]; simp
              have hel : (atAll t x)[qs.length]? = some p := by rw [hall]; simp
              refine T_skip_go (fun _ _ h => h) ?_
              refine T_seq ?_
              refine T_draws (by kernel_rfl) (by kernel_rfl) ?_
              refine D_ 82 rfl rfl rfl _ (y_move rfl rfl) ?_
              refine D_ 83 rfl rfl rfl _ (y_len_slice rfl rfl Tryd.underlying42) ?_
              refine D_ 84 rfl rfl rfl _ (y_bin rfl rfl rfl (fun _ => b_gtr)) ?_
              refine D_ 85 rfl rfl rfl _ (y_move rfl rfl) ?_
              refine Dg_ 86 rfl rfl rfl rfl rfl rfl _ (y_move rfl rfl) ?_
              refine Dg_ 87 rfl rfl rfl rfl rfl rfl _ (y_move rfl rfl) ?_
              refine Dg_ 88 rfl rfl rfl rfl rfl rfl _ (y_len_slice rfl rfl Tryd.underlying42) ?_
              refine Dg_ 89 rfl rfl rfl rfl rfl rfl _ (y_bin rfl rfl rfl (fun hg => b_sub (by simp only [Bool.true_and, Bool.and_eq_true, beq_iff_eq, decide_eq_true_eq, decide_eq_false_iff_not, Int.not_lt, Int.not_le] at hg; omega))) ?_
              refine Dg_ 90 rfl rfl rfl rfl rfl rfl _ (y_indexOwnI (j := qs.length) 66 rfl rfl rfl (fun _ => by omega) rfl Tryd.underlying42 sz46 (fun _ => by omega)) ?_
              refine Dg_ 91 rfl rfl rfl rfl rfl rfl _ (y_fieldOwn 66 rfl rfl rfl (fun hg => by simp only [Bool.true_and, Bool.and_eq_true, beq_iff_eq, decide_eq_true_eq, decide_eq_false_iff_not, Int.not_lt, Int.not_le] at hg; omega) fa46_0) ?_
              refine Dg_ 92 rfl rfl rfl rfl rfl rfl _ (y_load_cellOwn 66 rfl rfl rfl (fun _ => by omega) (fun _ => flat_at (enc := SPlace.enc) (size := 3) (fun _ => rfl) hel 0 (str p.fn) rfl) Tryd.underlying9 rfl) ?_
              refine Dg_ 93 rfl rfl rfl rfl rfl rfl _ (y_fieldAddr rfl rfl fa27_3) ?_
              refine Dg_ 94 rfl rfl rfl rfl rfl rfl _ (y_load 2 rfl rfl rfl rfl Tryd.underlying23 rfl) ?_
              refine Dg_ 95 rfl rfl rfl rfl rfl rfl _ (y_move rfl rfl) ?_
              refine Dg_ 96 rfl rfl rfl rfl rfl rfl _ (y_indexAddrI (j := n) rfl rfl rfl (fun _ => by omega) Tryd.underlying23 sz80 (fun _ => hft.isSome (by omega)) (fun _ => by omega)) ?_
              refine Dg_ 97 rfl rfl rfl rfl rfl rfl _ (y_fieldEl rfl rfl hft.rd (fun _ => by omega) fa80_0) ?_
              refine Dg_ 98 rfl rfl rfl rfl rfl rfl _ (y_load_fT rfl rfl hft (fun _ => rfl) (fun _ => hfn) rfl Tryd.underlying9 rfl) ?_
              refine Dg_ 99 rfl rfl rfl rfl rfl rfl _ (y_bin rfl rfl rfl (fun _ => b_eqls)) ?_
              refine D_ 100 rfl rfl rfl _ (y_and rfl rfl rfl) ?_
              refine D_ 101 rfl rfl rfl _ (y_move rfl rfl) ?_
              refine Dg_ 102 rfl rfl rfl rfl rfl rfl _ (y_move rfl rfl) ?_
              refine Dg_ 103 rfl rfl rfl rfl rfl rfl _ (y_len_slice rfl rfl Tryd.underlying42) ?_
              refine Dg_ 104 rfl rfl rfl rfl rfl rfl _ (y_bin rfl rfl rfl (fun _ => b_leq)) ?_
              refine D_ 105 rfl rfl rfl _ (y_and rfl rfl rfl) ?_
              refine D_ 4 rfl rfl rfl _ (y_assign rfl rfl) ?_
              refine D_go (fun _ _ h => h) ?_
              refine T_ret (fun a w hF hM => hRb a w (post1 rfl rfl (fun w hM => ?_) a w hF hM))
              exact ⟨by rw [hlen, hpn]; simp; omega, hM.below⟩
end Go.Proofs.YtofolhnecfkjkaaDoor
