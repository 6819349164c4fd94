/- event.With. Conditions: those of the theorem. -/
import Derived.Test.YtoeipmepmlikcaaDoorEWithP
import Derived.Test.YtoeipmepmlikcaaDoorSlsf
namespace Go.Proofs.YtoeipmepmlikcaaDoor
set_option linter.unusedSimpArgs false
set_option linter.unusedVariables false
set_option maxRecDepth 20000
open Go.RowKit Go.Eng
theorem with1_any (x y : STag) (w : World) : Calls Tryd.prog 117 (#[.agg x.enc.toArray, .agg y.enc.toArray] ++ #[]) w fun e w' => e = .returned (.int .i64 (cfT x y)) ∧ Below w.heap.size w w' := by
  refine enter_args (args := [.agg #[str x.n, str x.v], .agg #[str y.n, str y.v]]) (F := _) Tryd.func117 rfl Tryd.ntmps117 rfl rfl ?_
  intro Rb hRb hRn
  refine T_seq ?_
  refine T_region ?_
  refine S_box 2 2 rfl rfl rfl rfl rfl ?_
  intro b2
  refine S_box 3 3 rfl rfl rfl rfl rfl ?_
  intro b3
  refine S_ 4 rfl rfl rfl _ (y_assign rfl rfl) ?_
  refine S_go (fun _ _ h => h) ?_
  refine T_seq ?_
  refine T_region ?_
  refine S_ 5 rfl rfl rfl _ (y_fieldAddr rfl rfl fa128_0) ?_
  refine S_ 6 rfl rfl rfl _ (y_load 2 rfl rfl rfl rfl Tryd.underlying9 rfl) ?_
  refine S_ 7 rfl rfl rfl _ (y_fieldAddr rfl rfl fa128_0) ?_
  refine S_ 8 rfl rfl rfl _ (y_load 3 rfl rfl rfl rfl Tryd.underlying9 rfl) ?_
  refine S_ 9 rfl rfl rfl _ (y_call rfl rfl rfl cf118 (fun _ w _ => cmpB_any _ _ w)) ?_
  refine S_ 4 rfl rfl rfl _ (y_assign rfl rfl) ?_
  refine S_go (fun _ _ h => h) ?_
  refine T_ret (fun a w hF hM => hRb a w (post1 rfl rfl (fun w hM => ?_) a w hF hM))
  exact ⟨rfl, hM.below⟩
theorem with3_any (x y : STag) (w : World) : Calls Tryd.prog 124 (#[.agg x.enc.toArray, .agg y.enc.toArray] ++ #[]) w fun e w' => e = .returned (.int .i64 (cfT x y)) ∧ Below w.heap.size w w' := by
  refine enter_args (args := [.agg #[str x.n, str x.v], .agg #[str y.n, str y.v]]) (F := _) Tryd.func124 rfl Tryd.ntmps124 rfl rfl ?_
  intro Rb hRb hRn
  refine T_seq ?_
  refine T_region ?_
  refine S_box 2 2 rfl rfl rfl rfl rfl ?_
  intro b2
  refine S_box 3 3 rfl rfl rfl rfl rfl ?_
  intro b3
  refine S_ 4 rfl rfl rfl _ (y_assign rfl rfl) ?_
  refine S_go (fun _ _ h => h) ?_
  refine T_seq ?_
  refine T_region ?_
  refine S_ 5 rfl rfl rfl _ (y_fieldAddr rfl rfl fa128_0) ?_
  refine S_ 6 rfl rfl rfl _ (y_load 2 rfl rfl rfl rfl Tryd.underlying9 rfl) ?_
  refine S_ 7 rfl rfl rfl _ (y_fieldAddr rfl rfl fa128_0) ?_
  refine S_ 8 rfl rfl rfl _ (y_load 3 rfl rfl rfl rfl Tryd.underlying9 rfl) ?_
  refine S_ 9 rfl rfl rfl _ (y_call rfl rfl rfl cf118 (fun _ w _ => cmpB_any _ _ w)) ?_
  refine S_ 4 rfl rfl rfl _ (y_assign rfl rfl) ?_
  refine S_go (fun _ _ h => h) ?_
  refine T_ret (fun a w hF hM => hRb a w (post1 rfl rfl (fun w hM => ?_) a w hF hM))
  exact ⟨rfl, hM.below⟩
theorem sortTags_any {w0 : World} {K : HL} (hK : FromK K) (g : FuncId) (hcf : ∀ args w, (callFunc g args).run Tryd.prog w = .ok (.enter g args) w) (hcmp : ∀ (x y : STag) w, Calls Tryd.prog g (#[.agg x.enc.toArray, .agg y.enc.toArray] ++ #[]) w fun e w' => e = .returned (.int .i64 (cfT x y)) ∧ Below w.heap.size w w')
    (A : Option Addr) (q c : Nat) (l : List STag) (hlen : l.length = q) (hq : q ≤ 1000000000) (w : World) (hM : Mem w0 ([(0, .own 128 2 (.slice A q c) q (l.flatMap STag.enc))] ++ K) w) :
    Calls Tryd.prog 116 #[.slice A q c, .func (.func g) #[] #[]] w fun e w' => ∃ l' : List STag, e = .returned (.tuple #[]) ∧ l' = tsort l ∧ Mem w0 ([(0, .own 128 2 (.slice A q c) q (l'.flatMap STag.enc))] ++ K) w' :=
  sort_own Tryd.laysSort116 (k := 2) (enc := STag.enc) Tryd.isAgg128 Tryd.sizeOf128 (fun _ => rfl)
    (fun x v hv => by simp only [STag.enc, List.mem_cons, List.not_mem_nil, or_false] at hv; rcases hv with rfl | rfl <;> rfl) cfT swoT g #[] hcf hK 128 A q c l w hlen (by omega) (fun w' _ x y => hcmp x y w') hM
/-- what With and WithTags make is right in memory -/
theorem wi_ok {w0 : World} {e : Evt} {rs : List Row} {A B D : Option Addr} {c b d tq : Nat} {gs : List Flt} {tl : List STag} (he : e.Ok w0) (hgs : gs.length = e.fa.q) (h4 : ∀ g ∈ gs, Sees w0 rs fun w => FltOk w g) (hq : e.fa.q ≤ 10)
    (htl : tl.length = tq) (ht40 : tq ≤ 40) (hts : ∀ s ∈ tl, s.n.length ≤ 4611686018427387904 ∧ s.v.length ≤ 4611686018427387904) :
    Sees w0 (((rs ++ [(⟨70, 3, .slice A e.fa.q c, e.fa.q, gs.flatMap Flt.enc⟩ : Row)]) ++ [⟨78, 3, .slice D e.cr.q d, e.cr.q, e.cr.l.flatMap SCrumb.enc⟩]) ++ [⟨128, 2, .slice B tq b, tq, tl.flatMap STag.enc⟩])
      fun w => Evt.Ok w ⟨e.id, e.at_, e.lv, ⟨A, e.fa.q, c, gs⟩, ⟨B, tq, b, tl⟩, ⟨D, e.cr.q, d, e.cr.l⟩, e.rel, e.us, e.wt⟩ := fun w hb hr =>
  ⟨⟨row_ok (hr _ (List.mem_append_left _ (List.mem_append_left _ (List.mem_append_right _ (List.mem_singleton.2 rfl))))) hgs, Nat.le_trans hq (by decide), fun g hg => h4 g hg w hb fun r h => hr r (List.mem_append_left _ (List.mem_append_left _ (List.mem_append_left _ h)))⟩,
   ⟨row_ok (hr _ (List.mem_append_right _ (List.mem_singleton.2 rfl))) htl, Nat.le_trans ht40 (by decide), hts⟩,
   ⟨row_ok (hr _ (List.mem_append_left _ (List.mem_append_right _ (List.mem_singleton.2 rfl)))) he.cr.ok.t.len, he.cr.q, he.cr.n⟩, he.id, he.rel, he.us⟩
theorem cont_ok {w0 : World} {e : Evt} {rs : List Row} {gs : List Flt} (he : e.Ok w0) (h1 : gs.map Flt.cont = e.fa.l.map Flt.cont) (h2 : ∀ g ∈ gs, Sees w0 rs fun w => FrmsOk w g.fr) : ∀ g ∈ gs, Sees w0 rs fun w => FltOk w g := fun g hg => by
  have hm : g.cont ∈ e.fa.l.map Flt.cont := by rw [← h1]; exact List.mem_map_of_mem hg
  obtain ⟨y, hy, hyg⟩ := List.mem_map.1 hm
  have hk : y.k = g.k := congrArg (fun p : List UInt8 × List UInt8 × List Frm => p.1) hyg
  have ht : y.t = g.t := congrArg (fun p : List UInt8 × List UInt8 × List Frm => p.2.1) hyg
  have hn := he.fa.n y hy
  exact (h2 g hg).map fun w h => ⟨by rw [← hk]; exact hn.k, by rw [← ht]; exact hn.t, h⟩
set_option maxHeartbeats 1600000 in
theorem With_any {w0 : World} {K : HL} (hK : FromK K) (e : Evt) (ts : Sl STag) (w : World) (he : e.Ok w0) (hts : TagsOk w0 ts) (hM0 : Mem w0 ([] ++ K) w) :
    Calls Tryd.prog 50 #[e.val, .slice ts.A ts.q ts.c] w fun en w' => ∃ z : FitR, en = .returned (.tuple #[z.ev.val, .int .i64 (withNo e ts.l)]) ∧ (((withNo e ts.l = 0 → WiP e ts.l z.ev) ∧ (withNo e ts.l ≠ 0 → z.ev = evZ)) ∧ Sees w0 z.rs fun w => z.ev.Ok w) ∧ Mem w0 ([(900, .many z.rs)] ++ K) w' := by
  have het := he.ta.ok.t
  have hetl := het.len
  have hetq := he.ta.q
  have htt := hts.ok.t
  have httl := htt.len
  have httq := hts.q
  refine enterM_args (args := [.agg #[str e.id, .int .i64 e.at_, .int .i64 e.lv, .slice e.fa.A e.fa.q e.fa.c, .slice e.ta.A e.ta.q e.ta.c, .slice e.cr.A e.cr.q e.cr.c, str e.rel, str e.us, .int .i64 e.wt], .slice ts.A ts.q ts.c]) (F := _) hM0 Tryd.func50 rfl Tryd.ntmps50 rfl rfl ?_
  intro Rb hRb hRn
  refine T_seq ?_
  refine T_region ?_
  refine S_box 2 2 rfl rfl rfl rfl rfl ?_
  intro b2
  refine S_alloc 4 4 rfl rfl rfl rfl z52 ?_
  intro b4
  refine S_ 5 rfl rfl rfl _ (y_assign rfl rfl) ?_
  refine S_go (fun _ _ h => h) ?_
  refine T_seq ?_
  refine T_seq ?_
  refine T_region ?_
  refine S_ 16 rfl rfl rfl _ (y_loadA 2 rfl rfl rfl Tryd.underlying52 rfl sz52) ?_
  refine S_ 17 rfl rfl rfl _ (y_call rfl rfl rfl cf33 (fun _ w hM => Check_any e w (he.below hM.below))) ?_
  refine S_ 6 rfl rfl rfl _ (y_assign rfl rfl) ?_
  refine S_go (fun _ _ h => h) ?_
  refine T_seq ?_
  refine T_region ?_
  refine S_ 18 rfl rfl rfl _ (y_move rfl rfl) ?_
  refine S_ 19 rfl rfl rfl _ (y_bin rfl rfl rfl (fun _ => b_neq)) ?_
  refine S_go (fun _ _ h => h) ?_
  refine T_cond rfl (fun h19 => ?_) (fun h19 => ?_)
  · try simp only [decide_eq_true_eq, decide_eq_false_iff_not, Bool.or_eq_true, Bool.or_eq_false_iff, Bool.and_eq_true, Bool.and_eq_false_iff, Bool.not_eq_true', Bool.not_eq_false', Bool.not_eq_true, Bool.not_eq_false, Bool.not_true, Bool.not_false, Int.not_lt, Int.not_le, not_or, not_and, Classical.not_not] at h19
    refine T_many0 900 ?_
    refine T_seq ?_
    refine T_region ?_
    refine S_ 20 rfl rfl rfl _ (y_build (zv := .agg #[.string ⟨#[]⟩, .int .i64 0, .int .i64 0, .slice none 0 0, .slice none 0 0, .slice none 0 0, .string ⟨#[]⟩, .string ⟨#[]⟩, .int .i64 0]) (pl := [(0, 1), (1, 1), (2, 1), (3, 1), (4, 1), (5, 1), (6, 1), (7, 1), (8, 1)]) (out := [.string ⟨#[]⟩, .int .i64 0, .int .i64 0, .slice none 0 0, .slice none 0 0, .slice none 0 0, .string ⟨#[]⟩, .string ⟨#[]⟩, .int .i64 0]) rfl rfl Tryd.underlying52 z52 (by kernel_rfl) rfl) ?_
    refine S_ 21 rfl rfl rfl _ (y_move rfl rfl) ?_
    refine S_store 4 rfl rfl rfl rfl rfl rfl sz52 rfl rfl ?_
    refine S_ 5 rfl rfl rfl _ (y_assign rfl rfl) ?_
    refine S_go (fun _ _ h => h) ?_
    refine T_ret (fun a w hF hM => hRb a w (post_cell 4 rfl rfl rfl rfl Tryd.underlying52 rfl (by exact sz52) (fun w hM => ?_) a w hF hM))
    exact ⟨⟨evZ, []⟩, by rw [withNo, if_pos h19]; rfl, ⟨⟨fun h => absurd (by rwa [withNo, if_pos h19] at h) h19, fun _ => rfl⟩, fun w _ _ => evZ_ok w⟩, hM.keep (ks := [(0, 999)]) (by repeat (first | exact kl_rest (by assumption) rfl | (apply kl_in; focus rfl))) _ ⟨rfl, trivial⟩⟩
  · try simp only [decide_eq_true_eq, decide_eq_false_iff_not, Bool.or_eq_true, Bool.or_eq_false_iff, Bool.and_eq_true, Bool.and_eq_false_iff, Bool.not_eq_true', Bool.not_eq_false', Bool.not_eq_true, Bool.not_eq_false, Bool.not_true, Bool.not_false, Int.not_lt, Int.not_le, not_or, not_and, Classical.not_not] at h19
    have h19 : evNo e = 0 := h19
    obtain ⟨hp_f, ⟨hp_t, hp_u⟩, ⟨hp_c, hp_d⟩⟩ := ev_parts h19
    obtain ⟨hfq, hfn⟩ := faults_parts hp_f
    refine T_skip_go (fun _ _ h => h) ?_
    refine T_seq ?_
    refine T_region ?_
    refine S_makeMap 22 22 (fun l : List UInt8 => str l) rfl rfl rfl rfl ?_
    intro b22
    refine S_makeMap 23 23 (fun l : List UInt8 => str l) rfl rfl rfl rfl ?_
    intro b23
    refine S_ 7 rfl rfl rfl _ (y_assign rfl rfl) ?_
    refine S_ 8 rfl rfl rfl _ (y_assign rfl rfl) ?_
    refine S_go (fun _ _ h => h) ?_
    refine T_seq ?_
    refine T_seq ?_
    refine T_region ?_
    refine S_ 24 rfl rfl rfl _ (y_fieldAddr rfl rfl fa52_4) ?_
    refine S_ 25 rfl rfl rfl _ (y_load 2 rfl rfl rfl rfl Tryd.underlying49 rfl) ?_
    refine S_ 26 rfl rfl rfl _ (y_len_slice rfl rfl Tryd.underlying49) ?_
    refine S_ 27 rfl rfl rfl _ (y_move rfl rfl) ?_
    refine S_go (fun _ _ h => h) ?_
    refine T_block ?_
    refine T_loopK2 (kf := [(10, 10), (27, 36)]) (kl := [(10, 10), (22, 22), (27, 36)]) (fun (i : Nat) (M : List STag) => [(27, true, .int .i64 (i : Int))]) (fun (i : Nat) (M : List STag) => [(22, .blk b22 (IsMap (fun l : List UInt8 => str l) (M.map tkv)))]) (fun (i : Nat) (M : List STag) => i ≤ e.ta.q ∧ M = tputs [] (e.ta.l.take i)) (fun (i : Nat) (M : List STag) => e.ta.q - i) 0 [] (by repeat (first | exact kf_nil | (apply kf_in; focus rfl) | (apply kf_out; focus rfl))) (by repeat (first | exact kl_nil | exact kl_rest (by assumption) rfl | (apply kl_in; focus rfl) | (apply kl_out; focus rfl))) ?_ ?_ ?_ ?_
    · exact ⟨by omega, rfl⟩
    · exact ⟨rfl, trivial⟩
    · exact ⟨rfl, trivial⟩
    rintro i M ⟨hp1, hp2⟩
    refine T_seq ?_
    refine T_region ?_
    refine S_ 28 rfl rfl rfl _ (y_bin rfl rfl rfl (fun _ => b_lss)) ?_
    refine S_go (fun _ _ h => h) ?_
    refine T_seq ?_
    refine T_cond rfl (fun h28 => ?_) (fun h28 => ?_)
    · try simp only [decide_eq_true_eq, decide_eq_false_iff_not, Bool.or_eq_true, Bool.or_eq_false_iff, Bool.and_eq_true, Bool.and_eq_false_iff, Bool.not_eq_true', Bool.not_eq_false', Bool.not_eq_true, Bool.not_eq_false, Bool.not_true, Bool.not_false, Int.not_lt, Int.not_le, not_or, not_and, Classical.not_not] at h28
      obtain ⟨x, hx1, hx2⟩ := het.at (i := i) (by omega)
      refine T_skip_go (fun _ _ h => h) ?_
      refine T_seq ?_
      refine T_block ?_
      refine T_seq ?_
      refine T_region ?_
      refine S_ 29 rfl rfl rfl _ (y_indexAddr rfl rfl rfl Tryd.underlying49 sz128 (fun hg => het.isSome (by omega)) (fun _ => by omega)) ?_
      refine S_ 30 rfl rfl rfl _ (y_loadT rfl rfl het (fun _ => rfl) (fun _ => hx1) Tryd.underlying128 rfl sz128) ?_
      refine S_alloc 10 10 rfl rfl rfl rfl z128 ?_
      intro b10
      refine S_store 10 rfl rfl rfl rfl rfl rfl sz128 rfl rfl ?_
      refine S_go (fun _ _ h => h) ?_
      refine T_region ?_
      refine S_ 31 rfl rfl rfl _ (y_move rfl rfl) ?_
      refine S_ 32 rfl rfl rfl _ (y_fieldAddr rfl rfl fa128_0) ?_
      refine S_ 33 rfl rfl rfl _ (y_load 10 rfl rfl rfl rfl Tryd.underlying9 rfl) ?_
      refine S_ 34 rfl rfl rfl _ (y_fieldAddr rfl rfl fa128_1) ?_
      refine S_ 35 rfl rfl rfl _ (y_load 10 rfl rfl rfl rfl Tryd.underlying9 rfl) ?_
      refine S_mapUpdate 22 (enc := fun l : List UInt8 => str l) rfl rfl rfl rfl rfl rfl rfl Tryd.underlying153 Tryd.underlying9 rfl same_str fits_str (mput_t x M) ?_
      refine S_go (fun _ _ h => h) ?_
      refine T_region ?_
      refine S_ 36 rfl rfl rfl _ (y_bin rfl rfl rfl (fun hg => b_add (by omega))) ?_
      refine S_ 27 rfl rfl rfl _ (y_move rfl rfl) ?_
      refine S_nil (nextK2 (kf := [(10, 10), (27, 36)]) (kl := [(10, 10), (22, 22), (27, 36)]) (i + 1) (tput M x) (by repeat (first | exact kf_nil | (apply kf_in; focus rfl) | (apply kf_out; focus rfl))) (by repeat (first | exact kl_nil | exact kl_rest (by assumption) rfl | (apply kl_in; focus rfl) | (apply kl_out; focus rfl))) ?_ ?_ ?_ ?_)
      · omega
      · exact ⟨by omega, by rw [tputs_snoc hx1, hp2]⟩
      · exact ⟨rfl, trivial⟩
      · exact ⟨rfl, trivial⟩
    · try simp only [decide_eq_true_eq, decide_eq_false_iff_not, Bool.or_eq_true, Bool.or_eq_false_iff, Bool.and_eq_true, Bool.and_eq_false_iff, Bool.not_eq_true', Bool.not_eq_false', Bool.not_eq_true, Bool.not_eq_false, Bool.not_true, Bool.not_false, Int.not_lt, Int.not_le, not_or, not_and, Classical.not_not] at h28
      refine T_exit_go (fun _ _ h => h) ?_
      refine T_seq ?_
      refine T_seq ?_
      refine T_region ?_
      refine S_ 37 rfl rfl rfl _ (y_move rfl rfl) ?_
      refine S_ 38 rfl rfl rfl _ (y_len_slice rfl rfl Tryd.underlying49) ?_
      refine S_ 39 rfl rfl rfl _ (y_move rfl rfl) ?_
      refine S_go (fun _ _ h => h) ?_
      refine T_block ?_
      refine T_loopK3 (kf := [(5, 5), (12, 13), (39, 68)]) (kl := [(5, 5), (12, 13), (22, 23), (39, 68)]) (fun (j : Nat) (M : List STag) (S : List (List UInt8)) => [(39, true, .int .i64 (j : Int))]) (fun (j : Nat) (M : List STag) (S : List (List UInt8)) => [(22, .blk b22 (IsMap (fun l : List UInt8 => str l) (M.map tkv))), (23, .blk b23 (IsMap (fun l : List UInt8 => str l) (S.map fun s => (s, Value.bool true))))]) (fun (j : Nat) (M : List STag) (S : List (List UInt8)) => j ≤ ts.q ∧ M = tputs (tputs [] e.ta.l) (ts.l.take j) ∧ S = namesOf (ts.l.take j) ∧ wiNo [] ts.l = wiNo (namesOf (ts.l.take j)) (ts.l.drop j)) (fun (j : Nat) (M : List STag) (S : List (List UInt8)) => ts.q - j) 0 M [] (by repeat (first | exact kf_nil | (apply kf_in; focus rfl) | (apply kf_out; focus rfl))) (by repeat (first | exact kl_nil | exact kl_rest (by assumption) rfl | (apply kl_in; focus rfl) | (apply kl_out; focus rfl))) ?_ ?_ ?_ ?_
      · exact ⟨by omega, by rw [hp2, List.take_of_length_le (by omega)]; rfl, rfl, rfl⟩
      · exact ⟨rfl, trivial⟩
      · exact ⟨rfl, rfl, trivial⟩
      rintro j M S ⟨hr1, hr2, hr3, hr4⟩
      refine T_seq ?_
      refine T_region ?_
      refine S_ 40 rfl rfl rfl _ (y_bin rfl rfl rfl (fun _ => b_lss)) ?_
      refine S_go (fun _ _ h => h) ?_
      refine T_seq ?_
      refine T_cond rfl (fun h40 => ?_) (fun h40 => ?_)
      · try simp only [decide_eq_true_eq, decide_eq_false_iff_not, Bool.or_eq_true, Bool.or_eq_false_iff, Bool.and_eq_true, Bool.and_eq_false_iff, Bool.not_eq_true', Bool.not_eq_false', Bool.not_eq_true, Bool.not_eq_false, Bool.not_true, Bool.not_false, Int.not_lt, Int.not_le, not_or, not_and, Classical.not_not] at h40
        obtain ⟨x, hx1, hx2⟩ := htt.at (i := j) (by omega)
        obtain ⟨hxn, hxv⟩ := hts.n x (mem_at hx1)
        rw [hx2, wiNo] at hr4
        refine T_skip_go (fun _ _ h => h) ?_
        refine T_seq ?_
        refine T_block ?_
        refine T_seq ?_
        refine T_region ?_
        refine S_ 41 rfl rfl rfl _ (y_indexAddr rfl rfl rfl Tryd.underlying49 sz128 (fun hg => htt.isSome (by omega)) (fun _ => by omega)) ?_
        refine S_ 42 rfl rfl rfl _ (y_loadT rfl rfl htt (fun _ => rfl) (fun _ => hx1) Tryd.underlying128 rfl sz128) ?_
        refine S_alloc 12 12 rfl rfl rfl rfl z128 ?_
        intro b12
        refine S_store 12 rfl rfl rfl rfl rfl rfl sz128 rfl rfl ?_
        refine S_go (fun _ _ h => h) ?_
        refine T_seq ?_
        refine T_seq ?_
        refine T_region ?_
        refine S_ 43 rfl rfl rfl _ (y_fieldAddr rfl rfl fa128_0) ?_
        refine S_ 44 rfl rfl rfl _ (y_load 12 rfl rfl rfl rfl Tryd.underlying9 rfl) ?_
        refine S_ 45 rfl rfl rfl _ (y_call rfl rfl rfl cf91 (fun _ w _ => IsName_any x.n w)) ?_
        refine S_ 46 rfl rfl rfl _ (y_not rfl rfl) ?_
        refine S_go (fun _ _ h => h) ?_
        refine T_cond rfl (fun h46 => ?_) (fun h46 => ?_)
        · skip
          refine T_many0 900 ?_
          have hno : wiNo [] ts.l = 3 := by rw [hr4, if_pos (by simpa using h46)]
          refine T_seq ?_
          refine T_region ?_
          refine S_ 47 rfl rfl rfl _ (y_build (zv := .agg #[.string ⟨#[]⟩, .int .i64 0, .int .i64 0, .slice none 0 0, .slice none 0 0, .slice none 0 0, .string ⟨#[]⟩, .string ⟨#[]⟩, .int .i64 0]) (pl := [(0, 1), (1, 1), (2, 1), (3, 1), (4, 1), (5, 1), (6, 1), (7, 1), (8, 1)]) (out := [.string ⟨#[]⟩, .int .i64 0, .int .i64 0, .slice none 0 0, .slice none 0 0, .slice none 0 0, .string ⟨#[]⟩, .string ⟨#[]⟩, .int .i64 0]) rfl rfl Tryd.underlying52 z52 (by kernel_rfl) rfl) ?_
          refine S_store 4 rfl rfl rfl rfl rfl rfl sz52 rfl rfl ?_
          refine S_ 5 rfl rfl rfl _ (y_assign rfl rfl) ?_
          refine S_go (fun _ _ h => h) ?_
          refine T_ret (fun a w hF hM => hRb a w (post_cell 4 rfl rfl rfl rfl Tryd.underlying52 rfl (by exact sz52) (fun w hM => ?_) a w hF hM))
          have hw : withNo e ts.l = 3 := by rw [withNo, if_neg (by simp [h19]), hno]; rfl
          exact ⟨⟨evZ, []⟩, by rw [hw]; rfl, ⟨⟨fun h => absurd (hw ▸ h : (3 : Int) = 0) (by decide), fun _ => rfl⟩, fun w _ _ => evZ_ok w⟩, hM.keep (ks := [(0, 999)]) (by repeat (first | exact kl_rest (by assumption) rfl | (apply kl_in; focus rfl))) _ ⟨rfl, trivial⟩⟩
        · skip
          have h46 : nameOk x.n = true := by simpa using h46
          rw [if_neg (by simp [h46])] at hr4
          refine T_skip_go (fun _ _ h => h) ?_
          refine T_seq ?_
          refine T_seq ?_
          refine T_region ?_
          refine S_ 48 rfl rfl rfl _ (y_fieldAddr rfl rfl fa128_1) ?_
          refine S_ 49 rfl rfl rfl _ (y_load 12 rfl rfl rfl rfl Tryd.underlying9 rfl) ?_
          refine S_ 50 rfl rfl rfl _ (y_call rfl rfl rfl cf92 (fun _ w _ => checkValue_any x.v hxv w)) ?_
          refine S_ 13 rfl rfl rfl _ (y_assign rfl rfl) ?_
          refine S_go (fun _ _ h => h) ?_
          refine T_seq ?_
          refine T_region ?_
          refine S_ 51 rfl rfl rfl _ (y_move rfl rfl) ?_
          refine S_ 52 rfl rfl rfl _ (y_bin rfl rfl rfl (fun _ => b_neq)) ?_
          refine S_go (fun _ _ h => h) ?_
          refine T_cond rfl (fun h52 => ?_) (fun h52 => ?_)
          · try simp only [decide_eq_true_eq, decide_eq_false_iff_not, Bool.or_eq_true, Bool.or_eq_false_iff, Bool.and_eq_true, Bool.and_eq_false_iff, Bool.not_eq_true', Bool.not_eq_false', Bool.not_eq_true, Bool.not_eq_false, Bool.not_true, Bool.not_false, Int.not_lt, Int.not_le, not_or, not_and, Classical.not_not] at h52
            refine T_many0 900 ?_
            have hno : wiNo [] ts.l = valNo x.v := by rw [hr4, if_pos h52]
            refine T_seq ?_
            refine T_region ?_
            refine S_ 53 rfl rfl rfl _ (y_build (zv := .agg #[.string ⟨#[]⟩, .int .i64 0, .int .i64 0, .slice none 0 0, .slice none 0 0, .slice none 0 0, .string ⟨#[]⟩, .string ⟨#[]⟩, .int .i64 0]) (pl := [(0, 1), (1, 1), (2, 1), (3, 1), (4, 1), (5, 1), (6, 1), (7, 1), (8, 1)]) (out := [.string ⟨#[]⟩, .int .i64 0, .int .i64 0, .slice none 0 0, .slice none 0 0, .slice none 0 0, .string ⟨#[]⟩, .string ⟨#[]⟩, .int .i64 0]) rfl rfl Tryd.underlying52 z52 (by kernel_rfl) rfl) ?_
            refine S_ 54 rfl rfl rfl _ (y_move rfl rfl) ?_
            refine S_store 4 rfl rfl rfl rfl rfl rfl sz52 rfl rfl ?_
            refine S_ 5 rfl rfl rfl _ (y_assign rfl rfl) ?_
            refine S_go (fun _ _ h => h) ?_
            refine T_ret (fun a w hF hM => hRb a w (post_cell 4 rfl rfl rfl rfl Tryd.underlying52 rfl (by exact sz52) (fun w hM => ?_) a w hF hM))
            have hw : withNo e ts.l = valNo x.v := by rw [withNo, if_neg (by simp [h19]), hno, if_pos h52]
            exact ⟨⟨evZ, []⟩, by rw [hw]; rfl, ⟨⟨fun h => absurd (hw ▸ h) h52, fun _ => rfl⟩, fun w _ _ => evZ_ok w⟩, hM.keep (ks := [(0, 999)]) (by repeat (first | exact kl_rest (by assumption) rfl | (apply kl_in; focus rfl))) _ ⟨rfl, trivial⟩⟩
          · try simp only [decide_eq_true_eq, decide_eq_false_iff_not, Bool.or_eq_true, Bool.or_eq_false_iff, Bool.and_eq_true, Bool.and_eq_false_iff, Bool.not_eq_true', Bool.not_eq_false', Bool.not_eq_true, Bool.not_eq_false, Bool.not_true, Bool.not_false, Int.not_lt, Int.not_le, not_or, not_and, Classical.not_not] at h52
            have h52 : valNo x.v = 0 := h52
            rw [if_neg (by simp [h52])] at hr4
            refine T_skip_go (fun _ _ h => h) ?_
            refine T_seq ?_
            refine T_seq ?_
            refine T_region ?_
            refine S_ 55 rfl rfl rfl _ (y_move rfl rfl) ?_
            refine S_ 56 rfl rfl rfl _ (y_fieldAddr rfl rfl fa128_0) ?_
            refine S_ 57 rfl rfl rfl _ (y_load 12 rfl rfl rfl rfl Tryd.underlying9 rfl) ?_
            refine S_ 58 rfl rfl rfl _ (y_as (v' := .bool (S.contains x.n)) (by exact mget_seen _ _) (y_lookup 23 (enc := fun l : List UInt8 => str l) rfl rfl rfl rfl Tryd.underlying154 Tryd.underlying9 rfl same_str z4)) ?_
            refine S_go (fun _ _ h => h) ?_
            refine T_cond rfl (fun h58 => ?_) (fun h58 => ?_)
            · skip
              refine T_many0 900 ?_
              have hno : wiNo [] ts.l = 6 := by rw [hr4, ← hr3, if_pos h58]
              refine T_seq ?_
              refine T_region ?_
              refine S_ 59 rfl rfl rfl _ (y_build (zv := .agg #[.string ⟨#[]⟩, .int .i64 0, .int .i64 0, .slice none 0 0, .slice none 0 0, .slice none 0 0, .string ⟨#[]⟩, .string ⟨#[]⟩, .int .i64 0]) (pl := [(0, 1), (1, 1), (2, 1), (3, 1), (4, 1), (5, 1), (6, 1), (7, 1), (8, 1)]) (out := [.string ⟨#[]⟩, .int .i64 0, .int .i64 0, .slice none 0 0, .slice none 0 0, .slice none 0 0, .string ⟨#[]⟩, .string ⟨#[]⟩, .int .i64 0]) rfl rfl Tryd.underlying52 z52 (by kernel_rfl) rfl) ?_
              refine S_store 4 rfl rfl rfl rfl rfl rfl sz52 rfl rfl ?_
              refine S_ 5 rfl rfl rfl _ (y_assign rfl rfl) ?_
              refine S_go (fun _ _ h => h) ?_
              refine T_ret (fun a w hF hM => hRb a w (post_cell 4 rfl rfl rfl rfl Tryd.underlying52 rfl (by exact sz52) (fun w hM => ?_) a w hF hM))
              have hw : withNo e ts.l = 6 := by rw [withNo, if_neg (by simp [h19]), hno]; rfl
              exact ⟨⟨evZ, []⟩, by rw [hw]; rfl, ⟨⟨fun h => absurd (hw ▸ h : (6 : Int) = 0) (by decide), fun _ => rfl⟩, fun w _ _ => evZ_ok w⟩, hM.keep (ks := [(0, 999)]) (by repeat (first | exact kl_rest (by assumption) rfl | (apply kl_in; focus rfl))) _ ⟨rfl, trivial⟩⟩
            · skip
              have hx58 : x.n ∉ S := by simpa [List.contains_eq_mem] using h58
              rw [← hr3, if_neg (by rw [h58]; exact Bool.false_ne_true)] at hr4
              refine T_skip_go (fun _ _ h => h) ?_
              refine T_seq ?_
              refine T_region ?_
              refine S_ 60 rfl rfl rfl _ (y_move rfl rfl) ?_
              refine S_ 61 rfl rfl rfl _ (y_fieldAddr rfl rfl fa128_0) ?_
              refine S_ 62 rfl rfl rfl _ (y_load 12 rfl rfl rfl rfl Tryd.underlying9 rfl) ?_
              refine S_mapUpdate 23 (enc := fun l : List UInt8 => str l) rfl rfl rfl rfl rfl rfl rfl Tryd.underlying154 Tryd.underlying9 rfl same_str fits_str (mput_seen _ _ hx58) ?_
              refine S_go (fun _ _ h => h) ?_
              refine T_region ?_
              refine S_ 63 rfl rfl rfl _ (y_move rfl rfl) ?_
              refine S_ 64 rfl rfl rfl _ (y_fieldAddr rfl rfl fa128_0) ?_
              refine S_ 65 rfl rfl rfl _ (y_load 12 rfl rfl rfl rfl Tryd.underlying9 rfl) ?_
              refine S_ 66 rfl rfl rfl _ (y_fieldAddr rfl rfl fa128_1) ?_
              refine S_ 67 rfl rfl rfl _ (y_load 12 rfl rfl rfl rfl Tryd.underlying9 rfl) ?_
              refine S_mapUpdate 22 (enc := fun l : List UInt8 => str l) rfl rfl rfl rfl rfl rfl rfl Tryd.underlying153 Tryd.underlying9 rfl same_str fits_str (mput_t x M) ?_
              refine S_go (fun _ _ h => h) ?_
              refine T_region ?_
              refine S_ 68 rfl rfl rfl _ (y_bin rfl rfl rfl (fun hg => b_add (by omega))) ?_
              refine S_ 39 rfl rfl rfl _ (y_move rfl rfl) ?_
              refine S_nil (nextK3 (kf := [(5, 5), (12, 13), (39, 68)]) (kl := [(5, 5), (12, 13), (22, 23), (39, 68)]) (j + 1) (tput M x) (S ++ [x.n]) (by repeat (first | exact kf_nil | (apply kf_in; focus rfl) | (apply kf_out; focus rfl))) (by repeat (first | exact kl_nil | exact kl_rest (by assumption) rfl | (apply kl_in; focus rfl) | (apply kl_out; focus rfl))) ?_ ?_ ?_ ?_)
              · omega
              · exact ⟨by omega, by rw [tputs_snoc hx1, hr2], by rw [names_snoc hx1, hr3], by rw [hr4, names_snoc hx1, hr3]⟩
              · exact ⟨rfl, trivial⟩
              · exact ⟨rfl, rfl, trivial⟩
      · try simp only [decide_eq_true_eq, decide_eq_false_iff_not, Bool.or_eq_true, Bool.or_eq_false_iff, Bool.and_eq_true, Bool.and_eq_false_iff, Bool.not_eq_true', Bool.not_eq_false', Bool.not_eq_true, Bool.not_eq_false, Bool.not_true, Bool.not_false, Int.not_lt, Int.not_le, not_or, not_and, Classical.not_not] at h40
        have hM1 : M = tputs (tputs [] e.ta.l) ts.l := by rw [hr2, List.take_of_length_le (by omega)]
        have hw0 : wiNo [] ts.l = 0 := by rw [hr4, htt.end (by omega)]; rfl
        have hMp : M.Perm (wiAll e ts.l) := hM1 ▸ wi_map h19 hw0
        have hMl := hMp.length_eq
        refine T_exit_go (fun _ _ h => h) ?_
        refine T_seq ?_
        refine T_seq ?_
        refine T_region ?_
        refine S_ 69 rfl rfl rfl _ (y_move rfl rfl) ?_
        refine S_ 70 rfl rfl rfl _ (y_as (v' := .int .i64 (M.length : Int)) (by simp) (y_len_map 22 rfl rfl rfl Tryd.underlying153)) ?_
        refine S_ 71 rfl rfl rfl _ (y_bin rfl rfl rfl (fun _ => b_gtr)) ?_
        refine S_go (fun _ _ h => h) ?_
        refine T_cond rfl (fun h71 => ?_) (fun h71 => ?_)
        · try simp only [decide_eq_true_eq, decide_eq_false_iff_not, Bool.or_eq_true, Bool.or_eq_false_iff, Bool.and_eq_true, Bool.and_eq_false_iff, Bool.not_eq_true', Bool.not_eq_false', Bool.not_eq_true, Bool.not_eq_false, Bool.not_true, Bool.not_false, Int.not_lt, Int.not_le, not_or, not_and, Classical.not_not] at h71
          refine T_many0 900 ?_
          refine T_seq ?_
          refine T_region ?_
          refine S_ 72 rfl rfl rfl _ (y_build (zv := .agg #[.string ⟨#[]⟩, .int .i64 0, .int .i64 0, .slice none 0 0, .slice none 0 0, .slice none 0 0, .string ⟨#[]⟩, .string ⟨#[]⟩, .int .i64 0]) (pl := [(0, 1), (1, 1), (2, 1), (3, 1), (4, 1), (5, 1), (6, 1), (7, 1), (8, 1)]) (out := [.string ⟨#[]⟩, .int .i64 0, .int .i64 0, .slice none 0 0, .slice none 0 0, .slice none 0 0, .string ⟨#[]⟩, .string ⟨#[]⟩, .int .i64 0]) rfl rfl Tryd.underlying52 z52 (by kernel_rfl) rfl) ?_
          refine S_store 4 rfl rfl rfl rfl rfl rfl sz52 rfl rfl ?_
          refine S_ 5 rfl rfl rfl _ (y_assign rfl rfl) ?_
          refine S_go (fun _ _ h => h) ?_
          refine T_ret (fun a w hF hM => hRb a w (post_cell 4 rfl rfl rfl rfl Tryd.underlying52 rfl (by exact sz52) (fun w hM => ?_) a w hF hM))
          have hw : withNo e ts.l = 4 := by rw [withNo, if_neg (by simp [h19]), if_neg (by simp [hw0]), if_pos (by omega)]
          exact ⟨⟨evZ, []⟩, by rw [hw]; rfl, ⟨⟨fun h => absurd (hw ▸ h : (4 : Int) = 0) (by decide), fun _ => rfl⟩, fun w _ _ => evZ_ok w⟩, hM.keep (ks := [(0, 999)]) (by repeat (first | exact kl_rest (by assumption) rfl | (apply kl_in; focus rfl))) _ ⟨rfl, trivial⟩⟩
        · try simp only [decide_eq_true_eq, decide_eq_false_iff_not, Bool.or_eq_true, Bool.or_eq_false_iff, Bool.and_eq_true, Bool.and_eq_false_iff, Bool.not_eq_true', Bool.not_eq_false', Bool.not_eq_true, Bool.not_eq_false, Bool.not_true, Bool.not_false, Int.not_lt, Int.not_le, not_or, not_and, Classical.not_not] at h71
          refine T_skip_go (fun _ _ h => h) ?_
          refine T_seq ?_
          refine T_region ?_
          refine S_ 73 rfl rfl rfl _ (y_loadA 2 rfl rfl rfl Tryd.underlying52 rfl sz52) ?_
          refine S_callN 74 [] [(8, 908), (900, 900), (35, 935), (39, 939)] (X := CopyR) rfl rfl rfl rfl rfl rfl rfl cf106 rfl (fun z => .agg #[str e.id, .int .i64 e.at_, .int .i64 e.lv, .slice z.A e.fa.q z.c, .slice z.B e.ta.q z.b, .slice z.D e.cr.q z.d, str e.rel, str e.us, .int .i64 e.wt]) (fun z => z.gs.map Flt.cont = e.fa.l.map Flt.cont ∧ ∀ f ∈ z.gs, f.fr.q = f.fr.l.length ∧ Sees w0 z.rs fun w => FrmsOk w f.fr) (fun z => z.L e) (fun _ => rfl) (fun _ => rfl) (fun K1 hK1 w hM => Copy_any hK1 e w he ⟨by omega, by omega, by omega, fun g hg => by have := (flt_parts (hfn g hg)).2.2; omega⟩ hM) ?_
          rintro z ⟨hz1, hz2⟩
          have hzl : z.gs.length = e.fa.q := by have := congrArg List.length hz1; simp only [List.length_map] at this; rw [this, he.fa.ok.t.len]
          refine S_store 2 rfl rfl rfl rfl rfl rfl sz52 rfl rfl ?_
          refine S_go (fun _ _ h => h) ?_
          refine T_seq ?_
          refine T_region ?_
          refine S_ 75 rfl rfl rfl _ (y_fieldAddr rfl rfl fa52_4) ?_
          refine S_nilSlice 950 (e := 128) (size := 2) ?_
          refine S_store 2 rfl rfl rfl rfl rfl rfl sz49 rfl rfl ?_
          refine S_go (fun _ _ h => h) ?_
          refine T_seq ?_
          refine T_seq ?_
          refine T_region ?_
          refine S_ 76 rfl rfl rfl _ (y_move rfl rfl) ?_
          refine S_range 77 22 77 (fun p : STag => str p.n) (fun p : STag => str p.v) (M) (by rw [List.map_map]; rfl) rfl rfl rfl rfl rfl rfl Tryd.underlying153 ?_
          intro r77 es77 ck77
          refine S_go (fun _ _ h => h) ?_
          refine T_block ?_
          refine T_loopK6 (kf := [(14, 15), (78, 90)]) (kl := [(2, 2), (14, 15), (77, 90), (950, 950)]) (fun (rem : List STag) (last : Option STag) (out : List STag) (q : Nat) (A : Option Addr) (c : Nat) => []) (fun (rem : List STag) (last : Option STag) (out : List STag) (q : Nat) (A : Option Addr) (c : Nat) => [(77, .blk r77 (IsIt (fun p : STag => str p.n) (fun p : STag => str p.v) b22 es77 ck77 rem last)), (2, .blk b2 (IsBox [str e.id, .int .i64 e.at_, .int .i64 e.lv, .slice z.A e.fa.q z.c, .slice A q c, .slice z.D e.cr.q z.d, str e.rel, str e.us, .int .i64 e.wt] 52)), (950, .own 128 2 (.slice A q c) q (out.flatMap STag.enc))]) (fun (rem : List STag) (last : Option STag) (out : List STag) (q : Nat) (A : Option Addr) (c : Nat) => M.Perm (out ++ rem) ∧ out.length = q ∧ q + rem.length ≤ 40) (fun (rem : List STag) (last : Option STag) (out : List STag) (q : Nat) (A : Option Addr) (c : Nat) => rem.length) M none [] 0 none 0 (by repeat (first | exact kf_nil | (apply kf_in; focus rfl) | (apply kf_out; focus rfl))) (by repeat (first | exact kl_nil | exact kl_rest (by assumption) rfl | (apply kl_in; focus rfl) | (apply kl_out; focus rfl))) ?_ ?_ ?_ ?_
          · exact ⟨.refl _, rfl, by omega⟩
          · exact trivial
          · exact ⟨rfl, rfl, rfl, trivial⟩
          rintro rem last out q A c ⟨hs1, hs2, hs3⟩
          refine T_seq ?_
          refine T_region ?_
          refine S_next 78 22 77 rfl rfl rfl rfl rfl rfl rfl ?_
          intro e78 ps78 hn78 hs78
          refine S_ 79 rfl rfl rfl _ (y_extract (v := .bool e78.isSome) rfl rfl (by cases e78 <;> rfl)) ?_
          refine S_go (fun _ _ h => h) ?_
          refine T_seq ?_
          refine T_cond rfl (fun h79 => ?_) (fun h79 => ?_)
          · skip
            obtain ⟨p, rfl⟩ := Option.isSome_iff_exists.1 h79
            have hpm := hs78 p rfl
            refine T_skip_go (fun _ _ h => h) ?_
            refine T_block ?_
            refine T_seq ?_
            refine T_region ?_
            refine S_ 80 rfl rfl rfl _ (y_entry 22 77 rfl rfl rfl rfl) ?_
            refine S_ 81 rfl rfl rfl _ (y_as (v' := str p.n) (by exact rfl) (y_extract rfl rfl rfl)) ?_
            refine S_ 82 rfl rfl rfl _ (y_as (v' := str p.v) (by exact rfl) (y_extract rfl rfl rfl)) ?_
            refine S_ 14 rfl rfl rfl _ (y_assign rfl rfl) ?_
            refine S_ 15 rfl rfl rfl _ (y_assign rfl rfl) ?_
            refine S_go (fun _ _ h => h) ?_
            refine T_region ?_
            refine S_ 83 rfl rfl rfl _ (y_fieldAddr rfl rfl fa52_4) ?_
            refine S_ 84 rfl rfl rfl _ (y_load 2 rfl rfl rfl rfl Tryd.underlying49 rfl) ?_
            refine S_ 85 rfl rfl rfl _ (y_move rfl rfl) ?_
            refine S_ 86 rfl rfl rfl _ (y_move rfl rfl) ?_
            refine S_ 87 rfl rfl rfl _ (y_build (zv := .agg #[.string ⟨#[]⟩, .string ⟨#[]⟩]) (pl := [(0, 1), (1, 1)]) (out := [_, _]) rfl rfl Tryd.underlying128 z128 (by kernel_rfl) rfl) ?_
            refine S_buildSlice 88 88 rfl rfl rfl rfl rfl Tryd.underlying49 inf128 rfl (by decide) (by decide) rfl rfl (by decide) rfl (_) rfl ?_
            intro b88
            obtain ⟨i89, hi89, hz89, hs89, hy89⟩ := info_parts inf128
            refine S_append 89 950 88 rfl rfl rfl rfl rfl rfl rfl rfl Tryd.underlying49 hi89 hz89 hs89 hy89 rfl (by decide) (by decide) rfl ?_ ?_ (q + 1) ((out ++ [p]).flatMap STag.enc) ?_ ?_ ?_
            · (simp only [maxLen]; omega)
            · omega
            · rfl
            · simp [List.flatMap_append, STag.enc]; rfl
            intro A89 c89
            refine S_ 90 rfl rfl rfl _ (y_fieldAddr rfl rfl fa52_4) ?_
            refine S_store 2 rfl rfl rfl rfl rfl rfl sz49 rfl rfl ?_
            refine S_nil (nextK6 (kf := [(14, 15), (78, 90)]) (kl := [(2, 2), (14, 15), (77, 90), (950, 950)]) ps78 (some p) (out ++ [p]) (q + 1) A89 c89 (by repeat (first | exact kf_nil | (apply kf_in; focus rfl) | (apply kf_out; focus rfl))) (by repeat (first | exact kl_nil | exact kl_rest (by assumption) rfl | (apply kl_in; focus rfl) | (apply kl_out; focus rfl))) ?_ ?_ ?_ ?_)
            · have := hpm.length_eq; simp at this; omega
            · have := hpm.length_eq
              simp at this
              exact ⟨hs1.trans (by rw [List.append_assoc]; exact List.Perm.append_left out hpm), by simp [hs2], by omega⟩
            · exact trivial
            · exact ⟨rfl, rfl, rfl, trivial⟩
          · skip
            have hq0 : e78 = none := by simpa using h79
            have hr0 := hn78 hq0
            refine T_exit_go (fun _ _ h => h) ?_
            refine T_seq ?_
            refine T_region ?_
            refine S_ 91 rfl rfl rfl _ (y_fieldAddr rfl rfl fa52_4) ?_
            refine S_ 92 rfl rfl rfl _ (y_load 2 rfl rfl rfl rfl Tryd.underlying49 rfl) ?_
            refine S_callM 93 [(0, 950)] (X := List STag) rfl rfl rfl rfl rfl rfl rfl cf116 rfl (fun _ => .tuple #[]) (fun l => l = tsort out) (fun l => [(0, .own 128 2 (.slice A q c) q (l.flatMap STag.enc))]) (fun _ => rfl) (fun _ => rfl) (fun K1 hK1 w hM => sortTags_any hK1 _ cf117 (fun x y w => with1_any x y w) A q c out hs2 (by omega) w hM) ?_
            intro so hso
            refine S_go (fun _ _ h => h) ?_
            refine T_seq ?_
            refine T_region ?_
            refine S_bank [(908, 908), (900, 900)] 900 908 rfl rfl rfl rfl (by repeat (first | exact kl_nil | exact kl_rest (by assumption) rfl | (apply kl_in; focus rfl) | (apply kl_out; focus rfl))) ?_
            refine S_bank [(939, 939), (900, 900)] 900 939 rfl rfl rfl rfl (by repeat (first | exact kl_nil | exact kl_rest (by assumption) rfl | (apply kl_in; focus rfl) | (apply kl_out; focus rfl))) ?_
            refine S_bank [(950, 950), (900, 900)] 900 950 rfl rfl rfl rfl (by repeat (first | exact kl_nil | exact kl_rest (by assumption) rfl | (apply kl_in; focus rfl) | (apply kl_out; focus rfl))) ?_
            refine S_ 94 rfl rfl rfl _ (y_loadA 2 rfl rfl rfl Tryd.underlying52 rfl sz52) ?_
            refine S_store 4 rfl rfl rfl rfl rfl rfl sz52 rfl rfl ?_
            refine S_ 5 rfl rfl rfl _ (y_assign rfl rfl) ?_
            refine S_go (fun _ _ h => h) ?_
            refine T_ret (fun a w hF hM => hRb a w (post_cell 4 rfl rfl rfl rfl Tryd.underlying52 rfl (by exact sz52) (fun w hM => ?_) a w hF hM))
            have hw : withNo e ts.l = 0 := by rw [withNo, if_neg (by simp [h19]), if_neg (by simp [hw0]), if_neg (by omega)]
            have hop : out.Perm (wiAll e ts.l) := (by rw [hr0, List.append_nil] at hs1; exact hs1.symm.trans hMp)
            have hsoe : so = tsort (wiAll e ts.l) := by rw [hso]; exact tsort_eq hop ((hop.map (fun t : STag => t.n)).nodup_iff.2 (wiAll_names h19 hw0))
            have hsl : so.length = q := by rw [hso, (tsort_perm out).length_eq, hs2]
            refine ⟨⟨⟨e.id, e.at_, e.lv, ⟨z.A, e.fa.q, z.c, z.gs⟩, ⟨A, q, c, so⟩, ⟨z.D, e.cr.q, z.d, e.cr.l⟩, e.rel, e.us, e.wt⟩, _⟩, by rw [hw]; rfl, ⟨⟨fun _ => ⟨rfl, rfl, rfl, rfl, rfl, rfl, hz1, hsoe, rfl⟩, fun h => absurd hw h⟩, wi_ok (rs := z.rs) he hzl (cont_ok he hz1 fun g hg => (hz2 g hg).2) hfq hsl (by omega) fun s hs => ?_⟩, hM.keep (ks := [(0, 999)]) (by repeat (first | exact kl_rest (by assumption) rfl | (apply kl_in; focus rfl))) _ ⟨rfl, trivial⟩⟩
            rw [hso] at hs
            rcases wiAll_mem (hop.mem_iff.1 ((tsort_perm out).mem_iff.1 hs)) with h | h
            · exact he.ta.n s h
            · exact hts.n s h
end Go.Proofs.YtoeipmepmlikcaaDoor
