/- The reference's Fitted, LimitsFault, and the law's own functions. Conditions: those of each theorem. -/
import Derived.Test.YtoeipmepmlikcaaDoorEWiT
namespace Go.Proofs.YtoeipmepmlikcaaDoor
set_option linter.unusedSimpArgs false
set_option linter.unusedVariables false
set_option maxRecDepth 20000
open Go.RowKit Go.Eng
theorem LimitsFault_any (f c t x : Int) (w : World) : Calls Tryd.prog 52 #[.agg #[.int .i64 f, .int .i64 c, .int .i64 t, .int .i64 x]] w fun e w' => e = .returned (.int .i64 (if limBad f c t x = true then 2 else 0)) ∧ Below w.heap.size w w' := by
  refine enter_args (args := [.agg #[.int .i64 f, .int .i64 c, .int .i64 t, .int .i64 x]]) (F := _) Tryd.func52 rfl Tryd.ntmps52 rfl rfl ?_
  intro Rb hRb hRn
  refine T_seq ?_
  refine T_region ?_
  refine S_box 1 1 rfl rfl rfl rfl rfl ?_
  intro b1
  refine S_ 2 rfl rfl rfl _ (y_assign rfl rfl) ?_
  refine S_go (fun _ _ h => h) ?_
  refine T_seq ?_
  refine T_seq ?_
  refine T_region ?_
  refine S_ 3 rfl rfl rfl _ (y_fieldAddr rfl rfl fa64_0) ?_
  refine S_ 4 rfl rfl rfl _ (y_load 1 rfl rfl rfl rfl Tryd.underlying3 rfl) ?_
  refine S_ 5 rfl rfl rfl _ (y_call rfl rfl rfl cf97 (fun _ w _ => out_any _ _ _ w)) ?_
  refine S_ 6 rfl rfl rfl _ (y_move rfl rfl) ?_
  refine Sg_ 7 rfl rfl rfl rfl rfl rfl _ (y_fieldAddr rfl rfl fa64_1) ?_
  refine Sg_ 8 rfl rfl rfl rfl rfl rfl _ (y_load 1 rfl rfl rfl rfl Tryd.underlying3 rfl) ?_
  refine Sg_ 9 rfl rfl rfl rfl rfl rfl _ (y_call rfl rfl rfl cf97 (fun _ w _ => out_any _ _ _ w)) ?_
  refine S_ 10 rfl rfl rfl _ (y_or rfl rfl rfl) ?_
  refine S_ 11 rfl rfl rfl _ (y_move rfl rfl) ?_
  refine Sg_ 12 rfl rfl rfl rfl rfl rfl _ (y_fieldAddr rfl rfl fa64_2) ?_
  refine Sg_ 13 rfl rfl rfl rfl rfl rfl _ (y_load 1 rfl rfl rfl rfl Tryd.underlying3 rfl) ?_
  refine Sg_ 14 rfl rfl rfl rfl rfl rfl _ (y_call rfl rfl rfl cf97 (fun _ w _ => out_any _ _ _ w)) ?_
  refine S_ 15 rfl rfl rfl _ (y_or rfl rfl rfl) ?_
  refine S_ 16 rfl rfl rfl _ (y_move rfl rfl) ?_
  refine Sg_ 17 rfl rfl rfl rfl rfl rfl _ (y_fieldAddr rfl rfl fa64_3) ?_
  refine Sg_ 18 rfl rfl rfl rfl rfl rfl _ (y_load 1 rfl rfl rfl rfl Tryd.underlying3 rfl) ?_
  refine Sg_ 19 rfl rfl rfl rfl rfl rfl _ (y_call rfl rfl rfl cf97 (fun _ w _ => out_any _ _ _ w)) ?_
  refine S_ 20 rfl rfl rfl _ (y_as (v' := .bool (limBad f c t x)) (by simp only [limBad, Bool.or_assoc]) (y_or rfl rfl rfl)) ?_
  refine S_go (fun _ _ h => h) ?_
  refine T_cond rfl (fun h20 => ?_) (fun h20 => ?_)
  · skip
    refine T_seq ?_
    refine T_region ?_
    refine S_ 2 rfl rfl rfl _ (y_assign rfl rfl) ?_
    refine S_go (fun _ _ h => h) ?_
    refine T_ret (fun a w hF hM => hRb a w (post1 rfl rfl (fun w hM => ?_) a w hF hM))
    exact ⟨by rw [if_pos h20], hM.below⟩
  · skip
    refine T_skip_go (fun _ _ h => h) ?_
    refine T_seq ?_
    refine T_region ?_
    refine S_ 2 rfl rfl rfl _ (y_assign rfl rfl) ?_
    refine S_go (fun _ _ h => h) ?_
    refine T_ret (fun a w hF hM => hRb a w (post1 rfl rfl (fun w hM => ?_) a w hF hM))
    exact ⟨by rw [if_neg (by simp [h20])], hM.below⟩
theorem cutText_any (s : List UInt8) (n : Int) (h0 : 1 ≤ n) (h1 : n ≤ 2000) (hs : s.length ≤ 4611686018427387904) (w : World) :
    Calls Tryd.prog 127 #[str s, .int .i64 n] w fun e w' => e = .returned (str (cutS s n)) ∧ Below w.heap.size w w' := by
  obtain ⟨n, rfl⟩ : ∃ k : Nat, n = k := ⟨n.toNat, by omega⟩
  refine enter_args (args := [str s, .int .i64 (n : Int)]) (F := _) Tryd.func127 rfl Tryd.ntmps127 rfl rfl ?_
  intro Rb hRb hRn
  refine T_seq ?_
  refine T_region ?_
  refine S_ 4 rfl rfl rfl _ (y_assign rfl rfl) ?_
  refine S_go (fun _ _ h => h) ?_
  refine T_seq ?_
  refine T_seq ?_
  refine T_region ?_
  refine S_ 6 rfl rfl rfl _ (y_move rfl rfl) ?_
  refine S_ 7 rfl rfl rfl _ (y_len_str rfl rfl Tryd.underlying9) ?_
  refine S_ 8 rfl rfl rfl _ (y_move rfl rfl) ?_
  refine S_ 9 rfl rfl rfl _ (y_bin rfl rfl rfl (fun _ => b_leq)) ?_
  refine S_go (fun _ _ h => h) ?_
  refine T_cond rfl (fun h9 => ?_) (fun h9 => ?_)
  · try simp only [decide_eq_true_eq, decide_eq_false_iff_not, Bool.or_eq_true, Bool.or_eq_false_iff, Bool.and_eq_true, Bool.and_eq_false_iff, Bool.not_eq_true', Bool.not_eq_false', Bool.not_eq_true, Bool.not_eq_false, Bool.not_true, Bool.not_false, Int.not_lt, Int.not_le, not_or, not_and, Classical.not_not] at h9
    refine T_seq ?_
    refine T_region ?_
    refine S_ 10 rfl rfl rfl _ (y_move rfl rfl) ?_
    refine S_ 4 rfl rfl rfl _ (y_assign rfl rfl) ?_
    refine S_go (fun _ _ h => h) ?_
    refine T_ret (fun a w hF hM => hRb a w (post1 rfl rfl (fun w hM => ?_) a w hF hM))
    exact ⟨by rw [cutS, if_pos (by omega)], hM.below⟩
  · try simp only [decide_eq_true_eq, decide_eq_false_iff_not, Bool.or_eq_true, Bool.or_eq_false_iff, Bool.and_eq_true, Bool.and_eq_false_iff, Bool.not_eq_true', Bool.not_eq_false', Bool.not_eq_true, Bool.not_eq_false, Bool.not_true, Bool.not_false, Int.not_lt, Int.not_le, not_or, not_and, Classical.not_not] at h9
    have h9 : (n : Int) < s.length := by simpa using h9
    refine T_skip_go (fun _ _ h => h) ?_
    refine T_seq ?_
    refine T_region ?_
    refine S_ 11 rfl rfl rfl _ (y_move rfl rfl) ?_
    refine S_ 12 rfl rfl rfl _ (y_as (v' := .int .i64 ((min 3 n : Nat) : Int)) (by congr 1; split <;> omega) (y_min rfl rfl rfl)) ?_
    refine S_ 5 rfl rfl rfl _ (y_assign rfl rfl) ?_
    refine S_go (fun _ _ h => h) ?_
    refine T_seq ?_
    refine T_draws (by kernel_rfl) (by kernel_rfl) ?_
    refine D_ 13 rfl rfl rfl _ (y_move rfl rfl) ?_
    refine D_ 14 rfl rfl rfl _ (y_move rfl rfl) ?_
    refine D_ 15 rfl rfl rfl _ (y_move rfl rfl) ?_
    refine D_ 16 rfl rfl rfl _ (y_bin rfl rfl rfl (fun hg => b_subv (((n - min 3 n : Nat) : Int)) (by omega) (by omega))) ?_
    refine D_ 17 rfl rfl rfl _ (y_strTo rfl rfl rfl Tryd.underlying9 (fun _ => ⟨by omega, by omega⟩)) ?_
    refine D_ 18 rfl rfl rfl _ (y_move rfl rfl) ?_
    refine D_ 19 rfl rfl rfl _ (y_strTo rfl rfl rfl Tryd.underlying9 (fun _ => ⟨by omega, by show ((min 3 n : Nat) : Int) ≤ 3; omega⟩)) ?_
    refine D_ 20 rfl rfl rfl _ (y_bin rfl rfl rfl (fun hg => b_adds (by simp only [List.length_take, List.length_cons, List.length_nil]; omega))) ?_
    refine D_ 4 rfl rfl rfl _ (y_assign rfl rfl) ?_
    refine D_go (fun _ _ h => h) ?_
    refine T_ret (fun a w hF hM => hRb a w (post1 rfl rfl (fun w hM => ?_) a w hF hM))
    refine ⟨?_, hM.below⟩
    congr 2
    rw [cutS, if_neg (by omega)]
    simp only [Int.toNat_natCast]
    rcases Nat.lt_or_ge n 3 with h | h
    · rw [if_pos (by omega), show min 3 n = n by omega, Nat.sub_self, List.take_zero, List.nil_append]
      have : n = 1 ∨ n = 2 := by omega
      rcases this with rfl | rfl <;> rfl
    · rw [if_neg (by omega), show min 3 n = 3 by omega, show ((n : Int) - 3).toNat = n - 3 by omega]; rfl
/-- what Fitted makes is right in memory -/
theorem fitd_ok {w0 : World} {e : Evt} {rs : List Row} {A B D : Option Addr} {c b d lo tq : Nat} {gs : List Flt} {ds : List SCrumb} (he : e.Ok w0) (hgs : gs.length = e.fa.q) (h4 : ∀ g ∈ gs, Sees w0 rs fun w => FltOk w g) (hq : e.fa.q ≤ 10)
    (htq : tq ≤ e.ta.q) (hlo : lo ≤ e.cr.q) (hcq : e.cr.q ≤ 50) (hdl : ds.length = e.cr.q) (hds : ∀ s ∈ ds, s.k.length ≤ 4611686018427387904 ∧ s.t.length ≤ 4611686018427387904) :
    Sees w0 (((rs ++ [(⟨70, 3, .slice A e.fa.q c, e.fa.q, gs.flatMap Flt.enc⟩ : Row)]) ++ [⟨78, 3, .slice D e.cr.q d, e.cr.q, ds.flatMap SCrumb.enc⟩]) ++ [⟨128, 2, .slice B e.ta.q b, e.ta.q, e.ta.l.flatMap STag.enc⟩])
      fun w => Evt.Ok w ⟨e.id, e.at_, e.lv, ⟨A, e.fa.q, c, gs⟩, subSl 2 ⟨B, e.ta.q, b, e.ta.l⟩ 0 tq, subSl 3 ⟨D, e.cr.q, d, ds⟩ lo e.cr.q, e.rel, e.us, e.wt⟩ := fun w hb hr =>
  ⟨⟨row_ok (hr _ (List.mem_append_left _ (List.mem_append_left _ (List.mem_append_right _ (List.mem_singleton.2 rfl))))) hgs, Nat.le_trans hq (by decide), fun g hg => h4 g hg w hb fun r h => hr r (List.mem_append_left _ (List.mem_append_left _ (List.mem_append_left _ h)))⟩,
   ⟨subSl_ok (row_ok (hr _ (List.mem_append_right _ (List.mem_singleton.2 rfl))) he.ta.ok.t.len) (fun _ => rfl) (Nat.zero_le _) htq, Nat.le_trans (Nat.sub_le _ _) (Nat.le_trans htq he.ta.q), fun s hs => he.ta.n s (List.mem_of_mem_drop (List.mem_of_mem_take hs))⟩,
   ⟨subSl_ok (row_ok (hr _ (List.mem_append_left _ (List.mem_append_right _ (List.mem_singleton.2 rfl)))) hdl) (fun _ => rfl) hlo (Nat.le_refl _), Nat.le_trans (Nat.sub_le _ _) he.cr.q, fun s hs => hds s (List.mem_of_mem_drop (List.mem_of_mem_take hs))⟩, he.id, he.rel, he.us⟩
/-- the crumbs while their texts are cut -/
def crs (l : List SCrumb) (lo j : Nat) (x : Int) : List SCrumb := l.take lo ++ ((l.drop lo).take j).map (fitC x) ++ l.drop (lo + j)
theorem crs_at {l : List SCrumb} {lo j : Nat} {x : Int} {d : SCrumb} (h : l[lo + j]? = some d) : (crs l lo j x)[lo + j]? = some d ∧ (crs l lo j x).set (lo + j) (fitC x d) = crs l lo (j + 1) x := by
  have hl := (List.getElem?_eq_some_iff.1 h).1
  have hd : l.drop (lo + j) = d :: l.drop (lo + j + 1) := drop_at h
  have hk : lo + j = (l.take lo ++ ((l.drop lo).take j).map (fitC x)).length := by simp only [List.length_append, List.length_take, List.length_map, List.length_drop]; omega
  have hx : (l.drop lo)[j]? = some d := by rw [List.getElem?_drop]; exact h
  constructor
  · unfold crs
    rw [hd]
    exact at_mid hk
  · unfold crs
    rw [hd, set_mid hk, take_at hx, List.map_append, ← Nat.add_assoc]
    simp
theorem crs_len {l : List SCrumb} {lo j : Nat} {x : Int} (h : lo + j ≤ l.length) : (crs l lo j x).length = l.length := by
  simp only [crs, List.length_append, List.length_take, List.length_map, List.length_drop]; omega
theorem crs_0 {l : List SCrumb} {lo : Nat} {x : Int} : crs l lo 0 x = l := by simp [crs]
theorem crs_mem {l : List SCrumb} {lo j : Nat} {x : Int} {s : SCrumb} (h : s ∈ crs l lo j x) : ∃ d ∈ l, s = d ∨ s = fitC x d := by
  unfold crs at h
  rcases List.mem_append.1 h with h | h
  · rcases List.mem_append.1 h with h | h
    · exact ⟨s, List.mem_of_mem_take h, .inl rfl⟩
    · obtain ⟨d, hd, rfl⟩ := List.mem_map.1 h
      exact ⟨d, List.mem_of_mem_drop (List.mem_of_mem_take hd), .inr rfl⟩
  · exact ⟨s, List.mem_of_mem_drop h, .inl rfl⟩
set_option maxHeartbeats 1600000 in
theorem Fitted_any {w0 : World} {K : HL} (hK : FromK K) (e : Evt) (f c t x : Int) (w : World) (he : e.Ok w0) (h0 : fitNo e f c t x = 0) (hM0 : Mem w0 ([] ++ K) w) :
    Calls Tryd.prog 54 #[e.val, .agg #[.int .i64 f, .int .i64 c, .int .i64 t, .int .i64 x]] w fun en w' => ∃ z : FitR, en = .returned z.ev.val ∧ (FitP e f c t x z.ev ∧ Sees w0 z.rs fun w => z.ev.Ok w) ∧ Mem w0 ([(900, .many z.rs)] ++ K) w' := by
  obtain ⟨hev, hlm⟩ := fit_parts h0
  obtain ⟨hl1, hl2, hl3, hl4⟩ := lim_parts hlm
  obtain ⟨hp_f, ⟨hp_t, hp_u⟩, ⟨hp_c, hp_d⟩⟩ := ev_parts hev
  obtain ⟨hfq, hfn⟩ := faults_parts hp_f
  have hcl := he.cr.ok.t.len
  refine enterM_args (args := [.agg #[str e.id, .int .i64 e.at_, .int .i64 e.lv, .slice e.fa.A e.fa.q e.fa.c, .slice e.ta.A e.ta.q e.ta.c, .slice e.cr.A e.cr.q e.cr.c, str e.rel, str e.us, .int .i64 e.wt], .agg #[.int .i64 f, .int .i64 c, .int .i64 t, .int .i64 x]]) (F := _) hM0 Tryd.func54 rfl Tryd.ntmps54 rfl rfl ?_
  intro Rb hRb hRn
  refine T_seq ?_
  refine T_region ?_
  refine S_box 2 2 rfl rfl rfl rfl rfl ?_
  intro b2
  refine S_box 3 3 rfl rfl rfl rfl rfl ?_
  intro b3
  refine S_alloc 4 4 rfl rfl rfl rfl z52 ?_
  intro b4
  refine S_go (fun _ _ h => h) ?_
  refine T_seq ?_
  refine T_region ?_
  refine S_ 9 rfl rfl rfl _ (y_loadA 2 rfl rfl rfl Tryd.underlying52 rfl sz52) ?_
  refine S_callN 10 [] [(6, 906), (900, 900), (9, 909), (12, 912)] (X := CopyR) rfl rfl rfl rfl rfl rfl rfl cf125 rfl (fun z => .agg #[str e.id, .int .i64 e.at_, .int .i64 e.lv, .slice z.A e.fa.q z.c, .slice z.B e.ta.q z.b, .slice z.D e.cr.q z.d, str e.rel, str e.us, .int .i64 e.wt]) (fun z => z.gs.map Flt.cont = e.fa.l.map Flt.cont ∧ ∀ f ∈ z.gs, f.fr.q = f.fr.l.length ∧ Sees w0 z.rs fun w => FrmsOk w f.fr) (fun z => z.L2 e) (fun _ => rfl) (fun _ => rfl) (fun K1 hK1 w hM => Copied_any hK1 e w he ⟨by omega, by omega, by omega, fun g hg => by have := (flt_parts (hfn g hg)).2.2; omega⟩ hM) ?_
  rintro z ⟨hz1, hz2⟩
  have hzl : z.gs.length = e.fa.q := by have := congrArg List.length hz1; simp only [List.length_map] at this; rw [this, he.fa.ok.t.len]
  refine S_store 2 rfl rfl rfl rfl rfl rfl sz52 rfl rfl ?_
  refine S_go (fun _ _ h => h) ?_
  refine T_seq ?_
  refine T_seq ?_
  refine T_region ?_
  refine S_ 11 rfl rfl rfl _ (y_fieldAddr rfl rfl fa52_3) ?_
  refine S_ 12 rfl rfl rfl _ (y_load 2 rfl rfl rfl rfl Tryd.underlying48 rfl) ?_
  refine S_ 13 rfl rfl rfl _ (y_len_slice rfl rfl Tryd.underlying48) ?_
  refine S_ 14 rfl rfl rfl _ (y_move rfl rfl) ?_
  refine S_go (fun _ _ h => h) ?_
  refine T_block ?_
  refine T_loopK3 (kf := [(5, 7), (14, 64)]) (kl := [(5, 7), (14, 64), (900, 900), (906, 906)]) (fun (i : Nat) (gs : List Flt) (rs : List Row) => [(14, true, .int .i64 (i : Int))]) (fun (i : Nat) (gs : List Flt) (rs : List Row) => [(906, .own 70 3 (.slice z.A e.fa.q z.c) e.fa.q ((gs ++ z.gs.drop i).flatMap Flt.enc)), (900, .many rs)]) (fun (i : Nat) (gs : List Flt) (rs : List Row) => i ≤ e.fa.q ∧ gs.length = i ∧ gs.map Flt.cont = (e.fa.l.take i).map (fitF f x) ∧ (∀ g ∈ gs, Sees w0 rs fun w => FltOk w g) ∧ (∀ g ∈ z.gs, Sees w0 rs fun w => FrmsOk w g.fr)) (fun (i : Nat) (gs : List Flt) (rs : List Row) => e.fa.q - i) 0 [] z.rs (by repeat (first | exact kf_nil | (apply kf_in; focus rfl) | (apply kf_out; focus rfl))) (by repeat (first | exact kl_nil | exact kl_rest (by assumption) rfl | (apply kl_in; focus rfl) | (apply kl_out; focus rfl))) ?_ ?_ ?_ ?_
  · exact ⟨by omega, rfl, rfl, fun _ h => by simp at h, fun g hg => (hz2 g hg).2⟩
  · exact ⟨rfl, trivial⟩
  · exact ⟨rfl, rfl, trivial⟩
  rintro i gs rs ⟨hp1, hp2, hp3, hp4, hp5⟩
  refine T_seq ?_
  refine T_region ?_
  refine S_ 15 rfl rfl rfl _ (y_bin rfl rfl rfl (fun _ => b_lss)) ?_
  refine S_go (fun _ _ h => h) ?_
  refine T_seq ?_
  refine T_cond rfl (fun h15 => ?_) (fun h15 => ?_)
  · try simp only [decide_eq_true_eq, decide_eq_false_iff_not, Bool.or_eq_true, Bool.or_eq_false_iff, Bool.and_eq_true, Bool.and_eq_false_iff, Bool.not_eq_true', Bool.not_eq_false', Bool.not_eq_true, Bool.not_eq_false, Bool.not_true, Bool.not_false, Int.not_lt, Int.not_le, not_or, not_and, Classical.not_not] at h15
    refine T_some 906 rfl fun hA6 => ?_
    obtain ⟨y, hx1, hx2⟩ := at_lt (l := z.gs) (i := i) (by omega)
    obtain ⟨y0, hy1, hy2⟩ := map_at hz1 hx1
    simp only [Flt.cont, Prod.mk.injEq] at hy2
    obtain ⟨hk, ht, hl⟩ := hy2
    obtain ⟨hyF, hyS, hyQ⟩ := flt_parts (hfn y0 (mem_at hy1))
    have hy0 := he.fa.n y0 (mem_at hy1)
    have hyt : y.t.length ≤ 4611686018427387904 := by rw [ht]; exact hy0.t
    have hyq : y.fr.q = y0.fr.q := by rw [(hz2 y (mem_at hx1)).1, hl, hy0.fr.ok.t.len]
    have hyl : y.fr.l.length = y.fr.q := (hz2 y (mem_at hx1)).1.symm
    refine T_known (p := y.fr.q ≤ y.fr.c) (fun w hM => ((hp5 y (mem_at hx1)).at hM 900 rfl).ok.cap) (fun hyc => ?_)
    refine T_skip_go (fun _ _ h => h) ?_
    refine T_seq ?_
    refine T_block ?_
    refine T_seq ?_
    refine T_region ?_
    refine S_ 16 rfl rfl rfl _ (y_move rfl rfl) ?_
    refine S_ 5 rfl rfl rfl _ (y_assign rfl rfl) ?_
    refine S_go (fun _ _ h => h) ?_
    refine T_seq ?_
    refine T_region ?_
    refine S_ 17 rfl rfl rfl _ (y_fieldAddr rfl rfl fa52_3) ?_
    refine S_ 18 rfl rfl rfl _ (y_load 2 rfl rfl rfl rfl Tryd.underlying48 rfl) ?_
    refine S_ 19 rfl rfl rfl _ (y_move rfl rfl) ?_
    refine S_ 20 rfl rfl rfl _ (y_indexAddr rfl rfl rfl Tryd.underlying48 sz70 (fun hg => hA6 (by omega)) (fun _ => by omega)) ?_
    refine S_ 6 rfl rfl rfl _ (y_assign rfl rfl) ?_
    refine S_go (fun _ _ h => h) ?_
    refine T_seq ?_
    refine T_seq ?_
    refine T_region ?_
    refine S_ 21 rfl rfl rfl _ (y_move rfl rfl) ?_
    refine S_ 22 rfl rfl rfl _ (y_nilCheckOwn 906 rfl rfl rfl (fun _ => by omega)) ?_
    refine S_ 23 rfl rfl rfl _ (y_fieldOwn 906 rfl rfl rfl (fun _ => by omega) fa70_2) ?_
    refine S_ 24 rfl rfl rfl _ (y_load_cellOwn 906 rfl rfl rfl (fun _ => by omega) (fun _ => flat_at (enc := Flt.enc) (size := 3) (fun _ => rfl) (at_next hp2 hx2) 2 (.slice y.fr.A y.fr.q y.fr.c) rfl) Tryd.underlying68 rfl) ?_
    refine S_ 25 rfl rfl rfl _ (y_len_slice rfl rfl Tryd.underlying68) ?_
    refine S_ 7 rfl rfl rfl _ (y_assign rfl rfl) ?_
    refine S_go (fun _ _ h => h) ?_
    refine T_seq ?_
    refine T_region ?_
    refine S_ 26 rfl rfl rfl _ (y_move rfl rfl) ?_
    refine S_ 27 rfl rfl rfl _ (y_fieldAddr rfl rfl fa64_0) ?_
    refine S_ 28 rfl rfl rfl _ (y_load 3 rfl rfl rfl rfl Tryd.underlying3 rfl) ?_
    refine S_ 29 rfl rfl rfl _ (y_bin rfl rfl rfl (fun _ => b_gtr)) ?_
    refine S_go (fun _ _ h => h) ?_
    refine T_cond rfl (fun h29 => ?_) (fun h29 => ?_)
    · try simp only [decide_eq_true_eq, decide_eq_false_iff_not, Bool.or_eq_true, Bool.or_eq_false_iff, Bool.and_eq_true, Bool.and_eq_false_iff, Bool.not_eq_true', Bool.not_eq_false', Bool.not_eq_true, Bool.not_eq_false, Bool.not_true, Bool.not_false, Int.not_lt, Int.not_le, not_or, not_and, Classical.not_not] at h29
      have hcf : cutF y.fr.l f.toNat = catF [subSl 6 y.fr 0 ((f.toNat + 1) / 2), subSl 6 y.fr (y.fr.q - f.toNat / 2) y.fr.q] := by
        rw [cutF, if_neg (by omega), hyl]
        simp only [catF, subSl, List.drop_zero, Nat.sub_zero, List.append_nil]
        rw [List.take_of_length_le (l := y.fr.l.drop (y.fr.q - f.toNat / 2)) (by rw [List.length_drop]; omega)]
      refine T_perm [0, 1, 2, 3, 4, 5, 6, 7, 8, 9, 10, 11, 12, 13, 14, 15, 16, 17, 18, 19, 20, 21, 22, 23, 24] [true, true, true, true, true, true, true, true, true, true, true, true, true, true, true, true, true, true, true, true, false, false, true, true, false] [0, 0, 2, 6, 14, 0, 32, 96, 224, 510, 0, 1024, 3072, 7168, 0, 0, 32768, 98304, 245760, 523264, 1048574, 2097150, 4194303, 8388607, 16777215] [(2, [906]), (3, [906]), (4, [906]), (6, [3]), (11, [906]), (12, [906]), (13, [906]), (16, [3]), (22, [906]), (23, [906])] (by kernel_rfl) (by kernel_rfl) (by kernel_rfl) rfl (by kernel_rfl) ?_
      refine Rf_ 0 30 rfl rfl rfl rfl rfl _ trivial (Y.z (y_move rfl rfl) rfl) ?_
      refine Rf_ 1 31 rfl rfl rfl rfl rfl _ trivial (Y.z (y_move rfl rfl) rfl) ?_
      refine Rf_ 2 32 rfl rfl rfl rfl rfl _ ⟨rfl, trivial⟩ (Z.of (z_nilCheckOwn 906 rfl rfl rfl (by omega))) ?_
      refine Rf_ 3 33 rfl rfl rfl rfl rfl _ ⟨rfl, trivial⟩ (Y.z (y_fieldOwn 906 rfl rfl rfl (fun _ => by omega) fa70_2) rfl) ?_
      refine Rf_ 4 34 rfl rfl rfl rfl rfl _ ⟨rfl, trivial⟩ (Y.z (y_load_cellOwn 906 rfl rfl rfl (fun _ => by omega) (fun _ => flat_at (enc := Flt.enc) (size := 3) (fun _ => rfl) (at_next hp2 hx2) 2 (.slice y.fr.A y.fr.q y.fr.c) rfl) Tryd.underlying68 rfl) rfl) ?_
      refine Rf_ 5 35 rfl rfl rfl rfl rfl _ trivial (Y.z (y_fieldAddr rfl rfl fa64_0) rfl) ?_
      refine Rf_ 6 36 rfl rfl rfl rfl rfl _ ⟨rfl, trivial⟩ (Y.z (y_as (v' := .int .i64 ((f.toNat : Nat) : Int)) (by congr 1; omega) (y_load 3 rfl rfl rfl rfl Tryd.underlying3 rfl)) rfl) ?_
      refine Rf_ 7 37 rfl rfl rfl rfl rfl _ trivial (Y.z (y_bin rfl rfl rfl (fun hg => b_addv (((f.toNat + 1 : Nat) : Int)) (by omega) (by omega))) rfl) ?_
      refine Rf_ 8 38 rfl rfl rfl rfl rfl _ trivial (Y.z (y_bin rfl rfl rfl (fun hg => b_quov ((((f.toNat + 1) / 2 : Nat) : Int)) (by omega) (by omega) (by omega) (by omega))) rfl) ?_
      refine Rf_ 9 39 rfl rfl rfl rfl rfl _ trivial (Y.z (y_slice rfl rfl Tryd.underlying68 sz148 (.inl ⟨rfl, rfl⟩) (.inr ⟨_, _, rfl, rfl⟩) (by omega) (by omega) hyc) rfl) ?_
      refine Rf_ 10 40 rfl rfl rfl rfl rfl _ trivial (Y.z (y_move rfl rfl) rfl) ?_
      refine Rf_ 11 41 rfl rfl rfl rfl rfl _ ⟨rfl, trivial⟩ (Z.of (z_nilCheckOwn 906 rfl rfl rfl (by omega))) ?_
      refine Rf_ 12 42 rfl rfl rfl rfl rfl _ ⟨rfl, trivial⟩ (Y.z (y_fieldOwn 906 rfl rfl rfl (fun _ => by omega) fa70_2) rfl) ?_
      refine Rf_ 13 43 rfl rfl rfl rfl rfl _ ⟨rfl, trivial⟩ (Y.z (y_load_cellOwn 906 rfl rfl rfl (fun _ => by omega) (fun _ => flat_at (enc := Flt.enc) (size := 3) (fun _ => rfl) (at_next hp2 hx2) 2 (.slice y.fr.A y.fr.q y.fr.c) rfl) Tryd.underlying68 rfl) rfl) ?_
      refine Rf_ 14 44 rfl rfl rfl rfl rfl _ trivial (Y.z (y_move rfl rfl) rfl) ?_
      refine Rf_ 15 45 rfl rfl rfl rfl rfl _ trivial (Y.z (y_fieldAddr rfl rfl fa64_0) rfl) ?_
      refine Rf_ 16 46 rfl rfl rfl rfl rfl _ ⟨rfl, trivial⟩ (Y.z (y_as (v' := .int .i64 ((f.toNat : Nat) : Int)) (by congr 1; omega) (y_load 3 rfl rfl rfl rfl Tryd.underlying3 rfl)) rfl) ?_
      refine Rf_ 17 47 rfl rfl rfl rfl rfl _ trivial (Y.z (y_bin rfl rfl rfl (fun hg => b_quov (((f.toNat / 2 : Nat) : Int)) (by omega) (by omega) (by omega) (by omega))) rfl) ?_
      refine Rf_ 18 48 rfl rfl rfl rfl rfl _ trivial (Y.z (y_bin rfl rfl rfl (fun hg => b_subv (((y.fr.q - f.toNat / 2 : Nat) : Int)) (by omega) (by omega))) rfl) ?_
      refine Rf_ 19 49 rfl rfl rfl rfl rfl _ trivial (Y.z (y_slice rfl rfl Tryd.underlying68 sz148 (.inr ⟨_, _, rfl, rfl⟩) (.inl ⟨rfl, rfl⟩) (by omega) (by omega) hyc) rfl) ?_
      refine R_chain 20 rfl rfl ?_
      refine S_buildSlice 50 50 rfl rfl rfl rfl rfl Tryd.underlying205 inf68 rfl (by decide) (by decide) rfl rfl (by decide) rfl (_) rfl ?_
      intro b50
      refine R_next ⟨.inl rfl, .inl rfl, .inl rfl, .inl rfl, .inl rfl, .inl rfl, .inl rfl, .inl rfl, .inl rfl, .inl rfl, trivial⟩ ?_
      refine R_chain 21 rfl rfl ?_
      refine S_callOwn 51 51 rfl rfl rfl rfl rfl rfl rfl cf126 (fun A c => .slice A ((catF [subSl 6 y.fr 0 ((f.toNat + 1) / 2), subSl 6 y.fr (y.fr.q - f.toNat / 2) y.fr.q]).length) c) 148 6 ((catF [subSl 6 y.fr 0 ((f.toNat + 1) / 2), subSl 6 y.fr (y.fr.q - f.toNat / 2) y.fr.q]).length) ((catF [subSl 6 y.fr 0 ((f.toNat + 1) / 2), subSl 6 y.fr (y.fr.q - f.toNat / 2) y.fr.q]).flatMap Frm.enc) (fun w hM => ConcatF_any _ 2 _ [subSl 6 y.fr 0 ((f.toNat + 1) / 2), subSl 6 y.fr (y.fr.q - f.toNat / 2) y.fr.q] w ⟨own_reads hM (i := 50) rfl, rfl⟩ (by decide) (fun s hs => by simp only [List.mem_cons, List.not_mem_nil, or_false] at hs; rcases hs with rfl | rfl; exact subSl_ok (((hp5 y (mem_at hx1)).at hM 900 rfl).ok) (fun _ => rfl) (by omega) (by omega); exact subSl_ok (((hp5 y (mem_at hx1)).at hM 900 rfl).ok) (fun _ => rfl) (by omega) (by omega)) (by simp only [sumFq, subSl]; omega) (by simp only [sumFq, subSl]; omega)) ?_
      intro A51 c51
      refine R_next ⟨.inl rfl, .inl rfl, .inl rfl, .inl rfl, .inl rfl, .inl rfl, .inl rfl, .inl rfl, .inl rfl, .inl rfl, trivial⟩ ?_
      refine Rf_ 22 52 rfl rfl rfl rfl rfl _ ⟨rfl, trivial⟩ (Z.of (z_nilCheckOwn 906 rfl rfl rfl (by omega))) ?_
      refine Rf_ 23 53 rfl rfl rfl rfl rfl _ ⟨rfl, trivial⟩ (Y.z (y_fieldOwn 906 rfl rfl rfl (fun _ => by omega) fa70_2) rfl) ?_
      refine R_chain 24 rfl rfl ?_
      refine S_storeOwn 906 rfl rfl rfl rfl rfl rfl sz68 rfl rfl ?_ (xs' := (gs ++ (⟨y.k, y.t, ⟨A51, (catF [subSl 6 y.fr 0 ((f.toNat + 1) / 2), subSl 6 y.fr (y.fr.q - f.toNat / 2) y.fr.q]).length, c51, cutF y.fr.l f.toNat⟩⟩ : Flt) :: z.gs.drop (i + 1)).flatMap Flt.enc) ?_ ?_
      · (rw [flat_lenN (enc := Flt.enc) (size := 3) (fun _ => rfl)]; simp; omega)
      · rw [← set1 hp2 hx2]; exact flat_set (enc := Flt.enc) (size := 3) (off := 2) (fun _ => rfl) (at_next hp2 hx2) (by decide) rfl
      refine R_next ⟨.inl rfl, .inl rfl, .inl rfl, .inl rfl, .inl rfl, .inl rfl, .inl rfl, .inl rfl, .inl rfl, .inl rfl, trivial⟩ ?_
      refine R_go (fun _ _ h => h) ?_
      refine T_drawsTail 10 (by kernel_rfl) (by kernel_rfl) ?_
      refine D_ 54 rfl rfl rfl _ (y_move rfl rfl) ?_
      refine D_ 55 rfl rfl rfl _ (y_move rfl rfl) ?_
      refine D_ 56 rfl rfl rfl _ (y_nilCheckOwn 906 rfl rfl rfl (fun _ => by omega)) ?_
      refine D_ 57 rfl rfl rfl _ (y_fieldOwn 906 rfl rfl rfl (fun _ => by omega) fa70_1) ?_
      refine D_ 58 rfl rfl rfl _ (y_load_cellOwn 906 rfl rfl rfl (fun _ => by omega) (fun _ => flat_at (enc := Flt.enc) (size := 3) (fun _ => rfl) (at1 hp2) 1 (str y.t) rfl) Tryd.underlying9 rfl) ?_
      refine D_ 59 rfl rfl rfl _ (y_fieldAddr rfl rfl fa64_3) ?_
      refine D_ 60 rfl rfl rfl _ (y_load 3 rfl rfl rfl rfl Tryd.underlying3 rfl) ?_
      refine D_ 61 rfl rfl rfl _ (y_call rfl rfl rfl cf127 (fun _ w _ => cutText_any y.t x (by omega) (by omega) hyt w)) ?_
      refine D_ 62 rfl rfl rfl _ (y_nilCheckOwn 906 rfl rfl rfl (fun _ => by omega)) ?_
      refine D_ 63 rfl rfl rfl _ (y_fieldOwn 906 rfl rfl rfl (fun _ => by omega) fa70_1) ?_
      refine D_tail ?_
      refine S_storeOwn 906 rfl rfl rfl rfl rfl rfl sz9 rfl rfl ?_ (xs' := ((gs ++ [(⟨y.k, cutS y.t x, ⟨A51, (catF [subSl 6 y.fr 0 ((f.toNat + 1) / 2), subSl 6 y.fr (y.fr.q - f.toNat / 2) y.fr.q]).length, c51, cutF y.fr.l f.toNat⟩⟩ : Flt)]) ++ z.gs.drop (i + 1)).flatMap Flt.enc) ?_ ?_
      · (rw [flat_lenN (enc := Flt.enc) (size := 3) (fun _ => rfl)]; simp; omega)
      · rw [← set2 hp2]; exact flat_set (enc := Flt.enc) (size := 3) (off := 1) (fun _ => rfl) (at1 hp2) (by decide) rfl
      refine S_go (fun _ _ h => h) ?_
      refine T_region ?_
      refine S_ 64 rfl rfl rfl _ (y_bin rfl rfl rfl (fun hg => b_add (by omega))) ?_
      refine S_ 14 rfl rfl rfl _ (y_move rfl rfl) ?_
      refine S_bank [(51, 51), (900, 900)] 900 51 rfl rfl rfl rfl (by repeat (first | exact kl_nil | exact kl_rest (by assumption) rfl | (apply kl_in; focus rfl) | (apply kl_out; focus rfl))) ?_
      refine S_nil (nextK3 (kf := [(5, 7), (14, 64)]) (kl := [(5, 7), (14, 64), (900, 900), (906, 906)]) (i + 1) (gs ++ [⟨y.k, cutS y.t x, ⟨A51, (catF [subSl 6 y.fr 0 ((f.toNat + 1) / 2), subSl 6 y.fr (y.fr.q - f.toNat / 2) y.fr.q]).length, c51, cutF y.fr.l f.toNat⟩⟩]) (rs ++ [⟨148, 6, .slice A51 (catF [subSl 6 y.fr 0 ((f.toNat + 1) / 2), subSl 6 y.fr (y.fr.q - f.toNat / 2) y.fr.q]).length c51, (catF [subSl 6 y.fr 0 ((f.toNat + 1) / 2), subSl 6 y.fr (y.fr.q - f.toNat / 2) y.fr.q]).length, (catF [subSl 6 y.fr 0 ((f.toNat + 1) / 2), subSl 6 y.fr (y.fr.q - f.toNat / 2) y.fr.q]).flatMap Frm.enc⟩]) (by repeat (first | exact kf_nil | (apply kf_in; focus rfl) | (apply kf_out; focus rfl))) (by repeat (first | exact kl_nil | exact kl_rest (by assumption) rfl | (apply kl_in; focus rfl) | (apply kl_out; focus rfl))) ?_ ?_ ?_ ?_)
      · omega
      · exact ⟨by omega, by simp [hp2], by rw [List.map_append, hp3, take_at hy1, List.map_append]; simp [Flt.cont, fitF, hk, ht, hl], fun g hg => by
          rcases List.mem_append.1 hg with h | h
          · exact (hp4 g h).app
          · simp only [List.mem_singleton] at h
            subst h
            rw [hcf]
            exact Sees.map (Sees.row (A := A51) (c := c51) (enc := Frm.enc) (List.mem_append_right _ (List.mem_singleton.2 rfl)) rfl) fun w h => ⟨by show y.k.length ≤ _; rw [hk]; exact hy0.k, Nat.le_trans (cutS_len _ _ (by omega) (by omega)) (by decide), h, by show List.length _ ≤ _; rw [← hcf, cutF_len]; omega, fun q hq => hy0.fr.n q (hl ▸ mem_cutF (hcf ▸ hq))⟩, fun g hg => (hp5 g hg).app⟩
      · exact ⟨rfl, trivial⟩
      · exact ⟨rfl, rfl, trivial⟩
    · try simp only [decide_eq_true_eq, decide_eq_false_iff_not, Bool.or_eq_true, Bool.or_eq_false_iff, Bool.and_eq_true, Bool.and_eq_false_iff, Bool.not_eq_true', Bool.not_eq_false', Bool.not_eq_true, Bool.not_eq_false, Bool.not_true, Bool.not_false, Int.not_lt, Int.not_le, not_or, not_and, Classical.not_not] at h29
      have hcf : cutF y.fr.l f.toNat = y.fr.l := if_pos (by omega)
      rw [hx2]
      refine T_skip_go (fun _ _ h => h) ?_
      refine T_drawsTail 10 (by kernel_rfl) (by kernel_rfl) ?_
      refine D_ 54 rfl rfl rfl _ (y_move rfl rfl) ?_
      refine D_ 55 rfl rfl rfl _ (y_move rfl rfl) ?_
      refine D_ 56 rfl rfl rfl _ (y_nilCheckOwn 906 rfl rfl rfl (fun _ => by omega)) ?_
      refine D_ 57 rfl rfl rfl _ (y_fieldOwn 906 rfl rfl rfl (fun _ => by omega) fa70_1) ?_
      refine D_ 58 rfl rfl rfl _ (y_load_cellOwn 906 rfl rfl rfl (fun _ => by omega) (fun _ => flat_at (enc := Flt.enc) (size := 3) (fun _ => rfl) (at1 hp2) 1 (str y.t) rfl) Tryd.underlying9 rfl) ?_
      refine D_ 59 rfl rfl rfl _ (y_fieldAddr rfl rfl fa64_3) ?_
      refine D_ 60 rfl rfl rfl _ (y_load 3 rfl rfl rfl rfl Tryd.underlying3 rfl) ?_
      refine D_ 61 rfl rfl rfl _ (y_call rfl rfl rfl cf127 (fun _ w _ => cutText_any y.t x (by omega) (by omega) hyt w)) ?_
      refine D_ 62 rfl rfl rfl _ (y_nilCheckOwn 906 rfl rfl rfl (fun _ => by omega)) ?_
      refine D_ 63 rfl rfl rfl _ (y_fieldOwn 906 rfl rfl rfl (fun _ => by omega) fa70_1) ?_
      refine D_tail ?_
      refine S_storeOwn 906 rfl rfl rfl rfl rfl rfl sz9 rfl rfl ?_ (xs' := ((gs ++ [(⟨y.k, cutS y.t x, y.fr⟩ : Flt)]) ++ z.gs.drop (i + 1)).flatMap Flt.enc) ?_ ?_
      · (rw [flat_lenN (enc := Flt.enc) (size := 3) (fun _ => rfl)]; simp; omega)
      · rw [← set2 hp2]; exact flat_set (enc := Flt.enc) (size := 3) (off := 1) (fun _ => rfl) (at1 hp2) (by decide) rfl
      refine S_go (fun _ _ h => h) ?_
      refine T_region ?_
      refine S_ 64 rfl rfl rfl _ (y_bin rfl rfl rfl (fun hg => b_add (by omega))) ?_
      refine S_ 14 rfl rfl rfl _ (y_move rfl rfl) ?_
      refine S_nil (nextK3 (kf := [(5, 7), (14, 64)]) (kl := [(5, 7), (14, 64), (900, 900), (906, 906)]) (i + 1) (gs ++ [⟨y.k, cutS y.t x, y.fr⟩]) rs (by repeat (first | exact kf_nil | (apply kf_in; focus rfl) | (apply kf_out; focus rfl))) (by repeat (first | exact kl_nil | exact kl_rest (by assumption) rfl | (apply kl_in; focus rfl) | (apply kl_out; focus rfl))) ?_ ?_ ?_ ?_)
      · omega
      · exact ⟨by omega, by simp [hp2], by rw [List.map_append, hp3, take_at hy1, List.map_append]; simp only [List.map_cons, List.map_nil, Flt.cont, fitF]; rw [hk, ht, ← hl, hcf], fun g hg => by
          rcases List.mem_append.1 hg with h | h
          · exact hp4 g h
          · simp only [List.mem_singleton] at h
            subst h
            exact (hp5 y (mem_at hx1)).map fun w h => ⟨by show y.k.length ≤ _; rw [hk]; exact hy0.k, Nat.le_trans (cutS_len _ _ (by omega) (by omega)) (by decide), h⟩, hp5⟩
      · exact ⟨rfl, trivial⟩
      · exact ⟨rfl, rfl, trivial⟩
  · try simp only [decide_eq_true_eq, decide_eq_false_iff_not, Bool.or_eq_true, Bool.or_eq_false_iff, Bool.and_eq_true, Bool.and_eq_false_iff, Bool.not_eq_true', Bool.not_eq_false', Bool.not_eq_true, Bool.not_eq_false, Bool.not_true, Bool.not_false, Int.not_lt, Int.not_le, not_or, not_and, Classical.not_not] at h15
    refine T_known (p := e.cr.q ≤ z.d ∧ e.ta.q ≤ z.b) (fun w hM => ⟨own_cap hM (i := 912) rfl, own_cap hM (i := 909) rfl⟩) (fun hcap => ?_)
    refine T_some 912 rfl fun hA12 => ?_
    have hdr : z.gs.drop i = [] := List.drop_eq_nil_of_le (by omega)
    rw [hdr, List.append_nil]
    refine T_exit_go (fun _ _ h => h) ?_
    refine T_seq ?_
    refine T_region ?_
    refine S_ 65 rfl rfl rfl _ (y_fieldAddr rfl rfl fa52_5) ?_
    refine S_ 66 rfl rfl rfl _ (y_load 2 rfl rfl rfl rfl Tryd.underlying50 rfl) ?_
    refine S_ 67 rfl rfl rfl _ (y_fieldAddr rfl rfl fa52_5) ?_
    refine S_ 68 rfl rfl rfl _ (y_load 2 rfl rfl rfl rfl Tryd.underlying50 rfl) ?_
    refine S_ 69 rfl rfl rfl _ (y_len_slice rfl rfl Tryd.underlying50) ?_
    refine S_ 70 rfl rfl rfl _ (y_fieldAddr rfl rfl fa64_1) ?_
    refine S_ 71 rfl rfl rfl _ (y_load 3 rfl rfl rfl rfl Tryd.underlying3 rfl) ?_
    refine S_ 72 rfl rfl rfl _ (y_bin rfl rfl rfl (fun hg => b_sub (by omega))) ?_
    refine S_ 73 rfl rfl rfl _ (y_as (v' := .int .i64 ((e.cr.q - c.toNat : Nat) : Int)) (by congr 1; split <;> omega) (y_max rfl rfl rfl)) ?_
    refine S_ 74 rfl rfl rfl _ (y_slice rfl rfl Tryd.underlying50 sz78 (.inr ⟨_, _, rfl, rfl⟩) (.inl ⟨rfl, rfl⟩) (by omega) (Nat.le_refl _) hcap.1) ?_
    refine S_ 75 rfl rfl rfl _ (y_fieldAddr rfl rfl fa52_5) ?_
    refine S_store 2 rfl rfl rfl rfl rfl rfl sz50 rfl rfl ?_
    refine S_go (fun _ _ h => h) ?_
    refine T_seq ?_
    refine T_seq ?_
    refine T_region ?_
    refine S_ 76 rfl rfl rfl _ (y_fieldAddr rfl rfl fa52_5) ?_
    refine S_ 77 rfl rfl rfl _ (y_load 2 rfl rfl rfl rfl Tryd.underlying50 rfl) ?_
    refine S_ 78 rfl rfl rfl _ (y_len_slice rfl rfl Tryd.underlying50) ?_
    refine S_ 79 rfl rfl rfl _ (y_move rfl rfl) ?_
    refine S_go (fun _ _ h => h) ?_
    refine T_block ?_
    refine T_loopK1 (kf := [(8, 8), (79, 96)]) (kl := [(8, 8), (79, 96), (912, 912)]) (fun (j : Nat) => [(79, true, .int .i64 (j : Int))]) (fun (j : Nat) => [(912, .own 78 3 (.slice z.D e.cr.q z.d) e.cr.q ((crs e.cr.l (e.cr.q - c.toNat) j x).flatMap SCrumb.enc))]) (fun (j : Nat) => j ≤ e.cr.q - (e.cr.q - c.toNat)) (fun (j : Nat) => e.cr.q - j) 0 (by repeat (first | exact kf_nil | (apply kf_in; focus rfl) | (apply kf_out; focus rfl))) (by repeat (first | exact kl_nil | exact kl_rest (by assumption) rfl | (apply kl_in; focus rfl) | (apply kl_out; focus rfl))) ?_ ?_ ?_ ?_
    · omega
    · exact ⟨rfl, trivial⟩
    · exact ⟨by rw [crs_0]; rfl, trivial⟩
    rintro j hr1
    refine T_seq ?_
    refine T_region ?_
    refine S_ 80 rfl rfl rfl _ (y_bin rfl rfl rfl (fun _ => b_lss)) ?_
    refine S_go (fun _ _ h => h) ?_
    refine T_seq ?_
    refine T_cond rfl (fun h80 => ?_) (fun h80 => ?_)
    · try simp only [decide_eq_true_eq, decide_eq_false_iff_not, Bool.or_eq_true, Bool.or_eq_false_iff, Bool.and_eq_true, Bool.and_eq_false_iff, Bool.not_eq_true', Bool.not_eq_false', Bool.not_eq_true, Bool.not_eq_false, Bool.not_true, Bool.not_false, Int.not_lt, Int.not_le, not_or, not_and, Classical.not_not] at h80
      obtain ⟨d, hd1, _⟩ := at_lt (l := e.cr.l) (i := (e.cr.q - c.toNat) + j) (by omega)
      obtain ⟨hc1, hc2⟩ := crs_at (x := x) hd1
      have hdt : d.t.length ≤ 4611686018427387904 := (he.cr.n d (mem_at hd1)).2
      refine T_skip_go (fun _ _ h => h) ?_
      refine T_seq ?_
      refine T_block ?_
      refine T_seq ?_
      refine T_region ?_
      refine S_ 81 rfl rfl rfl _ (y_move rfl rfl) ?_
      refine S_ 8 rfl rfl rfl _ (y_assign rfl rfl) ?_
      refine S_go (fun _ _ h => h) ?_
      refine T_drawsTail 14 (by kernel_rfl) (by kernel_rfl) ?_
      refine D_ 82 rfl rfl rfl _ (y_fieldAddr rfl rfl fa52_5) ?_
      refine D_ 83 rfl rfl rfl _ (y_load 2 rfl rfl rfl rfl Tryd.underlying50 rfl) ?_
      refine D_ 84 rfl rfl rfl _ (y_move rfl rfl) ?_
      refine D_ 85 rfl rfl rfl _ (y_fieldAddr rfl rfl fa52_5) ?_
      refine D_ 86 rfl rfl rfl _ (y_load 2 rfl rfl rfl rfl Tryd.underlying50 rfl) ?_
      refine D_ 87 rfl rfl rfl _ (y_move rfl rfl) ?_
      refine D_ 88 rfl rfl rfl _ (y_indexSub (A := z.D) (lo := e.cr.q - c.toNat) rfl rfl rfl Tryd.underlying50 sz78 (fun _ => hA12 (by omega)) (fun _ => by omega) (by omega)) ?_
      refine D_ 89 rfl rfl rfl _ (y_fieldOwn 912 rfl rfl rfl (fun _ => by omega) fa78_2) ?_
      refine D_ 90 rfl rfl rfl _ (y_load_cellOwn 912 rfl rfl rfl (fun _ => by omega) (fun _ => flat_at (enc := SCrumb.enc) (size := 3) (fun _ => rfl) hc1 2 (str d.t) rfl) Tryd.underlying9 rfl) ?_
      refine D_ 91 rfl rfl rfl _ (y_fieldAddr rfl rfl fa64_3) ?_
      refine D_ 92 rfl rfl rfl _ (y_load 3 rfl rfl rfl rfl Tryd.underlying3 rfl) ?_
      refine D_ 93 rfl rfl rfl _ (y_call rfl rfl rfl cf127 (fun _ w _ => cutText_any d.t x (by omega) (by omega) hdt w)) ?_
      refine D_ 94 rfl rfl rfl _ (y_indexSub (A := z.D) (lo := e.cr.q - c.toNat) rfl rfl rfl Tryd.underlying50 sz78 (fun _ => hA12 (by omega)) (fun _ => by omega) (by omega)) ?_
      refine D_ 95 rfl rfl rfl _ (y_fieldOwn 912 rfl rfl rfl (fun _ => by omega) fa78_2) ?_
      refine D_tail ?_
      refine S_storeOwn 912 rfl rfl rfl rfl rfl rfl sz9 rfl rfl ?_ (xs' := (crs e.cr.l (e.cr.q - c.toNat) (j + 1) x).flatMap SCrumb.enc) ?_ ?_
      · (rw [flat_lenN (enc := SCrumb.enc) (size := 3) (fun _ => rfl), crs_len (by omega)]; omega)
      · rw [← hc2]; exact flat_set (enc := SCrumb.enc) (size := 3) (off := 2) (fun _ => rfl) hc1 (by decide) rfl
      refine S_go (fun _ _ h => h) ?_
      refine T_region ?_
      refine S_ 96 rfl rfl rfl _ (y_bin rfl rfl rfl (fun hg => b_add (by omega))) ?_
      refine S_ 79 rfl rfl rfl _ (y_move rfl rfl) ?_
      refine S_nil (nextK1 (kf := [(8, 8), (79, 96)]) (kl := [(8, 8), (79, 96), (912, 912)]) (j + 1) (by repeat (first | exact kf_nil | (apply kf_in; focus rfl) | (apply kf_out; focus rfl))) (by repeat (first | exact kl_nil | exact kl_rest (by assumption) rfl | (apply kl_in; focus rfl) | (apply kl_out; focus rfl))) ?_ ?_ ?_ ?_)
      · omega
      · omega
      · exact ⟨rfl, trivial⟩
      · exact ⟨rfl, trivial⟩
    · try simp only [decide_eq_true_eq, decide_eq_false_iff_not, Bool.or_eq_true, Bool.or_eq_false_iff, Bool.and_eq_true, Bool.and_eq_false_iff, Bool.not_eq_true', Bool.not_eq_false', Bool.not_eq_true, Bool.not_eq_false, Bool.not_true, Bool.not_false, Int.not_lt, Int.not_le, not_or, not_and, Classical.not_not] at h80
      refine T_exit_go (fun _ _ h => h) ?_
      refine T_seq ?_
      refine T_region ?_
      refine S_ 97 rfl rfl rfl _ (y_fieldAddr rfl rfl fa52_4) ?_
      refine S_ 98 rfl rfl rfl _ (y_load 2 rfl rfl rfl rfl Tryd.underlying49 rfl) ?_
      refine S_ 99 rfl rfl rfl _ (y_fieldAddr rfl rfl fa52_4) ?_
      refine S_ 100 rfl rfl rfl _ (y_load 2 rfl rfl rfl rfl Tryd.underlying49 rfl) ?_
      refine S_ 101 rfl rfl rfl _ (y_len_slice rfl rfl Tryd.underlying49) ?_
      refine S_ 102 rfl rfl rfl _ (y_fieldAddr rfl rfl fa64_2) ?_
      refine S_ 103 rfl rfl rfl _ (y_load 3 rfl rfl rfl rfl Tryd.underlying3 rfl) ?_
      refine S_ 104 rfl rfl rfl _ (y_as (v' := .int .i64 ((min e.ta.q t.toNat : Nat) : Int)) (by congr 1; split <;> omega) (y_min rfl rfl rfl)) ?_
      refine S_ 105 rfl rfl rfl _ (y_slice rfl rfl Tryd.underlying49 sz128 (.inl ⟨rfl, rfl⟩) (.inr ⟨_, _, rfl, rfl⟩) (by omega) (by omega) hcap.2) ?_
      refine S_ 106 rfl rfl rfl _ (y_fieldAddr rfl rfl fa52_4) ?_
      refine S_store 2 rfl rfl rfl rfl rfl rfl sz49 rfl rfl ?_
      refine S_go (fun _ _ h => h) ?_
      refine T_seq ?_
      refine T_region ?_
      refine S_bank [(906, 906), (900, 900)] 900 906 rfl rfl rfl rfl (by repeat (first | exact kl_nil | exact kl_rest (by assumption) rfl | (apply kl_in; focus rfl) | (apply kl_out; focus rfl))) ?_
      refine S_bank [(912, 912), (900, 900)] 900 912 rfl rfl rfl rfl (by repeat (first | exact kl_nil | exact kl_rest (by assumption) rfl | (apply kl_in; focus rfl) | (apply kl_out; focus rfl))) ?_
      refine S_bank [(909, 909), (900, 900)] 900 909 rfl rfl rfl rfl (by repeat (first | exact kl_nil | exact kl_rest (by assumption) rfl | (apply kl_in; focus rfl) | (apply kl_out; focus rfl))) ?_
      refine S_ 107 rfl rfl rfl _ (y_loadA 2 rfl rfl rfl Tryd.underlying52 rfl sz52) ?_
      refine S_store 4 rfl rfl rfl rfl rfl rfl sz52 rfl rfl ?_
      refine S_go (fun _ _ h => h) ?_
      refine T_ret (fun a w hF hM => hRb a w (post_cell1 4 rfl rfl rfl Tryd.underlying52 rfl (by exact sz52) (fun w hM => ?_) a w hF hM))
      have hj : j = e.cr.q - (e.cr.q - c.toNat) := by omega
      have hcr : ((crs e.cr.l (e.cr.q - c.toNat) j x).drop (e.cr.q - c.toNat)).take (e.cr.q - (e.cr.q - c.toNat)) = (e.cr.l.drop (e.cr.q - c.toNat)).map (fitC x) := by
        unfold crs
        rw [List.drop_eq_nil_of_le (by omega : e.cr.l.length ≤ e.cr.q - c.toNat + j), List.append_nil, List.drop_left' (by rw [List.length_take]; omega), List.take_of_length_le (by rw [List.length_drop]; omega : (e.cr.l.drop (e.cr.q - c.toNat)).length ≤ j), List.take_of_length_le (by rw [List.length_map, List.length_drop]; omega)]
      have htl := he.ta.ok.t.len
      have hfl := he.fa.ok.t.len
      have hgi : gs.length = e.fa.q := by omega
      refine ⟨⟨⟨e.id, e.at_, e.lv, ⟨z.A, e.fa.q, z.c, gs⟩, subSl 2 ⟨z.B, e.ta.q, z.b, e.ta.l⟩ 0 (min e.ta.q t.toNat), subSl 3 ⟨z.D, e.cr.q, z.d, crs e.cr.l (e.cr.q - c.toNat) j x⟩ (e.cr.q - c.toNat) e.cr.q, e.rel, e.us, e.wt⟩, _⟩, rfl, ⟨⟨rfl, rfl, rfl, rfl, rfl, rfl, by show gs.map Flt.cont = _; rw [hp3, List.take_of_length_le (by omega)], by show (e.ta.l.drop 0).take _ = _; rw [List.drop_zero]; exact List.take_eq_take_iff.2 (by omega), hcr⟩, fitd_ok (rs := rs) he hgi hp4 hfq (by omega) (by omega) hp_c (crs_len (by omega) |>.trans hcl) fun s hs => ?_⟩, hM.keep (ks := [(0, 999)]) (by repeat (first | exact kl_rest (by assumption) rfl | (apply kl_in; focus rfl))) _ ⟨rfl, trivial⟩⟩
      obtain ⟨d, hd, h⟩ := crs_mem hs
      have hdn := he.cr.n d hd
      rcases h with rfl | rfl
      · exact hdn
      · exact ⟨hdn.1, Nat.le_trans (cutS_len _ _ (by omega) (by omega)) (by decide)⟩
end Go.Proofs.YtoeipmepmlikcaaDoor
