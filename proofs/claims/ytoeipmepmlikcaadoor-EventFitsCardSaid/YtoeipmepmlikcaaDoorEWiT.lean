/- The reference's Copied and WithTags. Conditions: those of each theorem. -/
import Derived.Test.YtoeipmepmlikcaaDoorEWith
import Derived.Test.YtoeipmepmlikcaaDoorEDel
namespace Go.Proofs.YtoeipmepmlikcaaDoor
set_option linter.unusedSimpArgs false
set_option linter.unusedVariables false
set_option maxRecDepth 20000
open Go.RowKit Go.Eng
def CopyR.L2 (z : CopyR) (e : Evt) : HL := [(6, .own 70 3 (.slice z.A e.fa.q z.c) e.fa.q (z.gs.flatMap Flt.enc)), (900, .many z.rs), (9, .own 128 2 (.slice z.B e.ta.q z.b) e.ta.q (e.ta.l.flatMap STag.enc)), (12, .own 78 3 (.slice z.D e.cr.q z.d) e.cr.q (e.cr.l.flatMap SCrumb.enc))]
set_option maxHeartbeats 1600000 in
theorem Copied_any {w0 : World} {K : HL} (hK : FromK K) (e : Evt) (w : World) (he : e.Ok w0) (hn : e.fa.q ≤ 1000 ∧ e.ta.q ≤ 1000 ∧ e.cr.q ≤ 1000 ∧ ∀ f ∈ e.fa.l, f.fr.q ≤ 1000) (hM0 : Mem w0 ([] ++ K) w) :
    Calls Tryd.prog 125 #[e.val] w fun en w' => ∃ z : CopyR, en = .returned (z.evt e).val ∧ (z.gs.map Flt.cont = e.fa.l.map Flt.cont ∧ (∀ f ∈ z.gs, f.fr.q = f.fr.l.length ∧ Sees w0 z.rs fun w => FrmsOk w f.fr)) ∧ Mem w0 (z.L2 e ++ K) w' := by
  have hfa := he.fa
  have hft := hfa.ok.t
  have hfl := hft.len
  obtain ⟨hn1, hn2, hn3, hn4⟩ := hn
  refine enterM_args (args := [.agg #[str e.id, .int .i64 e.at_, .int .i64 e.lv, .slice e.fa.A e.fa.q e.fa.c, .slice e.ta.A e.ta.q e.ta.c, .slice e.cr.A e.cr.q e.cr.c, str e.rel, str e.us, .int .i64 e.wt]]) (F := _) hM0 Tryd.func125 rfl Tryd.ntmps125 rfl rfl ?_
  intro Rb hRb hRn
  refine T_seq ?_
  refine T_region ?_
  refine S_box 1 1 rfl rfl rfl rfl rfl ?_
  intro b1
  refine S_alloc 2 2 rfl rfl rfl rfl z52 ?_
  intro b2
  refine S_go (fun _ _ h => h) ?_
  refine T_seq ?_
  refine T_perm [0, 1, 3, 4, 6, 7, 2, 9, 5, 8, 10, 11, 12, 13, 14] [true, true, false, true, true, false, true, true, false, true, false, true, false, true, false] [0, 1, 3, 0, 8, 31, 0, 64, 255, 223, 1023, 2047, 4095, 8191, 16383] [(1, [1]), (4, [1]), (7, [1])] (by kernel_rfl) (by kernel_rfl) (by kernel_rfl) rfl (by kernel_rfl) ?_
  refine Rf_ 0 4 rfl rfl rfl rfl rfl _ trivial (Y.z (y_fieldAddr rfl rfl fa52_3) rfl) ?_
  refine Rf_ 1 5 rfl rfl rfl rfl rfl _ ⟨rfl, trivial⟩ (Y.z (y_load 1 rfl rfl rfl rfl Tryd.underlying48 rfl) rfl) ?_
  refine Rf_ 3 7 rfl rfl rfl rfl rfl _ trivial (Y.z (y_fieldAddr rfl rfl fa52_4) rfl) ?_
  refine Rf_ 4 8 rfl rfl rfl rfl rfl _ ⟨rfl, trivial⟩ (Y.z (y_load 1 rfl rfl rfl rfl Tryd.underlying49 rfl) rfl) ?_
  refine Rf_ 6 10 rfl rfl rfl rfl rfl _ trivial (Y.z (y_fieldAddr rfl rfl fa52_5) rfl) ?_
  refine Rf_ 7 11 rfl rfl rfl rfl rfl _ ⟨rfl, trivial⟩ (Y.z (y_load 1 rfl rfl rfl rfl Tryd.underlying50 rfl) rfl) ?_
  refine R_chain 2 rfl rfl ?_
  refine S_callOwn 6 6 rfl rfl rfl rfl rfl rfl rfl cf186 (fun A c => .slice A (e.fa.q) c) 70 3 (e.fa.q) (e.fa.l.flatMap Flt.enc) (fun w hM => CloneFlt_any e.fa w (hfa.ok.below hM.below) (by omega)) ?_
  intro A6 c6
  refine R_next ⟨.inl rfl, .inr ⟨rfl, trivial⟩, .inr ⟨rfl, trivial⟩, trivial⟩ ?_
  refine Rf_ 9 13 rfl rfl rfl rfl rfl _ trivial (Y.z (y_fieldAddr rfl rfl fa52_3) rfl) ?_
  refine R_chain 5 rfl rfl ?_
  refine S_callOwn 9 9 rfl rfl rfl rfl rfl rfl rfl cf110 (fun A c => .slice A (e.ta.q) c) 128 2 (e.ta.q) (e.ta.l.flatMap STag.enc) (fun w hM => CloneTag_any e.ta w (he.ta.ok.below hM.below) (by omega)) ?_
  intro A9 c9
  refine R_next ⟨.inl rfl, .inl rfl, .inr ⟨rfl, trivial⟩, trivial⟩ ?_
  refine R_chain 8 rfl rfl ?_
  refine S_callOwn 12 12 rfl rfl rfl rfl rfl rfl rfl cf109 (fun A c => .slice A (e.cr.q) c) 78 3 (e.cr.q) (e.cr.l.flatMap SCrumb.enc) (fun w hM => CloneCrumb_any e.cr w (he.cr.ok.below hM.below) (by omega)) ?_
  intro A12 c12
  refine R_next ⟨.inl rfl, .inl rfl, .inl rfl, trivial⟩ ?_
  refine R_chain 10 rfl rfl ?_
  refine S_store 1 rfl rfl rfl rfl rfl rfl sz48 rfl rfl ?_
  refine R_next ⟨.inl rfl, .inl rfl, .inl rfl, trivial⟩ ?_
  refine Rf_ 11 14 rfl rfl rfl rfl rfl _ trivial (Y.z (y_fieldAddr rfl rfl fa52_4) rfl) ?_
  refine R_chain 12 rfl rfl ?_
  refine S_store 1 rfl rfl rfl rfl rfl rfl sz49 rfl rfl ?_
  refine R_next ⟨.inl rfl, .inl rfl, .inl rfl, trivial⟩ ?_
  refine Rf_ 13 15 rfl rfl rfl rfl rfl _ trivial (Y.z (y_fieldAddr rfl rfl fa52_5) rfl) ?_
  refine R_chain 14 rfl rfl ?_
  refine S_store 1 rfl rfl rfl rfl rfl rfl sz50 rfl rfl ?_
  refine R_next ⟨.inl rfl, .inl rfl, .inl rfl, trivial⟩ ?_
  refine R_go (fun _ _ h => h) ?_
  refine T_seq ?_
  refine T_seq ?_
  refine T_region ?_
  refine S_many0 900 ?_
  refine S_ 16 rfl rfl rfl _ (y_fieldAddr rfl rfl fa52_3) ?_
  refine S_ 17 rfl rfl rfl _ (y_load 1 rfl rfl rfl rfl Tryd.underlying48 rfl) ?_
  refine S_ 18 rfl rfl rfl _ (y_len_slice rfl rfl Tryd.underlying48) ?_
  refine S_ 19 rfl rfl rfl _ (y_move rfl rfl) ?_
  refine S_go (fun _ _ h => h) ?_
  refine T_block ?_
  refine T_loopK3 (kf := [(3, 3), (19, 34)]) (kl := [(3, 3), (6, 6), (19, 34), (900, 900)]) (fun (i : Nat) (gs : List Flt) (rs : List Row) => [(19, true, .int .i64 (i : Int))]) (fun (i : Nat) (gs : List Flt) (rs : List Row) => [(6, .own 70 3 (.slice A6 e.fa.q c6) e.fa.q ((gs ++ e.fa.l.drop i).flatMap Flt.enc)), (900, .many rs)]) (fun (i : Nat) (gs : List Flt) (rs : List Row) => i ≤ e.fa.q ∧ gs.length = i ∧ gs.map Flt.cont = (e.fa.l.take i).map Flt.cont ∧ (∀ f ∈ gs, f.fr.q = f.fr.l.length ∧ Sees w0 rs fun w => FrmsOk w f.fr)) (fun (i : Nat) (gs : List Flt) (rs : List Row) => e.fa.q - i) 0 [] [] (by repeat (first | exact kf_nil | (apply kf_in; focus rfl) | (apply kf_out; focus rfl))) (by repeat (first | exact kl_nil | exact kl_rest (by assumption) rfl | (apply kl_in; focus rfl) | (apply kl_out; focus rfl))) ?_ ?_ ?_ ?_
  · exact ⟨by omega, rfl, rfl, fun _ h => by simp at h⟩
  · exact ⟨rfl, trivial⟩
  · exact ⟨rfl, rfl, trivial⟩
  rintro i gs rs ⟨hp1, hp2, hp3, hp4⟩
  refine T_seq ?_
  refine T_region ?_
  refine S_ 20 rfl rfl rfl _ (y_bin rfl rfl rfl (fun _ => b_lss)) ?_
  refine S_go (fun _ _ h => h) ?_
  refine T_seq ?_
  refine T_cond rfl (fun h20 => ?_) (fun h20 => ?_)
  · try simp only [decide_eq_true_eq, decide_eq_false_iff_not, Bool.or_eq_true, Bool.or_eq_false_iff, Bool.and_eq_true, Bool.and_eq_false_iff, Bool.not_eq_true', Bool.not_eq_false', Bool.not_eq_true, Bool.not_eq_false, Bool.not_true, Bool.not_false, Int.not_lt, Int.not_le, not_or, not_and, Classical.not_not] at h20
    refine T_some 6 rfl fun hA6 => ?_
    obtain ⟨x, hx1, hx2⟩ := hft.at (i := i) (by omega)
    have hxf := (hfa.n x (mem_at hx1)).fr
    have hxq := hn4 x (mem_at hx1)
    refine T_skip_go (fun _ _ h => h) ?_
    refine T_seq ?_
    refine T_block ?_
    refine T_seq ?_
    refine T_region ?_
    refine S_ 21 rfl rfl rfl _ (y_move rfl rfl) ?_
    refine S_ 3 rfl rfl rfl _ (y_assign rfl rfl) ?_
    refine S_go (fun _ _ h => h) ?_
    refine T_perm [0, 1, 2, 3, 4, 5, 6, 7, 8, 9, 10, 11, 12] [true, true, true, true, true, true, true, true, true, false, true, true, false] [0, 1, 0, 0, 8, 0, 56, 120, 248, 504, 1023, 2047, 4095] [(1, [1]), (4, [1]), (7, [6]), (8, [6]), (11, [6])] (by kernel_rfl) (by kernel_rfl) (by kernel_rfl) rfl (by kernel_rfl) ?_
    refine Rf_ 0 22 rfl rfl rfl rfl rfl _ trivial (Y.z (y_fieldAddr rfl rfl fa52_3) rfl) ?_
    refine Rf_ 1 23 rfl rfl rfl rfl rfl _ ⟨rfl, trivial⟩ (Y.z (y_load 1 rfl rfl rfl rfl Tryd.underlying48 rfl) rfl) ?_
    refine Rf_ 2 24 rfl rfl rfl rfl rfl _ trivial (Y.z (y_move rfl rfl) rfl) ?_
    refine Rf_ 3 25 rfl rfl rfl rfl rfl _ trivial (Y.z (y_fieldAddr rfl rfl fa52_3) rfl) ?_
    refine Rf_ 4 26 rfl rfl rfl rfl rfl _ ⟨rfl, trivial⟩ (Y.z (y_load 1 rfl rfl rfl rfl Tryd.underlying48 rfl) rfl) ?_
    refine Rf_ 5 27 rfl rfl rfl rfl rfl _ trivial (Y.z (y_move rfl rfl) rfl) ?_
    refine Rf_ 6 28 rfl rfl rfl rfl rfl _ trivial (Y.z (y_indexAddr rfl rfl rfl Tryd.underlying48 sz70 (fun hg => hA6 (by omega)) (fun _ => by omega)) rfl) ?_
    refine Rf_ 7 29 rfl rfl rfl rfl rfl _ ⟨rfl, trivial⟩ (Y.z (y_fieldOwn 6 rfl rfl rfl (fun _ => by omega) fa70_2) rfl) ?_
    refine Rf_ 8 30 rfl rfl rfl rfl rfl _ ⟨rfl, trivial⟩ (Y.z (y_load_cellOwn 6 rfl rfl rfl (fun _ => by omega) (fun _ => flat_at (enc := Flt.enc) (size := 3) (fun _ => rfl) (at_next hp2 hx2) 2 (.slice x.fr.A x.fr.q x.fr.c) rfl) Tryd.underlying68 rfl) rfl) ?_
    refine R_chain 9 rfl rfl ?_
    refine S_callOwn 31 31 rfl rfl rfl rfl rfl rfl rfl cf189 (fun A c => .slice A (x.fr.q) c) 148 6 (x.fr.q) (x.fr.l.flatMap Frm.enc) (fun w hM => CloneF_any x.fr w (hxf.ok.below hM.below) (by omega)) ?_
    intro A31 c31
    refine R_next ⟨.inr ⟨rfl, trivial⟩, .inl rfl, .inl rfl, .inl rfl, .inl rfl, trivial⟩ ?_
    refine Rf_ 10 32 rfl rfl rfl rfl rfl _ trivial (Y.z (y_indexAddr rfl rfl rfl Tryd.underlying48 sz70 (fun hg => hA6 (by omega)) (fun _ => by omega)) rfl) ?_
    refine Rf_ 11 33 rfl rfl rfl rfl rfl _ ⟨rfl, trivial⟩ (Y.z (y_fieldOwn 6 rfl rfl rfl (fun _ => by omega) fa70_2) rfl) ?_
    refine R_chain 12 rfl rfl ?_
    refine S_storeOwn 6 rfl rfl rfl rfl rfl rfl sz68 rfl rfl ?_ (xs' := ((gs ++ [(⟨x.k, x.t, (⟨A31, x.fr.q, c31, x.fr.l⟩ : Sl Frm)⟩ : Flt)]) ++ e.fa.l.drop (i + 1)).flatMap Flt.enc) ?_ ?_
    · (rw [flat_lenN (enc := Flt.enc) (size := 3) (fun _ => rfl)]; simp; omega)
    · rw [← set_next hp2 hx2]; exact flat_set (enc := Flt.enc) (size := 3) (off := 2) (fun _ => rfl) (at_next hp2 hx2) (by decide) rfl
    refine R_next ⟨.inl rfl, .inl rfl, .inl rfl, .inl rfl, .inl rfl, trivial⟩ ?_
    refine R_go (fun _ _ h => h) ?_
    refine T_region ?_
    refine S_ 34 rfl rfl rfl _ (y_bin rfl rfl rfl (fun hg => b_add (by omega))) ?_
    refine S_ 19 rfl rfl rfl _ (y_move rfl rfl) ?_
    refine S_bank [(31, 31), (900, 900)] 900 31 rfl rfl rfl rfl (by repeat (first | exact kl_nil | exact kl_rest (by assumption) rfl | (apply kl_in; focus rfl) | (apply kl_out; focus rfl))) ?_
    refine S_nil (nextK3 (kf := [(3, 3), (19, 34)]) (kl := [(3, 3), (6, 6), (19, 34), (900, 900)]) (i + 1) (gs ++ [(⟨x.k, x.t, (⟨A31, x.fr.q, c31, x.fr.l⟩ : Sl Frm)⟩ : Flt)]) (rs ++ [⟨148, 6, .slice A31 x.fr.q c31, x.fr.q, x.fr.l.flatMap Frm.enc⟩]) (by repeat (first | exact kf_nil | (apply kf_in; focus rfl) | (apply kf_out; focus rfl))) (by repeat (first | exact kl_nil | exact kl_rest (by assumption) rfl | (apply kl_in; focus rfl) | (apply kl_out; focus rfl))) ?_ ?_ ?_ ?_)
    · omega
    · exact ⟨by omega, by simp [hp2], by rw [List.map_append, hp3, take_at hx1, List.map_append]; rfl, fun f hf => by
        rcases List.mem_append.1 hf with h | h
        · exact ⟨(hp4 f h).1, (hp4 f h).2.app⟩
        · simp only [List.mem_singleton] at h
          subst h
          exact ⟨hxf.ok.t.len.symm, Sees.map (Sees.row (A := A31) (c := c31) (q := x.fr.q) (l := x.fr.l) (enc := Frm.enc) (List.mem_append_right _ (List.mem_singleton.2 rfl)) hxf.ok.t.len) fun w h => ⟨h, hxf.q, hxf.n⟩⟩⟩
    · exact ⟨rfl, trivial⟩
    · exact ⟨rfl, rfl, trivial⟩
  · try simp only [decide_eq_true_eq, decide_eq_false_iff_not, Bool.or_eq_true, Bool.or_eq_false_iff, Bool.and_eq_true, Bool.and_eq_false_iff, Bool.not_eq_true', Bool.not_eq_false', Bool.not_eq_true, Bool.not_eq_false, Bool.not_true, Bool.not_false, Int.not_lt, Int.not_le, not_or, not_and, Classical.not_not] at h20
    refine T_exit_go (fun _ _ h => h) ?_
    refine T_seq ?_
    refine T_region ?_
    refine S_ 35 rfl rfl rfl _ (y_loadA 1 rfl rfl rfl Tryd.underlying52 rfl sz52) ?_
    refine S_store 2 rfl rfl rfl rfl rfl rfl sz52 rfl rfl ?_
    refine S_go (fun _ _ h => h) ?_
    refine T_ret (fun a w hF hM => hRb a w (post_cell1 2 rfl rfl rfl Tryd.underlying52 rfl (by exact sz52) (fun w hM => ?_) a w hF hM))
    exact ⟨⟨A6, c6, gs, rs, A9, c9, A12, c12⟩, rfl, ⟨by rw [hp3, List.take_of_length_le (by omega)], hp4⟩, hM.keep (ks := [(0, 999)]) (by repeat (first | exact kl_rest (by assumption) rfl | (apply kl_in; focus rfl))) _ ⟨by rw [hft.end (by omega : e.fa.q ≤ i), List.append_nil]; rfl, rfl, rfl, rfl, trivial⟩⟩
def STag.val (t : STag) : Value := .agg t.enc.toArray
def tag1No (t : STag) : Int := if nameOk t.n = false then 3 else valNo t.v
theorem tagFault_any (x : STag) (hxn : x.n.length ≤ 4611686018427387904) (hxv : x.v.length ≤ 4611686018427387904) (w : World) : Calls Tryd.prog 119 #[x.val] w fun e w' => e = .returned (.int .i64 (tag1No x)) ∧ Below w.heap.size w w' := by
  refine enter_args (args := [.agg #[str x.n, str x.v]]) (F := _) Tryd.func119 rfl Tryd.ntmps119 rfl rfl ?_
  intro Rb hRb hRn
  refine T_seq ?_
  refine T_region ?_
  refine S_box 1 1 rfl rfl rfl rfl rfl ?_
  intro b1
  refine S_ 2 rfl rfl rfl _ (y_assign rfl rfl) ?_
  refine S_go (fun _ _ h => h) ?_
  refine T_seq ?_
  refine T_seq ?_
  refine T_region ?_
  refine S_ 3 rfl rfl rfl _ (y_fieldAddr rfl rfl fa128_0) ?_
  refine S_ 4 rfl rfl rfl _ (y_load 1 rfl rfl rfl rfl Tryd.underlying9 rfl) ?_
  refine S_ 5 rfl rfl rfl _ (y_call rfl rfl rfl cf64 (fun _ w _ => NameOk_any x.n w)) ?_
  refine S_ 6 rfl rfl rfl _ (y_not rfl rfl) ?_
  refine S_go (fun _ _ h => h) ?_
  refine T_cond rfl (fun h6 => ?_) (fun h6 => ?_)
  · skip
    refine T_seq ?_
    refine T_region ?_
    refine S_ 2 rfl rfl rfl _ (y_assign rfl rfl) ?_
    refine S_go (fun _ _ h => h) ?_
    refine T_ret (fun a w hF hM => hRb a w (post1 rfl rfl (fun w hM => ?_) a w hF hM))
    exact ⟨by rw [tag1No, if_pos (by simpa using h6)], hM.below⟩
  · skip
    refine T_skip_go (fun _ _ h => h) ?_
    refine T_seq ?_
    refine T_region ?_
    refine S_ 7 rfl rfl rfl _ (y_fieldAddr rfl rfl fa128_1) ?_
    refine S_ 8 rfl rfl rfl _ (y_load 1 rfl rfl rfl rfl Tryd.underlying9 rfl) ?_
    refine S_ 9 rfl rfl rfl _ (y_call rfl rfl rfl cf96 (fun _ w _ => wordFault_any x.v hxv w)) ?_
    refine S_ 2 rfl rfl rfl _ (y_assign rfl rfl) ?_
    refine S_go (fun _ _ h => h) ?_
    refine T_ret (fun a w hF hM => hRb a w (post1 rfl rfl (fun w hM => ?_) a w hF hM))
    exact ⟨by rw [tag1No, if_neg (by simpa using h6)], hM.below⟩
theorem wt1_any (u : STag) (a1 : Addr) (n : List UInt8) (w : World) (hb1 : a1.block < w.heap.size) (h1 : w.cell? (a1.add 0) = some (str n)) :
    Calls Tryd.prog 121 (#[.agg u.enc.toArray] ++ #[.pointer (some a1)]) w fun e w' => e = .returned (.bool (decide (u.n = n))) ∧ Below w.heap.size w w' := by
  refine enter_args (args := [.agg #[str u.n, str u.v], .pointer (some a1)]) (F := _) Tryd.func121 rfl Tryd.ntmps121 rfl rfl ?_
  intro Rb hRb hRn
  refine T_seq ?_
  refine T_region ?_
  refine S_box 2 2 rfl rfl rfl rfl rfl ?_
  intro b2
  refine S_ 3 rfl rfl rfl _ (y_assign rfl rfl) ?_
  refine S_go (fun _ _ h => h) ?_
  refine T_seq ?_
  refine T_region ?_
  refine S_ 4 rfl rfl rfl _ (y_fieldAddr rfl rfl fa128_0) ?_
  refine S_ 5 rfl rfl rfl _ (y_load 2 rfl rfl rfl rfl Tryd.underlying9 rfl) ?_
  refine S_ 6 rfl rfl rfl _ (y_fieldAddr rfl rfl fa128_0) ?_
  refine S_ 7 rfl rfl rfl _ (y_load_far rfl rfl h1 (by rw [block_of_add]; exact hb1) Tryd.underlying9 rfl) ?_
  refine S_ 8 rfl rfl rfl _ (y_bin rfl rfl rfl (fun _ => b_eqls)) ?_
  refine S_ 3 rfl rfl rfl _ (y_assign rfl rfl) ?_
  refine S_go (fun _ _ h => h) ?_
  refine T_ret (fun a w hF hM => hRb a w (post1 rfl rfl (fun w hM => ?_) a w hF hM))
  exact ⟨rfl, hM.below⟩
theorem wt2_any (u : STag) (a1 : Addr) (n : List UInt8) (w : World) (hb1 : a1.block < w.heap.size) (h1 : w.cell? (a1.add 0) = some (str n)) :
    Calls Tryd.prog 123 (#[.agg u.enc.toArray] ++ #[.pointer (some a1)]) w fun e w' => e = .returned (.bool (decide (u.n = n))) ∧ Below w.heap.size w w' := by
  refine enter_args (args := [.agg #[str u.n, str u.v], .pointer (some a1)]) (F := _) Tryd.func123 rfl Tryd.ntmps123 rfl rfl ?_
  intro Rb hRb hRn
  refine T_seq ?_
  refine T_region ?_
  refine S_box 2 2 rfl rfl rfl rfl rfl ?_
  intro b2
  refine S_ 3 rfl rfl rfl _ (y_assign rfl rfl) ?_
  refine S_go (fun _ _ h => h) ?_
  refine T_seq ?_
  refine T_region ?_
  refine S_ 4 rfl rfl rfl _ (y_fieldAddr rfl rfl fa128_0) ?_
  refine S_ 5 rfl rfl rfl _ (y_load 2 rfl rfl rfl rfl Tryd.underlying9 rfl) ?_
  refine S_ 6 rfl rfl rfl _ (y_fieldAddr rfl rfl fa128_0) ?_
  refine S_ 7 rfl rfl rfl _ (y_load_far rfl rfl h1 (by rw [block_of_add]; exact hb1) Tryd.underlying9 rfl) ?_
  refine S_ 8 rfl rfl rfl _ (y_bin rfl rfl rfl (fun _ => b_eqls)) ?_
  refine S_ 3 rfl rfl rfl _ (y_assign rfl rfl) ?_
  refine S_go (fun _ _ h => h) ?_
  refine T_ret (fun a w hF hM => hRb a w (post1 rfl rfl (fun w hM => ?_) a w hF hM))
  exact ⟨rfl, hM.below⟩
theorem cont_any (n : List UInt8) (l : List STag) (j : Nat) : (((l.drop 0).take (j - 0)).any fun u => decide (u.n = n)) = (namesOf (l.take j)).contains n := by
  rw [List.drop_zero, Nat.sub_zero, Bool.eq_iff_iff, List.any_eq_true, List.contains_eq_mem, decide_eq_true_eq, namesOf, List.mem_map]
  simp only [decide_eq_true_eq]
def wtNo (e : Evt) (ts : List STag) : Int := if wiNo [] ts ≠ 0 then wiNo [] ts else if (40 : Int) < ((wiAll e ts).length : Int) then 4 else 0
theorem wiNo_tag {seen : List (List UInt8)} {t : STag} {r : List STag} : wiNo seen (t :: r) = if tag1No t ≠ 0 then tag1No t else if seen.contains t.n = true then 6 else wiNo (seen ++ [t.n]) r := by
  rw [wiNo, tag1No]
  by_cases h : nameOk t.n = false
  · rw [if_pos h, if_pos h]; rfl
  · rw [if_neg h, if_neg h]
set_option maxHeartbeats 1600000 in
theorem WithTags_any {w0 : World} {K : HL} (hK : FromK K) (e : Evt) (ts : Sl STag) (w : World) (he : e.Ok w0) (h0 : evNo e = 0) (hts : TagsOk w0 ts) (ht32 : ts.q * 32 ≤ 140737488351232) (hM0 : Mem w0 ([] ++ K) w) :
    Calls Tryd.prog 53 #[e.val, .slice ts.A ts.q ts.c] w fun en w' => ∃ z : FitR, en = .returned (.tuple #[z.ev.val, .int .i64 (wtNo e ts.l)]) ∧ (((wtNo e ts.l = 0 → WiP e ts.l z.ev) ∧ (wtNo e ts.l ≠ 0 → z.ev = evZ)) ∧ Sees w0 z.rs fun w => z.ev.Ok w) ∧ Mem w0 ([(900, .many z.rs)] ++ K) w' := by
  have het := he.ta.ok.t
  have hetl := het.len
  have htt := hts.ok.t
  have httl := htt.len
  have httq := hts.q
  obtain ⟨hp_f, ⟨hp_t, hp_u⟩, ⟨hp_c, hp_d⟩⟩ := ev_parts h0
  obtain ⟨hfq, hfn⟩ := faults_parts hp_f
  refine enterM_args (args := [.agg #[str e.id, .int .i64 e.at_, .int .i64 e.lv, .slice e.fa.A e.fa.q e.fa.c, .slice e.ta.A e.ta.q e.ta.c, .slice e.cr.A e.cr.q e.cr.c, str e.rel, str e.us, .int .i64 e.wt], .slice ts.A ts.q ts.c]) (F := _) hM0 Tryd.func53 rfl Tryd.ntmps53 rfl rfl ?_
  intro Rb hRb hRn
  refine T_seq ?_
  refine T_region ?_
  refine S_box 2 2 rfl rfl rfl rfl rfl ?_
  intro b2
  refine S_alloc 4 4 rfl rfl rfl rfl z52 ?_
  intro b4
  refine S_ 5 rfl rfl rfl _ (y_assign rfl rfl) ?_
  refine S_go (fun _ _ h => h) ?_
  refine T_seq ?_
  refine T_region ?_
  refine S_ 10 rfl rfl rfl _ (y_fieldAddr rfl rfl fa52_4) ?_
  refine S_ 11 rfl rfl rfl _ (y_load 2 rfl rfl rfl rfl Tryd.underlying49 rfl) ?_
  refine S_callOwn 12 12 rfl rfl rfl rfl rfl rfl rfl cf110 (fun A c => .slice A (e.ta.q) c) 128 2 (e.ta.q) (e.ta.l.flatMap STag.enc) (fun w hM => CloneTag_any e.ta w (he.ta.ok.below hM.below) (by omega)) ?_
  intro A12 c12
  refine S_ 6 rfl rfl rfl _ (y_assign rfl rfl) ?_
  refine S_go (fun _ _ h => h) ?_
  refine T_seq ?_
  refine T_seq ?_
  refine T_region ?_
  refine S_ 13 rfl rfl rfl _ (y_move rfl rfl) ?_
  refine S_ 14 rfl rfl rfl _ (y_len_slice rfl rfl Tryd.underlying49) ?_
  refine S_ 15 rfl rfl rfl _ (y_move rfl rfl) ?_
  refine S_go (fun _ _ h => h) ?_
  refine T_block ?_
  refine T_loopK5 (kf := [(5, 9), (15, 35)]) (kl := [(5, 9), (12, 12), (15, 35)]) (fun (j : Nat) (out : List STag) (q : Nat) (A : Option Addr) (c : Nat) => [(15, true, .int .i64 (j : Int)), (6, true, .slice A q c)]) (fun (j : Nat) (out : List STag) (q : Nat) (A : Option Addr) (c : Nat) => [(12, .own 128 2 (.slice A q c) q (out.flatMap STag.enc))]) (fun (j : Nat) (out : List STag) (q : Nat) (A : Option Addr) (c : Nat) => j ≤ ts.q ∧ out = outs e.ta.l (namesOf (ts.l.take j)) ∧ out.length = q ∧ q ≤ 40 ∧ wiNo [] ts.l = wiNo (namesOf (ts.l.take j)) (ts.l.drop j)) (fun (j : Nat) (out : List STag) (q : Nat) (A : Option Addr) (c : Nat) => ts.q - j) 0 e.ta.l e.ta.q A12 c12 (by repeat (first | exact kf_nil | (apply kf_in; focus rfl) | (apply kf_out; focus rfl))) (by repeat (first | exact kl_nil | exact kl_rest (by assumption) rfl | (apply kl_in; focus rfl) | (apply kl_out; focus rfl))) ?_ ?_ ?_ ?_
  · exact ⟨by omega, (outs_nil _).symm, hetl, by omega, rfl⟩
  · exact ⟨rfl, rfl, trivial⟩
  · exact ⟨rfl, trivial⟩
  rintro j out q A c ⟨hr1, hr2, hr3, hr4, hr5⟩
  refine T_seq ?_
  refine T_region ?_
  refine S_ 16 rfl rfl rfl _ (y_bin rfl rfl rfl (fun _ => b_lss)) ?_
  refine S_go (fun _ _ h => h) ?_
  refine T_seq ?_
  refine T_cond rfl (fun h16 => ?_) (fun h16 => ?_)
  · try simp only [decide_eq_true_eq, decide_eq_false_iff_not, Bool.or_eq_true, Bool.or_eq_false_iff, Bool.and_eq_true, Bool.and_eq_false_iff, Bool.not_eq_true', Bool.not_eq_false', Bool.not_eq_true, Bool.not_eq_false, Bool.not_true, Bool.not_false, Int.not_lt, Int.not_le, not_or, not_and, Classical.not_not] at h16
    obtain ⟨x, hx1, hx2⟩ := htt.at (i := j) (by omega)
    obtain ⟨hxn, hxv⟩ := hts.n x (mem_at hx1)
    rw [hx2, wiNo_tag] at hr5
    refine T_skip_go (fun _ _ h => h) ?_
    refine T_seq ?_
    refine T_block ?_
    refine T_seq ?_
    refine T_region ?_
    refine S_ 17 rfl rfl rfl _ (y_move rfl rfl) ?_
    refine S_ 18 rfl rfl rfl _ (y_indexAddr rfl rfl rfl Tryd.underlying49 sz128 (fun hg => htt.isSome (by omega)) (fun _ => by omega)) ?_
    refine S_ 19 rfl rfl rfl _ (y_loadT rfl rfl htt (fun _ => rfl) (fun _ => hx1) Tryd.underlying128 rfl sz128) ?_
    refine S_alloc 8 8 rfl rfl rfl rfl z128 ?_
    intro b8
    refine S_ 7 rfl rfl rfl _ (y_assign rfl rfl) ?_
    refine S_store 8 rfl rfl rfl rfl rfl rfl sz128 rfl rfl ?_
    refine S_go (fun _ _ h => h) ?_
    refine T_seq ?_
    refine T_seq ?_
    refine T_region ?_
    refine S_ 20 rfl rfl rfl _ (y_loadA 8 rfl rfl rfl Tryd.underlying128 rfl sz128) ?_
    refine S_ 21 rfl rfl rfl _ (y_call rfl rfl rfl cf119 (fun _ w _ => tagFault_any x hxn hxv w)) ?_
    refine S_ 9 rfl rfl rfl _ (y_assign rfl rfl) ?_
    refine S_go (fun _ _ h => h) ?_
    refine T_seq ?_
    refine T_region ?_
    refine S_ 22 rfl rfl rfl _ (y_move rfl rfl) ?_
    refine S_ 23 rfl rfl rfl _ (y_bin rfl rfl rfl (fun _ => b_neq)) ?_
    refine S_go (fun _ _ h => h) ?_
    refine T_cond rfl (fun h23 => ?_) (fun h23 => ?_)
    · try simp only [decide_eq_true_eq, decide_eq_false_iff_not, Bool.or_eq_true, Bool.or_eq_false_iff, Bool.and_eq_true, Bool.and_eq_false_iff, Bool.not_eq_true', Bool.not_eq_false', Bool.not_eq_true, Bool.not_eq_false, Bool.not_true, Bool.not_false, Int.not_lt, Int.not_le, not_or, not_and, Classical.not_not] at h23
      refine T_many0 900 ?_
      have hno : wiNo [] ts.l = tag1No x := by rw [hr5, if_pos h23]
      refine T_seq ?_
      refine T_region ?_
      refine S_ 24 rfl rfl rfl _ (y_build (zv := .agg #[.string ⟨#[]⟩, .int .i64 0, .int .i64 0, .slice none 0 0, .slice none 0 0, .slice none 0 0, .string ⟨#[]⟩, .string ⟨#[]⟩, .int .i64 0]) (pl := [(0, 1), (1, 1), (2, 1), (3, 1), (4, 1), (5, 1), (6, 1), (7, 1), (8, 1)]) (out := [.string ⟨#[]⟩, .int .i64 0, .int .i64 0, .slice none 0 0, .slice none 0 0, .slice none 0 0, .string ⟨#[]⟩, .string ⟨#[]⟩, .int .i64 0]) rfl rfl Tryd.underlying52 z52 (by kernel_rfl) rfl) ?_
      refine S_ 25 rfl rfl rfl _ (y_move rfl rfl) ?_
      refine S_store 4 rfl rfl rfl rfl rfl rfl sz52 rfl rfl ?_
      refine S_ 5 rfl rfl rfl _ (y_assign rfl rfl) ?_
      refine S_go (fun _ _ h => h) ?_
      refine T_ret (fun a w hF hM => hRb a w (post_cell 4 rfl rfl rfl rfl Tryd.underlying52 rfl (by exact sz52) (fun w hM => ?_) a w hF hM))
      have hw : wtNo e ts.l = tag1No x := by rw [wtNo, hno, if_pos h23]
      exact ⟨⟨evZ, []⟩, by rw [hw]; rfl, ⟨⟨fun h => absurd (hw ▸ h) h23, fun _ => rfl⟩, fun w _ _ => evZ_ok w⟩, hM.keep (ks := [(0, 999)]) (by repeat (first | exact kl_rest (by assumption) rfl | (apply kl_in; focus rfl))) _ ⟨rfl, trivial⟩⟩
    · try simp only [decide_eq_true_eq, decide_eq_false_iff_not, Bool.or_eq_true, Bool.or_eq_false_iff, Bool.and_eq_true, Bool.and_eq_false_iff, Bool.not_eq_true', Bool.not_eq_false', Bool.not_eq_true, Bool.not_eq_false, Bool.not_true, Bool.not_false, Int.not_lt, Int.not_le, not_or, not_and, Classical.not_not] at h23
      have h23 : tag1No x = 0 := h23
      rw [if_neg (by simp [h23])] at hr5
      refine T_skip_go (fun _ _ h => h) ?_
      refine T_seq ?_
      refine T_seq ?_
      refine T_region ?_
      refine S_ 26 rfl rfl rfl _ (y_move rfl rfl) ?_
      refine S_ 27 rfl rfl rfl _ (y_move rfl rfl) ?_
      refine S_ 28 rfl rfl rfl _ (y_slice rfl rfl Tryd.underlying49 sz128 (.inl ⟨rfl, rfl⟩) (.inr ⟨_, _, rfl, rfl⟩) (by omega) (by omega) hts.ok.cap) ?_
      refine S_ 29 rfl rfl rfl _ (y_makeFunc rfl rfl rfl rfl rfl) ?_
      refine S_ 30 rfl rfl rfl _ (y_as (v' := .bool ((namesOf (ts.l.take j)).contains x.n)) (by rw [cont_any]) (y_call rfl rfl rfl cf120 (fun _ w hM => ContainsTag_any _ _ _ ((ts.l.drop 0).take (j - 0)) _ _ (fun u => decide (u.n = x.n)) w (subSl_ok (hts.ok.below hM.below) (fun _ => rfl) (Nat.zero_le _) (by omega)).t (by omega) cf121 (fun u w2 hb => wt1_any u _ x.n w2 (cells_below (hM.box_cells 8 rfl) hb).2 ((cells_below (hM.box_cells 8 rfl) hb).1 0 _ rfl))))) ?_
      refine S_go (fun _ _ h => h) ?_
      refine T_cond rfl (fun h30 => ?_) (fun h30 => ?_)
      · skip
        refine T_many0 900 ?_
        have hno : wiNo [] ts.l = 6 := by rw [hr5, if_pos h30]
        refine T_seq ?_
        refine T_region ?_
        refine S_ 31 rfl rfl rfl _ (y_build (zv := .agg #[.string ⟨#[]⟩, .int .i64 0, .int .i64 0, .slice none 0 0, .slice none 0 0, .slice none 0 0, .string ⟨#[]⟩, .string ⟨#[]⟩, .int .i64 0]) (pl := [(0, 1), (1, 1), (2, 1), (3, 1), (4, 1), (5, 1), (6, 1), (7, 1), (8, 1)]) (out := [.string ⟨#[]⟩, .int .i64 0, .int .i64 0, .slice none 0 0, .slice none 0 0, .slice none 0 0, .string ⟨#[]⟩, .string ⟨#[]⟩, .int .i64 0]) rfl rfl Tryd.underlying52 z52 (by kernel_rfl) rfl) ?_
        refine S_store 4 rfl rfl rfl rfl rfl rfl sz52 rfl rfl ?_
        refine S_ 5 rfl rfl rfl _ (y_assign rfl rfl) ?_
        refine S_go (fun _ _ h => h) ?_
        refine T_ret (fun a w hF hM => hRb a w (post_cell 4 rfl rfl rfl rfl Tryd.underlying52 rfl (by exact sz52) (fun w hM => ?_) a w hF hM))
        have hw : wtNo e ts.l = 6 := by rw [wtNo, hno]; rfl
        exact ⟨⟨evZ, []⟩, by rw [hw]; rfl, ⟨⟨fun h => absurd (hw ▸ h : (6 : Int) = 0) (by decide), fun _ => rfl⟩, fun w _ _ => evZ_ok w⟩, hM.keep (ks := [(0, 999)]) (by repeat (first | exact kl_rest (by assumption) rfl | (apply kl_in; focus rfl))) _ ⟨rfl, trivial⟩⟩
      · skip
        rw [if_neg (by rw [h30]; exact Bool.false_ne_true)] at hr5
        refine T_skip_go (fun _ _ h => h) ?_
        refine T_region ?_
        refine S_ 32 rfl rfl rfl _ (y_move rfl rfl) ?_
        refine S_ 33 rfl rfl rfl _ (y_makeFunc rfl rfl rfl rfl rfl) ?_
        refine S_callM 34 [(0, 12), (1, 8)] (X := Nat) rfl rfl rfl rfl rfl rfl rfl cf122 rfl (fun z => .slice A z c) (fun z => z = (out.filter (notP fun u => decide (u.n = x.n))).length) (fun z => [(0, .own 128 2 (.slice A z c) z ((out.filter (notP fun u => decide (u.n = x.n))).flatMap STag.enc)), (1, .blk b8 (IsBox [str x.n, str x.v] 128))]) (fun _ => rfl) (fun _ => rfl) (fun K1 hK1 w hM => DeleteTag_any hK1 (.blk b8 (IsBox [str x.n, str x.v] 128)) A q c out _ _ (fun u => decide (u.n = x.n)) hr3 (by omega) cf123 (fun u w2 hM2 => wt2_any u _ x.n w2 (hM2.box_cells 1 rfl).2 ((hM2.box_cells 1 rfl).1 0 _ rfl)) w hM) ?_
        intro z34 hz34
        have hle34 : z34 ≤ q := by rw [hz34, ← hr3]; exact List.length_filter_le _ _
        refine S_ 6 rfl rfl rfl _ (y_assign rfl rfl) ?_
        refine S_go (fun _ _ h => h) ?_
        refine T_region ?_
        refine S_ 35 rfl rfl rfl _ (y_bin rfl rfl rfl (fun hg => b_add (by omega))) ?_
        refine S_ 15 rfl rfl rfl _ (y_move rfl rfl) ?_
        refine S_nil (nextK5 (kf := [(5, 9), (15, 35)]) (kl := [(5, 9), (12, 12), (15, 35)]) (j + 1) (out.filter (notP fun u => decide (u.n = x.n))) z34 A c (by repeat (first | exact kf_nil | (apply kf_in; focus rfl) | (apply kf_out; focus rfl))) (by repeat (first | exact kl_nil | exact kl_rest (by assumption) rfl | (apply kl_in; focus rfl) | (apply kl_out; focus rfl))) ?_ ?_ ?_ ?_)
        · omega
        · exact ⟨by omega, by rw [names_snoc hx1, outs_snoc, ← hr2]; rfl, hz34.symm, by omega, by rw [hr5, names_snoc hx1]⟩
        · exact ⟨rfl, rfl, trivial⟩
        · exact ⟨rfl, trivial⟩
  · try simp only [decide_eq_true_eq, decide_eq_false_iff_not, Bool.or_eq_true, Bool.or_eq_false_iff, Bool.and_eq_true, Bool.and_eq_false_iff, Bool.not_eq_true', Bool.not_eq_false', Bool.not_eq_true, Bool.not_eq_false, Bool.not_true, Bool.not_false, Int.not_lt, Int.not_le, not_or, not_and, Classical.not_not] at h16
    have hw0 : wiNo [] ts.l = 0 := by rw [hr5, htt.end (by omega)]; rfl
    have hout : out = outs e.ta.l (namesOf ts.l) := by rw [hr2, List.take_of_length_le (by omega)]
    have hall : out ++ ts.l = wiAll e ts.l := by rw [hout]; rfl
    refine T_exit_go (fun _ _ h => h) ?_
    refine T_seq ?_
    refine T_region ?_
    refine S_ 36 rfl rfl rfl _ (y_move rfl rfl) ?_
    refine S_ 37 rfl rfl rfl _ (y_move rfl rfl) ?_
    obtain ⟨i38, hi38, hz38, hs38, hy38⟩ := info_parts inf128
    refine S_appendG 38 12 (news := ts.l.flatMap STag.enc) rfl rfl rfl rfl rfl rfl rfl (fun w hM => htt.rd.below hM.below) Tryd.underlying49 hi38 hz38 hs38 hy38 rfl (by decide) (allOne_of (fun u hu => by obtain ⟨a, _, ha⟩ := List.mem_flatMap.1 hu; simp [STag.enc] at ha; rcases ha with rfl | rfl <;> rfl)) ?_ ?_ (q + ts.q) ((out ++ ts.l).flatMap STag.enc) ?_ ?_ ?_
    · (simp only [maxLen]; omega)
    · omega
    · rfl
    · simp [List.flatMap_append]
    intro A38 c38
    refine S_ 6 rfl rfl rfl _ (y_assign rfl rfl) ?_
    refine S_go (fun _ _ h => h) ?_
    refine T_seq ?_
    refine T_seq ?_
    refine T_region ?_
    refine S_ 39 rfl rfl rfl _ (y_move rfl rfl) ?_
    refine S_ 40 rfl rfl rfl _ (y_len_slice rfl rfl Tryd.underlying49) ?_
    refine S_ 41 rfl rfl rfl _ (y_bin rfl rfl rfl (fun _ => b_gtr)) ?_
    refine S_go (fun _ _ h => h) ?_
    refine T_cond rfl (fun h41 => ?_) (fun h41 => ?_)
    · try simp only [decide_eq_true_eq, decide_eq_false_iff_not, Bool.or_eq_true, Bool.or_eq_false_iff, Bool.and_eq_true, Bool.and_eq_false_iff, Bool.not_eq_true', Bool.not_eq_false', Bool.not_eq_true, Bool.not_eq_false, Bool.not_true, Bool.not_false, Int.not_lt, Int.not_le, not_or, not_and, Classical.not_not] at h41
      refine T_many0 900 ?_
      have hlen : (wiAll e ts.l).length = q + ts.q := by rw [← hall, List.length_append, hr3, httl]
      refine T_seq ?_
      refine T_region ?_
      refine S_ 42 rfl rfl rfl _ (y_build (zv := .agg #[.string ⟨#[]⟩, .int .i64 0, .int .i64 0, .slice none 0 0, .slice none 0 0, .slice none 0 0, .string ⟨#[]⟩, .string ⟨#[]⟩, .int .i64 0]) (pl := [(0, 1), (1, 1), (2, 1), (3, 1), (4, 1), (5, 1), (6, 1), (7, 1), (8, 1)]) (out := [.string ⟨#[]⟩, .int .i64 0, .int .i64 0, .slice none 0 0, .slice none 0 0, .slice none 0 0, .string ⟨#[]⟩, .string ⟨#[]⟩, .int .i64 0]) rfl rfl Tryd.underlying52 z52 (by kernel_rfl) rfl) ?_
      refine S_store 4 rfl rfl rfl rfl rfl rfl sz52 rfl rfl ?_
      refine S_ 5 rfl rfl rfl _ (y_assign rfl rfl) ?_
      refine S_go (fun _ _ h => h) ?_
      refine T_ret (fun a w hF hM => hRb a w (post_cell 4 rfl rfl rfl rfl Tryd.underlying52 rfl (by exact sz52) (fun w hM => ?_) a w hF hM))
      have hw : wtNo e ts.l = 4 := by rw [wtNo, if_neg (by simp [hw0]), if_pos (by omega)]
      exact ⟨⟨evZ, []⟩, by rw [hw]; rfl, ⟨⟨fun h => absurd (hw ▸ h : (4 : Int) = 0) (by decide), fun _ => rfl⟩, fun w _ _ => evZ_ok w⟩, hM.keep (ks := [(0, 999)]) (by repeat (first | exact kl_rest (by assumption) rfl | (apply kl_in; focus rfl))) _ ⟨rfl, trivial⟩⟩
    · try simp only [decide_eq_true_eq, decide_eq_false_iff_not, Bool.or_eq_true, Bool.or_eq_false_iff, Bool.and_eq_true, Bool.and_eq_false_iff, Bool.not_eq_true', Bool.not_eq_false', Bool.not_eq_true, Bool.not_eq_false, Bool.not_true, Bool.not_false, Int.not_lt, Int.not_le, not_or, not_and, Classical.not_not] at h41
      have hlen : (wiAll e ts.l).length = q + ts.q := by rw [← hall, List.length_append, hr3, httl]
      refine T_skip_go (fun _ _ h => h) ?_
      refine T_seq ?_
      refine T_region ?_
      refine S_ 43 rfl rfl rfl _ (y_move rfl rfl) ?_
      refine S_callM 44 [(0, 12)] (X := List STag) rfl rfl rfl rfl rfl rfl rfl cf116 rfl (fun _ => .tuple #[]) (fun l => l = tsort (out ++ ts.l)) (fun l => [(0, .own 128 2 (.slice A38 (q + ts.q) c38) (q + ts.q) (l.flatMap STag.enc))]) (fun _ => rfl) (fun _ => rfl) (fun K1 hK1 w hM => sortTags_any hK1 _ cf124 (fun x y w => with3_any x y w) A38 (q + ts.q) c38 (out ++ ts.l) (by rw [List.length_append, hr3, httl]) (by omega) w hM) ?_
      intro so hso
      refine S_go (fun _ _ h => h) ?_
      refine T_seq ?_
      refine T_region ?_
      refine S_ 45 rfl rfl rfl _ (y_loadA 2 rfl rfl rfl Tryd.underlying52 rfl sz52) ?_
      refine S_callN 46 [] [(6, 906), (900, 900), (9, 909), (12, 912)] (X := CopyR) rfl rfl rfl rfl rfl rfl rfl cf125 rfl (fun z => .agg #[str e.id, .int .i64 e.at_, .int .i64 e.lv, .slice z.A e.fa.q z.c, .slice z.B e.ta.q z.b, .slice z.D e.cr.q z.d, str e.rel, str e.us, .int .i64 e.wt]) (fun z => z.gs.map Flt.cont = e.fa.l.map Flt.cont ∧ ∀ f ∈ z.gs, f.fr.q = f.fr.l.length ∧ Sees w0 z.rs fun w => FrmsOk w f.fr) (fun z => z.L2 e) (fun _ => rfl) (fun _ => rfl) (fun K1 hK1 w hM => Copied_any hK1 e w he ⟨by omega, by omega, by omega, fun g hg => by have := (flt_parts (hfn g hg)).2.2; omega⟩ hM) ?_
      rintro z ⟨hz1, hz2⟩
      have hzl : z.gs.length = e.fa.q := by have := congrArg List.length hz1; simp only [List.length_map] at this; rw [this, he.fa.ok.t.len]
      refine S_store 2 rfl rfl rfl rfl rfl rfl sz52 rfl rfl ?_
      refine S_go (fun _ _ h => h) ?_
      refine T_seq ?_
      refine T_region ?_
      refine S_ 47 rfl rfl rfl _ (y_move rfl rfl) ?_
      refine S_ 48 rfl rfl rfl _ (y_fieldAddr rfl rfl fa52_4) ?_
      refine S_store 2 rfl rfl rfl rfl rfl rfl sz49 rfl rfl ?_
      refine S_go (fun _ _ h => h) ?_
      refine T_seq ?_
      refine T_region ?_
      refine S_bank [(906, 906), (900, 900)] 900 906 rfl rfl rfl rfl (by repeat (first | exact kl_nil | exact kl_rest (by assumption) rfl | (apply kl_in; focus rfl) | (apply kl_out; focus rfl))) ?_
      refine S_bank [(912, 912), (900, 900)] 900 912 rfl rfl rfl rfl (by repeat (first | exact kl_nil | exact kl_rest (by assumption) rfl | (apply kl_in; focus rfl) | (apply kl_out; focus rfl))) ?_
      refine S_bank [(12, 12), (900, 900)] 900 12 rfl rfl rfl rfl (by repeat (first | exact kl_nil | exact kl_rest (by assumption) rfl | (apply kl_in; focus rfl) | (apply kl_out; focus rfl))) ?_
      refine S_ 49 rfl rfl rfl _ (y_loadA 2 rfl rfl rfl Tryd.underlying52 rfl sz52) ?_
      refine S_store 4 rfl rfl rfl rfl rfl rfl sz52 rfl rfl ?_
      refine S_ 5 rfl rfl rfl _ (y_assign rfl rfl) ?_
      refine S_go (fun _ _ h => h) ?_
      refine T_ret (fun a w hF hM => hRb a w (post_cell 4 rfl rfl rfl rfl Tryd.underlying52 rfl (by exact sz52) (fun w hM => ?_) a w hF hM))
      have hw : wtNo e ts.l = 0 := by rw [wtNo, if_neg (by simp [hw0]), if_neg (by omega)]
      have hsoe : so = tsort (wiAll e ts.l) := by rw [hso, hall]
      have hsl : so.length = q + ts.q := by rw [hsoe, (tsort_perm _).length_eq, hlen]
      refine ⟨⟨⟨e.id, e.at_, e.lv, ⟨z.A, e.fa.q, z.c, z.gs⟩, ⟨A38, q + ts.q, c38, so⟩, ⟨z.D, e.cr.q, z.d, e.cr.l⟩, e.rel, e.us, e.wt⟩, _⟩, by rw [hw]; rfl, ⟨⟨fun _ => ⟨rfl, rfl, rfl, rfl, rfl, rfl, hz1, hsoe, rfl⟩, fun h => absurd hw h⟩, wi_ok (rs := z.rs) he hzl (cont_ok he hz1 fun g hg => (hz2 g hg).2) hfq hsl (by omega) fun s hs => ?_⟩, hM.keep (ks := [(0, 999)]) (by repeat (first | exact kl_rest (by assumption) rfl | (apply kl_in; focus rfl))) _ ⟨rfl, trivial⟩⟩
      rw [hsoe] at hs
      rcases wiAll_mem ((tsort_perm _).mem_iff.1 hs) with h | h
      · exact he.ta.n s h
      · exact hts.n s h
end Go.Proofs.YtoeipmepmlikcaaDoor
