/- event.Copy: the faults, their frames, the tags and the crumbs are new. Conditions: those of the theorem. -/
import Derived.Test.YtoeipmepmlikcaaDoorECut
import Derived.Test.YtoeipmepmlikcaaDoorCopy
namespace Go.Proofs.YtoeipmepmlikcaaDoor
set_option linter.unusedSimpArgs false
set_option linter.unusedVariables false
set_option maxRecDepth 20000
open Go.RowKit Go.Eng
/-- what a fault says -/
def Flt.cont (f : Flt) : List UInt8 × List UInt8 × List Frm := (f.k, f.t, f.fr.l)
structure CopyR where
  A : Option Addr
  c : Nat
  gs : List Flt
  rs : List Row
  B : Option Addr
  b : Nat
  D : Option Addr
  d : Nat
def CopyR.evt (z : CopyR) (e : Evt) : Evt := { e with fa := ⟨z.A, e.fa.q, z.c, z.gs⟩, ta := ⟨z.B, e.ta.q, z.b, e.ta.l⟩, cr := ⟨z.D, e.cr.q, z.d, e.cr.l⟩ }
def CopyR.L (z : CopyR) (e : Evt) : HL := [(8, .own 70 3 (.slice z.A e.fa.q z.c) e.fa.q (z.gs.flatMap Flt.enc)), (900, .many z.rs), (35, .own 128 2 (.slice z.B e.ta.q z.b) e.ta.q (e.ta.l.flatMap STag.enc)), (39, .own 78 3 (.slice z.D e.cr.q z.d) e.cr.q (e.cr.l.flatMap SCrumb.enc))]
theorem set_next {gs : List Flt} {l : List Flt} {x y : Flt} {i : Nat} (hg : gs.length = i) (h : l.drop i = x :: l.drop (i + 1)) : (gs ++ l.drop i).set i y = (gs ++ [y]) ++ l.drop (i + 1) := by
  subst hg
  rw [h]; simp
theorem at_next {gs : List Flt} {l : List Flt} {x : Flt} {i : Nat} (hg : gs.length = i) (h : l.drop i = x :: l.drop (i + 1)) : (gs ++ l.drop i)[i]? = some x := by
  subst hg
  rw [h]; simp
theorem take_at {α : Type} {l : List α} {i : Nat} {x : α} (h : l[i]? = some x) : l.take (i + 1) = l.take i ++ [x] := by
  rw [List.take_add_one, h]; rfl
set_option maxHeartbeats 1600000 in
theorem Copy_any {w0 : World} {K : HL} (hK : FromK K) (e : Evt) (w : World) (he : e.Ok w0) (hn : e.fa.q ≤ 1000 ∧ e.ta.q ≤ 1000 ∧ e.cr.q ≤ 1000 ∧ ∀ f ∈ e.fa.l, f.fr.q ≤ 1000) (hM0 : Mem w0 ([] ++ K) w) :
    Calls Tryd.prog 106 #[e.val] w fun en w' => ∃ z : CopyR, en = .returned (z.evt e).val ∧ (z.gs.map Flt.cont = e.fa.l.map Flt.cont ∧ (∀ f ∈ z.gs, f.fr.q = f.fr.l.length ∧ Sees w0 z.rs fun w => FrmsOk w f.fr)) ∧ Mem w0 (z.L e ++ K) w' := by
  have hfa := he.fa
  have hft := hfa.ok.t
  have hfl := hft.len
  obtain ⟨hn1, hn2, hn3, hn4⟩ := hn
  refine enterM_args (args := [.agg #[str e.id, .int .i64 e.at_, .int .i64 e.lv, .slice e.fa.A e.fa.q e.fa.c, .slice e.ta.A e.ta.q e.ta.c, .slice e.cr.A e.cr.q e.cr.c, str e.rel, str e.us, .int .i64 e.wt]]) (F := _) hM0 Tryd.func106 rfl Tryd.ntmps106 rfl rfl ?_
  intro Rb hRb hRn
  refine T_seq ?_
  refine T_region ?_
  refine S_box 1 1 rfl rfl rfl rfl rfl ?_
  intro b1
  refine S_alloc 2 2 rfl rfl rfl rfl z52 ?_
  intro b2
  refine S_go (fun _ _ h => h) ?_
  refine T_seq ?_
  refine T_region ?_
  refine S_ 6 rfl rfl rfl _ (y_fieldAddr rfl rfl fa52_3) ?_
  refine S_ 7 rfl rfl rfl _ (y_load 1 rfl rfl rfl rfl Tryd.underlying48 rfl) ?_
  refine S_callOwn 8 8 rfl rfl rfl rfl rfl rfl rfl cf186 (fun A c => .slice A (e.fa.q) c) 70 3 (e.fa.q) (e.fa.l.flatMap Flt.enc) (fun w hM => CloneFlt_any e.fa w (hfa.ok.below hM.below) (by omega)) ?_
  intro A8 c8
  refine S_ 9 rfl rfl rfl _ (y_fieldAddr rfl rfl fa52_3) ?_
  refine S_store 1 rfl rfl rfl rfl rfl rfl sz48 rfl rfl ?_
  refine S_go (fun _ _ h => h) ?_
  refine T_seq ?_
  refine T_seq ?_
  refine T_region ?_
  refine S_ 10 rfl rfl rfl _ (y_fieldAddr rfl rfl fa52_3) ?_
  refine S_ 11 rfl rfl rfl _ (y_load 1 rfl rfl rfl rfl Tryd.underlying48 rfl) ?_
  refine S_ 12 rfl rfl rfl _ (y_len_slice rfl rfl Tryd.underlying48) ?_
  refine S_many0 900 ?_
  refine S_ 13 rfl rfl rfl _ (y_move rfl rfl) ?_
  refine S_go (fun _ _ h => h) ?_
  refine T_block ?_
  refine T_loopK3 (kf := [(3, 5), (13, 32)]) (kl := [(3, 5), (8, 8), (13, 32), (900, 900)]) (fun (i : Nat) (gs : List Flt) (rs : List Row) => [(13, true, .int .i64 (i : Int))]) (fun (i : Nat) (gs : List Flt) (rs : List Row) => [(8, .own 70 3 (.slice A8 e.fa.q c8) e.fa.q ((gs ++ e.fa.l.drop i).flatMap Flt.enc)), (900, .many rs)]) (fun (i : Nat) (gs : List Flt) (rs : List Row) => i ≤ e.fa.q ∧ gs.length = i ∧ gs.map Flt.cont = (e.fa.l.take i).map Flt.cont ∧ (∀ f ∈ gs, f.fr.q = f.fr.l.length ∧ Sees w0 rs fun w => FrmsOk w f.fr)) (fun (i : Nat) (gs : List Flt) (rs : List Row) => e.fa.q - i) 0 [] [] (by repeat (first | exact kf_nil | (apply kf_in; focus rfl) | (apply kf_out; focus rfl))) (by repeat (first | exact kl_nil | exact kl_rest (by assumption) rfl | (apply kl_in; focus rfl) | (apply kl_out; focus rfl))) ?_ ?_ ?_ ?_
  · exact ⟨by omega, rfl, rfl, fun _ h => by simp at h⟩
  · exact ⟨rfl, trivial⟩
  · exact ⟨rfl, rfl, trivial⟩
  rintro i gs rs ⟨hp1, hp2, hp3, hp4⟩
  refine T_seq ?_
  refine T_region ?_
  refine S_ 14 rfl rfl rfl _ (y_bin rfl rfl rfl (fun _ => b_lss)) ?_
  refine S_go (fun _ _ h => h) ?_
  refine T_seq ?_
  refine T_cond rfl (fun h14 => ?_) (fun h14 => ?_)
  · try simp only [decide_eq_true_eq, decide_eq_false_iff_not, Bool.or_eq_true, Bool.or_eq_false_iff, Bool.and_eq_true, Bool.and_eq_false_iff, Bool.not_eq_true', Bool.not_eq_false', Bool.not_eq_true, Bool.not_eq_false, Bool.not_true, Bool.not_false, Int.not_lt, Int.not_le, not_or, not_and, Classical.not_not] at h14
    obtain ⟨x, hx1, hx2⟩ := hft.at (i := i) (by omega)
    have hxf := (hfa.n x (mem_at hx1)).fr
    have hxn := hn4 x (mem_at hx1)
    refine T_skip_go (fun _ _ h => h) ?_
    refine T_seq ?_
    refine T_block ?_
    refine T_seq ?_
    refine T_region ?_
    refine S_ 15 rfl rfl rfl _ (y_move rfl rfl) ?_
    refine S_ 16 rfl rfl rfl _ (y_indexOwn 8 rfl rfl rfl rfl Tryd.underlying48 sz70 (fun _ => by omega)) ?_
    refine S_ 17 rfl rfl rfl _ (y_loadO 8 rfl rfl rfl (by simp; omega) (fun _ => rfl) (fun _ => at_next hp2 hx2) Tryd.underlying70 rfl sz70) ?_
    refine S_alloc 4 4 rfl rfl rfl rfl z70 ?_
    intro b4
    refine S_ 3 rfl rfl rfl _ (y_assign rfl rfl) ?_
    refine S_store 4 rfl rfl rfl rfl rfl rfl sz70 rfl rfl ?_
    refine S_go (fun _ _ h => h) ?_
    refine T_seq ?_
    refine T_region ?_
    refine S_ 18 rfl rfl rfl _ (y_fieldAddr rfl rfl fa70_2) ?_
    refine S_ 19 rfl rfl rfl _ (y_load 4 rfl rfl rfl rfl Tryd.underlying68 rfl) ?_
    refine S_ 20 rfl rfl rfl _ (y_len_slice rfl rfl Tryd.underlying68) ?_
    obtain ⟨i21, hi21, hz21, hs21, hy21⟩ := info_parts inf148
    refine S_makeSlice 21 21 rfl rfl rfl rfl rfl rfl Tryd.underlying68 hi21 hz21 hs21 (by rw [hy21]; omega) (by simp only [maxLen]; omega) rfl ?_
    intro b21
    refine S_ 5 rfl rfl rfl _ (y_assign rfl rfl) ?_
    refine S_go (fun _ _ h => h) ?_
    refine T_seq ?_
    refine T_region ?_
    refine S_ 22 rfl rfl rfl _ (y_move rfl rfl) ?_
    refine S_ 23 rfl rfl rfl _ (y_fieldAddr rfl rfl fa70_2) ?_
    refine S_ 24 rfl rfl rfl _ (y_load 4 rfl rfl rfl rfl Tryd.underlying68 rfl) ?_
    refine S_copy 25 21 rfl rfl rfl rfl rfl rfl rfl Tryd.underlying68 sz148 (fun w hM => (hxf.ok.below hM.below).t.rd) (fun v hv => by obtain ⟨a, _, ha⟩ := List.mem_flatMap.1 hv; simp [Frm.enc] at ha; rcases ha with rfl | rfl | rfl | rfl | rfl | rfl <;> rfl) ?_
    refine S_go (fun _ _ h => h) ?_
    refine T_region ?_
    refine S_ 26 rfl rfl rfl _ (y_fieldAddr rfl rfl fa52_3) ?_
    refine S_ 27 rfl rfl rfl _ (y_load 1 rfl rfl rfl rfl Tryd.underlying48 rfl) ?_
    refine S_ 28 rfl rfl rfl _ (y_move rfl rfl) ?_
    refine S_ 29 rfl rfl rfl _ (y_move rfl rfl) ?_
    refine S_ 30 rfl rfl rfl _ (y_indexOwn 8 rfl rfl rfl rfl Tryd.underlying48 sz70 (fun _ => by omega)) ?_
    refine S_ 31 rfl rfl rfl _ (y_fieldOwn 8 rfl rfl rfl (fun _ => by omega) fa70_2) ?_
    refine S_storeOwn 8 rfl rfl rfl rfl rfl rfl sz68 rfl rfl ?_ (xs' := ((gs ++ [(⟨x.k, x.t, (⟨some ⟨b21, 0, none⟩, x.fr.q, x.fr.q, x.fr.l⟩ : Sl Frm)⟩ : Flt)]) ++ e.fa.l.drop (i + 1)).flatMap Flt.enc) ?_ ?_
    · (rw [flat_lenN (enc := Flt.enc) (size := 3) (fun _ => rfl)]; simp; omega)
    · rw [← set_next hp2 hx2]; exact flat_set (enc := Flt.enc) (size := 3) (off := 2) (fun _ => rfl) (at_next hp2 hx2) (by decide) rfl
    refine S_go (fun _ _ h => h) ?_
    refine T_region ?_
    refine S_ 32 rfl rfl rfl _ (y_bin rfl rfl rfl (fun hg => b_add (by omega))) ?_
    refine S_ 13 rfl rfl rfl _ (y_move rfl rfl) ?_
    refine S_bank [(21, 21), (900, 900)] 900 21 rfl rfl rfl rfl (by repeat (first | exact kl_nil | exact kl_rest (by assumption) rfl | (apply kl_in; focus rfl) | (apply kl_out; focus rfl))) ?_
    refine S_nil (nextK3 (kf := [(3, 5), (13, 32)]) (kl := [(3, 5), (8, 8), (13, 32), (900, 900)]) (i + 1) (gs ++ [(⟨x.k, x.t, (⟨some ⟨b21, 0, none⟩, x.fr.q, x.fr.q, x.fr.l⟩ : Sl Frm)⟩ : Flt)]) (rs ++ [⟨148, 6, .slice (some ⟨b21, 0, none⟩) x.fr.q x.fr.q, x.fr.q, x.fr.l.flatMap Frm.enc⟩]) (by repeat (first | exact kf_nil | (apply kf_in; focus rfl) | (apply kf_out; focus rfl))) (by repeat (first | exact kl_nil | exact kl_rest (by assumption) rfl | (apply kl_in; focus rfl) | (apply kl_out; focus rfl))) ?_ ?_ ?_ ?_)
    · omega
    · exact ⟨by omega, by simp [hp2], by rw [List.map_append, hp3, take_at hx1, List.map_append]; rfl, fun f hf => by
        rcases List.mem_append.1 hf with h | h
        · exact ⟨(hp4 f h).1, (hp4 f h).2.app⟩
        · simp only [List.mem_singleton] at h
          subst h
          exact ⟨hxf.ok.t.len.symm, Sees.map (Sees.row (A := some ⟨b21, 0, none⟩) (c := x.fr.q) (q := x.fr.q) (l := x.fr.l) (enc := Frm.enc) (List.mem_append_right _ (List.mem_singleton.2 rfl)) hxf.ok.t.len) fun w h => ⟨h, hxf.q, hxf.n⟩⟩⟩
    · exact ⟨rfl, trivial⟩
    · exact ⟨rfl, rfl, trivial⟩
  · try simp only [decide_eq_true_eq, decide_eq_false_iff_not, Bool.or_eq_true, Bool.or_eq_false_iff, Bool.and_eq_true, Bool.and_eq_false_iff, Bool.not_eq_true', Bool.not_eq_false', Bool.not_eq_true, Bool.not_eq_false, Bool.not_true, Bool.not_false, Int.not_lt, Int.not_le, not_or, not_and, Classical.not_not] at h14
    refine T_exit_go (fun _ _ h => h) ?_
    refine T_seq ?_
    refine T_region ?_
    refine S_ 33 rfl rfl rfl _ (y_fieldAddr rfl rfl fa52_4) ?_
    refine S_ 34 rfl rfl rfl _ (y_load 1 rfl rfl rfl rfl Tryd.underlying49 rfl) ?_
    refine S_callOwn 35 35 rfl rfl rfl rfl rfl rfl rfl cf110 (fun A c => .slice A (e.ta.q) c) 128 2 (e.ta.q) (e.ta.l.flatMap STag.enc) (fun w hM => CloneTag_any e.ta w (he.ta.ok.below hM.below) (by omega)) ?_
    intro A35 c35
    refine S_ 36 rfl rfl rfl _ (y_fieldAddr rfl rfl fa52_4) ?_
    refine S_store 1 rfl rfl rfl rfl rfl rfl sz49 rfl rfl ?_
    refine S_go (fun _ _ h => h) ?_
    refine T_seq ?_
    refine T_region ?_
    refine S_ 37 rfl rfl rfl _ (y_fieldAddr rfl rfl fa52_5) ?_
    refine S_ 38 rfl rfl rfl _ (y_load 1 rfl rfl rfl rfl Tryd.underlying50 rfl) ?_
    refine S_callOwn 39 39 rfl rfl rfl rfl rfl rfl rfl cf109 (fun A c => .slice A (e.cr.q) c) 78 3 (e.cr.q) (e.cr.l.flatMap SCrumb.enc) (fun w hM => CloneCrumb_any e.cr w (he.cr.ok.below hM.below) (by omega)) ?_
    intro A39 c39
    refine S_ 40 rfl rfl rfl _ (y_fieldAddr rfl rfl fa52_5) ?_
    refine S_store 1 rfl rfl rfl rfl rfl rfl sz50 rfl rfl ?_
    refine S_go (fun _ _ h => h) ?_
    refine T_seq ?_
    refine T_region ?_
    refine S_ 41 rfl rfl rfl _ (y_loadA 1 rfl rfl rfl Tryd.underlying52 rfl sz52) ?_
    refine S_store 2 rfl rfl rfl rfl rfl rfl sz52 rfl rfl ?_
    refine S_go (fun _ _ h => h) ?_
    refine T_ret (fun a w hF hM => hRb a w (post_cell1 2 rfl rfl rfl Tryd.underlying52 rfl (by exact sz52) (fun w hM => ?_) a w hF hM))
    exact ⟨⟨A8, c8, gs, rs, A35, c35, A39, c39⟩, rfl, ⟨by rw [hp3, List.take_of_length_le (by omega)], hp4⟩, hM.keep (ks := [(0, 999)]) (by repeat (first | exact kl_rest (by assumption) rfl | (apply kl_in; focus rfl))) _ ⟨by rw [hft.end (by omega : e.fa.q ≤ i), List.append_nil]; rfl, rfl, rfl, rfl, trivial⟩⟩
end Go.Proofs.YtoeipmepmlikcaaDoor
