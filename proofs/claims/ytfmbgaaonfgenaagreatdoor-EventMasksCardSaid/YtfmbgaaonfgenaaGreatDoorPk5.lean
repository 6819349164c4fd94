/- Part 5, merged by a program. A rule is done with an event of our own. Conditions: those of the theorem. -/
import Derived.Test.YtfmbgaaonfgenaaGreatDoorPk4
namespace Go.Proofs.YtfmbgaaonfgenaaGreatDoor
set_option linter.unusedSimpArgs false
set_option linter.unusedVariables false
set_option maxRecDepth 20000
open Go.RowKit Go.Eng
def frL (r : SRl) (l : List Frm) (j : Nat) : List Frm := if r.wh = 5 then mpL (clM r) l j else l
def cnL (r : SRl) (l : List Frm) (j : Nat) : Nat := if r.wh = 5 then smT (cnM r) l j else 0
theorem frL_0 {r : SRl} {l : List Frm} : frL r l 0 = l := by unfold frL; split; exact mpL_0; rfl
theorem cnL_0 {r : SRl} {l : List Frm} : cnL r l 0 = 0 := by unfold cnL; split; exact smT_0; rfl
theorem frL_no {r : SRl} {l : List Frm} {j : Nat} (h : ¬ r.wh = 5) : frL r l (j + 1) = frL r l j := by rw [frL, frL, if_neg h, if_neg h]
theorem cnL_no {r : SRl} {l : List Frm} {j : Nat} (h : ¬ r.wh = 5) : cnL r l (j + 1) = cnL r l j := by rw [cnL, cnL, if_neg h, if_neg h]
theorem smT_same {α : Type} {k : α → Nat} {l : List α} {i : Nat} {x : α} (h : l[i]? = some x) (h0 : k x = 0) : smT k l (i + 1) = smT k l i := by rw [smT_next h, h0]; rfl
theorem frL_at {r : SRl} {l : List Frm} {j : Nat} {y : Frm} (h : r.wh = 5) (hy : l[j]? = some y) : (frL r l j)[j]? = some y := by rw [frL, if_pos h]; exact mpL_at hy
theorem frL_set {r : SRl} {l : List Frm} {j : Nat} {y : Frm} (h : r.wh = 5) (hy : l[j]? = some y) : (frL r l j).set j (clM r y) = frL r l (j + 1) := by rw [frL, frL, if_pos h, if_pos h]; exact mpL_set hy
theorem cnL_next {r : SRl} {l : List Frm} {j : Nat} {y : Frm} (h : r.wh = 5) (hy : l[j]? = some y) : cnL r l (j + 1) = cnL r l j + cnM r y := by rw [cnL, cnL, if_pos h, if_pos h]; exact smT_next hy
theorem frL_end {r : SRl} {x : Flt} {j : Nat} (h : x.fr.l.length ≤ j) : frL r x.fr.l j = (clF r x).fr.l := by
  show (if r.wh = 5 then mpL (clM r) x.fr.l j else x.fr.l) = (if r.wh = 5 then x.fr.l.map (clM r) else x.fr.l)
  rw [mpL_end h]
theorem cnL_end {r : SRl} {l : List Frm} {j : Nat} (h : l.length ≤ j) : cnL r l j = if r.wh = 5 then sm (cnM r) l else 0 := by rw [cnL, smT_end h]
theorem cnL_le {r : SRl} {l : List Frm} {j : Nat} (h : ∀ x ∈ l, x.fi.length ≤ 5000) : cnL r l j ≤ l.length * 5000 := by
  unfold cnL
  split
  · exact smT_le fun x hx => cnM_le (h x hx)
  · exact Nat.zero_le _
theorem conv_set {α : Type} {enc : α → List Value} {size off : Nat} (hs : ∀ x, (enc x).length = size) {xl : List α} {j : Nat} {x x' : α} {u : Value} (hx : xl[j]? = some x) (ho : off < size) (he : enc x' = (enc x).set off u) {cur : List Value} {m : Nat} (hc : cur.take m = xl.flatMap enc) {xl' : List α} (hx' : xl.set j x' = xl') :
    (spl cur (j * size + off) [u]).take m = xl'.flatMap enc := by
  subst hx'
  rw [spl1_take, hc]; exact flat_set hs hx ho he
theorem conv_at {α : Type} {enc : α → List Value} {size off : Nat} (hs : ∀ x, (enc x).length = size) {xl : List α} {j : Nat} {x : α} {u : Value} (hx : xl[j]? = some x) (hu : (enc x)[off]? = some u) {cur : List Value} {m : Nat} (hc : cur.take m = xl.flatMap enc) : nth cur (j * size + off) = some u :=
  take_nth (m := m) (by rw [hc]; exact flat_at hs hx off u hu)
theorem clearN_any {w0 : World} {K : HL} (hK : FromK K) (r : SRl) (b1 b2 b3 off : Nat) (g : FuncId) (cap : Array Value) (hg : FindF r b1 g cap) (n n' : Nat) (cs : List Value) (tb : TypeId) (s : List UInt8) (hs : nth cs off = some (str s)) (hsl : s.length ≤ 5000) (hn : n ≤ 100000000000) (hn' : n + (fndR r s).length = n') (w : World)
    (hM0 : Mem w0 ([(0, clrBox b2 g cap n), (1, rulBox b1 r), (2, .blk b3 (IsBox cs tb))] ++ K) w) :
    Calls Tryz.prog 174 #[selfP b2, .pointer (some ⟨b3, off, none⟩)] w fun e w' => ∃ _u : Unit, e = .returned (.tuple #[]) ∧ True ∧
      Mem w0 ([(0, clrBox b2 g cap n'), (1, rulBox b1 r), (2, .blk b3 (IsBox (spl cs off [str (mk r s)]) tb))] ++ K) w' := by
  subst hn'
  exact clear_any hK r b1 b2 b3 off g cap hg n cs tb s hs hsl hn w hM0
abbrev evBox (b : Nat) (e : Evt) : It := .blk b (IsBox e.enc 29)
abbrev ownFa (f : Sl Flt) (l : List Flt) : It := .own 50 3 (.slice f.A f.q f.c) f.q (l.flatMap Flt.enc)
theorem ownFa_head {r : SRl} {f : Sl Flt} {l : List Flt} {i : Nat} {x : Flt} (hx : l[i]? = some x) (h1 : ¬ r.wh = 1) : ownFa f (mpL (clF r) l (i + 1)) = ownFa f (mpL (clF r) l i) := by
  show It.own _ _ _ _ _ = It.own _ _ _ _ _
  rw [flt_head hx h1]
abbrev ownTa (f : Sl STag) (l : List STag) : It := .own 104 2 (.slice f.A f.q f.c) f.q (l.flatMap STag.enc)
abbrev ownCr (f : Sl SCrumb) (l : List SCrumb) : It := .own 107 3 (.slice f.A f.q f.c) f.q (l.flatMap SCrumb.enc)
abbrev ownFr (f : Sl Frm) (l : List Frm) : It := .own 116 6 (.slice f.A f.q f.c) f.q (l.flatMap Frm.enc)
abbrev evL (b : Nat) (e : Evt) : HL := [(2, evBox b e), (908, ownFa e.fa e.fa.l), (900, .many (e.fa.l.map frRow)), (935, ownTa e.ta e.ta.l), (939, ownCr e.cr e.cr.l)]
set_option maxHeartbeats 4000000 in
theorem Rclear_any {w0 : World} {K : HL} (hK : FromK K) (r : SRl) (b1 b2 be : Nat) (g : FuncId) (cap : Array Value) (hg : FindF r b1 g cap) (e : Evt) (hl : LenE e) (hnm : r.nm.length ≤ 1000000) (hd : DisF e.fa.l) (w : World)
    (hM0 : Mem w0 ([(0, clrBox b2 g cap 0), (1, rulBox b1 r)] ++ evL be e ++ K) w) :
    Calls Tryz.prog 78 #[r.val, selfP be, selfP b2] w fun en w' => ∃ _u : Unit, en = .returned (.tuple #[]) ∧ True ∧
      Mem w0 ([(0, clrBox b2 g cap (cnE r e : Nat)), (1, rulBox b1 r)] ++ evL be (clE r e) ++ K) w' := by
  obtain ⟨gF, hgF⟩ := row_blk (hM0.sat 908 _ rfl)
  obtain ⟨gT, hgT⟩ := row_blk (hM0.sat 935 _ rfl)
  obtain ⟨gC, hgC⟩ := row_blk (hM0.sat 939 _ rfl)
  have hfr : ∀ f ∈ e.fa.l, ∃ g, 0 < f.fr.q → f.fr.A = some ⟨g, 0, none⟩ := fun f hf => row_blk (hM0.sat 900 _ rfl (frRow f) (List.mem_map.2 ⟨f, hf, rfl⟩))
  have hfq := hl.fq
  have htq := hl.tq
  have hcq := hl.cq
  have hm0 := m0R_le (r := r) hl
  refine enterM_args (args := [.agg #[.int .i64 r.wh, str r.nm, .int .i64 r.fd, .int .i64 r.ls, str r.tx, .int .i64 r.dd], selfP be, selfP b2]) (F := _) hM0 Tryz.func78 rfl Tryz.ntmps78 rfl rfl ?_
  intro Rb hRb hRn
  refine T_seq ?_
  refine T_region ?_
  refine S_box 3 3 rfl rfl rfl rfl rfl ?_
  intro b3
  refine S_go (fun _ _ h => h) ?_
  refine T_seq ?_
  refine T_seq ?_
  refine T_region ?_
  refine S_ 11 rfl rfl rfl _ (y_fieldAddr rfl rfl fa43_0) ?_
  refine S_ 12 rfl rfl rfl _ (y_load 3 rfl rfl rfl rfl Tryz.underlying3 rfl) ?_
  refine S_go (fun _ _ h => h) ?_
  refine T_block ?_
  refine T_seq ?_
  refine T_region ?_
  refine S_ 14 rfl rfl rfl _ (y_bin rfl rfl rfl (fun _ => b_eql)) ?_
  refine S_ 13 rfl rfl rfl _ (y_assign rfl rfl) ?_
  refine S_go (fun _ _ h => h) ?_
  refine T_cond rfl (fun h13 => ?_) (fun h13 => ?_)
  · try simp only [decide_eq_true_eq, decide_eq_false_iff_not, Bool.or_eq_true, Bool.or_eq_false_iff, Bool.and_eq_true, Bool.and_eq_false_iff, Bool.not_eq_true', Bool.not_eq_false', Bool.not_eq_true, Bool.not_eq_false, Bool.not_true, Bool.not_false, Int.not_lt, Int.not_le, not_or, not_and, Classical.not_not] at h13
    refine T_seq ?_
    refine T_region ?_
    refine S_ 15 rfl rfl rfl _ (y_move rfl rfl) ?_
    refine S_ 16 rfl rfl rfl _ (y_nilCheck rfl rfl) ?_
    refine S_ 17 rfl rfl rfl _ (y_fieldAddr rfl rfl fa29_4) ?_
    refine S_ 18 rfl rfl rfl _ (y_load 2 rfl rfl rfl rfl Tryz.underlying26 rfl) ?_
    refine S_ 19 rfl rfl rfl _ (y_len_slice rfl rfl Tryz.underlying26) ?_
    refine S_ 20 rfl rfl rfl _ (y_move rfl rfl) ?_
    refine S_go (fun _ _ h => h) ?_
    refine T_block ?_
    refine T_loopK1 (kf := [(6, 6), (20, 43)]) (kl := [(0, 0), (6, 6), (20, 43), (935, 935)]) (fun (i : Nat) => [(20, true, .int .i64 (i : Int))]) (fun (i : Nat) => [(0, clrBox b2 g cap (smT (cnT r) e.ta.l i : Nat)), (935, ownTa e.ta (mpL (clT r) e.ta.l i))]) (fun (i : Nat) => i ≤ e.ta.q) (fun (i : Nat) => e.ta.q - i) 0 (by repeat (first | exact kf_nil | (apply kf_in; focus rfl) | (apply kf_out; focus rfl))) (by repeat (first | exact kl_nil | exact kl_rest (by assumption) rfl | (apply kl_in; focus rfl) | (apply kl_out; focus rfl))) ?_ ?_ ?_ ?_
    · omega
    · exact ⟨rfl, trivial⟩
    · exact ⟨by rw [smT_0]; rfl, by rw [mpL_0]; rfl, trivial⟩
    rintro i hp1
    refine T_seq ?_
    refine T_region ?_
    refine S_ 21 rfl rfl rfl _ (y_bin rfl rfl rfl (fun _ => b_lss)) ?_
    refine S_go (fun _ _ h => h) ?_
    refine T_seq ?_
    refine T_cond rfl (fun h21 => ?_) (fun h21 => ?_)
    · try simp only [decide_eq_true_eq, decide_eq_false_iff_not, Bool.or_eq_true, Bool.or_eq_false_iff, Bool.and_eq_true, Bool.and_eq_false_iff, Bool.not_eq_true', Bool.not_eq_false', Bool.not_eq_true, Bool.not_eq_false, Bool.not_true, Bool.not_false, Int.not_lt, Int.not_le, not_or, not_and, Classical.not_not] at h21
      obtain ⟨x, hx1, hx2⟩ := at_lt (l := e.ta.l) (i := i) (by omega)
      have hxl := hl.ta x (mem_at hx1)
      have hmt := smT_le (k := cnT r) (i := i) (l := e.ta.l) (B := 5000) fun x hx => cnT_le (hl.ta x hx).2
      refine T_skip_go (fun _ _ h => h) ?_
      refine T_seq ?_
      refine T_block ?_
      refine T_seq ?_
      refine T_region ?_
      refine S_ 22 rfl rfl rfl _ (y_move rfl rfl) ?_
      refine S_ 6 rfl rfl rfl _ (y_assign rfl rfl) ?_
      refine S_go (fun _ _ h => h) ?_
      refine T_seq ?_
      refine T_draws (by kernel_rfl) (by kernel_rfl) ?_
      refine D_ 23 rfl rfl rfl _ (y_fieldAddr rfl rfl fa43_1) ?_
      refine D_ 24 rfl rfl rfl _ (y_load 3 rfl rfl rfl rfl Tryz.underlying9 rfl) ?_
      refine D_ 25 rfl rfl rfl _ (y_move rfl rfl) ?_
      refine D_ 26 rfl rfl rfl _ (y_nilCheck rfl rfl) ?_
      refine D_ 27 rfl rfl rfl _ (y_fieldAddr rfl rfl fa29_4) ?_
      refine D_ 28 rfl rfl rfl _ (y_load 2 rfl rfl rfl rfl Tryz.underlying26 rfl) ?_
      refine D_ 29 rfl rfl rfl _ (y_move rfl rfl) ?_
      refine D_ 30 rfl rfl rfl _ (y_indexOwn 935 rfl rfl rfl rfl Tryz.underlying26 sz104 (fun _ => by omega)) ?_
      refine D_ 31 rfl rfl rfl _ (y_fieldOwn 935 rfl rfl rfl (fun _ => by omega) fa104_0) ?_
      refine D_ 32 rfl rfl rfl _ (y_load_cellOwn 935 rfl rfl rfl (fun _ => by omega) (fun _ => flat_at (enc := STag.enc) (size := 2) (fun _ => rfl) (mpL_at hx1) 0 (str x.n) rfl) Tryz.underlying9 rfl) ?_
      refine D_ 33 rfl rfl rfl _ (y_call rfl rfl rfl cf173 (fun _ w _ => Matches_any r.nm x.n w (by omega) hxl.1)) ?_
      refine D_go (fun _ _ h => h) ?_
      refine T_cond rfl (fun h33 => ?_) (fun h33 => ?_)
      · skip
        have hct : smT (cnT r) e.ta.l i + (fndR r x.v).length = smT (cnT r) e.ta.l (i + 1) := by rw [smT_next hx1, cnT, if_pos h33]
        have henc : STag.enc (clT r x) = (STag.enc x).set 1 (str (mk r x.v)) := by rw [clT, if_pos h33]; rfl
        refine T_region ?_
        refine S_ 34 rfl rfl rfl _ (y_move rfl rfl) ?_
        refine S_ 35 rfl rfl rfl _ (y_move rfl rfl) ?_
        refine S_ 36 rfl rfl rfl _ (y_nilCheck rfl rfl) ?_
        refine S_ 37 rfl rfl rfl _ (y_fieldAddr rfl rfl fa29_4) ?_
        refine S_ 38 rfl rfl rfl _ (y_load 2 rfl rfl rfl rfl Tryz.underlying26 rfl) ?_
        refine S_ 39 rfl rfl rfl _ (y_move rfl rfl) ?_
        refine S_ 40 rfl rfl rfl _ (y_indexOwn 935 rfl rfl rfl rfl Tryz.underlying26 sz104 (fun _ => by omega)) ?_
        refine S_ 41 rfl rfl rfl _ (y_as (v' := .pointer (some ⟨gT, i * 2 + 1, none⟩)) (by rw [hgT (by omega), at_one]) (y_fieldOwn 935 rfl rfl rfl (fun _ => by omega) fa104_1)) ?_
        refine S_rowBox 935 gT rfl (hgT (by omega)) ?_
        intro cur hcu hcl hck hcm
        refine S_callM 42 [(0, 0), (1, 1), (2, 935)] (X := Unit) rfl rfl rfl rfl rfl rfl rfl cf174 rfl (fun _ => .tuple #[]) (fun _ => True) (fun _ => [(0, clrBox b2 g cap (smT (cnT r) e.ta.l (i + 1) : Nat)), (1, rulBox b1 r), (2, .blk gT (IsBox (spl cur (i * 2 + 1) [str (mk r x.v)]) 104))]) (fun _ => rfl) (fun _ => rfl) (fun K1 hK1 w hM => clearN_any hK1 r b1 b2 gT (i * 2 + 1) g cap hg (smT (cnT r) e.ta.l i) _ cur _ x.v (conv_at (enc := STag.enc) (fun _ => rfl) (mpL_at hx1) rfl hcu) hxl.2 (by omega) hct w hM) ?_
        intro _ _
        refine S_backRow 935 2 e.ta.q e.ta.c e.ta.A ((mpL (clT r) e.ta.l (i + 1)).flatMap STag.enc) rfl (hgT (by omega)) (conv_set (enc := STag.enc) (fun _ => rfl) (mpL_at hx1) (by decide) henc hcu (mpL_set hx1)) (by rw [spl1_len]; exact hcl) hck hcm ?_
        refine S_go (fun _ _ h => h) ?_
        refine T_region ?_
        refine S_ 43 rfl rfl rfl _ (y_bin rfl rfl rfl (fun hg => b_add (by omega))) ?_
        refine S_ 20 rfl rfl rfl _ (y_move rfl rfl) ?_
        refine S_nil (nextK1 (kf := [(6, 6), (20, 43)]) (kl := [(0, 0), (6, 6), (20, 43), (935, 935)]) (i + 1) (by repeat (first | exact kf_nil | (apply kf_in; focus rfl) | (apply kf_out; focus rfl))) (by refine ks_go ?_; repeat (first | exact ks_nil | exact ks_tail (by assumption) rfl (by repeat (first | exact ti_refl | (apply ti_cons; focus rfl))) | refine ks_dup rfl ?_ | refine ks_cons rfl rfl ?_)) ?_ ?_ ?_ ?_)
        · omega
        · omega
        · exact ⟨rfl, trivial⟩
        · exact ⟨rfl, rfl, trivial⟩
      · skip
        rw [← smT_same (k := cnT r) hx1 (by rw [cnT, if_neg (by simp [h33])]), ← mpL_same (f := clT r) hx1 (by rw [clT, if_neg (by simp [h33])])]
        refine T_skip_go (fun _ _ h => h) ?_
        refine T_region ?_
        refine S_ 43 rfl rfl rfl _ (y_bin rfl rfl rfl (fun hg => b_add (by omega))) ?_
        refine S_ 20 rfl rfl rfl _ (y_move rfl rfl) ?_
        refine S_nil (nextK1 (kf := [(6, 6), (20, 43)]) (kl := [(0, 0), (6, 6), (20, 43), (935, 935)]) (i + 1) (by repeat (first | exact kf_nil | (apply kf_in; focus rfl) | (apply kf_out; focus rfl))) (by refine ks_go ?_; repeat (first | exact ks_nil | exact ks_tail (by assumption) rfl (by repeat (first | exact ti_refl | (apply ti_cons; focus rfl))) | refine ks_dup rfl ?_ | refine ks_cons rfl rfl ?_)) ?_ ?_ ?_ ?_)
        · omega
        · omega
        · exact ⟨rfl, trivial⟩
        · exact ⟨rfl, rfl, trivial⟩
    · try simp only [decide_eq_true_eq, decide_eq_false_iff_not, Bool.or_eq_true, Bool.or_eq_false_iff, Bool.and_eq_true, Bool.and_eq_false_iff, Bool.not_eq_true', Bool.not_eq_false', Bool.not_eq_true, Bool.not_eq_false, Bool.not_true, Bool.not_false, Int.not_lt, Int.not_le, not_or, not_and, Classical.not_not] at h21
      have hta : mpL (clT r) e.ta.l i = taR r e := by rw [mpL_end (by omega), taR, if_pos h13]
      have hm1 : m0R r e = smT (cnT r) e.ta.l i := by rw [m0R, if_pos h13, smT_end (by omega)]
      refine T_exit_go (fun _ _ h => h) ?_
      refine T_seq ?_
      refine T_region ?_
      refine S_ 82 rfl rfl rfl _ (y_move rfl rfl) ?_
      refine S_ 83 rfl rfl rfl _ (y_nilCheck rfl rfl) ?_
      refine S_ 84 rfl rfl rfl _ (y_fieldAddr rfl rfl fa29_3) ?_
      refine S_ 85 rfl rfl rfl _ (y_load 2 rfl rfl rfl rfl Tryz.underlying25 rfl) ?_
      refine S_ 86 rfl rfl rfl _ (y_len_slice rfl rfl Tryz.underlying25) ?_
      refine S_ 87 rfl rfl rfl _ (y_move rfl rfl) ?_
      refine S_go (fun _ _ h => h) ?_
      refine T_block ?_
      refine T_loopK1 (kf := [(8, 10), (87, 125)]) (kl := [(0, 0), (2, 2), (8, 10), (87, 125), (900, 900), (908, 908), (935, 935), (939, 939)]) (fun (i : Nat) => [(87, true, .int .i64 (i : Int))]) (fun (i : Nat) => [(0, clrBox b2 g cap (m0R r e + smT (cnF r) e.fa.l i : Nat)), (2, .blk be (IsBox [str e.id, .int .i64 e.at_, .int .i64 e.lv, .slice e.fa.A e.fa.q e.fa.c, .slice e.ta.A e.ta.q e.ta.c, .slice e.cr.A e.cr.q e.cr.c, str e.rel, str (usR r e), .int .i64 e.wt] 29)), (908, ownFa e.fa (mpL (clF r) e.fa.l i)), (900, .many ((mpL (clF r) e.fa.l i).map frRow)), (935, ownTa e.ta (taR r e)), (939, ownCr e.cr (crR r e))]) (fun (i : Nat) => i ≤ e.fa.q) (fun (i : Nat) => e.fa.q - i) 0 (by repeat (first | exact kf_nil | (apply kf_in; focus rfl) | (apply kf_out; focus rfl))) (by repeat (first | exact kl_nil | exact kl_rest (by assumption) rfl | (apply kl_in; focus rfl) | (apply kl_out; focus rfl))) ?_ ?_ ?_ ?_
      · omega
      · exact ⟨rfl, trivial⟩
      · exact ⟨by rw [smT_0, Nat.add_zero, hm1]; rfl, by rw [usR, if_neg (by omega)]; rfl, by rw [mpL_0]; rfl, by rw [mpL_0]; rfl, by rw [← hta]; rfl, by rw [crR, if_neg (by omega)]; rfl, trivial⟩
      rintro i hq1
      refine T_seq ?_
      refine T_region ?_
      refine S_ 88 rfl rfl rfl _ (y_bin rfl rfl rfl (fun _ => b_lss)) ?_
      refine S_go (fun _ _ h => h) ?_
      refine T_seq ?_
      refine T_cond rfl (fun h88 => ?_) (fun h88 => ?_)
      · try simp only [decide_eq_true_eq, decide_eq_false_iff_not, Bool.or_eq_true, Bool.or_eq_false_iff, Bool.and_eq_true, Bool.and_eq_false_iff, Bool.not_eq_true', Bool.not_eq_false', Bool.not_eq_true, Bool.not_eq_false, Bool.not_true, Bool.not_false, Int.not_lt, Int.not_le, not_or, not_and, Classical.not_not] at h88
        obtain ⟨x, hx1, hx2⟩ := at_lt (l := e.fa.l) (i := i) (by omega)
        have hxl := hl.fa x (mem_at hx1)
        have hsi := smF_le (r := r) hl i
        have hcx := cnX_le (r := r) hxl.1
        obtain ⟨gR, hgR⟩ := hfr x (mem_at hx1)
        refine T_unbank 900 961 (rsWo (mpL (clF r) e.fa.l i) i) rfl rfl (.inr (List.mem_map.2 ⟨x, mem_at (mpL_at hx1), rfl⟩)) rsWo_sub (rsWo_dis hd.mp (mpL_at hx1)) ?_
        refine T_skip_go (fun _ _ h => h) ?_
        refine T_seq ?_
        refine T_block ?_
        refine T_seq ?_
        refine T_region ?_
        refine S_ 89 rfl rfl rfl _ (y_move rfl rfl) ?_
        refine S_ 8 rfl rfl rfl _ (y_assign rfl rfl) ?_
        refine S_go (fun _ _ h => h) ?_
        refine T_seq ?_
        refine T_region ?_
        refine S_ 90 rfl rfl rfl _ (y_move rfl rfl) ?_
        refine S_ 91 rfl rfl rfl _ (y_nilCheck rfl rfl) ?_
        refine S_ 92 rfl rfl rfl _ (y_fieldAddr rfl rfl fa29_3) ?_
        refine S_ 93 rfl rfl rfl _ (y_load 2 rfl rfl rfl rfl Tryz.underlying25 rfl) ?_
        refine S_ 94 rfl rfl rfl _ (y_move rfl rfl) ?_
        refine S_ 95 rfl rfl rfl _ (y_indexOwn 908 rfl rfl rfl rfl Tryz.underlying25 sz50 (fun _ => by omega)) ?_
        refine S_ 9 rfl rfl rfl _ (y_assign rfl rfl) ?_
        refine S_go (fun _ _ h => h) ?_
        refine T_seq ?_
        refine T_seq ?_
        refine T_region ?_
        refine S_ 96 rfl rfl rfl _ (y_fieldAddr rfl rfl fa43_0) ?_
        refine S_ 97 rfl rfl rfl _ (y_load 3 rfl rfl rfl rfl Tryz.underlying3 rfl) ?_
        refine S_ 98 rfl rfl rfl _ (y_bin rfl rfl rfl (fun _ => b_eql)) ?_
        refine S_go (fun _ _ h => h) ?_
        refine T_cond rfl (fun h98 => ?_) (fun h98 => ?_)
        · try simp only [decide_eq_true_eq, decide_eq_false_iff_not, Bool.or_eq_true, Bool.or_eq_false_iff, Bool.and_eq_true, Bool.and_eq_false_iff, Bool.not_eq_true', Bool.not_eq_false', Bool.not_eq_true, Bool.not_eq_false, Bool.not_true, Bool.not_false, Int.not_lt, Int.not_le, not_or, not_and, Classical.not_not] at h98
          refine T_region ?_
          refine S_ 99 rfl rfl rfl _ (y_move rfl rfl) ?_
          refine S_ 100 rfl rfl rfl _ (y_move rfl rfl) ?_
          refine S_ 101 rfl rfl rfl _ (y_nilCheckOwn 908 rfl rfl rfl (fun _ => by omega)) ?_
          refine S_ 102 rfl rfl rfl _ (y_as (v' := .pointer (some ⟨gF, i * 3 + 1, none⟩)) (by rw [hgF (by omega), at_one]) (y_fieldOwn 908 rfl rfl rfl (fun _ => by omega) fa50_1)) ?_
          refine S_rowBox 908 gF rfl (hgF (by omega)) ?_
          intro cur hcu hcl hck hcm
          refine S_callM 103 [(0, 0), (1, 1), (2, 908)] (X := Unit) rfl rfl rfl rfl rfl rfl rfl cf174 rfl (fun _ => .tuple #[]) (fun _ => True) (fun _ => [(0, clrBox b2 g cap (m0R r e + smT (cnF r) e.fa.l i + cnX r x : Nat)), (1, rulBox b1 r), (2, .blk gF (IsBox (spl cur (i * 3 + 1) [str (mk r x.t)]) 50))]) (fun _ => rfl) (fun _ => rfl) (fun K1 hK1 w hM => clearN_any hK1 r b1 b2 gF (i * 3 + 1) g cap hg (m0R r e + smT (cnF r) e.fa.l i) _ cur _ x.t (conv_at (enc := Flt.enc) (fun _ => rfl) (mpL_at hx1) rfl hcu) hxl.1 (by omega) (by rw [cnX, if_pos h98]) w hM) ?_
          intro _ _
          refine S_backRow 908 3 e.fa.q e.fa.c e.fa.A ((mpL (clF r) e.fa.l (i + 1)).flatMap Flt.enc) rfl (hgF (by omega)) (conv_set (enc := Flt.enc) (fun _ => rfl) (mpL_at hx1) (by decide) (by rw [clF, if_pos h98]; rfl) hcu (mpL_set hx1)) (by rw [spl1_len]; exact hcl) hck hcm ?_
          refine S_go (fun _ _ h => h) ?_
          refine T_seq ?_
          refine T_region ?_
          refine S_ 104 rfl rfl rfl _ (y_move rfl rfl) ?_
          refine S_ 105 rfl rfl rfl _ (y_nilCheckOwn 908 rfl rfl rfl (fun _ => by omega)) ?_
          refine S_ 106 rfl rfl rfl _ (y_fieldOwn 908 rfl rfl rfl (fun _ => by omega) fa50_2) ?_
          refine S_ 107 rfl rfl rfl _ (y_load_cellOwn 908 rfl rfl rfl (fun _ => by omega) (fun _ => flat_at (enc := Flt.enc) (size := 3) (fun _ => rfl) (mpL_at1 hx1) 2 (.slice x.fr.A x.fr.q x.fr.c) rfl) Tryz.underlying48 rfl) ?_
          refine S_ 108 rfl rfl rfl _ (y_len_slice rfl rfl Tryz.underlying48) ?_
          refine S_ 109 rfl rfl rfl _ (y_move rfl rfl) ?_
          refine S_go (fun _ _ h => h) ?_
          refine T_block ?_
          refine T_loopK1 (kf := [(10, 10), (109, 124)]) (kl := [(0, 0), (10, 10), (109, 124), (908, 908), (961, 961)]) (fun (j : Nat) => [(109, true, .int .i64 (j : Int))]) (fun (j : Nat) => [(0, clrBox b2 g cap (m0R r e + smT (cnF r) e.fa.l i + cnX r x + cnL r x.fr.l j : Nat)), (961, ownFr x.fr (frL r x.fr.l j)), (908, ownFa e.fa (mpL (clF r) e.fa.l (i + 1)))]) (fun (j : Nat) => j ≤ x.fr.q) (fun (j : Nat) => x.fr.q - j) 0 (by repeat (first | exact kf_nil | (apply kf_in; focus rfl) | (apply kf_out; focus rfl))) (by repeat (first | exact kl_nil | exact kl_rest (by assumption) rfl | (apply kl_in; focus rfl) | (apply kl_out; focus rfl))) ?_ ?_ ?_ ?_
          · omega
          · exact ⟨rfl, trivial⟩
          · exact ⟨by rw [cnL_0]; rfl, by rw [frL_0]; rfl, rfl, trivial⟩
          rintro j hr1
          refine T_seq ?_
          refine T_region ?_
          refine S_ 110 rfl rfl rfl _ (y_bin rfl rfl rfl (fun _ => b_lss)) ?_
          refine S_go (fun _ _ h => h) ?_
          refine T_seq ?_
          refine T_cond rfl (fun h110 => ?_) (fun h110 => ?_)
          · try simp only [decide_eq_true_eq, decide_eq_false_iff_not, Bool.or_eq_true, Bool.or_eq_false_iff, Bool.and_eq_true, Bool.and_eq_false_iff, Bool.not_eq_true', Bool.not_eq_false', Bool.not_eq_true, Bool.not_eq_false, Bool.not_true, Bool.not_false, Int.not_lt, Int.not_le, not_or, not_and, Classical.not_not] at h110
            obtain ⟨y, hy1, hy2⟩ := at_lt (l := x.fr.l) (i := j) (by omega)
            have hyl := hxl.2.2.2 y (mem_at hy1)
            have hcj := cnL_le (r := r) (j := j) hxl.2.2.2
            refine T_skip_go (fun _ _ h => h) ?_
            refine T_seq ?_
            refine T_block ?_
            refine T_seq ?_
            refine T_region ?_
            refine S_ 111 rfl rfl rfl _ (y_move rfl rfl) ?_
            refine S_ 10 rfl rfl rfl _ (y_assign rfl rfl) ?_
            refine S_go (fun _ _ h => h) ?_
            refine T_seq ?_
            refine T_region ?_
            refine S_ 112 rfl rfl rfl _ (y_fieldAddr rfl rfl fa43_0) ?_
            refine S_ 113 rfl rfl rfl _ (y_load 3 rfl rfl rfl rfl Tryz.underlying3 rfl) ?_
            refine S_ 114 rfl rfl rfl _ (y_bin rfl rfl rfl (fun _ => b_eql)) ?_
            refine S_go (fun _ _ h => h) ?_
            refine T_cond rfl (fun h114 => ?_) (fun h114 => ?_)
            · try simp only [decide_eq_true_eq, decide_eq_false_iff_not, Bool.or_eq_true, Bool.or_eq_false_iff, Bool.and_eq_true, Bool.and_eq_false_iff, Bool.not_eq_true', Bool.not_eq_false', Bool.not_eq_true, Bool.not_eq_false, Bool.not_true, Bool.not_false, Int.not_lt, Int.not_le, not_or, not_and, Classical.not_not] at h114
              have hct : m0R r e + smT (cnF r) e.fa.l i + cnX r x + cnL r x.fr.l j + (fndR r y.fi).length = m0R r e + smT (cnF r) e.fa.l i + cnX r x + cnL r x.fr.l (j + 1) := by rw [cnL_next h114 hy1]; unfold cnM; omega
              refine T_region ?_
              refine S_ 115 rfl rfl rfl _ (y_move rfl rfl) ?_
              refine S_ 116 rfl rfl rfl _ (y_move rfl rfl) ?_
              refine S_ 117 rfl rfl rfl _ (y_nilCheckOwn 908 rfl rfl rfl (fun _ => by omega)) ?_
              refine S_ 118 rfl rfl rfl _ (y_fieldOwn 908 rfl rfl rfl (fun _ => by omega) fa50_2) ?_
              refine S_ 119 rfl rfl rfl _ (y_load_cellOwn 908 rfl rfl rfl (fun _ => by omega) (fun _ => flat_at (enc := Flt.enc) (size := 3) (fun _ => rfl) (mpL_at1 hx1) 2 (.slice x.fr.A x.fr.q x.fr.c) rfl) Tryz.underlying48 rfl) ?_
              refine S_ 120 rfl rfl rfl _ (y_move rfl rfl) ?_
              refine S_ 121 rfl rfl rfl _ (y_indexOwn 961 rfl rfl rfl rfl Tryz.underlying48 sz116 (fun _ => by omega)) ?_
              refine S_ 122 rfl rfl rfl _ (y_as (v' := .pointer (some ⟨gR, j * 6 + 2, none⟩)) (by rw [hgR (by omega), at_one]) (y_fieldOwn 961 rfl rfl rfl (fun _ => by omega) fa116_2)) ?_
              refine S_rowBox 961 gR rfl (hgR (by omega)) ?_
              intro cur hcu hcl hck hcm
              refine S_callM 123 [(0, 0), (1, 1), (2, 961)] (X := Unit) rfl rfl rfl rfl rfl rfl rfl cf174 rfl (fun _ => .tuple #[]) (fun _ => True) (fun _ => [(0, clrBox b2 g cap (m0R r e + smT (cnF r) e.fa.l i + cnX r x + cnL r x.fr.l (j + 1) : Nat)), (1, rulBox b1 r), (2, .blk gR (IsBox (spl cur (j * 6 + 2) [str (mk r y.fi)]) 116))]) (fun _ => rfl) (fun _ => rfl) (fun K1 hK1 w hM => clearN_any hK1 r b1 b2 gR (j * 6 + 2) g cap hg (m0R r e + smT (cnF r) e.fa.l i + cnX r x + cnL r x.fr.l j) _ cur _ y.fi (conv_at (enc := Frm.enc) (fun _ => rfl) (frL_at h114 hy1) rfl hcu) hyl (by omega) hct w hM) ?_
              intro _ _
              refine S_backRow 961 6 x.fr.q x.fr.c x.fr.A ((frL r x.fr.l (j + 1)).flatMap Frm.enc) rfl (hgR (by omega)) (conv_set (enc := Frm.enc) (fun _ => rfl) (frL_at h114 hy1) (by decide) (x' := clM r y) rfl hcu (frL_set h114 hy1)) (by rw [spl1_len]; exact hcl) hck hcm ?_
              refine S_go (fun _ _ h => h) ?_
              refine T_region ?_
              refine S_ 124 rfl rfl rfl _ (y_bin rfl rfl rfl (fun hg => b_add (by omega))) ?_
              refine S_ 109 rfl rfl rfl _ (y_move rfl rfl) ?_
              refine S_nil (nextK1 (kf := [(10, 10), (109, 124)]) (kl := [(0, 0), (10, 10), (109, 124), (908, 908), (961, 961)]) (j + 1) (by repeat (first | exact kf_nil | (apply kf_in; focus rfl) | (apply kf_out; focus rfl))) (by refine ks_go ?_; repeat (first | exact ks_nil | exact ks_tail (by assumption) rfl (by repeat (first | exact ti_refl | (apply ti_cons; focus rfl))) | refine ks_dup rfl ?_ | refine ks_cons rfl rfl ?_)) ?_ ?_ ?_ ?_)
              · omega
              · omega
              · exact ⟨rfl, trivial⟩
              · exact ⟨rfl, rfl, rfl, trivial⟩
            · try simp only [decide_eq_true_eq, decide_eq_false_iff_not, Bool.or_eq_true, Bool.or_eq_false_iff, Bool.and_eq_true, Bool.and_eq_false_iff, Bool.not_eq_true', Bool.not_eq_false', Bool.not_eq_true, Bool.not_eq_false, Bool.not_true, Bool.not_false, Int.not_lt, Int.not_le, not_or, not_and, Classical.not_not] at h114
              rw [← frL_no (j := j) h114, ← cnL_no (j := j) h114]
              refine T_skip_go (fun _ _ h => h) ?_
              refine T_region ?_
              refine S_ 124 rfl rfl rfl _ (y_bin rfl rfl rfl (fun hg => b_add (by omega))) ?_
              refine S_ 109 rfl rfl rfl _ (y_move rfl rfl) ?_
              refine S_nil (nextK1 (kf := [(10, 10), (109, 124)]) (kl := [(0, 0), (10, 10), (109, 124), (908, 908), (961, 961)]) (j + 1) (by repeat (first | exact kf_nil | (apply kf_in; focus rfl) | (apply kf_out; focus rfl))) (by refine ks_go ?_; repeat (first | exact ks_nil | exact ks_tail (by assumption) rfl (by repeat (first | exact ti_refl | (apply ti_cons; focus rfl))) | refine ks_dup rfl ?_ | refine ks_cons rfl rfl ?_)) ?_ ?_ ?_ ?_)
              · omega
              · omega
              · exact ⟨rfl, trivial⟩
              · exact ⟨rfl, rfl, rfl, trivial⟩
          · try simp only [decide_eq_true_eq, decide_eq_false_iff_not, Bool.or_eq_true, Bool.or_eq_false_iff, Bool.and_eq_true, Bool.and_eq_false_iff, Bool.not_eq_true', Bool.not_eq_false', Bool.not_eq_true, Bool.not_eq_false, Bool.not_true, Bool.not_false, Int.not_lt, Int.not_le, not_or, not_and, Classical.not_not] at h110
            rw [show frL r x.fr.l j = (clF r x).fr.l from frL_end (by omega), show m0R r e + smT (cnF r) e.fa.l i + cnX r x + cnL r x.fr.l j = m0R r e + smT (cnF r) e.fa.l (i + 1) by rw [smT_next hx1, cnF, cnL_end (by omega)]; omega]
            refine T_exit_go (fun _ _ h => h) ?_
            refine T_region ?_
            refine S_ 125 rfl rfl rfl _ (y_bin rfl rfl rfl (fun hg => b_add (by omega))) ?_
            refine S_ 87 rfl rfl rfl _ (y_move rfl rfl) ?_
            refine S_bank [(961, 961), (900, 900)] 900 961 rfl rfl rfl rfl (by repeat (first | exact kl_nil | exact kl_rest (by assumption) rfl | (apply kl_in; focus rfl) | (apply kl_out; focus rfl))) ?_
            refine S_manyEq 900 ((mpL (clF r) e.fa.l (i + 1)).map frRow) rfl (rows_back hx1) ?_
            refine S_nil (nextK1 (kf := [(8, 10), (87, 125)]) (kl := [(0, 0), (2, 2), (8, 10), (87, 125), (900, 900), (908, 908), (935, 935), (939, 939)]) (i + 1) (by repeat (first | exact kf_nil | (apply kf_in; focus rfl) | (apply kf_out; focus rfl))) (by refine ks_go ?_; repeat (first | exact ks_nil | exact ks_tail (by assumption) rfl (by repeat (first | exact ti_refl | (apply ti_cons; focus rfl))) | refine ks_dup rfl ?_ | refine ks_cons rfl rfl ?_)) ?_ ?_ ?_ ?_)
            · omega
            · omega
            · exact ⟨rfl, trivial⟩
            · exact ⟨rfl, rfl, rfl, rfl, rfl, rfl, trivial⟩
        · try simp only [decide_eq_true_eq, decide_eq_false_iff_not, Bool.or_eq_true, Bool.or_eq_false_iff, Bool.and_eq_true, Bool.and_eq_false_iff, Bool.not_eq_true', Bool.not_eq_false', Bool.not_eq_true, Bool.not_eq_false, Bool.not_true, Bool.not_false, Int.not_lt, Int.not_le, not_or, not_and, Classical.not_not] at h98
          refine T_skip_go (fun _ _ h => h) ?_
          refine T_seq ?_
          refine T_region ?_
          refine S_ 104 rfl rfl rfl _ (y_move rfl rfl) ?_
          refine S_ 105 rfl rfl rfl _ (y_nilCheckOwn 908 rfl rfl rfl (fun _ => by omega)) ?_
          refine S_ 106 rfl rfl rfl _ (y_fieldOwn 908 rfl rfl rfl (fun _ => by omega) fa50_2) ?_
          refine S_ 107 rfl rfl rfl _ (y_load_cellOwn 908 rfl rfl rfl (fun _ => by omega) (fun _ => flat_at (enc := Flt.enc) (size := 3) (fun _ => rfl) (mpL_at hx1) 2 (.slice x.fr.A x.fr.q x.fr.c) rfl) Tryz.underlying48 rfl) ?_
          refine S_ 108 rfl rfl rfl _ (y_len_slice rfl rfl Tryz.underlying48) ?_
          refine S_ 109 rfl rfl rfl _ (y_move rfl rfl) ?_
          refine S_go (fun _ _ h => h) ?_
          refine T_block ?_
          refine T_loopK1 (kf := [(10, 10), (109, 124)]) (kl := [(0, 0), (10, 10), (109, 124), (908, 908), (961, 961)]) (fun (j : Nat) => [(109, true, .int .i64 (j : Int))]) (fun (j : Nat) => [(0, clrBox b2 g cap (m0R r e + smT (cnF r) e.fa.l i + cnX r x + cnL r x.fr.l j : Nat)), (961, ownFr x.fr (frL r x.fr.l j)), (908, ownFa e.fa (mpL (clF r) e.fa.l (i + 1)))]) (fun (j : Nat) => j ≤ x.fr.q) (fun (j : Nat) => x.fr.q - j) 0 (by repeat (first | exact kf_nil | (apply kf_in; focus rfl) | (apply kf_out; focus rfl))) (by repeat (first | exact kl_nil | exact kl_rest (by assumption) rfl | (apply kl_in; focus rfl) | (apply kl_out; focus rfl))) ?_ ?_ ?_ ?_
          · omega
          · exact ⟨rfl, trivial⟩
          · exact ⟨by rw [cnL_0, cnX, if_neg h98]; rfl, by rw [frL_0]; rfl, by rw [ownFa_head hx1 h98]; rfl, trivial⟩
          rintro j hr1
          refine T_seq ?_
          refine T_region ?_
          refine S_ 110 rfl rfl rfl _ (y_bin rfl rfl rfl (fun _ => b_lss)) ?_
          refine S_go (fun _ _ h => h) ?_
          refine T_seq ?_
          refine T_cond rfl (fun h110 => ?_) (fun h110 => ?_)
          · try simp only [decide_eq_true_eq, decide_eq_false_iff_not, Bool.or_eq_true, Bool.or_eq_false_iff, Bool.and_eq_true, Bool.and_eq_false_iff, Bool.not_eq_true', Bool.not_eq_false', Bool.not_eq_true, Bool.not_eq_false, Bool.not_true, Bool.not_false, Int.not_lt, Int.not_le, not_or, not_and, Classical.not_not] at h110
            obtain ⟨y, hy1, hy2⟩ := at_lt (l := x.fr.l) (i := j) (by omega)
            have hyl := hxl.2.2.2 y (mem_at hy1)
            have hcj := cnL_le (r := r) (j := j) hxl.2.2.2
            refine T_skip_go (fun _ _ h => h) ?_
            refine T_seq ?_
            refine T_block ?_
            refine T_seq ?_
            refine T_region ?_
            refine S_ 111 rfl rfl rfl _ (y_move rfl rfl) ?_
            refine S_ 10 rfl rfl rfl _ (y_assign rfl rfl) ?_
            refine S_go (fun _ _ h => h) ?_
            refine T_seq ?_
            refine T_region ?_
            refine S_ 112 rfl rfl rfl _ (y_fieldAddr rfl rfl fa43_0) ?_
            refine S_ 113 rfl rfl rfl _ (y_load 3 rfl rfl rfl rfl Tryz.underlying3 rfl) ?_
            refine S_ 114 rfl rfl rfl _ (y_bin rfl rfl rfl (fun _ => b_eql)) ?_
            refine S_go (fun _ _ h => h) ?_
            refine T_cond rfl (fun h114 => ?_) (fun h114 => ?_)
            · try simp only [decide_eq_true_eq, decide_eq_false_iff_not, Bool.or_eq_true, Bool.or_eq_false_iff, Bool.and_eq_true, Bool.and_eq_false_iff, Bool.not_eq_true', Bool.not_eq_false', Bool.not_eq_true, Bool.not_eq_false, Bool.not_true, Bool.not_false, Int.not_lt, Int.not_le, not_or, not_and, Classical.not_not] at h114
              have hct : m0R r e + smT (cnF r) e.fa.l i + cnX r x + cnL r x.fr.l j + (fndR r y.fi).length = m0R r e + smT (cnF r) e.fa.l i + cnX r x + cnL r x.fr.l (j + 1) := by rw [cnL_next h114 hy1]; unfold cnM; omega
              refine T_region ?_
              refine S_ 115 rfl rfl rfl _ (y_move rfl rfl) ?_
              refine S_ 116 rfl rfl rfl _ (y_move rfl rfl) ?_
              refine S_ 117 rfl rfl rfl _ (y_nilCheckOwn 908 rfl rfl rfl (fun _ => by omega)) ?_
              refine S_ 118 rfl rfl rfl _ (y_fieldOwn 908 rfl rfl rfl (fun _ => by omega) fa50_2) ?_
              refine S_ 119 rfl rfl rfl _ (y_load_cellOwn 908 rfl rfl rfl (fun _ => by omega) (fun _ => flat_at (enc := Flt.enc) (size := 3) (fun _ => rfl) (mpL_at1 hx1) 2 (.slice x.fr.A x.fr.q x.fr.c) rfl) Tryz.underlying48 rfl) ?_
              refine S_ 120 rfl rfl rfl _ (y_move rfl rfl) ?_
              refine S_ 121 rfl rfl rfl _ (y_indexOwn 961 rfl rfl rfl rfl Tryz.underlying48 sz116 (fun _ => by omega)) ?_
              refine S_ 122 rfl rfl rfl _ (y_as (v' := .pointer (some ⟨gR, j * 6 + 2, none⟩)) (by rw [hgR (by omega), at_one]) (y_fieldOwn 961 rfl rfl rfl (fun _ => by omega) fa116_2)) ?_
              refine S_rowBox 961 gR rfl (hgR (by omega)) ?_
              intro cur hcu hcl hck hcm
              refine S_callM 123 [(0, 0), (1, 1), (2, 961)] (X := Unit) rfl rfl rfl rfl rfl rfl rfl cf174 rfl (fun _ => .tuple #[]) (fun _ => True) (fun _ => [(0, clrBox b2 g cap (m0R r e + smT (cnF r) e.fa.l i + cnX r x + cnL r x.fr.l (j + 1) : Nat)), (1, rulBox b1 r), (2, .blk gR (IsBox (spl cur (j * 6 + 2) [str (mk r y.fi)]) 116))]) (fun _ => rfl) (fun _ => rfl) (fun K1 hK1 w hM => clearN_any hK1 r b1 b2 gR (j * 6 + 2) g cap hg (m0R r e + smT (cnF r) e.fa.l i + cnX r x + cnL r x.fr.l j) _ cur _ y.fi (conv_at (enc := Frm.enc) (fun _ => rfl) (frL_at h114 hy1) rfl hcu) hyl (by omega) hct w hM) ?_
              intro _ _
              refine S_backRow 961 6 x.fr.q x.fr.c x.fr.A ((frL r x.fr.l (j + 1)).flatMap Frm.enc) rfl (hgR (by omega)) (conv_set (enc := Frm.enc) (fun _ => rfl) (frL_at h114 hy1) (by decide) (x' := clM r y) rfl hcu (frL_set h114 hy1)) (by rw [spl1_len]; exact hcl) hck hcm ?_
              refine S_go (fun _ _ h => h) ?_
              refine T_region ?_
              refine S_ 124 rfl rfl rfl _ (y_bin rfl rfl rfl (fun hg => b_add (by omega))) ?_
              refine S_ 109 rfl rfl rfl _ (y_move rfl rfl) ?_
              refine S_nil (nextK1 (kf := [(10, 10), (109, 124)]) (kl := [(0, 0), (10, 10), (109, 124), (908, 908), (961, 961)]) (j + 1) (by repeat (first | exact kf_nil | (apply kf_in; focus rfl) | (apply kf_out; focus rfl))) (by refine ks_go ?_; repeat (first | exact ks_nil | exact ks_tail (by assumption) rfl (by repeat (first | exact ti_refl | (apply ti_cons; focus rfl))) | refine ks_dup rfl ?_ | refine ks_cons rfl rfl ?_)) ?_ ?_ ?_ ?_)
              · omega
              · omega
              · exact ⟨rfl, trivial⟩
              · exact ⟨rfl, rfl, rfl, trivial⟩
            · try simp only [decide_eq_true_eq, decide_eq_false_iff_not, Bool.or_eq_true, Bool.or_eq_false_iff, Bool.and_eq_true, Bool.and_eq_false_iff, Bool.not_eq_true', Bool.not_eq_false', Bool.not_eq_true, Bool.not_eq_false, Bool.not_true, Bool.not_false, Int.not_lt, Int.not_le, not_or, not_and, Classical.not_not] at h114
              rw [← frL_no (j := j) h114, ← cnL_no (j := j) h114]
              refine T_skip_go (fun _ _ h => h) ?_
              refine T_region ?_
              refine S_ 124 rfl rfl rfl _ (y_bin rfl rfl rfl (fun hg => b_add (by omega))) ?_
              refine S_ 109 rfl rfl rfl _ (y_move rfl rfl) ?_
              refine S_nil (nextK1 (kf := [(10, 10), (109, 124)]) (kl := [(0, 0), (10, 10), (109, 124), (908, 908), (961, 961)]) (j + 1) (by repeat (first | exact kf_nil | (apply kf_in; focus rfl) | (apply kf_out; focus rfl))) (by refine ks_go ?_; repeat (first | exact ks_nil | exact ks_tail (by assumption) rfl (by repeat (first | exact ti_refl | (apply ti_cons; focus rfl))) | refine ks_dup rfl ?_ | refine ks_cons rfl rfl ?_)) ?_ ?_ ?_ ?_)
              · omega
              · omega
              · exact ⟨rfl, trivial⟩
              · exact ⟨rfl, rfl, rfl, trivial⟩
          · try simp only [decide_eq_true_eq, decide_eq_false_iff_not, Bool.or_eq_true, Bool.or_eq_false_iff, Bool.and_eq_true, Bool.and_eq_false_iff, Bool.not_eq_true', Bool.not_eq_false', Bool.not_eq_true, Bool.not_eq_false, Bool.not_true, Bool.not_false, Int.not_lt, Int.not_le, not_or, not_and, Classical.not_not] at h110
            rw [show frL r x.fr.l j = (clF r x).fr.l from frL_end (by omega), show m0R r e + smT (cnF r) e.fa.l i + cnX r x + cnL r x.fr.l j = m0R r e + smT (cnF r) e.fa.l (i + 1) by rw [smT_next hx1, cnF, cnL_end (by omega)]; omega]
            refine T_exit_go (fun _ _ h => h) ?_
            refine T_region ?_
            refine S_ 125 rfl rfl rfl _ (y_bin rfl rfl rfl (fun hg => b_add (by omega))) ?_
            refine S_ 87 rfl rfl rfl _ (y_move rfl rfl) ?_
            refine S_bank [(961, 961), (900, 900)] 900 961 rfl rfl rfl rfl (by repeat (first | exact kl_nil | exact kl_rest (by assumption) rfl | (apply kl_in; focus rfl) | (apply kl_out; focus rfl))) ?_
            refine S_manyEq 900 ((mpL (clF r) e.fa.l (i + 1)).map frRow) rfl (rows_back hx1) ?_
            refine S_nil (nextK1 (kf := [(8, 10), (87, 125)]) (kl := [(0, 0), (2, 2), (8, 10), (87, 125), (900, 900), (908, 908), (935, 935), (939, 939)]) (i + 1) (by repeat (first | exact kf_nil | (apply kf_in; focus rfl) | (apply kf_out; focus rfl))) (by refine ks_go ?_; repeat (first | exact ks_nil | exact ks_tail (by assumption) rfl (by repeat (first | exact ti_refl | (apply ti_cons; focus rfl))) | refine ks_dup rfl ?_ | refine ks_cons rfl rfl ?_)) ?_ ?_ ?_ ?_)
            · omega
            · omega
            · exact ⟨rfl, trivial⟩
            · exact ⟨rfl, rfl, rfl, rfl, rfl, rfl, trivial⟩
      · try simp only [decide_eq_true_eq, decide_eq_false_iff_not, Bool.or_eq_true, Bool.or_eq_false_iff, Bool.and_eq_true, Bool.and_eq_false_iff, Bool.not_eq_true', Bool.not_eq_false', Bool.not_eq_true, Bool.not_eq_false, Bool.not_true, Bool.not_false, Int.not_lt, Int.not_le, not_or, not_and, Classical.not_not] at h88
        refine T_exit (fun a w hF hM => hRn a w (post0 rfl (fun w hM => ?_) a w hF hM))
        have hi : e.fa.l.length ≤ i := by omega
        rw [mpL_end hi, smT_end hi] at hM
        exact ⟨(), rfl, trivial, hM.keep (ks := [(0, 999)]) (by repeat (first | exact kl_rest (by assumption) rfl | (apply kl_in; focus rfl))) _ ⟨rfl, rfl, rfl, rfl, rfl, rfl, rfl, trivial⟩⟩
  · try simp only [decide_eq_true_eq, decide_eq_false_iff_not, Bool.or_eq_true, Bool.or_eq_false_iff, Bool.and_eq_true, Bool.and_eq_false_iff, Bool.not_eq_true', Bool.not_eq_false', Bool.not_eq_true, Bool.not_eq_false, Bool.not_true, Bool.not_false, Int.not_lt, Int.not_le, not_or, not_and, Classical.not_not] at h13
    refine T_seq ?_
    refine T_region ?_
    refine S_ 45 rfl rfl rfl _ (y_bin rfl rfl rfl (fun _ => b_eql)) ?_
    refine S_ 44 rfl rfl rfl _ (y_assign rfl rfl) ?_
    refine S_go (fun _ _ h => h) ?_
    refine T_cond rfl (fun h44 => ?_) (fun h44 => ?_)
    · try simp only [decide_eq_true_eq, decide_eq_false_iff_not, Bool.or_eq_true, Bool.or_eq_false_iff, Bool.and_eq_true, Bool.and_eq_false_iff, Bool.not_eq_true', Bool.not_eq_false', Bool.not_eq_true, Bool.not_eq_false, Bool.not_true, Bool.not_false, Int.not_lt, Int.not_le, not_or, not_and, Classical.not_not] at h44
      refine T_seq ?_
      refine T_region ?_
      refine S_ 46 rfl rfl rfl _ (y_move rfl rfl) ?_
      refine S_ 47 rfl rfl rfl _ (y_nilCheck rfl rfl) ?_
      refine S_ 48 rfl rfl rfl _ (y_fieldAddr rfl rfl fa29_5) ?_
      refine S_ 49 rfl rfl rfl _ (y_load 2 rfl rfl rfl rfl Tryz.underlying27 rfl) ?_
      refine S_ 50 rfl rfl rfl _ (y_len_slice rfl rfl Tryz.underlying27) ?_
      refine S_ 51 rfl rfl rfl _ (y_move rfl rfl) ?_
      refine S_go (fun _ _ h => h) ?_
      refine T_block ?_
      refine T_loopK1 (kf := [(7, 7), (51, 74)]) (kl := [(0, 0), (7, 7), (51, 74), (939, 939)]) (fun (i : Nat) => [(51, true, .int .i64 (i : Int))]) (fun (i : Nat) => [(0, clrBox b2 g cap (smT (cnC r) e.cr.l i : Nat)), (939, ownCr e.cr (mpL (clC r) e.cr.l i))]) (fun (i : Nat) => i ≤ e.cr.q) (fun (i : Nat) => e.cr.q - i) 0 (by repeat (first | exact kf_nil | (apply kf_in; focus rfl) | (apply kf_out; focus rfl))) (by repeat (first | exact kl_nil | exact kl_rest (by assumption) rfl | (apply kl_in; focus rfl) | (apply kl_out; focus rfl))) ?_ ?_ ?_ ?_
      · omega
      · exact ⟨rfl, trivial⟩
      · exact ⟨by rw [smT_0]; rfl, by rw [mpL_0]; rfl, trivial⟩
      rintro i hp1
      refine T_seq ?_
      refine T_region ?_
      refine S_ 52 rfl rfl rfl _ (y_bin rfl rfl rfl (fun _ => b_lss)) ?_
      refine S_go (fun _ _ h => h) ?_
      refine T_seq ?_
      refine T_cond rfl (fun h52 => ?_) (fun h52 => ?_)
      · try simp only [decide_eq_true_eq, decide_eq_false_iff_not, Bool.or_eq_true, Bool.or_eq_false_iff, Bool.and_eq_true, Bool.and_eq_false_iff, Bool.not_eq_true', Bool.not_eq_false', Bool.not_eq_true, Bool.not_eq_false, Bool.not_true, Bool.not_false, Int.not_lt, Int.not_le, not_or, not_and, Classical.not_not] at h52
        obtain ⟨x, hx1, hx2⟩ := at_lt (l := e.cr.l) (i := i) (by omega)
        have hxl := hl.cr x (mem_at hx1)
        have hmt := smT_le (k := cnC r) (i := i) (l := e.cr.l) (B := 5000) fun x hx => cnC_le (hl.cr x hx).2
        refine T_skip_go (fun _ _ h => h) ?_
        refine T_seq ?_
        refine T_block ?_
        refine T_seq ?_
        refine T_region ?_
        refine S_ 53 rfl rfl rfl _ (y_move rfl rfl) ?_
        refine S_ 7 rfl rfl rfl _ (y_assign rfl rfl) ?_
        refine S_go (fun _ _ h => h) ?_
        refine T_seq ?_
        refine T_draws (by kernel_rfl) (by kernel_rfl) ?_
        refine D_ 54 rfl rfl rfl _ (y_fieldAddr rfl rfl fa43_1) ?_
        refine D_ 55 rfl rfl rfl _ (y_load 3 rfl rfl rfl rfl Tryz.underlying9 rfl) ?_
        refine D_ 56 rfl rfl rfl _ (y_move rfl rfl) ?_
        refine D_ 57 rfl rfl rfl _ (y_nilCheck rfl rfl) ?_
        refine D_ 58 rfl rfl rfl _ (y_fieldAddr rfl rfl fa29_5) ?_
        refine D_ 59 rfl rfl rfl _ (y_load 2 rfl rfl rfl rfl Tryz.underlying27 rfl) ?_
        refine D_ 60 rfl rfl rfl _ (y_move rfl rfl) ?_
        refine D_ 61 rfl rfl rfl _ (y_indexOwn 939 rfl rfl rfl rfl Tryz.underlying27 sz107 (fun _ => by omega)) ?_
        refine D_ 62 rfl rfl rfl _ (y_fieldOwn 939 rfl rfl rfl (fun _ => by omega) fa107_1) ?_
        refine D_ 63 rfl rfl rfl _ (y_load_cellOwn 939 rfl rfl rfl (fun _ => by omega) (fun _ => flat_at (enc := SCrumb.enc) (size := 3) (fun _ => rfl) (mpL_at hx1) 1 (str x.k) rfl) Tryz.underlying9 rfl) ?_
        refine D_ 64 rfl rfl rfl _ (y_call rfl rfl rfl cf173 (fun _ w _ => Matches_any r.nm x.k w (by omega) hxl.1)) ?_
        refine D_go (fun _ _ h => h) ?_
        refine T_cond rfl (fun h64 => ?_) (fun h64 => ?_)
        · skip
          have hct : smT (cnC r) e.cr.l i + (fndR r x.t).length = smT (cnC r) e.cr.l (i + 1) := by rw [smT_next hx1, cnC, if_pos h64]
          have henc : SCrumb.enc (clC r x) = (SCrumb.enc x).set 2 (str (mk r x.t)) := by rw [clC, if_pos h64]; rfl
          refine T_region ?_
          refine S_ 65 rfl rfl rfl _ (y_move rfl rfl) ?_
          refine S_ 66 rfl rfl rfl _ (y_move rfl rfl) ?_
          refine S_ 67 rfl rfl rfl _ (y_nilCheck rfl rfl) ?_
          refine S_ 68 rfl rfl rfl _ (y_fieldAddr rfl rfl fa29_5) ?_
          refine S_ 69 rfl rfl rfl _ (y_load 2 rfl rfl rfl rfl Tryz.underlying27 rfl) ?_
          refine S_ 70 rfl rfl rfl _ (y_move rfl rfl) ?_
          refine S_ 71 rfl rfl rfl _ (y_indexOwn 939 rfl rfl rfl rfl Tryz.underlying27 sz107 (fun _ => by omega)) ?_
          refine S_ 72 rfl rfl rfl _ (y_as (v' := .pointer (some ⟨gC, i * 3 + 2, none⟩)) (by rw [hgC (by omega), at_one]) (y_fieldOwn 939 rfl rfl rfl (fun _ => by omega) fa107_2)) ?_
          refine S_rowBox 939 gC rfl (hgC (by omega)) ?_
          intro cur hcu hcl hck hcm
          refine S_callM 73 [(0, 0), (1, 1), (2, 939)] (X := Unit) rfl rfl rfl rfl rfl rfl rfl cf174 rfl (fun _ => .tuple #[]) (fun _ => True) (fun _ => [(0, clrBox b2 g cap (smT (cnC r) e.cr.l (i + 1) : Nat)), (1, rulBox b1 r), (2, .blk gC (IsBox (spl cur (i * 3 + 2) [str (mk r x.t)]) 107))]) (fun _ => rfl) (fun _ => rfl) (fun K1 hK1 w hM => clearN_any hK1 r b1 b2 gC (i * 3 + 2) g cap hg (smT (cnC r) e.cr.l i) _ cur _ x.t (conv_at (enc := SCrumb.enc) (fun _ => rfl) (mpL_at hx1) rfl hcu) hxl.2 (by omega) hct w hM) ?_
          intro _ _
          refine S_backRow 939 3 e.cr.q e.cr.c e.cr.A ((mpL (clC r) e.cr.l (i + 1)).flatMap SCrumb.enc) rfl (hgC (by omega)) (conv_set (enc := SCrumb.enc) (fun _ => rfl) (mpL_at hx1) (by decide) henc hcu (mpL_set hx1)) (by rw [spl1_len]; exact hcl) hck hcm ?_
          refine S_go (fun _ _ h => h) ?_
          refine T_region ?_
          refine S_ 74 rfl rfl rfl _ (y_bin rfl rfl rfl (fun hg => b_add (by omega))) ?_
          refine S_ 51 rfl rfl rfl _ (y_move rfl rfl) ?_
          refine S_nil (nextK1 (kf := [(7, 7), (51, 74)]) (kl := [(0, 0), (7, 7), (51, 74), (939, 939)]) (i + 1) (by repeat (first | exact kf_nil | (apply kf_in; focus rfl) | (apply kf_out; focus rfl))) (by refine ks_go ?_; repeat (first | exact ks_nil | exact ks_tail (by assumption) rfl (by repeat (first | exact ti_refl | (apply ti_cons; focus rfl))) | refine ks_dup rfl ?_ | refine ks_cons rfl rfl ?_)) ?_ ?_ ?_ ?_)
          · omega
          · omega
          · exact ⟨rfl, trivial⟩
          · exact ⟨rfl, rfl, trivial⟩
        · skip
          rw [← smT_same (k := cnC r) hx1 (by rw [cnC, if_neg (by simp [h64])]), ← mpL_same (f := clC r) hx1 (by rw [clC, if_neg (by simp [h64])])]
          refine T_skip_go (fun _ _ h => h) ?_
          refine T_region ?_
          refine S_ 74 rfl rfl rfl _ (y_bin rfl rfl rfl (fun hg => b_add (by omega))) ?_
          refine S_ 51 rfl rfl rfl _ (y_move rfl rfl) ?_
          refine S_nil (nextK1 (kf := [(7, 7), (51, 74)]) (kl := [(0, 0), (7, 7), (51, 74), (939, 939)]) (i + 1) (by repeat (first | exact kf_nil | (apply kf_in; focus rfl) | (apply kf_out; focus rfl))) (by refine ks_go ?_; repeat (first | exact ks_nil | exact ks_tail (by assumption) rfl (by repeat (first | exact ti_refl | (apply ti_cons; focus rfl))) | refine ks_dup rfl ?_ | refine ks_cons rfl rfl ?_)) ?_ ?_ ?_ ?_)
          · omega
          · omega
          · exact ⟨rfl, trivial⟩
          · exact ⟨rfl, rfl, trivial⟩
      · try simp only [decide_eq_true_eq, decide_eq_false_iff_not, Bool.or_eq_true, Bool.or_eq_false_iff, Bool.and_eq_true, Bool.and_eq_false_iff, Bool.not_eq_true', Bool.not_eq_false', Bool.not_eq_true, Bool.not_eq_false, Bool.not_true, Bool.not_false, Int.not_lt, Int.not_le, not_or, not_and, Classical.not_not] at h52
        have hta : mpL (clC r) e.cr.l i = crR r e := by rw [mpL_end (by omega), crR, if_pos h44]
        have hm1 : m0R r e = smT (cnC r) e.cr.l i := by rw [m0R, if_neg (by omega), if_pos h44, smT_end (by omega)]
        refine T_exit_go (fun _ _ h => h) ?_
        refine T_seq ?_
        refine T_region ?_
        refine S_ 82 rfl rfl rfl _ (y_move rfl rfl) ?_
        refine S_ 83 rfl rfl rfl _ (y_nilCheck rfl rfl) ?_
        refine S_ 84 rfl rfl rfl _ (y_fieldAddr rfl rfl fa29_3) ?_
        refine S_ 85 rfl rfl rfl _ (y_load 2 rfl rfl rfl rfl Tryz.underlying25 rfl) ?_
        refine S_ 86 rfl rfl rfl _ (y_len_slice rfl rfl Tryz.underlying25) ?_
        refine S_ 87 rfl rfl rfl _ (y_move rfl rfl) ?_
        refine S_go (fun _ _ h => h) ?_
        refine T_block ?_
        refine T_loopK1 (kf := [(8, 10), (87, 125)]) (kl := [(0, 0), (2, 2), (8, 10), (87, 125), (900, 900), (908, 908), (935, 935), (939, 939)]) (fun (i : Nat) => [(87, true, .int .i64 (i : Int))]) (fun (i : Nat) => [(0, clrBox b2 g cap (m0R r e + smT (cnF r) e.fa.l i : Nat)), (2, .blk be (IsBox [str e.id, .int .i64 e.at_, .int .i64 e.lv, .slice e.fa.A e.fa.q e.fa.c, .slice e.ta.A e.ta.q e.ta.c, .slice e.cr.A e.cr.q e.cr.c, str e.rel, str (usR r e), .int .i64 e.wt] 29)), (908, ownFa e.fa (mpL (clF r) e.fa.l i)), (900, .many ((mpL (clF r) e.fa.l i).map frRow)), (935, ownTa e.ta (taR r e)), (939, ownCr e.cr (crR r e))]) (fun (i : Nat) => i ≤ e.fa.q) (fun (i : Nat) => e.fa.q - i) 0 (by repeat (first | exact kf_nil | (apply kf_in; focus rfl) | (apply kf_out; focus rfl))) (by repeat (first | exact kl_nil | exact kl_rest (by assumption) rfl | (apply kl_in; focus rfl) | (apply kl_out; focus rfl))) ?_ ?_ ?_ ?_
        · omega
        · exact ⟨rfl, trivial⟩
        · exact ⟨by rw [smT_0, Nat.add_zero, hm1]; rfl, by rw [usR, if_neg (by omega)]; rfl, by rw [mpL_0]; rfl, by rw [mpL_0]; rfl, by rw [taR, if_neg (by omega)]; rfl, by rw [← hta]; rfl, trivial⟩
        rintro i hq1
        refine T_seq ?_
        refine T_region ?_
        refine S_ 88 rfl rfl rfl _ (y_bin rfl rfl rfl (fun _ => b_lss)) ?_
        refine S_go (fun _ _ h => h) ?_
        refine T_seq ?_
        refine T_cond rfl (fun h88 => ?_) (fun h88 => ?_)
        · try simp only [decide_eq_true_eq, decide_eq_false_iff_not, Bool.or_eq_true, Bool.or_eq_false_iff, Bool.and_eq_true, Bool.and_eq_false_iff, Bool.not_eq_true', Bool.not_eq_false', Bool.not_eq_true, Bool.not_eq_false, Bool.not_true, Bool.not_false, Int.not_lt, Int.not_le, not_or, not_and, Classical.not_not] at h88
          obtain ⟨x, hx1, hx2⟩ := at_lt (l := e.fa.l) (i := i) (by omega)
          have hxl := hl.fa x (mem_at hx1)
          have hsi := smF_le (r := r) hl i
          have hcx := cnX_le (r := r) hxl.1
          obtain ⟨gR, hgR⟩ := hfr x (mem_at hx1)
          refine T_unbank 900 961 (rsWo (mpL (clF r) e.fa.l i) i) rfl rfl (.inr (List.mem_map.2 ⟨x, mem_at (mpL_at hx1), rfl⟩)) rsWo_sub (rsWo_dis hd.mp (mpL_at hx1)) ?_
          refine T_skip_go (fun _ _ h => h) ?_
          refine T_seq ?_
          refine T_block ?_
          refine T_seq ?_
          refine T_region ?_
          refine S_ 89 rfl rfl rfl _ (y_move rfl rfl) ?_
          refine S_ 8 rfl rfl rfl _ (y_assign rfl rfl) ?_
          refine S_go (fun _ _ h => h) ?_
          refine T_seq ?_
          refine T_region ?_
          refine S_ 90 rfl rfl rfl _ (y_move rfl rfl) ?_
          refine S_ 91 rfl rfl rfl _ (y_nilCheck rfl rfl) ?_
          refine S_ 92 rfl rfl rfl _ (y_fieldAddr rfl rfl fa29_3) ?_
          refine S_ 93 rfl rfl rfl _ (y_load 2 rfl rfl rfl rfl Tryz.underlying25 rfl) ?_
          refine S_ 94 rfl rfl rfl _ (y_move rfl rfl) ?_
          refine S_ 95 rfl rfl rfl _ (y_indexOwn 908 rfl rfl rfl rfl Tryz.underlying25 sz50 (fun _ => by omega)) ?_
          refine S_ 9 rfl rfl rfl _ (y_assign rfl rfl) ?_
          refine S_go (fun _ _ h => h) ?_
          refine T_seq ?_
          refine T_seq ?_
          refine T_region ?_
          refine S_ 96 rfl rfl rfl _ (y_fieldAddr rfl rfl fa43_0) ?_
          refine S_ 97 rfl rfl rfl _ (y_load 3 rfl rfl rfl rfl Tryz.underlying3 rfl) ?_
          refine S_ 98 rfl rfl rfl _ (y_bin rfl rfl rfl (fun _ => b_eql)) ?_
          refine S_go (fun _ _ h => h) ?_
          refine T_cond rfl (fun h98 => ?_) (fun h98 => ?_)
          · try simp only [decide_eq_true_eq, decide_eq_false_iff_not, Bool.or_eq_true, Bool.or_eq_false_iff, Bool.and_eq_true, Bool.and_eq_false_iff, Bool.not_eq_true', Bool.not_eq_false', Bool.not_eq_true, Bool.not_eq_false, Bool.not_true, Bool.not_false, Int.not_lt, Int.not_le, not_or, not_and, Classical.not_not] at h98
            refine T_region ?_
            refine S_ 99 rfl rfl rfl _ (y_move rfl rfl) ?_
            refine S_ 100 rfl rfl rfl _ (y_move rfl rfl) ?_
            refine S_ 101 rfl rfl rfl _ (y_nilCheckOwn 908 rfl rfl rfl (fun _ => by omega)) ?_
            refine S_ 102 rfl rfl rfl _ (y_as (v' := .pointer (some ⟨gF, i * 3 + 1, none⟩)) (by rw [hgF (by omega), at_one]) (y_fieldOwn 908 rfl rfl rfl (fun _ => by omega) fa50_1)) ?_
            refine S_rowBox 908 gF rfl (hgF (by omega)) ?_
            intro cur hcu hcl hck hcm
            refine S_callM 103 [(0, 0), (1, 1), (2, 908)] (X := Unit) rfl rfl rfl rfl rfl rfl rfl cf174 rfl (fun _ => .tuple #[]) (fun _ => True) (fun _ => [(0, clrBox b2 g cap (m0R r e + smT (cnF r) e.fa.l i + cnX r x : Nat)), (1, rulBox b1 r), (2, .blk gF (IsBox (spl cur (i * 3 + 1) [str (mk r x.t)]) 50))]) (fun _ => rfl) (fun _ => rfl) (fun K1 hK1 w hM => clearN_any hK1 r b1 b2 gF (i * 3 + 1) g cap hg (m0R r e + smT (cnF r) e.fa.l i) _ cur _ x.t (conv_at (enc := Flt.enc) (fun _ => rfl) (mpL_at hx1) rfl hcu) hxl.1 (by omega) (by rw [cnX, if_pos h98]) w hM) ?_
            intro _ _
            refine S_backRow 908 3 e.fa.q e.fa.c e.fa.A ((mpL (clF r) e.fa.l (i + 1)).flatMap Flt.enc) rfl (hgF (by omega)) (conv_set (enc := Flt.enc) (fun _ => rfl) (mpL_at hx1) (by decide) (by rw [clF, if_pos h98]; rfl) hcu (mpL_set hx1)) (by rw [spl1_len]; exact hcl) hck hcm ?_
            refine S_go (fun _ _ h => h) ?_
            refine T_seq ?_
            refine T_region ?_
            refine S_ 104 rfl rfl rfl _ (y_move rfl rfl) ?_
            refine S_ 105 rfl rfl rfl _ (y_nilCheckOwn 908 rfl rfl rfl (fun _ => by omega)) ?_
            refine S_ 106 rfl rfl rfl _ (y_fieldOwn 908 rfl rfl rfl (fun _ => by omega) fa50_2) ?_
            refine S_ 107 rfl rfl rfl _ (y_load_cellOwn 908 rfl rfl rfl (fun _ => by omega) (fun _ => flat_at (enc := Flt.enc) (size := 3) (fun _ => rfl) (mpL_at1 hx1) 2 (.slice x.fr.A x.fr.q x.fr.c) rfl) Tryz.underlying48 rfl) ?_
            refine S_ 108 rfl rfl rfl _ (y_len_slice rfl rfl Tryz.underlying48) ?_
            refine S_ 109 rfl rfl rfl _ (y_move rfl rfl) ?_
            refine S_go (fun _ _ h => h) ?_
            refine T_block ?_
            refine T_loopK1 (kf := [(10, 10), (109, 124)]) (kl := [(0, 0), (10, 10), (109, 124), (908, 908), (961, 961)]) (fun (j : Nat) => [(109, true, .int .i64 (j : Int))]) (fun (j : Nat) => [(0, clrBox b2 g cap (m0R r e + smT (cnF r) e.fa.l i + cnX r x + cnL r x.fr.l j : Nat)), (961, ownFr x.fr (frL r x.fr.l j)), (908, ownFa e.fa (mpL (clF r) e.fa.l (i + 1)))]) (fun (j : Nat) => j ≤ x.fr.q) (fun (j : Nat) => x.fr.q - j) 0 (by repeat (first | exact kf_nil | (apply kf_in; focus rfl) | (apply kf_out; focus rfl))) (by repeat (first | exact kl_nil | exact kl_rest (by assumption) rfl | (apply kl_in; focus rfl) | (apply kl_out; focus rfl))) ?_ ?_ ?_ ?_
            · omega
            · exact ⟨rfl, trivial⟩
            · exact ⟨by rw [cnL_0]; rfl, by rw [frL_0]; rfl, rfl, trivial⟩
            rintro j hr1
            refine T_seq ?_
            refine T_region ?_
            refine S_ 110 rfl rfl rfl _ (y_bin rfl rfl rfl (fun _ => b_lss)) ?_
            refine S_go (fun _ _ h => h) ?_
            refine T_seq ?_
            refine T_cond rfl (fun h110 => ?_) (fun h110 => ?_)
            · try simp only [decide_eq_true_eq, decide_eq_false_iff_not, Bool.or_eq_true, Bool.or_eq_false_iff, Bool.and_eq_true, Bool.and_eq_false_iff, Bool.not_eq_true', Bool.not_eq_false', Bool.not_eq_true, Bool.not_eq_false, Bool.not_true, Bool.not_false, Int.not_lt, Int.not_le, not_or, not_and, Classical.not_not] at h110
              obtain ⟨y, hy1, hy2⟩ := at_lt (l := x.fr.l) (i := j) (by omega)
              have hyl := hxl.2.2.2 y (mem_at hy1)
              have hcj := cnL_le (r := r) (j := j) hxl.2.2.2
              refine T_skip_go (fun _ _ h => h) ?_
              refine T_seq ?_
              refine T_block ?_
              refine T_seq ?_
              refine T_region ?_
              refine S_ 111 rfl rfl rfl _ (y_move rfl rfl) ?_
              refine S_ 10 rfl rfl rfl _ (y_assign rfl rfl) ?_
              refine S_go (fun _ _ h => h) ?_
              refine T_seq ?_
              refine T_region ?_
              refine S_ 112 rfl rfl rfl _ (y_fieldAddr rfl rfl fa43_0) ?_
              refine S_ 113 rfl rfl rfl _ (y_load 3 rfl rfl rfl rfl Tryz.underlying3 rfl) ?_
              refine S_ 114 rfl rfl rfl _ (y_bin rfl rfl rfl (fun _ => b_eql)) ?_
              refine S_go (fun _ _ h => h) ?_
              refine T_cond rfl (fun h114 => ?_) (fun h114 => ?_)
              · try simp only [decide_eq_true_eq, decide_eq_false_iff_not, Bool.or_eq_true, Bool.or_eq_false_iff, Bool.and_eq_true, Bool.and_eq_false_iff, Bool.not_eq_true', Bool.not_eq_false', Bool.not_eq_true, Bool.not_eq_false, Bool.not_true, Bool.not_false, Int.not_lt, Int.not_le, not_or, not_and, Classical.not_not] at h114
                have hct : m0R r e + smT (cnF r) e.fa.l i + cnX r x + cnL r x.fr.l j + (fndR r y.fi).length = m0R r e + smT (cnF r) e.fa.l i + cnX r x + cnL r x.fr.l (j + 1) := by rw [cnL_next h114 hy1]; unfold cnM; omega
                refine T_region ?_
                refine S_ 115 rfl rfl rfl _ (y_move rfl rfl) ?_
                refine S_ 116 rfl rfl rfl _ (y_move rfl rfl) ?_
                refine S_ 117 rfl rfl rfl _ (y_nilCheckOwn 908 rfl rfl rfl (fun _ => by omega)) ?_
                refine S_ 118 rfl rfl rfl _ (y_fieldOwn 908 rfl rfl rfl (fun _ => by omega) fa50_2) ?_
                refine S_ 119 rfl rfl rfl _ (y_load_cellOwn 908 rfl rfl rfl (fun _ => by omega) (fun _ => flat_at (enc := Flt.enc) (size := 3) (fun _ => rfl) (mpL_at1 hx1) 2 (.slice x.fr.A x.fr.q x.fr.c) rfl) Tryz.underlying48 rfl) ?_
                refine S_ 120 rfl rfl rfl _ (y_move rfl rfl) ?_
                refine S_ 121 rfl rfl rfl _ (y_indexOwn 961 rfl rfl rfl rfl Tryz.underlying48 sz116 (fun _ => by omega)) ?_
                refine S_ 122 rfl rfl rfl _ (y_as (v' := .pointer (some ⟨gR, j * 6 + 2, none⟩)) (by rw [hgR (by omega), at_one]) (y_fieldOwn 961 rfl rfl rfl (fun _ => by omega) fa116_2)) ?_
                refine S_rowBox 961 gR rfl (hgR (by omega)) ?_
                intro cur hcu hcl hck hcm
                refine S_callM 123 [(0, 0), (1, 1), (2, 961)] (X := Unit) rfl rfl rfl rfl rfl rfl rfl cf174 rfl (fun _ => .tuple #[]) (fun _ => True) (fun _ => [(0, clrBox b2 g cap (m0R r e + smT (cnF r) e.fa.l i + cnX r x + cnL r x.fr.l (j + 1) : Nat)), (1, rulBox b1 r), (2, .blk gR (IsBox (spl cur (j * 6 + 2) [str (mk r y.fi)]) 116))]) (fun _ => rfl) (fun _ => rfl) (fun K1 hK1 w hM => clearN_any hK1 r b1 b2 gR (j * 6 + 2) g cap hg (m0R r e + smT (cnF r) e.fa.l i + cnX r x + cnL r x.fr.l j) _ cur _ y.fi (conv_at (enc := Frm.enc) (fun _ => rfl) (frL_at h114 hy1) rfl hcu) hyl (by omega) hct w hM) ?_
                intro _ _
                refine S_backRow 961 6 x.fr.q x.fr.c x.fr.A ((frL r x.fr.l (j + 1)).flatMap Frm.enc) rfl (hgR (by omega)) (conv_set (enc := Frm.enc) (fun _ => rfl) (frL_at h114 hy1) (by decide) (x' := clM r y) rfl hcu (frL_set h114 hy1)) (by rw [spl1_len]; exact hcl) hck hcm ?_
                refine S_go (fun _ _ h => h) ?_
                refine T_region ?_
                refine S_ 124 rfl rfl rfl _ (y_bin rfl rfl rfl (fun hg => b_add (by omega))) ?_
                refine S_ 109 rfl rfl rfl _ (y_move rfl rfl) ?_
                refine S_nil (nextK1 (kf := [(10, 10), (109, 124)]) (kl := [(0, 0), (10, 10), (109, 124), (908, 908), (961, 961)]) (j + 1) (by repeat (first | exact kf_nil | (apply kf_in; focus rfl) | (apply kf_out; focus rfl))) (by refine ks_go ?_; repeat (first | exact ks_nil | exact ks_tail (by assumption) rfl (by repeat (first | exact ti_refl | (apply ti_cons; focus rfl))) | refine ks_dup rfl ?_ | refine ks_cons rfl rfl ?_)) ?_ ?_ ?_ ?_)
                · omega
                · omega
                · exact ⟨rfl, trivial⟩
                · exact ⟨rfl, rfl, rfl, trivial⟩
              · try simp only [decide_eq_true_eq, decide_eq_false_iff_not, Bool.or_eq_true, Bool.or_eq_false_iff, Bool.and_eq_true, Bool.and_eq_false_iff, Bool.not_eq_true', Bool.not_eq_false', Bool.not_eq_true, Bool.not_eq_false, Bool.not_true, Bool.not_false, Int.not_lt, Int.not_le, not_or, not_and, Classical.not_not] at h114
                rw [← frL_no (j := j) h114, ← cnL_no (j := j) h114]
                refine T_skip_go (fun _ _ h => h) ?_
                refine T_region ?_
                refine S_ 124 rfl rfl rfl _ (y_bin rfl rfl rfl (fun hg => b_add (by omega))) ?_
                refine S_ 109 rfl rfl rfl _ (y_move rfl rfl) ?_
                refine S_nil (nextK1 (kf := [(10, 10), (109, 124)]) (kl := [(0, 0), (10, 10), (109, 124), (908, 908), (961, 961)]) (j + 1) (by repeat (first | exact kf_nil | (apply kf_in; focus rfl) | (apply kf_out; focus rfl))) (by refine ks_go ?_; repeat (first | exact ks_nil | exact ks_tail (by assumption) rfl (by repeat (first | exact ti_refl | (apply ti_cons; focus rfl))) | refine ks_dup rfl ?_ | refine ks_cons rfl rfl ?_)) ?_ ?_ ?_ ?_)
                · omega
                · omega
                · exact ⟨rfl, trivial⟩
                · exact ⟨rfl, rfl, rfl, trivial⟩
            · try simp only [decide_eq_true_eq, decide_eq_false_iff_not, Bool.or_eq_true, Bool.or_eq_false_iff, Bool.and_eq_true, Bool.and_eq_false_iff, Bool.not_eq_true', Bool.not_eq_false', Bool.not_eq_true, Bool.not_eq_false, Bool.not_true, Bool.not_false, Int.not_lt, Int.not_le, not_or, not_and, Classical.not_not] at h110
              rw [show frL r x.fr.l j = (clF r x).fr.l from frL_end (by omega), show m0R r e + smT (cnF r) e.fa.l i + cnX r x + cnL r x.fr.l j = m0R r e + smT (cnF r) e.fa.l (i + 1) by rw [smT_next hx1, cnF, cnL_end (by omega)]; omega]
              refine T_exit_go (fun _ _ h => h) ?_
              refine T_region ?_
              refine S_ 125 rfl rfl rfl _ (y_bin rfl rfl rfl (fun hg => b_add (by omega))) ?_
              refine S_ 87 rfl rfl rfl _ (y_move rfl rfl) ?_
              refine S_bank [(961, 961), (900, 900)] 900 961 rfl rfl rfl rfl (by repeat (first | exact kl_nil | exact kl_rest (by assumption) rfl | (apply kl_in; focus rfl) | (apply kl_out; focus rfl))) ?_
              refine S_manyEq 900 ((mpL (clF r) e.fa.l (i + 1)).map frRow) rfl (rows_back hx1) ?_
              refine S_nil (nextK1 (kf := [(8, 10), (87, 125)]) (kl := [(0, 0), (2, 2), (8, 10), (87, 125), (900, 900), (908, 908), (935, 935), (939, 939)]) (i + 1) (by repeat (first | exact kf_nil | (apply kf_in; focus rfl) | (apply kf_out; focus rfl))) (by refine ks_go ?_; repeat (first | exact ks_nil | exact ks_tail (by assumption) rfl (by repeat (first | exact ti_refl | (apply ti_cons; focus rfl))) | refine ks_dup rfl ?_ | refine ks_cons rfl rfl ?_)) ?_ ?_ ?_ ?_)
              · omega
              · omega
              · exact ⟨rfl, trivial⟩
              · exact ⟨rfl, rfl, rfl, rfl, rfl, rfl, trivial⟩
          · try simp only [decide_eq_true_eq, decide_eq_false_iff_not, Bool.or_eq_true, Bool.or_eq_false_iff, Bool.and_eq_true, Bool.and_eq_false_iff, Bool.not_eq_true', Bool.not_eq_false', Bool.not_eq_true, Bool.not_eq_false, Bool.not_true, Bool.not_false, Int.not_lt, Int.not_le, not_or, not_and, Classical.not_not] at h98
            refine T_skip_go (fun _ _ h => h) ?_
            refine T_seq ?_
            refine T_region ?_
            refine S_ 104 rfl rfl rfl _ (y_move rfl rfl) ?_
            refine S_ 105 rfl rfl rfl _ (y_nilCheckOwn 908 rfl rfl rfl (fun _ => by omega)) ?_
            refine S_ 106 rfl rfl rfl _ (y_fieldOwn 908 rfl rfl rfl (fun _ => by omega) fa50_2) ?_
            refine S_ 107 rfl rfl rfl _ (y_load_cellOwn 908 rfl rfl rfl (fun _ => by omega) (fun _ => flat_at (enc := Flt.enc) (size := 3) (fun _ => rfl) (mpL_at hx1) 2 (.slice x.fr.A x.fr.q x.fr.c) rfl) Tryz.underlying48 rfl) ?_
            refine S_ 108 rfl rfl rfl _ (y_len_slice rfl rfl Tryz.underlying48) ?_
            refine S_ 109 rfl rfl rfl _ (y_move rfl rfl) ?_
            refine S_go (fun _ _ h => h) ?_
            refine T_block ?_
            refine T_loopK1 (kf := [(10, 10), (109, 124)]) (kl := [(0, 0), (10, 10), (109, 124), (908, 908), (961, 961)]) (fun (j : Nat) => [(109, true, .int .i64 (j : Int))]) (fun (j : Nat) => [(0, clrBox b2 g cap (m0R r e + smT (cnF r) e.fa.l i + cnX r x + cnL r x.fr.l j : Nat)), (961, ownFr x.fr (frL r x.fr.l j)), (908, ownFa e.fa (mpL (clF r) e.fa.l (i + 1)))]) (fun (j : Nat) => j ≤ x.fr.q) (fun (j : Nat) => x.fr.q - j) 0 (by repeat (first | exact kf_nil | (apply kf_in; focus rfl) | (apply kf_out; focus rfl))) (by repeat (first | exact kl_nil | exact kl_rest (by assumption) rfl | (apply kl_in; focus rfl) | (apply kl_out; focus rfl))) ?_ ?_ ?_ ?_
            · omega
            · exact ⟨rfl, trivial⟩
            · exact ⟨by rw [cnL_0, cnX, if_neg h98]; rfl, by rw [frL_0]; rfl, by rw [ownFa_head hx1 h98]; rfl, trivial⟩
            rintro j hr1
            refine T_seq ?_
            refine T_region ?_
            refine S_ 110 rfl rfl rfl _ (y_bin rfl rfl rfl (fun _ => b_lss)) ?_
            refine S_go (fun _ _ h => h) ?_
            refine T_seq ?_
            refine T_cond rfl (fun h110 => ?_) (fun h110 => ?_)
            · try simp only [decide_eq_true_eq, decide_eq_false_iff_not, Bool.or_eq_true, Bool.or_eq_false_iff, Bool.and_eq_true, Bool.and_eq_false_iff, Bool.not_eq_true', Bool.not_eq_false', Bool.not_eq_true, Bool.not_eq_false, Bool.not_true, Bool.not_false, Int.not_lt, Int.not_le, not_or, not_and, Classical.not_not] at h110
              obtain ⟨y, hy1, hy2⟩ := at_lt (l := x.fr.l) (i := j) (by omega)
              have hyl := hxl.2.2.2 y (mem_at hy1)
              have hcj := cnL_le (r := r) (j := j) hxl.2.2.2
              refine T_skip_go (fun _ _ h => h) ?_
              refine T_seq ?_
              refine T_block ?_
              refine T_seq ?_
              refine T_region ?_
              refine S_ 111 rfl rfl rfl _ (y_move rfl rfl) ?_
              refine S_ 10 rfl rfl rfl _ (y_assign rfl rfl) ?_
              refine S_go (fun _ _ h => h) ?_
              refine T_seq ?_
              refine T_region ?_
              refine S_ 112 rfl rfl rfl _ (y_fieldAddr rfl rfl fa43_0) ?_
              refine S_ 113 rfl rfl rfl _ (y_load 3 rfl rfl rfl rfl Tryz.underlying3 rfl) ?_
              refine S_ 114 rfl rfl rfl _ (y_bin rfl rfl rfl (fun _ => b_eql)) ?_
              refine S_go (fun _ _ h => h) ?_
              refine T_cond rfl (fun h114 => ?_) (fun h114 => ?_)
              · try simp only [decide_eq_true_eq, decide_eq_false_iff_not, Bool.or_eq_true, Bool.or_eq_false_iff, Bool.and_eq_true, Bool.and_eq_false_iff, Bool.not_eq_true', Bool.not_eq_false', Bool.not_eq_true, Bool.not_eq_false, Bool.not_true, Bool.not_false, Int.not_lt, Int.not_le, not_or, not_and, Classical.not_not] at h114
                have hct : m0R r e + smT (cnF r) e.fa.l i + cnX r x + cnL r x.fr.l j + (fndR r y.fi).length = m0R r e + smT (cnF r) e.fa.l i + cnX r x + cnL r x.fr.l (j + 1) := by rw [cnL_next h114 hy1]; unfold cnM; omega
                refine T_region ?_
                refine S_ 115 rfl rfl rfl _ (y_move rfl rfl) ?_
                refine S_ 116 rfl rfl rfl _ (y_move rfl rfl) ?_
                refine S_ 117 rfl rfl rfl _ (y_nilCheckOwn 908 rfl rfl rfl (fun _ => by omega)) ?_
                refine S_ 118 rfl rfl rfl _ (y_fieldOwn 908 rfl rfl rfl (fun _ => by omega) fa50_2) ?_
                refine S_ 119 rfl rfl rfl _ (y_load_cellOwn 908 rfl rfl rfl (fun _ => by omega) (fun _ => flat_at (enc := Flt.enc) (size := 3) (fun _ => rfl) (mpL_at1 hx1) 2 (.slice x.fr.A x.fr.q x.fr.c) rfl) Tryz.underlying48 rfl) ?_
                refine S_ 120 rfl rfl rfl _ (y_move rfl rfl) ?_
                refine S_ 121 rfl rfl rfl _ (y_indexOwn 961 rfl rfl rfl rfl Tryz.underlying48 sz116 (fun _ => by omega)) ?_
                refine S_ 122 rfl rfl rfl _ (y_as (v' := .pointer (some ⟨gR, j * 6 + 2, none⟩)) (by rw [hgR (by omega), at_one]) (y_fieldOwn 961 rfl rfl rfl (fun _ => by omega) fa116_2)) ?_
                refine S_rowBox 961 gR rfl (hgR (by omega)) ?_
                intro cur hcu hcl hck hcm
                refine S_callM 123 [(0, 0), (1, 1), (2, 961)] (X := Unit) rfl rfl rfl rfl rfl rfl rfl cf174 rfl (fun _ => .tuple #[]) (fun _ => True) (fun _ => [(0, clrBox b2 g cap (m0R r e + smT (cnF r) e.fa.l i + cnX r x + cnL r x.fr.l (j + 1) : Nat)), (1, rulBox b1 r), (2, .blk gR (IsBox (spl cur (j * 6 + 2) [str (mk r y.fi)]) 116))]) (fun _ => rfl) (fun _ => rfl) (fun K1 hK1 w hM => clearN_any hK1 r b1 b2 gR (j * 6 + 2) g cap hg (m0R r e + smT (cnF r) e.fa.l i + cnX r x + cnL r x.fr.l j) _ cur _ y.fi (conv_at (enc := Frm.enc) (fun _ => rfl) (frL_at h114 hy1) rfl hcu) hyl (by omega) hct w hM) ?_
                intro _ _
                refine S_backRow 961 6 x.fr.q x.fr.c x.fr.A ((frL r x.fr.l (j + 1)).flatMap Frm.enc) rfl (hgR (by omega)) (conv_set (enc := Frm.enc) (fun _ => rfl) (frL_at h114 hy1) (by decide) (x' := clM r y) rfl hcu (frL_set h114 hy1)) (by rw [spl1_len]; exact hcl) hck hcm ?_
                refine S_go (fun _ _ h => h) ?_
                refine T_region ?_
                refine S_ 124 rfl rfl rfl _ (y_bin rfl rfl rfl (fun hg => b_add (by omega))) ?_
                refine S_ 109 rfl rfl rfl _ (y_move rfl rfl) ?_
                refine S_nil (nextK1 (kf := [(10, 10), (109, 124)]) (kl := [(0, 0), (10, 10), (109, 124), (908, 908), (961, 961)]) (j + 1) (by repeat (first | exact kf_nil | (apply kf_in; focus rfl) | (apply kf_out; focus rfl))) (by refine ks_go ?_; repeat (first | exact ks_nil | exact ks_tail (by assumption) rfl (by repeat (first | exact ti_refl | (apply ti_cons; focus rfl))) | refine ks_dup rfl ?_ | refine ks_cons rfl rfl ?_)) ?_ ?_ ?_ ?_)
                · omega
                · omega
                · exact ⟨rfl, trivial⟩
                · exact ⟨rfl, rfl, rfl, trivial⟩
              · try simp only [decide_eq_true_eq, decide_eq_false_iff_not, Bool.or_eq_true, Bool.or_eq_false_iff, Bool.and_eq_true, Bool.and_eq_false_iff, Bool.not_eq_true', Bool.not_eq_false', Bool.not_eq_true, Bool.not_eq_false, Bool.not_true, Bool.not_false, Int.not_lt, Int.not_le, not_or, not_and, Classical.not_not] at h114
                rw [← frL_no (j := j) h114, ← cnL_no (j := j) h114]
                refine T_skip_go (fun _ _ h => h) ?_
                refine T_region ?_
                refine S_ 124 rfl rfl rfl _ (y_bin rfl rfl rfl (fun hg => b_add (by omega))) ?_
                refine S_ 109 rfl rfl rfl _ (y_move rfl rfl) ?_
                refine S_nil (nextK1 (kf := [(10, 10), (109, 124)]) (kl := [(0, 0), (10, 10), (109, 124), (908, 908), (961, 961)]) (j + 1) (by repeat (first | exact kf_nil | (apply kf_in; focus rfl) | (apply kf_out; focus rfl))) (by refine ks_go ?_; repeat (first | exact ks_nil | exact ks_tail (by assumption) rfl (by repeat (first | exact ti_refl | (apply ti_cons; focus rfl))) | refine ks_dup rfl ?_ | refine ks_cons rfl rfl ?_)) ?_ ?_ ?_ ?_)
                · omega
                · omega
                · exact ⟨rfl, trivial⟩
                · exact ⟨rfl, rfl, rfl, trivial⟩
            · try simp only [decide_eq_true_eq, decide_eq_false_iff_not, Bool.or_eq_true, Bool.or_eq_false_iff, Bool.and_eq_true, Bool.and_eq_false_iff, Bool.not_eq_true', Bool.not_eq_false', Bool.not_eq_true, Bool.not_eq_false, Bool.not_true, Bool.not_false, Int.not_lt, Int.not_le, not_or, not_and, Classical.not_not] at h110
              rw [show frL r x.fr.l j = (clF r x).fr.l from frL_end (by omega), show m0R r e + smT (cnF r) e.fa.l i + cnX r x + cnL r x.fr.l j = m0R r e + smT (cnF r) e.fa.l (i + 1) by rw [smT_next hx1, cnF, cnL_end (by omega)]; omega]
              refine T_exit_go (fun _ _ h => h) ?_
              refine T_region ?_
              refine S_ 125 rfl rfl rfl _ (y_bin rfl rfl rfl (fun hg => b_add (by omega))) ?_
              refine S_ 87 rfl rfl rfl _ (y_move rfl rfl) ?_
              refine S_bank [(961, 961), (900, 900)] 900 961 rfl rfl rfl rfl (by repeat (first | exact kl_nil | exact kl_rest (by assumption) rfl | (apply kl_in; focus rfl) | (apply kl_out; focus rfl))) ?_
              refine S_manyEq 900 ((mpL (clF r) e.fa.l (i + 1)).map frRow) rfl (rows_back hx1) ?_
              refine S_nil (nextK1 (kf := [(8, 10), (87, 125)]) (kl := [(0, 0), (2, 2), (8, 10), (87, 125), (900, 900), (908, 908), (935, 935), (939, 939)]) (i + 1) (by repeat (first | exact kf_nil | (apply kf_in; focus rfl) | (apply kf_out; focus rfl))) (by refine ks_go ?_; repeat (first | exact ks_nil | exact ks_tail (by assumption) rfl (by repeat (first | exact ti_refl | (apply ti_cons; focus rfl))) | refine ks_dup rfl ?_ | refine ks_cons rfl rfl ?_)) ?_ ?_ ?_ ?_)
              · omega
              · omega
              · exact ⟨rfl, trivial⟩
              · exact ⟨rfl, rfl, rfl, rfl, rfl, rfl, trivial⟩
        · try simp only [decide_eq_true_eq, decide_eq_false_iff_not, Bool.or_eq_true, Bool.or_eq_false_iff, Bool.and_eq_true, Bool.and_eq_false_iff, Bool.not_eq_true', Bool.not_eq_false', Bool.not_eq_true, Bool.not_eq_false, Bool.not_true, Bool.not_false, Int.not_lt, Int.not_le, not_or, not_and, Classical.not_not] at h88
          refine T_exit (fun a w hF hM => hRn a w (post0 rfl (fun w hM => ?_) a w hF hM))
          have hi : e.fa.l.length ≤ i := by omega
          rw [mpL_end hi, smT_end hi] at hM
          exact ⟨(), rfl, trivial, hM.keep (ks := [(0, 999)]) (by repeat (first | exact kl_rest (by assumption) rfl | (apply kl_in; focus rfl))) _ ⟨rfl, rfl, rfl, rfl, rfl, rfl, rfl, trivial⟩⟩
    · try simp only [decide_eq_true_eq, decide_eq_false_iff_not, Bool.or_eq_true, Bool.or_eq_false_iff, Bool.and_eq_true, Bool.and_eq_false_iff, Bool.not_eq_true', Bool.not_eq_false', Bool.not_eq_true, Bool.not_eq_false, Bool.not_true, Bool.not_false, Int.not_lt, Int.not_le, not_or, not_and, Classical.not_not] at h44
      refine T_seq ?_
      refine T_region ?_
      refine S_ 76 rfl rfl rfl _ (y_bin rfl rfl rfl (fun _ => b_eql)) ?_
      refine S_ 75 rfl rfl rfl _ (y_assign rfl rfl) ?_
      refine S_go (fun _ _ h => h) ?_
      refine T_cond rfl (fun h75 => ?_) (fun h75 => ?_)
      · try simp only [decide_eq_true_eq, decide_eq_false_iff_not, Bool.or_eq_true, Bool.or_eq_false_iff, Bool.and_eq_true, Bool.and_eq_false_iff, Bool.not_eq_true', Bool.not_eq_false', Bool.not_eq_true, Bool.not_eq_false, Bool.not_true, Bool.not_false, Int.not_lt, Int.not_le, not_or, not_and, Classical.not_not] at h75
        refine T_region ?_
        refine S_ 77 rfl rfl rfl _ (y_move rfl rfl) ?_
        refine S_ 78 rfl rfl rfl _ (y_move rfl rfl) ?_
        refine S_ 79 rfl rfl rfl _ (y_nilCheck rfl rfl) ?_
        refine S_ 80 rfl rfl rfl _ (y_fieldAddr rfl rfl fa29_7) ?_
        refine S_callM 81 [(0, 0), (1, 1), (2, 2)] (X := Unit) rfl rfl rfl rfl rfl rfl rfl cf174 rfl (fun _ => .tuple #[]) (fun _ => True) (fun _ => [(0, clrBox b2 g cap (m0R r e : Nat)), (1, rulBox b1 r), (2, .blk be (IsBox (spl e.enc 7 [str (mk r e.us)]) 29))]) (fun _ => rfl) (fun _ => rfl) (fun K1 hK1 w hM => clearN_any hK1 r b1 b2 be 7 g cap hg 0 _ e.enc _ e.us rfl hl.us (by omega) (by rw [m0R, if_neg (by omega), if_neg (by omega), if_pos (by omega), Nat.zero_add]) w hM) ?_
        intro _ _
        refine S_go (fun _ _ h => h) ?_
        refine T_seq ?_
        refine T_region ?_
        refine S_ 82 rfl rfl rfl _ (y_move rfl rfl) ?_
        refine S_ 83 rfl rfl rfl _ (y_nilCheck rfl rfl) ?_
        refine S_ 84 rfl rfl rfl _ (y_fieldAddr rfl rfl fa29_3) ?_
        refine S_ 85 rfl rfl rfl _ (y_load 2 rfl rfl rfl rfl Tryz.underlying25 rfl) ?_
        refine S_ 86 rfl rfl rfl _ (y_len_slice rfl rfl Tryz.underlying25) ?_
        refine S_ 87 rfl rfl rfl _ (y_move rfl rfl) ?_
        refine S_go (fun _ _ h => h) ?_
        refine T_block ?_
        refine T_loopK1 (kf := [(8, 10), (87, 125)]) (kl := [(0, 0), (2, 2), (8, 10), (87, 125), (900, 900), (908, 908), (935, 935), (939, 939)]) (fun (i : Nat) => [(87, true, .int .i64 (i : Int))]) (fun (i : Nat) => [(0, clrBox b2 g cap (m0R r e + smT (cnF r) e.fa.l i : Nat)), (2, .blk be (IsBox [str e.id, .int .i64 e.at_, .int .i64 e.lv, .slice e.fa.A e.fa.q e.fa.c, .slice e.ta.A e.ta.q e.ta.c, .slice e.cr.A e.cr.q e.cr.c, str e.rel, str (usR r e), .int .i64 e.wt] 29)), (908, ownFa e.fa (mpL (clF r) e.fa.l i)), (900, .many ((mpL (clF r) e.fa.l i).map frRow)), (935, ownTa e.ta (taR r e)), (939, ownCr e.cr (crR r e))]) (fun (i : Nat) => i ≤ e.fa.q) (fun (i : Nat) => e.fa.q - i) 0 (by repeat (first | exact kf_nil | (apply kf_in; focus rfl) | (apply kf_out; focus rfl))) (by repeat (first | exact kl_nil | exact kl_rest (by assumption) rfl | (apply kl_in; focus rfl) | (apply kl_out; focus rfl))) ?_ ?_ ?_ ?_
        · omega
        · exact ⟨rfl, trivial⟩
        · exact ⟨by rw [smT_0, Nat.add_zero]; rfl, by rw [usR, if_pos (by omega)]; rfl, by rw [mpL_0]; rfl, by rw [mpL_0]; rfl, by rw [taR, if_neg (by omega)]; rfl, by rw [crR, if_neg (by omega)]; rfl, trivial⟩
        rintro i hq1
        refine T_seq ?_
        refine T_region ?_
        refine S_ 88 rfl rfl rfl _ (y_bin rfl rfl rfl (fun _ => b_lss)) ?_
        refine S_go (fun _ _ h => h) ?_
        refine T_seq ?_
        refine T_cond rfl (fun h88 => ?_) (fun h88 => ?_)
        · try simp only [decide_eq_true_eq, decide_eq_false_iff_not, Bool.or_eq_true, Bool.or_eq_false_iff, Bool.and_eq_true, Bool.and_eq_false_iff, Bool.not_eq_true', Bool.not_eq_false', Bool.not_eq_true, Bool.not_eq_false, Bool.not_true, Bool.not_false, Int.not_lt, Int.not_le, not_or, not_and, Classical.not_not] at h88
          obtain ⟨x, hx1, hx2⟩ := at_lt (l := e.fa.l) (i := i) (by omega)
          have hxl := hl.fa x (mem_at hx1)
          have hsi := smF_le (r := r) hl i
          have hcx := cnX_le (r := r) hxl.1
          obtain ⟨gR, hgR⟩ := hfr x (mem_at hx1)
          refine T_unbank 900 961 (rsWo (mpL (clF r) e.fa.l i) i) rfl rfl (.inr (List.mem_map.2 ⟨x, mem_at (mpL_at hx1), rfl⟩)) rsWo_sub (rsWo_dis hd.mp (mpL_at hx1)) ?_
          refine T_skip_go (fun _ _ h => h) ?_
          refine T_seq ?_
          refine T_block ?_
          refine T_seq ?_
          refine T_region ?_
          refine S_ 89 rfl rfl rfl _ (y_move rfl rfl) ?_
          refine S_ 8 rfl rfl rfl _ (y_assign rfl rfl) ?_
          refine S_go (fun _ _ h => h) ?_
          refine T_seq ?_
          refine T_region ?_
          refine S_ 90 rfl rfl rfl _ (y_move rfl rfl) ?_
          refine S_ 91 rfl rfl rfl _ (y_nilCheck rfl rfl) ?_
          refine S_ 92 rfl rfl rfl _ (y_fieldAddr rfl rfl fa29_3) ?_
          refine S_ 93 rfl rfl rfl _ (y_load 2 rfl rfl rfl rfl Tryz.underlying25 rfl) ?_
          refine S_ 94 rfl rfl rfl _ (y_move rfl rfl) ?_
          refine S_ 95 rfl rfl rfl _ (y_indexOwn 908 rfl rfl rfl rfl Tryz.underlying25 sz50 (fun _ => by omega)) ?_
          refine S_ 9 rfl rfl rfl _ (y_assign rfl rfl) ?_
          refine S_go (fun _ _ h => h) ?_
          refine T_seq ?_
          refine T_seq ?_
          refine T_region ?_
          refine S_ 96 rfl rfl rfl _ (y_fieldAddr rfl rfl fa43_0) ?_
          refine S_ 97 rfl rfl rfl _ (y_load 3 rfl rfl rfl rfl Tryz.underlying3 rfl) ?_
          refine S_ 98 rfl rfl rfl _ (y_bin rfl rfl rfl (fun _ => b_eql)) ?_
          refine S_go (fun _ _ h => h) ?_
          refine T_cond rfl (fun h98 => ?_) (fun h98 => ?_)
          · try simp only [decide_eq_true_eq, decide_eq_false_iff_not, Bool.or_eq_true, Bool.or_eq_false_iff, Bool.and_eq_true, Bool.and_eq_false_iff, Bool.not_eq_true', Bool.not_eq_false', Bool.not_eq_true, Bool.not_eq_false, Bool.not_true, Bool.not_false, Int.not_lt, Int.not_le, not_or, not_and, Classical.not_not] at h98
            refine T_region ?_
            refine S_ 99 rfl rfl rfl _ (y_move rfl rfl) ?_
            refine S_ 100 rfl rfl rfl _ (y_move rfl rfl) ?_
            refine S_ 101 rfl rfl rfl _ (y_nilCheckOwn 908 rfl rfl rfl (fun _ => by omega)) ?_
            refine S_ 102 rfl rfl rfl _ (y_as (v' := .pointer (some ⟨gF, i * 3 + 1, none⟩)) (by rw [hgF (by omega), at_one]) (y_fieldOwn 908 rfl rfl rfl (fun _ => by omega) fa50_1)) ?_
            refine S_rowBox 908 gF rfl (hgF (by omega)) ?_
            intro cur hcu hcl hck hcm
            refine S_callM 103 [(0, 0), (1, 1), (2, 908)] (X := Unit) rfl rfl rfl rfl rfl rfl rfl cf174 rfl (fun _ => .tuple #[]) (fun _ => True) (fun _ => [(0, clrBox b2 g cap (m0R r e + smT (cnF r) e.fa.l i + cnX r x : Nat)), (1, rulBox b1 r), (2, .blk gF (IsBox (spl cur (i * 3 + 1) [str (mk r x.t)]) 50))]) (fun _ => rfl) (fun _ => rfl) (fun K1 hK1 w hM => clearN_any hK1 r b1 b2 gF (i * 3 + 1) g cap hg (m0R r e + smT (cnF r) e.fa.l i) _ cur _ x.t (conv_at (enc := Flt.enc) (fun _ => rfl) (mpL_at hx1) rfl hcu) hxl.1 (by omega) (by rw [cnX, if_pos h98]) w hM) ?_
            intro _ _
            refine S_backRow 908 3 e.fa.q e.fa.c e.fa.A ((mpL (clF r) e.fa.l (i + 1)).flatMap Flt.enc) rfl (hgF (by omega)) (conv_set (enc := Flt.enc) (fun _ => rfl) (mpL_at hx1) (by decide) (by rw [clF, if_pos h98]; rfl) hcu (mpL_set hx1)) (by rw [spl1_len]; exact hcl) hck hcm ?_
            refine S_go (fun _ _ h => h) ?_
            refine T_seq ?_
            refine T_region ?_
            refine S_ 104 rfl rfl rfl _ (y_move rfl rfl) ?_
            refine S_ 105 rfl rfl rfl _ (y_nilCheckOwn 908 rfl rfl rfl (fun _ => by omega)) ?_
            refine S_ 106 rfl rfl rfl _ (y_fieldOwn 908 rfl rfl rfl (fun _ => by omega) fa50_2) ?_
            refine S_ 107 rfl rfl rfl _ (y_load_cellOwn 908 rfl rfl rfl (fun _ => by omega) (fun _ => flat_at (enc := Flt.enc) (size := 3) (fun _ => rfl) (mpL_at1 hx1) 2 (.slice x.fr.A x.fr.q x.fr.c) rfl) Tryz.underlying48 rfl) ?_
            refine S_ 108 rfl rfl rfl _ (y_len_slice rfl rfl Tryz.underlying48) ?_
            refine S_ 109 rfl rfl rfl _ (y_move rfl rfl) ?_
            refine S_go (fun _ _ h => h) ?_
            refine T_block ?_
            refine T_loopK1 (kf := [(10, 10), (109, 124)]) (kl := [(0, 0), (10, 10), (109, 124), (908, 908), (961, 961)]) (fun (j : Nat) => [(109, true, .int .i64 (j : Int))]) (fun (j : Nat) => [(0, clrBox b2 g cap (m0R r e + smT (cnF r) e.fa.l i + cnX r x + cnL r x.fr.l j : Nat)), (961, ownFr x.fr (frL r x.fr.l j)), (908, ownFa e.fa (mpL (clF r) e.fa.l (i + 1)))]) (fun (j : Nat) => j ≤ x.fr.q) (fun (j : Nat) => x.fr.q - j) 0 (by repeat (first | exact kf_nil | (apply kf_in; focus rfl) | (apply kf_out; focus rfl))) (by repeat (first | exact kl_nil | exact kl_rest (by assumption) rfl | (apply kl_in; focus rfl) | (apply kl_out; focus rfl))) ?_ ?_ ?_ ?_
            · omega
            · exact ⟨rfl, trivial⟩
            · exact ⟨by rw [cnL_0]; rfl, by rw [frL_0]; rfl, rfl, trivial⟩
            rintro j hr1
            refine T_seq ?_
            refine T_region ?_
            refine S_ 110 rfl rfl rfl _ (y_bin rfl rfl rfl (fun _ => b_lss)) ?_
            refine S_go (fun _ _ h => h) ?_
            refine T_seq ?_
            refine T_cond rfl (fun h110 => ?_) (fun h110 => ?_)
            · try simp only [decide_eq_true_eq, decide_eq_false_iff_not, Bool.or_eq_true, Bool.or_eq_false_iff, Bool.and_eq_true, Bool.and_eq_false_iff, Bool.not_eq_true', Bool.not_eq_false', Bool.not_eq_true, Bool.not_eq_false, Bool.not_true, Bool.not_false, Int.not_lt, Int.not_le, not_or, not_and, Classical.not_not] at h110
              obtain ⟨y, hy1, hy2⟩ := at_lt (l := x.fr.l) (i := j) (by omega)
              have hyl := hxl.2.2.2 y (mem_at hy1)
              have hcj := cnL_le (r := r) (j := j) hxl.2.2.2
              refine T_skip_go (fun _ _ h => h) ?_
              refine T_seq ?_
              refine T_block ?_
              refine T_seq ?_
              refine T_region ?_
              refine S_ 111 rfl rfl rfl _ (y_move rfl rfl) ?_
              refine S_ 10 rfl rfl rfl _ (y_assign rfl rfl) ?_
              refine S_go (fun _ _ h => h) ?_
              refine T_seq ?_
              refine T_region ?_
              refine S_ 112 rfl rfl rfl _ (y_fieldAddr rfl rfl fa43_0) ?_
              refine S_ 113 rfl rfl rfl _ (y_load 3 rfl rfl rfl rfl Tryz.underlying3 rfl) ?_
              refine S_ 114 rfl rfl rfl _ (y_bin rfl rfl rfl (fun _ => b_eql)) ?_
              refine S_go (fun _ _ h => h) ?_
              refine T_cond rfl (fun h114 => ?_) (fun h114 => ?_)
              · try simp only [decide_eq_true_eq, decide_eq_false_iff_not, Bool.or_eq_true, Bool.or_eq_false_iff, Bool.and_eq_true, Bool.and_eq_false_iff, Bool.not_eq_true', Bool.not_eq_false', Bool.not_eq_true, Bool.not_eq_false, Bool.not_true, Bool.not_false, Int.not_lt, Int.not_le, not_or, not_and, Classical.not_not] at h114
                have hct : m0R r e + smT (cnF r) e.fa.l i + cnX r x + cnL r x.fr.l j + (fndR r y.fi).length = m0R r e + smT (cnF r) e.fa.l i + cnX r x + cnL r x.fr.l (j + 1) := by rw [cnL_next h114 hy1]; unfold cnM; omega
                refine T_region ?_
                refine S_ 115 rfl rfl rfl _ (y_move rfl rfl) ?_
                refine S_ 116 rfl rfl rfl _ (y_move rfl rfl) ?_
                refine S_ 117 rfl rfl rfl _ (y_nilCheckOwn 908 rfl rfl rfl (fun _ => by omega)) ?_
                refine S_ 118 rfl rfl rfl _ (y_fieldOwn 908 rfl rfl rfl (fun _ => by omega) fa50_2) ?_
                refine S_ 119 rfl rfl rfl _ (y_load_cellOwn 908 rfl rfl rfl (fun _ => by omega) (fun _ => flat_at (enc := Flt.enc) (size := 3) (fun _ => rfl) (mpL_at1 hx1) 2 (.slice x.fr.A x.fr.q x.fr.c) rfl) Tryz.underlying48 rfl) ?_
                refine S_ 120 rfl rfl rfl _ (y_move rfl rfl) ?_
                refine S_ 121 rfl rfl rfl _ (y_indexOwn 961 rfl rfl rfl rfl Tryz.underlying48 sz116 (fun _ => by omega)) ?_
                refine S_ 122 rfl rfl rfl _ (y_as (v' := .pointer (some ⟨gR, j * 6 + 2, none⟩)) (by rw [hgR (by omega), at_one]) (y_fieldOwn 961 rfl rfl rfl (fun _ => by omega) fa116_2)) ?_
                refine S_rowBox 961 gR rfl (hgR (by omega)) ?_
                intro cur hcu hcl hck hcm
                refine S_callM 123 [(0, 0), (1, 1), (2, 961)] (X := Unit) rfl rfl rfl rfl rfl rfl rfl cf174 rfl (fun _ => .tuple #[]) (fun _ => True) (fun _ => [(0, clrBox b2 g cap (m0R r e + smT (cnF r) e.fa.l i + cnX r x + cnL r x.fr.l (j + 1) : Nat)), (1, rulBox b1 r), (2, .blk gR (IsBox (spl cur (j * 6 + 2) [str (mk r y.fi)]) 116))]) (fun _ => rfl) (fun _ => rfl) (fun K1 hK1 w hM => clearN_any hK1 r b1 b2 gR (j * 6 + 2) g cap hg (m0R r e + smT (cnF r) e.fa.l i + cnX r x + cnL r x.fr.l j) _ cur _ y.fi (conv_at (enc := Frm.enc) (fun _ => rfl) (frL_at h114 hy1) rfl hcu) hyl (by omega) hct w hM) ?_
                intro _ _
                refine S_backRow 961 6 x.fr.q x.fr.c x.fr.A ((frL r x.fr.l (j + 1)).flatMap Frm.enc) rfl (hgR (by omega)) (conv_set (enc := Frm.enc) (fun _ => rfl) (frL_at h114 hy1) (by decide) (x' := clM r y) rfl hcu (frL_set h114 hy1)) (by rw [spl1_len]; exact hcl) hck hcm ?_
                refine S_go (fun _ _ h => h) ?_
                refine T_region ?_
                refine S_ 124 rfl rfl rfl _ (y_bin rfl rfl rfl (fun hg => b_add (by omega))) ?_
                refine S_ 109 rfl rfl rfl _ (y_move rfl rfl) ?_
                refine S_nil (nextK1 (kf := [(10, 10), (109, 124)]) (kl := [(0, 0), (10, 10), (109, 124), (908, 908), (961, 961)]) (j + 1) (by repeat (first | exact kf_nil | (apply kf_in; focus rfl) | (apply kf_out; focus rfl))) (by refine ks_go ?_; repeat (first | exact ks_nil | exact ks_tail (by assumption) rfl (by repeat (first | exact ti_refl | (apply ti_cons; focus rfl))) | refine ks_dup rfl ?_ | refine ks_cons rfl rfl ?_)) ?_ ?_ ?_ ?_)
                · omega
                · omega
                · exact ⟨rfl, trivial⟩
                · exact ⟨rfl, rfl, rfl, trivial⟩
              · try simp only [decide_eq_true_eq, decide_eq_false_iff_not, Bool.or_eq_true, Bool.or_eq_false_iff, Bool.and_eq_true, Bool.and_eq_false_iff, Bool.not_eq_true', Bool.not_eq_false', Bool.not_eq_true, Bool.not_eq_false, Bool.not_true, Bool.not_false, Int.not_lt, Int.not_le, not_or, not_and, Classical.not_not] at h114
                rw [← frL_no (j := j) h114, ← cnL_no (j := j) h114]
                refine T_skip_go (fun _ _ h => h) ?_
                refine T_region ?_
                refine S_ 124 rfl rfl rfl _ (y_bin rfl rfl rfl (fun hg => b_add (by omega))) ?_
                refine S_ 109 rfl rfl rfl _ (y_move rfl rfl) ?_
                refine S_nil (nextK1 (kf := [(10, 10), (109, 124)]) (kl := [(0, 0), (10, 10), (109, 124), (908, 908), (961, 961)]) (j + 1) (by repeat (first | exact kf_nil | (apply kf_in; focus rfl) | (apply kf_out; focus rfl))) (by refine ks_go ?_; repeat (first | exact ks_nil | exact ks_tail (by assumption) rfl (by repeat (first | exact ti_refl | (apply ti_cons; focus rfl))) | refine ks_dup rfl ?_ | refine ks_cons rfl rfl ?_)) ?_ ?_ ?_ ?_)
                · omega
                · omega
                · exact ⟨rfl, trivial⟩
                · exact ⟨rfl, rfl, rfl, trivial⟩
            · try simp only [decide_eq_true_eq, decide_eq_false_iff_not, Bool.or_eq_true, Bool.or_eq_false_iff, Bool.and_eq_true, Bool.and_eq_false_iff, Bool.not_eq_true', Bool.not_eq_false', Bool.not_eq_true, Bool.not_eq_false, Bool.not_true, Bool.not_false, Int.not_lt, Int.not_le, not_or, not_and, Classical.not_not] at h110
              rw [show frL r x.fr.l j = (clF r x).fr.l from frL_end (by omega), show m0R r e + smT (cnF r) e.fa.l i + cnX r x + cnL r x.fr.l j = m0R r e + smT (cnF r) e.fa.l (i + 1) by rw [smT_next hx1, cnF, cnL_end (by omega)]; omega]
              refine T_exit_go (fun _ _ h => h) ?_
              refine T_region ?_
              refine S_ 125 rfl rfl rfl _ (y_bin rfl rfl rfl (fun hg => b_add (by omega))) ?_
              refine S_ 87 rfl rfl rfl _ (y_move rfl rfl) ?_
              refine S_bank [(961, 961), (900, 900)] 900 961 rfl rfl rfl rfl (by repeat (first | exact kl_nil | exact kl_rest (by assumption) rfl | (apply kl_in; focus rfl) | (apply kl_out; focus rfl))) ?_
              refine S_manyEq 900 ((mpL (clF r) e.fa.l (i + 1)).map frRow) rfl (rows_back hx1) ?_
              refine S_nil (nextK1 (kf := [(8, 10), (87, 125)]) (kl := [(0, 0), (2, 2), (8, 10), (87, 125), (900, 900), (908, 908), (935, 935), (939, 939)]) (i + 1) (by repeat (first | exact kf_nil | (apply kf_in; focus rfl) | (apply kf_out; focus rfl))) (by refine ks_go ?_; repeat (first | exact ks_nil | exact ks_tail (by assumption) rfl (by repeat (first | exact ti_refl | (apply ti_cons; focus rfl))) | refine ks_dup rfl ?_ | refine ks_cons rfl rfl ?_)) ?_ ?_ ?_ ?_)
              · omega
              · omega
              · exact ⟨rfl, trivial⟩
              · exact ⟨rfl, rfl, rfl, rfl, rfl, rfl, trivial⟩
          · try simp only [decide_eq_true_eq, decide_eq_false_iff_not, Bool.or_eq_true, Bool.or_eq_false_iff, Bool.and_eq_true, Bool.and_eq_false_iff, Bool.not_eq_true', Bool.not_eq_false', Bool.not_eq_true, Bool.not_eq_false, Bool.not_true, Bool.not_false, Int.not_lt, Int.not_le, not_or, not_and, Classical.not_not] at h98
            refine T_skip_go (fun _ _ h => h) ?_
            refine T_seq ?_
            refine T_region ?_
            refine S_ 104 rfl rfl rfl _ (y_move rfl rfl) ?_
            refine S_ 105 rfl rfl rfl _ (y_nilCheckOwn 908 rfl rfl rfl (fun _ => by omega)) ?_
            refine S_ 106 rfl rfl rfl _ (y_fieldOwn 908 rfl rfl rfl (fun _ => by omega) fa50_2) ?_
            refine S_ 107 rfl rfl rfl _ (y_load_cellOwn 908 rfl rfl rfl (fun _ => by omega) (fun _ => flat_at (enc := Flt.enc) (size := 3) (fun _ => rfl) (mpL_at hx1) 2 (.slice x.fr.A x.fr.q x.fr.c) rfl) Tryz.underlying48 rfl) ?_
            refine S_ 108 rfl rfl rfl _ (y_len_slice rfl rfl Tryz.underlying48) ?_
            refine S_ 109 rfl rfl rfl _ (y_move rfl rfl) ?_
            refine S_go (fun _ _ h => h) ?_
            refine T_block ?_
            refine T_loopK1 (kf := [(10, 10), (109, 124)]) (kl := [(0, 0), (10, 10), (109, 124), (908, 908), (961, 961)]) (fun (j : Nat) => [(109, true, .int .i64 (j : Int))]) (fun (j : Nat) => [(0, clrBox b2 g cap (m0R r e + smT (cnF r) e.fa.l i + cnX r x + cnL r x.fr.l j : Nat)), (961, ownFr x.fr (frL r x.fr.l j)), (908, ownFa e.fa (mpL (clF r) e.fa.l (i + 1)))]) (fun (j : Nat) => j ≤ x.fr.q) (fun (j : Nat) => x.fr.q - j) 0 (by repeat (first | exact kf_nil | (apply kf_in; focus rfl) | (apply kf_out; focus rfl))) (by repeat (first | exact kl_nil | exact kl_rest (by assumption) rfl | (apply kl_in; focus rfl) | (apply kl_out; focus rfl))) ?_ ?_ ?_ ?_
            · omega
            · exact ⟨rfl, trivial⟩
            · exact ⟨by rw [cnL_0, cnX, if_neg h98]; rfl, by rw [frL_0]; rfl, by rw [ownFa_head hx1 h98]; rfl, trivial⟩
            rintro j hr1
            refine T_seq ?_
            refine T_region ?_
            refine S_ 110 rfl rfl rfl _ (y_bin rfl rfl rfl (fun _ => b_lss)) ?_
            refine S_go (fun _ _ h => h) ?_
            refine T_seq ?_
            refine T_cond rfl (fun h110 => ?_) (fun h110 => ?_)
            · try simp only [decide_eq_true_eq, decide_eq_false_iff_not, Bool.or_eq_true, Bool.or_eq_false_iff, Bool.and_eq_true, Bool.and_eq_false_iff, Bool.not_eq_true', Bool.not_eq_false', Bool.not_eq_true, Bool.not_eq_false, Bool.not_true, Bool.not_false, Int.not_lt, Int.not_le, not_or, not_and, Classical.not_not] at h110
              obtain ⟨y, hy1, hy2⟩ := at_lt (l := x.fr.l) (i := j) (by omega)
              have hyl := hxl.2.2.2 y (mem_at hy1)
              have hcj := cnL_le (r := r) (j := j) hxl.2.2.2
              refine T_skip_go (fun _ _ h => h) ?_
              refine T_seq ?_
              refine T_block ?_
              refine T_seq ?_
              refine T_region ?_
              refine S_ 111 rfl rfl rfl _ (y_move rfl rfl) ?_
              refine S_ 10 rfl rfl rfl _ (y_assign rfl rfl) ?_
              refine S_go (fun _ _ h => h) ?_
              refine T_seq ?_
              refine T_region ?_
              refine S_ 112 rfl rfl rfl _ (y_fieldAddr rfl rfl fa43_0) ?_
              refine S_ 113 rfl rfl rfl _ (y_load 3 rfl rfl rfl rfl Tryz.underlying3 rfl) ?_
              refine S_ 114 rfl rfl rfl _ (y_bin rfl rfl rfl (fun _ => b_eql)) ?_
              refine S_go (fun _ _ h => h) ?_
              refine T_cond rfl (fun h114 => ?_) (fun h114 => ?_)
              · try simp only [decide_eq_true_eq, decide_eq_false_iff_not, Bool.or_eq_true, Bool.or_eq_false_iff, Bool.and_eq_true, Bool.and_eq_false_iff, Bool.not_eq_true', Bool.not_eq_false', Bool.not_eq_true, Bool.not_eq_false, Bool.not_true, Bool.not_false, Int.not_lt, Int.not_le, not_or, not_and, Classical.not_not] at h114
                have hct : m0R r e + smT (cnF r) e.fa.l i + cnX r x + cnL r x.fr.l j + (fndR r y.fi).length = m0R r e + smT (cnF r) e.fa.l i + cnX r x + cnL r x.fr.l (j + 1) := by rw [cnL_next h114 hy1]; unfold cnM; omega
                refine T_region ?_
                refine S_ 115 rfl rfl rfl _ (y_move rfl rfl) ?_
                refine S_ 116 rfl rfl rfl _ (y_move rfl rfl) ?_
                refine S_ 117 rfl rfl rfl _ (y_nilCheckOwn 908 rfl rfl rfl (fun _ => by omega)) ?_
                refine S_ 118 rfl rfl rfl _ (y_fieldOwn 908 rfl rfl rfl (fun _ => by omega) fa50_2) ?_
                refine S_ 119 rfl rfl rfl _ (y_load_cellOwn 908 rfl rfl rfl (fun _ => by omega) (fun _ => flat_at (enc := Flt.enc) (size := 3) (fun _ => rfl) (mpL_at1 hx1) 2 (.slice x.fr.A x.fr.q x.fr.c) rfl) Tryz.underlying48 rfl) ?_
                refine S_ 120 rfl rfl rfl _ (y_move rfl rfl) ?_
                refine S_ 121 rfl rfl rfl _ (y_indexOwn 961 rfl rfl rfl rfl Tryz.underlying48 sz116 (fun _ => by omega)) ?_
                refine S_ 122 rfl rfl rfl _ (y_as (v' := .pointer (some ⟨gR, j * 6 + 2, none⟩)) (by rw [hgR (by omega), at_one]) (y_fieldOwn 961 rfl rfl rfl (fun _ => by omega) fa116_2)) ?_
                refine S_rowBox 961 gR rfl (hgR (by omega)) ?_
                intro cur hcu hcl hck hcm
                refine S_callM 123 [(0, 0), (1, 1), (2, 961)] (X := Unit) rfl rfl rfl rfl rfl rfl rfl cf174 rfl (fun _ => .tuple #[]) (fun _ => True) (fun _ => [(0, clrBox b2 g cap (m0R r e + smT (cnF r) e.fa.l i + cnX r x + cnL r x.fr.l (j + 1) : Nat)), (1, rulBox b1 r), (2, .blk gR (IsBox (spl cur (j * 6 + 2) [str (mk r y.fi)]) 116))]) (fun _ => rfl) (fun _ => rfl) (fun K1 hK1 w hM => clearN_any hK1 r b1 b2 gR (j * 6 + 2) g cap hg (m0R r e + smT (cnF r) e.fa.l i + cnX r x + cnL r x.fr.l j) _ cur _ y.fi (conv_at (enc := Frm.enc) (fun _ => rfl) (frL_at h114 hy1) rfl hcu) hyl (by omega) hct w hM) ?_
                intro _ _
                refine S_backRow 961 6 x.fr.q x.fr.c x.fr.A ((frL r x.fr.l (j + 1)).flatMap Frm.enc) rfl (hgR (by omega)) (conv_set (enc := Frm.enc) (fun _ => rfl) (frL_at h114 hy1) (by decide) (x' := clM r y) rfl hcu (frL_set h114 hy1)) (by rw [spl1_len]; exact hcl) hck hcm ?_
                refine S_go (fun _ _ h => h) ?_
                refine T_region ?_
                refine S_ 124 rfl rfl rfl _ (y_bin rfl rfl rfl (fun hg => b_add (by omega))) ?_
                refine S_ 109 rfl rfl rfl _ (y_move rfl rfl) ?_
                refine S_nil (nextK1 (kf := [(10, 10), (109, 124)]) (kl := [(0, 0), (10, 10), (109, 124), (908, 908), (961, 961)]) (j + 1) (by repeat (first | exact kf_nil | (apply kf_in; focus rfl) | (apply kf_out; focus rfl))) (by refine ks_go ?_; repeat (first | exact ks_nil | exact ks_tail (by assumption) rfl (by repeat (first | exact ti_refl | (apply ti_cons; focus rfl))) | refine ks_dup rfl ?_ | refine ks_cons rfl rfl ?_)) ?_ ?_ ?_ ?_)
                · omega
                · omega
                · exact ⟨rfl, trivial⟩
                · exact ⟨rfl, rfl, rfl, trivial⟩
              · try simp only [decide_eq_true_eq, decide_eq_false_iff_not, Bool.or_eq_true, Bool.or_eq_false_iff, Bool.and_eq_true, Bool.and_eq_false_iff, Bool.not_eq_true', Bool.not_eq_false', Bool.not_eq_true, Bool.not_eq_false, Bool.not_true, Bool.not_false, Int.not_lt, Int.not_le, not_or, not_and, Classical.not_not] at h114
                rw [← frL_no (j := j) h114, ← cnL_no (j := j) h114]
                refine T_skip_go (fun _ _ h => h) ?_
                refine T_region ?_
                refine S_ 124 rfl rfl rfl _ (y_bin rfl rfl rfl (fun hg => b_add (by omega))) ?_
                refine S_ 109 rfl rfl rfl _ (y_move rfl rfl) ?_
                refine S_nil (nextK1 (kf := [(10, 10), (109, 124)]) (kl := [(0, 0), (10, 10), (109, 124), (908, 908), (961, 961)]) (j + 1) (by repeat (first | exact kf_nil | (apply kf_in; focus rfl) | (apply kf_out; focus rfl))) (by refine ks_go ?_; repeat (first | exact ks_nil | exact ks_tail (by assumption) rfl (by repeat (first | exact ti_refl | (apply ti_cons; focus rfl))) | refine ks_dup rfl ?_ | refine ks_cons rfl rfl ?_)) ?_ ?_ ?_ ?_)
                · omega
                · omega
                · exact ⟨rfl, trivial⟩
                · exact ⟨rfl, rfl, rfl, trivial⟩
            · try simp only [decide_eq_true_eq, decide_eq_false_iff_not, Bool.or_eq_true, Bool.or_eq_false_iff, Bool.and_eq_true, Bool.and_eq_false_iff, Bool.not_eq_true', Bool.not_eq_false', Bool.not_eq_true, Bool.not_eq_false, Bool.not_true, Bool.not_false, Int.not_lt, Int.not_le, not_or, not_and, Classical.not_not] at h110
              rw [show frL r x.fr.l j = (clF r x).fr.l from frL_end (by omega), show m0R r e + smT (cnF r) e.fa.l i + cnX r x + cnL r x.fr.l j = m0R r e + smT (cnF r) e.fa.l (i + 1) by rw [smT_next hx1, cnF, cnL_end (by omega)]; omega]
              refine T_exit_go (fun _ _ h => h) ?_
              refine T_region ?_
              refine S_ 125 rfl rfl rfl _ (y_bin rfl rfl rfl (fun hg => b_add (by omega))) ?_
              refine S_ 87 rfl rfl rfl _ (y_move rfl rfl) ?_
              refine S_bank [(961, 961), (900, 900)] 900 961 rfl rfl rfl rfl (by repeat (first | exact kl_nil | exact kl_rest (by assumption) rfl | (apply kl_in; focus rfl) | (apply kl_out; focus rfl))) ?_
              refine S_manyEq 900 ((mpL (clF r) e.fa.l (i + 1)).map frRow) rfl (rows_back hx1) ?_
              refine S_nil (nextK1 (kf := [(8, 10), (87, 125)]) (kl := [(0, 0), (2, 2), (8, 10), (87, 125), (900, 900), (908, 908), (935, 935), (939, 939)]) (i + 1) (by repeat (first | exact kf_nil | (apply kf_in; focus rfl) | (apply kf_out; focus rfl))) (by refine ks_go ?_; repeat (first | exact ks_nil | exact ks_tail (by assumption) rfl (by repeat (first | exact ti_refl | (apply ti_cons; focus rfl))) | refine ks_dup rfl ?_ | refine ks_cons rfl rfl ?_)) ?_ ?_ ?_ ?_)
              · omega
              · omega
              · exact ⟨rfl, trivial⟩
              · exact ⟨rfl, rfl, rfl, rfl, rfl, rfl, trivial⟩
        · try simp only [decide_eq_true_eq, decide_eq_false_iff_not, Bool.or_eq_true, Bool.or_eq_false_iff, Bool.and_eq_true, Bool.and_eq_false_iff, Bool.not_eq_true', Bool.not_eq_false', Bool.not_eq_true, Bool.not_eq_false, Bool.not_true, Bool.not_false, Int.not_lt, Int.not_le, not_or, not_and, Classical.not_not] at h88
          refine T_exit (fun a w hF hM => hRn a w (post0 rfl (fun w hM => ?_) a w hF hM))
          have hi : e.fa.l.length ≤ i := by omega
          rw [mpL_end hi, smT_end hi] at hM
          exact ⟨(), rfl, trivial, hM.keep (ks := [(0, 999)]) (by repeat (first | exact kl_rest (by assumption) rfl | (apply kl_in; focus rfl))) _ ⟨rfl, rfl, rfl, rfl, rfl, rfl, rfl, trivial⟩⟩
      · try simp only [decide_eq_true_eq, decide_eq_false_iff_not, Bool.or_eq_true, Bool.or_eq_false_iff, Bool.and_eq_true, Bool.and_eq_false_iff, Bool.not_eq_true', Bool.not_eq_false', Bool.not_eq_true, Bool.not_eq_false, Bool.not_true, Bool.not_false, Int.not_lt, Int.not_le, not_or, not_and, Classical.not_not] at h75
        refine T_skip_go (fun _ _ h => h) ?_
        refine T_seq ?_
        refine T_region ?_
        refine S_ 82 rfl rfl rfl _ (y_move rfl rfl) ?_
        refine S_ 83 rfl rfl rfl _ (y_nilCheck rfl rfl) ?_
        refine S_ 84 rfl rfl rfl _ (y_fieldAddr rfl rfl fa29_3) ?_
        refine S_ 85 rfl rfl rfl _ (y_load 2 rfl rfl rfl rfl Tryz.underlying25 rfl) ?_
        refine S_ 86 rfl rfl rfl _ (y_len_slice rfl rfl Tryz.underlying25) ?_
        refine S_ 87 rfl rfl rfl _ (y_move rfl rfl) ?_
        refine S_go (fun _ _ h => h) ?_
        refine T_block ?_
        refine T_loopK1 (kf := [(8, 10), (87, 125)]) (kl := [(0, 0), (2, 2), (8, 10), (87, 125), (900, 900), (908, 908), (935, 935), (939, 939)]) (fun (i : Nat) => [(87, true, .int .i64 (i : Int))]) (fun (i : Nat) => [(0, clrBox b2 g cap (m0R r e + smT (cnF r) e.fa.l i : Nat)), (2, .blk be (IsBox [str e.id, .int .i64 e.at_, .int .i64 e.lv, .slice e.fa.A e.fa.q e.fa.c, .slice e.ta.A e.ta.q e.ta.c, .slice e.cr.A e.cr.q e.cr.c, str e.rel, str (usR r e), .int .i64 e.wt] 29)), (908, ownFa e.fa (mpL (clF r) e.fa.l i)), (900, .many ((mpL (clF r) e.fa.l i).map frRow)), (935, ownTa e.ta (taR r e)), (939, ownCr e.cr (crR r e))]) (fun (i : Nat) => i ≤ e.fa.q) (fun (i : Nat) => e.fa.q - i) 0 (by repeat (first | exact kf_nil | (apply kf_in; focus rfl) | (apply kf_out; focus rfl))) (by repeat (first | exact kl_nil | exact kl_rest (by assumption) rfl | (apply kl_in; focus rfl) | (apply kl_out; focus rfl))) ?_ ?_ ?_ ?_
        · omega
        · exact ⟨rfl, trivial⟩
        · exact ⟨by rw [smT_0, Nat.add_zero, m0R, if_neg (by omega), if_neg (by omega), if_neg (by omega)]; rfl, by rw [usR, if_neg (by omega)]; rfl, by rw [mpL_0]; rfl, by rw [mpL_0]; rfl, by rw [taR, if_neg (by omega)]; rfl, by rw [crR, if_neg (by omega)]; rfl, trivial⟩
        rintro i hq1
        refine T_seq ?_
        refine T_region ?_
        refine S_ 88 rfl rfl rfl _ (y_bin rfl rfl rfl (fun _ => b_lss)) ?_
        refine S_go (fun _ _ h => h) ?_
        refine T_seq ?_
        refine T_cond rfl (fun h88 => ?_) (fun h88 => ?_)
        · try simp only [decide_eq_true_eq, decide_eq_false_iff_not, Bool.or_eq_true, Bool.or_eq_false_iff, Bool.and_eq_true, Bool.and_eq_false_iff, Bool.not_eq_true', Bool.not_eq_false', Bool.not_eq_true, Bool.not_eq_false, Bool.not_true, Bool.not_false, Int.not_lt, Int.not_le, not_or, not_and, Classical.not_not] at h88
          obtain ⟨x, hx1, hx2⟩ := at_lt (l := e.fa.l) (i := i) (by omega)
          have hxl := hl.fa x (mem_at hx1)
          have hsi := smF_le (r := r) hl i
          have hcx := cnX_le (r := r) hxl.1
          obtain ⟨gR, hgR⟩ := hfr x (mem_at hx1)
          refine T_unbank 900 961 (rsWo (mpL (clF r) e.fa.l i) i) rfl rfl (.inr (List.mem_map.2 ⟨x, mem_at (mpL_at hx1), rfl⟩)) rsWo_sub (rsWo_dis hd.mp (mpL_at hx1)) ?_
          refine T_skip_go (fun _ _ h => h) ?_
          refine T_seq ?_
          refine T_block ?_
          refine T_seq ?_
          refine T_region ?_
          refine S_ 89 rfl rfl rfl _ (y_move rfl rfl) ?_
          refine S_ 8 rfl rfl rfl _ (y_assign rfl rfl) ?_
          refine S_go (fun _ _ h => h) ?_
          refine T_seq ?_
          refine T_region ?_
          refine S_ 90 rfl rfl rfl _ (y_move rfl rfl) ?_
          refine S_ 91 rfl rfl rfl _ (y_nilCheck rfl rfl) ?_
          refine S_ 92 rfl rfl rfl _ (y_fieldAddr rfl rfl fa29_3) ?_
          refine S_ 93 rfl rfl rfl _ (y_load 2 rfl rfl rfl rfl Tryz.underlying25 rfl) ?_
          refine S_ 94 rfl rfl rfl _ (y_move rfl rfl) ?_
          refine S_ 95 rfl rfl rfl _ (y_indexOwn 908 rfl rfl rfl rfl Tryz.underlying25 sz50 (fun _ => by omega)) ?_
          refine S_ 9 rfl rfl rfl _ (y_assign rfl rfl) ?_
          refine S_go (fun _ _ h => h) ?_
          refine T_seq ?_
          refine T_seq ?_
          refine T_region ?_
          refine S_ 96 rfl rfl rfl _ (y_fieldAddr rfl rfl fa43_0) ?_
          refine S_ 97 rfl rfl rfl _ (y_load 3 rfl rfl rfl rfl Tryz.underlying3 rfl) ?_
          refine S_ 98 rfl rfl rfl _ (y_bin rfl rfl rfl (fun _ => b_eql)) ?_
          refine S_go (fun _ _ h => h) ?_
          refine T_cond rfl (fun h98 => ?_) (fun h98 => ?_)
          · try simp only [decide_eq_true_eq, decide_eq_false_iff_not, Bool.or_eq_true, Bool.or_eq_false_iff, Bool.and_eq_true, Bool.and_eq_false_iff, Bool.not_eq_true', Bool.not_eq_false', Bool.not_eq_true, Bool.not_eq_false, Bool.not_true, Bool.not_false, Int.not_lt, Int.not_le, not_or, not_and, Classical.not_not] at h98
            refine T_region ?_
            refine S_ 99 rfl rfl rfl _ (y_move rfl rfl) ?_
            refine S_ 100 rfl rfl rfl _ (y_move rfl rfl) ?_
            refine S_ 101 rfl rfl rfl _ (y_nilCheckOwn 908 rfl rfl rfl (fun _ => by omega)) ?_
            refine S_ 102 rfl rfl rfl _ (y_as (v' := .pointer (some ⟨gF, i * 3 + 1, none⟩)) (by rw [hgF (by omega), at_one]) (y_fieldOwn 908 rfl rfl rfl (fun _ => by omega) fa50_1)) ?_
            refine S_rowBox 908 gF rfl (hgF (by omega)) ?_
            intro cur hcu hcl hck hcm
            refine S_callM 103 [(0, 0), (1, 1), (2, 908)] (X := Unit) rfl rfl rfl rfl rfl rfl rfl cf174 rfl (fun _ => .tuple #[]) (fun _ => True) (fun _ => [(0, clrBox b2 g cap (m0R r e + smT (cnF r) e.fa.l i + cnX r x : Nat)), (1, rulBox b1 r), (2, .blk gF (IsBox (spl cur (i * 3 + 1) [str (mk r x.t)]) 50))]) (fun _ => rfl) (fun _ => rfl) (fun K1 hK1 w hM => clearN_any hK1 r b1 b2 gF (i * 3 + 1) g cap hg (m0R r e + smT (cnF r) e.fa.l i) _ cur _ x.t (conv_at (enc := Flt.enc) (fun _ => rfl) (mpL_at hx1) rfl hcu) hxl.1 (by omega) (by rw [cnX, if_pos h98]) w hM) ?_
            intro _ _
            refine S_backRow 908 3 e.fa.q e.fa.c e.fa.A ((mpL (clF r) e.fa.l (i + 1)).flatMap Flt.enc) rfl (hgF (by omega)) (conv_set (enc := Flt.enc) (fun _ => rfl) (mpL_at hx1) (by decide) (by rw [clF, if_pos h98]; rfl) hcu (mpL_set hx1)) (by rw [spl1_len]; exact hcl) hck hcm ?_
            refine S_go (fun _ _ h => h) ?_
            refine T_seq ?_
            refine T_region ?_
            refine S_ 104 rfl rfl rfl _ (y_move rfl rfl) ?_
            refine S_ 105 rfl rfl rfl _ (y_nilCheckOwn 908 rfl rfl rfl (fun _ => by omega)) ?_
            refine S_ 106 rfl rfl rfl _ (y_fieldOwn 908 rfl rfl rfl (fun _ => by omega) fa50_2) ?_
            refine S_ 107 rfl rfl rfl _ (y_load_cellOwn 908 rfl rfl rfl (fun _ => by omega) (fun _ => flat_at (enc := Flt.enc) (size := 3) (fun _ => rfl) (mpL_at1 hx1) 2 (.slice x.fr.A x.fr.q x.fr.c) rfl) Tryz.underlying48 rfl) ?_
            refine S_ 108 rfl rfl rfl _ (y_len_slice rfl rfl Tryz.underlying48) ?_
            refine S_ 109 rfl rfl rfl _ (y_move rfl rfl) ?_
            refine S_go (fun _ _ h => h) ?_
            refine T_block ?_
            refine T_loopK1 (kf := [(10, 10), (109, 124)]) (kl := [(0, 0), (10, 10), (109, 124), (908, 908), (961, 961)]) (fun (j : Nat) => [(109, true, .int .i64 (j : Int))]) (fun (j : Nat) => [(0, clrBox b2 g cap (m0R r e + smT (cnF r) e.fa.l i + cnX r x + cnL r x.fr.l j : Nat)), (961, ownFr x.fr (frL r x.fr.l j)), (908, ownFa e.fa (mpL (clF r) e.fa.l (i + 1)))]) (fun (j : Nat) => j ≤ x.fr.q) (fun (j : Nat) => x.fr.q - j) 0 (by repeat (first | exact kf_nil | (apply kf_in; focus rfl) | (apply kf_out; focus rfl))) (by repeat (first | exact kl_nil | exact kl_rest (by assumption) rfl | (apply kl_in; focus rfl) | (apply kl_out; focus rfl))) ?_ ?_ ?_ ?_
            · omega
            · exact ⟨rfl, trivial⟩
            · exact ⟨by rw [cnL_0]; rfl, by rw [frL_0]; rfl, rfl, trivial⟩
            rintro j hr1
            refine T_seq ?_
            refine T_region ?_
            refine S_ 110 rfl rfl rfl _ (y_bin rfl rfl rfl (fun _ => b_lss)) ?_
            refine S_go (fun _ _ h => h) ?_
            refine T_seq ?_
            refine T_cond rfl (fun h110 => ?_) (fun h110 => ?_)
            · try simp only [decide_eq_true_eq, decide_eq_false_iff_not, Bool.or_eq_true, Bool.or_eq_false_iff, Bool.and_eq_true, Bool.and_eq_false_iff, Bool.not_eq_true', Bool.not_eq_false', Bool.not_eq_true, Bool.not_eq_false, Bool.not_true, Bool.not_false, Int.not_lt, Int.not_le, not_or, not_and, Classical.not_not] at h110
              obtain ⟨y, hy1, hy2⟩ := at_lt (l := x.fr.l) (i := j) (by omega)
              have hyl := hxl.2.2.2 y (mem_at hy1)
              have hcj := cnL_le (r := r) (j := j) hxl.2.2.2
              refine T_skip_go (fun _ _ h => h) ?_
              refine T_seq ?_
              refine T_block ?_
              refine T_seq ?_
              refine T_region ?_
              refine S_ 111 rfl rfl rfl _ (y_move rfl rfl) ?_
              refine S_ 10 rfl rfl rfl _ (y_assign rfl rfl) ?_
              refine S_go (fun _ _ h => h) ?_
              refine T_seq ?_
              refine T_region ?_
              refine S_ 112 rfl rfl rfl _ (y_fieldAddr rfl rfl fa43_0) ?_
              refine S_ 113 rfl rfl rfl _ (y_load 3 rfl rfl rfl rfl Tryz.underlying3 rfl) ?_
              refine S_ 114 rfl rfl rfl _ (y_bin rfl rfl rfl (fun _ => b_eql)) ?_
              refine S_go (fun _ _ h => h) ?_
              refine T_cond rfl (fun h114 => ?_) (fun h114 => ?_)
              · try simp only [decide_eq_true_eq, decide_eq_false_iff_not, Bool.or_eq_true, Bool.or_eq_false_iff, Bool.and_eq_true, Bool.and_eq_false_iff, Bool.not_eq_true', Bool.not_eq_false', Bool.not_eq_true, Bool.not_eq_false, Bool.not_true, Bool.not_false, Int.not_lt, Int.not_le, not_or, not_and, Classical.not_not] at h114
                have hct : m0R r e + smT (cnF r) e.fa.l i + cnX r x + cnL r x.fr.l j + (fndR r y.fi).length = m0R r e + smT (cnF r) e.fa.l i + cnX r x + cnL r x.fr.l (j + 1) := by rw [cnL_next h114 hy1]; unfold cnM; omega
                refine T_region ?_
                refine S_ 115 rfl rfl rfl _ (y_move rfl rfl) ?_
                refine S_ 116 rfl rfl rfl _ (y_move rfl rfl) ?_
                refine S_ 117 rfl rfl rfl _ (y_nilCheckOwn 908 rfl rfl rfl (fun _ => by omega)) ?_
                refine S_ 118 rfl rfl rfl _ (y_fieldOwn 908 rfl rfl rfl (fun _ => by omega) fa50_2) ?_
                refine S_ 119 rfl rfl rfl _ (y_load_cellOwn 908 rfl rfl rfl (fun _ => by omega) (fun _ => flat_at (enc := Flt.enc) (size := 3) (fun _ => rfl) (mpL_at1 hx1) 2 (.slice x.fr.A x.fr.q x.fr.c) rfl) Tryz.underlying48 rfl) ?_
                refine S_ 120 rfl rfl rfl _ (y_move rfl rfl) ?_
                refine S_ 121 rfl rfl rfl _ (y_indexOwn 961 rfl rfl rfl rfl Tryz.underlying48 sz116 (fun _ => by omega)) ?_
                refine S_ 122 rfl rfl rfl _ (y_as (v' := .pointer (some ⟨gR, j * 6 + 2, none⟩)) (by rw [hgR (by omega), at_one]) (y_fieldOwn 961 rfl rfl rfl (fun _ => by omega) fa116_2)) ?_
                refine S_rowBox 961 gR rfl (hgR (by omega)) ?_
                intro cur hcu hcl hck hcm
                refine S_callM 123 [(0, 0), (1, 1), (2, 961)] (X := Unit) rfl rfl rfl rfl rfl rfl rfl cf174 rfl (fun _ => .tuple #[]) (fun _ => True) (fun _ => [(0, clrBox b2 g cap (m0R r e + smT (cnF r) e.fa.l i + cnX r x + cnL r x.fr.l (j + 1) : Nat)), (1, rulBox b1 r), (2, .blk gR (IsBox (spl cur (j * 6 + 2) [str (mk r y.fi)]) 116))]) (fun _ => rfl) (fun _ => rfl) (fun K1 hK1 w hM => clearN_any hK1 r b1 b2 gR (j * 6 + 2) g cap hg (m0R r e + smT (cnF r) e.fa.l i + cnX r x + cnL r x.fr.l j) _ cur _ y.fi (conv_at (enc := Frm.enc) (fun _ => rfl) (frL_at h114 hy1) rfl hcu) hyl (by omega) hct w hM) ?_
                intro _ _
                refine S_backRow 961 6 x.fr.q x.fr.c x.fr.A ((frL r x.fr.l (j + 1)).flatMap Frm.enc) rfl (hgR (by omega)) (conv_set (enc := Frm.enc) (fun _ => rfl) (frL_at h114 hy1) (by decide) (x' := clM r y) rfl hcu (frL_set h114 hy1)) (by rw [spl1_len]; exact hcl) hck hcm ?_
                refine S_go (fun _ _ h => h) ?_
                refine T_region ?_
                refine S_ 124 rfl rfl rfl _ (y_bin rfl rfl rfl (fun hg => b_add (by omega))) ?_
                refine S_ 109 rfl rfl rfl _ (y_move rfl rfl) ?_
                refine S_nil (nextK1 (kf := [(10, 10), (109, 124)]) (kl := [(0, 0), (10, 10), (109, 124), (908, 908), (961, 961)]) (j + 1) (by repeat (first | exact kf_nil | (apply kf_in; focus rfl) | (apply kf_out; focus rfl))) (by refine ks_go ?_; repeat (first | exact ks_nil | exact ks_tail (by assumption) rfl (by repeat (first | exact ti_refl | (apply ti_cons; focus rfl))) | refine ks_dup rfl ?_ | refine ks_cons rfl rfl ?_)) ?_ ?_ ?_ ?_)
                · omega
                · omega
                · exact ⟨rfl, trivial⟩
                · exact ⟨rfl, rfl, rfl, trivial⟩
              · try simp only [decide_eq_true_eq, decide_eq_false_iff_not, Bool.or_eq_true, Bool.or_eq_false_iff, Bool.and_eq_true, Bool.and_eq_false_iff, Bool.not_eq_true', Bool.not_eq_false', Bool.not_eq_true, Bool.not_eq_false, Bool.not_true, Bool.not_false, Int.not_lt, Int.not_le, not_or, not_and, Classical.not_not] at h114
                rw [← frL_no (j := j) h114, ← cnL_no (j := j) h114]
                refine T_skip_go (fun _ _ h => h) ?_
                refine T_region ?_
                refine S_ 124 rfl rfl rfl _ (y_bin rfl rfl rfl (fun hg => b_add (by omega))) ?_
                refine S_ 109 rfl rfl rfl _ (y_move rfl rfl) ?_
                refine S_nil (nextK1 (kf := [(10, 10), (109, 124)]) (kl := [(0, 0), (10, 10), (109, 124), (908, 908), (961, 961)]) (j + 1) (by repeat (first | exact kf_nil | (apply kf_in; focus rfl) | (apply kf_out; focus rfl))) (by refine ks_go ?_; repeat (first | exact ks_nil | exact ks_tail (by assumption) rfl (by repeat (first | exact ti_refl | (apply ti_cons; focus rfl))) | refine ks_dup rfl ?_ | refine ks_cons rfl rfl ?_)) ?_ ?_ ?_ ?_)
                · omega
                · omega
                · exact ⟨rfl, trivial⟩
                · exact ⟨rfl, rfl, rfl, trivial⟩
            · try simp only [decide_eq_true_eq, decide_eq_false_iff_not, Bool.or_eq_true, Bool.or_eq_false_iff, Bool.and_eq_true, Bool.and_eq_false_iff, Bool.not_eq_true', Bool.not_eq_false', Bool.not_eq_true, Bool.not_eq_false, Bool.not_true, Bool.not_false, Int.not_lt, Int.not_le, not_or, not_and, Classical.not_not] at h110
              rw [show frL r x.fr.l j = (clF r x).fr.l from frL_end (by omega), show m0R r e + smT (cnF r) e.fa.l i + cnX r x + cnL r x.fr.l j = m0R r e + smT (cnF r) e.fa.l (i + 1) by rw [smT_next hx1, cnF, cnL_end (by omega)]; omega]
              refine T_exit_go (fun _ _ h => h) ?_
              refine T_region ?_
              refine S_ 125 rfl rfl rfl _ (y_bin rfl rfl rfl (fun hg => b_add (by omega))) ?_
              refine S_ 87 rfl rfl rfl _ (y_move rfl rfl) ?_
              refine S_bank [(961, 961), (900, 900)] 900 961 rfl rfl rfl rfl (by repeat (first | exact kl_nil | exact kl_rest (by assumption) rfl | (apply kl_in; focus rfl) | (apply kl_out; focus rfl))) ?_
              refine S_manyEq 900 ((mpL (clF r) e.fa.l (i + 1)).map frRow) rfl (rows_back hx1) ?_
              refine S_nil (nextK1 (kf := [(8, 10), (87, 125)]) (kl := [(0, 0), (2, 2), (8, 10), (87, 125), (900, 900), (908, 908), (935, 935), (939, 939)]) (i + 1) (by repeat (first | exact kf_nil | (apply kf_in; focus rfl) | (apply kf_out; focus rfl))) (by refine ks_go ?_; repeat (first | exact ks_nil | exact ks_tail (by assumption) rfl (by repeat (first | exact ti_refl | (apply ti_cons; focus rfl))) | refine ks_dup rfl ?_ | refine ks_cons rfl rfl ?_)) ?_ ?_ ?_ ?_)
              · omega
              · omega
              · exact ⟨rfl, trivial⟩
              · exact ⟨rfl, rfl, rfl, rfl, rfl, rfl, trivial⟩
          · try simp only [decide_eq_true_eq, decide_eq_false_iff_not, Bool.or_eq_true, Bool.or_eq_false_iff, Bool.and_eq_true, Bool.and_eq_false_iff, Bool.not_eq_true', Bool.not_eq_false', Bool.not_eq_true, Bool.not_eq_false, Bool.not_true, Bool.not_false, Int.not_lt, Int.not_le, not_or, not_and, Classical.not_not] at h98
            refine T_skip_go (fun _ _ h => h) ?_
            refine T_seq ?_
            refine T_region ?_
            refine S_ 104 rfl rfl rfl _ (y_move rfl rfl) ?_
            refine S_ 105 rfl rfl rfl _ (y_nilCheckOwn 908 rfl rfl rfl (fun _ => by omega)) ?_
            refine S_ 106 rfl rfl rfl _ (y_fieldOwn 908 rfl rfl rfl (fun _ => by omega) fa50_2) ?_
            refine S_ 107 rfl rfl rfl _ (y_load_cellOwn 908 rfl rfl rfl (fun _ => by omega) (fun _ => flat_at (enc := Flt.enc) (size := 3) (fun _ => rfl) (mpL_at hx1) 2 (.slice x.fr.A x.fr.q x.fr.c) rfl) Tryz.underlying48 rfl) ?_
            refine S_ 108 rfl rfl rfl _ (y_len_slice rfl rfl Tryz.underlying48) ?_
            refine S_ 109 rfl rfl rfl _ (y_move rfl rfl) ?_
            refine S_go (fun _ _ h => h) ?_
            refine T_block ?_
            refine T_loopK1 (kf := [(10, 10), (109, 124)]) (kl := [(0, 0), (10, 10), (109, 124), (908, 908), (961, 961)]) (fun (j : Nat) => [(109, true, .int .i64 (j : Int))]) (fun (j : Nat) => [(0, clrBox b2 g cap (m0R r e + smT (cnF r) e.fa.l i + cnX r x + cnL r x.fr.l j : Nat)), (961, ownFr x.fr (frL r x.fr.l j)), (908, ownFa e.fa (mpL (clF r) e.fa.l (i + 1)))]) (fun (j : Nat) => j ≤ x.fr.q) (fun (j : Nat) => x.fr.q - j) 0 (by repeat (first | exact kf_nil | (apply kf_in; focus rfl) | (apply kf_out; focus rfl))) (by repeat (first | exact kl_nil | exact kl_rest (by assumption) rfl | (apply kl_in; focus rfl) | (apply kl_out; focus rfl))) ?_ ?_ ?_ ?_
            · omega
            · exact ⟨rfl, trivial⟩
            · exact ⟨by rw [cnL_0, cnX, if_neg h98]; rfl, by rw [frL_0]; rfl, by rw [ownFa_head hx1 h98]; rfl, trivial⟩
            rintro j hr1
            refine T_seq ?_
            refine T_region ?_
            refine S_ 110 rfl rfl rfl _ (y_bin rfl rfl rfl (fun _ => b_lss)) ?_
            refine S_go (fun _ _ h => h) ?_
            refine T_seq ?_
            refine T_cond rfl (fun h110 => ?_) (fun h110 => ?_)
            · try simp only [decide_eq_true_eq, decide_eq_false_iff_not, Bool.or_eq_true, Bool.or_eq_false_iff, Bool.and_eq_true, Bool.and_eq_false_iff, Bool.not_eq_true', Bool.not_eq_false', Bool.not_eq_true, Bool.not_eq_false, Bool.not_true, Bool.not_false, Int.not_lt, Int.not_le, not_or, not_and, Classical.not_not] at h110
              obtain ⟨y, hy1, hy2⟩ := at_lt (l := x.fr.l) (i := j) (by omega)
              have hyl := hxl.2.2.2 y (mem_at hy1)
              have hcj := cnL_le (r := r) (j := j) hxl.2.2.2
              refine T_skip_go (fun _ _ h => h) ?_
              refine T_seq ?_
              refine T_block ?_
              refine T_seq ?_
              refine T_region ?_
              refine S_ 111 rfl rfl rfl _ (y_move rfl rfl) ?_
              refine S_ 10 rfl rfl rfl _ (y_assign rfl rfl) ?_
              refine S_go (fun _ _ h => h) ?_
              refine T_seq ?_
              refine T_region ?_
              refine S_ 112 rfl rfl rfl _ (y_fieldAddr rfl rfl fa43_0) ?_
              refine S_ 113 rfl rfl rfl _ (y_load 3 rfl rfl rfl rfl Tryz.underlying3 rfl) ?_
              refine S_ 114 rfl rfl rfl _ (y_bin rfl rfl rfl (fun _ => b_eql)) ?_
              refine S_go (fun _ _ h => h) ?_
              refine T_cond rfl (fun h114 => ?_) (fun h114 => ?_)
              · try simp only [decide_eq_true_eq, decide_eq_false_iff_not, Bool.or_eq_true, Bool.or_eq_false_iff, Bool.and_eq_true, Bool.and_eq_false_iff, Bool.not_eq_true', Bool.not_eq_false', Bool.not_eq_true, Bool.not_eq_false, Bool.not_true, Bool.not_false, Int.not_lt, Int.not_le, not_or, not_and, Classical.not_not] at h114
                have hct : m0R r e + smT (cnF r) e.fa.l i + cnX r x + cnL r x.fr.l j + (fndR r y.fi).length = m0R r e + smT (cnF r) e.fa.l i + cnX r x + cnL r x.fr.l (j + 1) := by rw [cnL_next h114 hy1]; unfold cnM; omega
                refine T_region ?_
                refine S_ 115 rfl rfl rfl _ (y_move rfl rfl) ?_
                refine S_ 116 rfl rfl rfl _ (y_move rfl rfl) ?_
                refine S_ 117 rfl rfl rfl _ (y_nilCheckOwn 908 rfl rfl rfl (fun _ => by omega)) ?_
                refine S_ 118 rfl rfl rfl _ (y_fieldOwn 908 rfl rfl rfl (fun _ => by omega) fa50_2) ?_
                refine S_ 119 rfl rfl rfl _ (y_load_cellOwn 908 rfl rfl rfl (fun _ => by omega) (fun _ => flat_at (enc := Flt.enc) (size := 3) (fun _ => rfl) (mpL_at1 hx1) 2 (.slice x.fr.A x.fr.q x.fr.c) rfl) Tryz.underlying48 rfl) ?_
                refine S_ 120 rfl rfl rfl _ (y_move rfl rfl) ?_
                refine S_ 121 rfl rfl rfl _ (y_indexOwn 961 rfl rfl rfl rfl Tryz.underlying48 sz116 (fun _ => by omega)) ?_
                refine S_ 122 rfl rfl rfl _ (y_as (v' := .pointer (some ⟨gR, j * 6 + 2, none⟩)) (by rw [hgR (by omega), at_one]) (y_fieldOwn 961 rfl rfl rfl (fun _ => by omega) fa116_2)) ?_
                refine S_rowBox 961 gR rfl (hgR (by omega)) ?_
                intro cur hcu hcl hck hcm
                refine S_callM 123 [(0, 0), (1, 1), (2, 961)] (X := Unit) rfl rfl rfl rfl rfl rfl rfl cf174 rfl (fun _ => .tuple #[]) (fun _ => True) (fun _ => [(0, clrBox b2 g cap (m0R r e + smT (cnF r) e.fa.l i + cnX r x + cnL r x.fr.l (j + 1) : Nat)), (1, rulBox b1 r), (2, .blk gR (IsBox (spl cur (j * 6 + 2) [str (mk r y.fi)]) 116))]) (fun _ => rfl) (fun _ => rfl) (fun K1 hK1 w hM => clearN_any hK1 r b1 b2 gR (j * 6 + 2) g cap hg (m0R r e + smT (cnF r) e.fa.l i + cnX r x + cnL r x.fr.l j) _ cur _ y.fi (conv_at (enc := Frm.enc) (fun _ => rfl) (frL_at h114 hy1) rfl hcu) hyl (by omega) hct w hM) ?_
                intro _ _
                refine S_backRow 961 6 x.fr.q x.fr.c x.fr.A ((frL r x.fr.l (j + 1)).flatMap Frm.enc) rfl (hgR (by omega)) (conv_set (enc := Frm.enc) (fun _ => rfl) (frL_at h114 hy1) (by decide) (x' := clM r y) rfl hcu (frL_set h114 hy1)) (by rw [spl1_len]; exact hcl) hck hcm ?_
                refine S_go (fun _ _ h => h) ?_
                refine T_region ?_
                refine S_ 124 rfl rfl rfl _ (y_bin rfl rfl rfl (fun hg => b_add (by omega))) ?_
                refine S_ 109 rfl rfl rfl _ (y_move rfl rfl) ?_
                refine S_nil (nextK1 (kf := [(10, 10), (109, 124)]) (kl := [(0, 0), (10, 10), (109, 124), (908, 908), (961, 961)]) (j + 1) (by repeat (first | exact kf_nil | (apply kf_in; focus rfl) | (apply kf_out; focus rfl))) (by refine ks_go ?_; repeat (first | exact ks_nil | exact ks_tail (by assumption) rfl (by repeat (first | exact ti_refl | (apply ti_cons; focus rfl))) | refine ks_dup rfl ?_ | refine ks_cons rfl rfl ?_)) ?_ ?_ ?_ ?_)
                · omega
                · omega
                · exact ⟨rfl, trivial⟩
                · exact ⟨rfl, rfl, rfl, trivial⟩
              · try simp only [decide_eq_true_eq, decide_eq_false_iff_not, Bool.or_eq_true, Bool.or_eq_false_iff, Bool.and_eq_true, Bool.and_eq_false_iff, Bool.not_eq_true', Bool.not_eq_false', Bool.not_eq_true, Bool.not_eq_false, Bool.not_true, Bool.not_false, Int.not_lt, Int.not_le, not_or, not_and, Classical.not_not] at h114
                rw [← frL_no (j := j) h114, ← cnL_no (j := j) h114]
                refine T_skip_go (fun _ _ h => h) ?_
                refine T_region ?_
                refine S_ 124 rfl rfl rfl _ (y_bin rfl rfl rfl (fun hg => b_add (by omega))) ?_
                refine S_ 109 rfl rfl rfl _ (y_move rfl rfl) ?_
                refine S_nil (nextK1 (kf := [(10, 10), (109, 124)]) (kl := [(0, 0), (10, 10), (109, 124), (908, 908), (961, 961)]) (j + 1) (by repeat (first | exact kf_nil | (apply kf_in; focus rfl) | (apply kf_out; focus rfl))) (by refine ks_go ?_; repeat (first | exact ks_nil | exact ks_tail (by assumption) rfl (by repeat (first | exact ti_refl | (apply ti_cons; focus rfl))) | refine ks_dup rfl ?_ | refine ks_cons rfl rfl ?_)) ?_ ?_ ?_ ?_)
                · omega
                · omega
                · exact ⟨rfl, trivial⟩
                · exact ⟨rfl, rfl, rfl, trivial⟩
            · try simp only [decide_eq_true_eq, decide_eq_false_iff_not, Bool.or_eq_true, Bool.or_eq_false_iff, Bool.and_eq_true, Bool.and_eq_false_iff, Bool.not_eq_true', Bool.not_eq_false', Bool.not_eq_true, Bool.not_eq_false, Bool.not_true, Bool.not_false, Int.not_lt, Int.not_le, not_or, not_and, Classical.not_not] at h110
              rw [show frL r x.fr.l j = (clF r x).fr.l from frL_end (by omega), show m0R r e + smT (cnF r) e.fa.l i + cnX r x + cnL r x.fr.l j = m0R r e + smT (cnF r) e.fa.l (i + 1) by rw [smT_next hx1, cnF, cnL_end (by omega)]; omega]
              refine T_exit_go (fun _ _ h => h) ?_
              refine T_region ?_
              refine S_ 125 rfl rfl rfl _ (y_bin rfl rfl rfl (fun hg => b_add (by omega))) ?_
              refine S_ 87 rfl rfl rfl _ (y_move rfl rfl) ?_
              refine S_bank [(961, 961), (900, 900)] 900 961 rfl rfl rfl rfl (by repeat (first | exact kl_nil | exact kl_rest (by assumption) rfl | (apply kl_in; focus rfl) | (apply kl_out; focus rfl))) ?_
              refine S_manyEq 900 ((mpL (clF r) e.fa.l (i + 1)).map frRow) rfl (rows_back hx1) ?_
              refine S_nil (nextK1 (kf := [(8, 10), (87, 125)]) (kl := [(0, 0), (2, 2), (8, 10), (87, 125), (900, 900), (908, 908), (935, 935), (939, 939)]) (i + 1) (by repeat (first | exact kf_nil | (apply kf_in; focus rfl) | (apply kf_out; focus rfl))) (by refine ks_go ?_; repeat (first | exact ks_nil | exact ks_tail (by assumption) rfl (by repeat (first | exact ti_refl | (apply ti_cons; focus rfl))) | refine ks_dup rfl ?_ | refine ks_cons rfl rfl ?_)) ?_ ?_ ?_ ?_)
              · omega
              · omega
              · exact ⟨rfl, trivial⟩
              · exact ⟨rfl, rfl, rfl, rfl, rfl, rfl, trivial⟩
        · try simp only [decide_eq_true_eq, decide_eq_false_iff_not, Bool.or_eq_true, Bool.or_eq_false_iff, Bool.and_eq_true, Bool.and_eq_false_iff, Bool.not_eq_true', Bool.not_eq_false', Bool.not_eq_true, Bool.not_eq_false, Bool.not_true, Bool.not_false, Int.not_lt, Int.not_le, not_or, not_and, Classical.not_not] at h88
          refine T_exit (fun a w hF hM => hRn a w (post0 rfl (fun w hM => ?_) a w hF hM))
          have hi : e.fa.l.length ≤ i := by omega
          rw [mpL_end hi, smT_end hi] at hM
          exact ⟨(), rfl, trivial, hM.keep (ks := [(0, 999)]) (by repeat (first | exact kl_rest (by assumption) rfl | (apply kl_in; focus rfl))) _ ⟨rfl, rfl, rfl, rfl, rfl, rfl, rfl, trivial⟩⟩
end Go.Proofs.YtfmbgaaonfgenaaGreatDoor
