/- Part 5, merged by a program. The functions that find.test returns ask what they ought to. Conditions: those of each theorem. find.test: the function value that it returns asks what its condition holds for. Conditions: the condition is right. find.Holds. Conditions: those of the theorem. FindPlain answers true, for all conditions and events. Conditions: the arguments lie in memory. A world in which the listed tables of Go's hold what their text says, at a seat of conditions; what a row's condition says of the greatest length that is searched. No condition. -/
import Derived.Test.YtfmbgaaonfgenaaDoorShelf
import Derived.Test.YtfmbgaaonfgenaaDoorGrd
import Derived.Test.YtfmbgaaonfgenaaDoorCards
import Derived.Test.YtfmbgaaonfgenaaDoorTie
import Derived.Deep.DeepHandedRow
import Derived.Lib.LaidTab
import Derived.Stop.LaidErr
import Derived.ProofKit
import Derived.OpenShut
import Derived.Test.YtfmbgaaonfgenaaDoorPk4
section
namespace Go.Proofs.YtfmbgaaonfgenaaDoor
set_option linter.unusedSimpArgs false
set_option linter.unusedVariables false
set_option maxRecDepth 20000
open Go.RowKit Go.Eng
abbrev ptF (b : Nat) : Value := .pointer (some ⟨b, 0, none⟩)
abbrev Cell1 (w : World) (b : Nat) (v : Value) : Prop := w.cell? ⟨b, 0, none⟩ = some v ∧ b < w.heap.size
theorem cell1_of {w : World} {b : Nat} {v : Value} (h : CellsIn b [v] w) : Cell1 w b v := ⟨h.1 0 v rfl, h.2⟩
/-- the greatest length of what is searched lies in memory -/
def MLen (w : World) : Prop := ∃ m, w.cell? ⟨0, 0, none⟩ = some (.int .i64 m) ∧ 0 < w.heap.size
theorem MLen.below {w w' : World} (h : MLen w) (hb : Below w.heap.size w w') : MLen w' := by
  obtain ⟨m, h1, h2⟩ := h
  exact ⟨m, cellK ⟨h1, h2⟩ hb⟩
theorem Contains2_any (s t : List UInt8) (hs : s.length ≤ 1000000000) (w : World) (hm : MLen w) :
    Calls Tryd.prog 51 #[str s, str t] w fun e w' => e = .returned (.bool (Lib.contains s t)) ∧ Below w.heap.size w w' := by
  obtain ⟨m, h1, h2⟩ := hm
  exact (Any.strings_Contains Tryd.lays144 ⟨s.toArray⟩ ⟨t.toArray⟩ m w (by rw [Lib.size_eq]; simp; omega) h1).mono fun e w' ⟨he, hw⟩ => ⟨by simpa using he, by rw [hw]; exact Below.refl _ _⟩
theorem fsmall_any (s : List UInt8) (hs : s.length ≤ 1000000000000) (w : World) :
    Calls Tryd.prog 49 #[str s] w fun e w' => e = .returned (str (s.map lowB)) ∧ Below w.heap.size w w' := by
  refine enter_args (args := [str s]) (F := _) Tryd.func49 rfl Tryd.ntmps49 rfl rfl ?_
  intro Rb hRb hRn
  refine T_seq ?_
  refine T_region ?_
  refine S_ 2 rfl rfl rfl _ (y_assign rfl rfl) ?_
  refine S_go (fun _ _ h => h) ?_
  refine T_seq ?_
  refine T_region ?_
  refine S_ 5 rfl rfl rfl _ (y_move rfl rfl) ?_
  refine S_strBytesW 6 6 rfl rfl rfl rfl rfl Tryd.underlying9 Tryd.underlying93 Tryd.underlying5 ?_
  intro b6 c6
  refine S_ 3 rfl rfl rfl _ (y_assign rfl rfl) ?_
  refine S_go (fun _ _ h => h) ?_
  refine T_seq ?_
  refine T_seq ?_
  refine T_region ?_
  refine S_ 7 rfl rfl rfl _ (y_move rfl rfl) ?_
  refine S_ 8 rfl rfl rfl _ (y_len_slice rfl rfl Tryd.underlying93) ?_
  refine S_ 9 rfl rfl rfl _ (y_move rfl rfl) ?_
  refine S_go (fun _ _ h => h) ?_
  refine T_block ?_
  refine T_loopK1 (kf := [(4, 4), (9, 20)]) (kl := [(4, 4), (6, 6), (9, 20)]) (fun (i : Nat) => [(9, true, .int .i64 (i : Int))]) (fun (i : Nat) => [(6, .blk b6 (IsRw 5 (bytesV ((s.take i).map lowB ++ s.drop i))))]) (fun (i : Nat) => i ≤ s.length) (fun (i : Nat) => s.length - i) 0 (by repeat (first | exact kf_nil | (apply kf_in; focus rfl) | (apply kf_out; focus rfl))) (by repeat (first | exact kl_nil | exact kl_rest (by assumption) rfl | (apply kl_in; focus rfl) | (apply kl_out; focus rfl))) ?_ ?_ ?_ ?_
  · omega
  · exact ⟨rfl, trivial⟩
  · exact ⟨by rw [List.take_zero, List.map_nil, List.nil_append, List.drop_zero]; rfl, trivial⟩
  rintro i hp1
  refine T_seq ?_
  refine T_region ?_
  refine S_ 10 rfl rfl rfl _ (y_bin rfl rfl rfl (fun _ => b_lss)) ?_
  refine S_go (fun _ _ h => h) ?_
  refine T_seq ?_
  refine T_cond rfl (fun h10 => ?_) (fun h10 => ?_)
  · try simp only [decide_eq_true_eq, decide_eq_false_iff_not, Bool.or_eq_true, Bool.or_eq_false_iff, Bool.and_eq_true, Bool.and_eq_false_iff, Bool.not_eq_true', Bool.not_eq_false', Bool.not_eq_true, Bool.not_eq_false, Bool.not_true, Bool.not_false, Int.not_lt, Int.not_le, not_or, not_and, Classical.not_not] at h10
    have hi : i < s.length := by omega
    refine T_skip_go (fun _ _ h => h) ?_
    refine T_seq ?_
    refine T_block ?_
    refine T_seq ?_
    refine T_region ?_
    refine S_ 11 rfl rfl rfl _ (y_move rfl rfl) ?_
    refine S_ 4 rfl rfl rfl _ (y_assign rfl rfl) ?_
    refine S_go (fun _ _ h => h) ?_
    refine T_region ?_
    refine S_ 12 rfl rfl rfl _ (y_move rfl rfl) ?_
    refine S_ 13 rfl rfl rfl _ (y_move rfl rfl) ?_
    refine S_ 14 rfl rfl rfl _ (y_move rfl rfl) ?_
    refine S_ 15 rfl rfl rfl _ (y_move rfl rfl) ?_
    refine S_ 16 rfl rfl rfl _ (y_indexAddr rfl rfl rfl Tryd.underlying93 sz5 (fun _ => rfl) (fun _ => by omega)) ?_
    refine S_ 17 rfl rfl rfl _ (y_loadRw 6 rfl rfl rfl (fun _ => low_at (by omega)) Tryd.underlying5 rfl) ?_
    refine S_ 18 rfl rfl rfl _ (y_call rfl rfl rfl cf14 (fun _ w _ => lower_any _ (UInt8.toNat_lt _) w)) ?_
    refine S_ 19 rfl rfl rfl _ (y_indexAddr rfl rfl rfl Tryd.underlying93 sz5 (fun _ => rfl) (fun _ => by omega)) ?_
    refine S_storeRw 6 rfl rfl rfl rfl rfl rfl sz5 rfl rfl (by rw [bytesV_len, low_len]; omega) ?_
    rw [low_set (by omega)]
    refine S_go (fun _ _ h => h) ?_
    refine T_region ?_
    refine S_ 20 rfl rfl rfl _ (y_bin rfl rfl rfl (fun hg => b_add (by omega))) ?_
    refine S_ 9 rfl rfl rfl _ (y_move rfl rfl) ?_
    refine S_nil (nextK1 (kf := [(4, 4), (9, 20)]) (kl := [(4, 4), (6, 6), (9, 20)]) (i + 1) (by repeat (first | exact kf_nil | (apply kf_in; focus rfl) | (apply kf_out; focus rfl))) (by repeat (first | exact kl_nil | exact kl_rest (by assumption) rfl | (apply kl_in; focus rfl) | (apply kl_out; focus rfl))) ?_ ?_ ?_ ?_)
    · omega
    · omega
    · exact ⟨rfl, trivial⟩
    · exact ⟨rfl, trivial⟩
  · try simp only [decide_eq_true_eq, decide_eq_false_iff_not, Bool.or_eq_true, Bool.or_eq_false_iff, Bool.and_eq_true, Bool.and_eq_false_iff, Bool.not_eq_true', Bool.not_eq_false', Bool.not_eq_true, Bool.not_eq_false, Bool.not_true, Bool.not_false, Int.not_lt, Int.not_le, not_or, not_and, Classical.not_not] at h10
    rw [low_end (by omega)]
    refine T_exit_go (fun _ _ h => h) ?_
    refine T_seq ?_
    refine T_region ?_
    refine S_ 21 rfl rfl rfl _ (y_move rfl rfl) ?_
    refine S_ 22 rfl rfl rfl _ (y_str_rw 6 (s.map lowB) rfl rfl rfl (by rw [List.length_map]) Tryd.underlying93 Tryd.underlying5 Tryd.underlying9) ?_
    refine S_ 2 rfl rfl rfl _ (y_assign rfl rfl) ?_
    refine S_go (fun _ _ h => h) ?_
    refine T_ret (fun a w hF hM => hRb a w (post1 rfl rfl (fun w hM => ?_) a w hF hM))
    exact ⟨rfl, hM.below⟩
/-! ### Of an event: a number between two -/
theorem nlv_any (e : Evt) (w : World) : Calls Tryd.prog 41 #[e.val] w fun en w' => en = .returned (.int .i64 (e.lv)) ∧ Below w.heap.size w w' := by
  refine enter_args (args := [.agg #[str e.id, .int .i64 e.at_, .int .i64 e.lv, .slice e.fa.A e.fa.q e.fa.c, .slice e.ta.A e.ta.q e.ta.c, .slice e.cr.A e.cr.q e.cr.c, str e.rel, str e.us, .int .i64 e.wt]]) (F := _) Tryd.func41 rfl Tryd.ntmps41 rfl rfl ?_
  intro Rb hRb hRn
  refine T_seq ?_
  refine T_region ?_
  refine S_box 1 1 rfl rfl rfl rfl rfl ?_
  intro b1
  refine S_ 2 rfl rfl rfl _ (y_assign rfl rfl) ?_
  refine S_go (fun _ _ h => h) ?_
  refine T_seq ?_
  refine T_region ?_
  refine S_ 3 rfl rfl rfl _ (y_fieldAddr rfl rfl fa35_2) ?_
  refine S_ 4 rfl rfl rfl _ (y_load 1 rfl rfl rfl rfl Tryd.underlying3 rfl) ?_
  refine S_ 2 rfl rfl rfl _ (y_assign rfl rfl) ?_
  refine S_go (fun _ _ h => h) ?_
  refine T_ret (fun a w hF hM => hRb a w (post1 rfl rfl (fun w hM => ?_) a w hF hM))
  exact ⟨rfl, hM.below⟩
theorem nat_any (e : Evt) (w : World) : Calls Tryd.prog 42 #[e.val] w fun en w' => en = .returned (.int .i64 (e.at_)) ∧ Below w.heap.size w w' := by
  refine enter_args (args := [.agg #[str e.id, .int .i64 e.at_, .int .i64 e.lv, .slice e.fa.A e.fa.q e.fa.c, .slice e.ta.A e.ta.q e.ta.c, .slice e.cr.A e.cr.q e.cr.c, str e.rel, str e.us, .int .i64 e.wt]]) (F := _) Tryd.func42 rfl Tryd.ntmps42 rfl rfl ?_
  intro Rb hRb hRn
  refine T_seq ?_
  refine T_region ?_
  refine S_box 1 1 rfl rfl rfl rfl rfl ?_
  intro b1
  refine S_ 2 rfl rfl rfl _ (y_assign rfl rfl) ?_
  refine S_go (fun _ _ h => h) ?_
  refine T_seq ?_
  refine T_region ?_
  refine S_ 3 rfl rfl rfl _ (y_fieldAddr rfl rfl fa35_1) ?_
  refine S_ 4 rfl rfl rfl _ (y_load 1 rfl rfl rfl rfl Tryd.underlying3 rfl) ?_
  refine S_ 2 rfl rfl rfl _ (y_assign rfl rfl) ?_
  refine S_go (fun _ _ h => h) ?_
  refine T_ret (fun a w hF hM => hRb a w (post1 rfl rfl (fun w hM => ?_) a w hF hM))
  exact ⟨rfl, hM.below⟩
theorem nwt_any (e : Evt) (w : World) : Calls Tryd.prog 43 #[e.val] w fun en w' => en = .returned (.int .i64 (e.wt)) ∧ Below w.heap.size w w' := by
  refine enter_args (args := [.agg #[str e.id, .int .i64 e.at_, .int .i64 e.lv, .slice e.fa.A e.fa.q e.fa.c, .slice e.ta.A e.ta.q e.ta.c, .slice e.cr.A e.cr.q e.cr.c, str e.rel, str e.us, .int .i64 e.wt]]) (F := _) Tryd.func43 rfl Tryd.ntmps43 rfl rfl ?_
  intro Rb hRb hRn
  refine T_seq ?_
  refine T_region ?_
  refine S_box 1 1 rfl rfl rfl rfl rfl ?_
  intro b1
  refine S_ 2 rfl rfl rfl _ (y_assign rfl rfl) ?_
  refine S_go (fun _ _ h => h) ?_
  refine T_seq ?_
  refine T_region ?_
  refine S_ 3 rfl rfl rfl _ (y_fieldAddr rfl rfl fa35_8) ?_
  refine S_ 4 rfl rfl rfl _ (y_load 1 rfl rfl rfl rfl Tryd.underlying3 rfl) ?_
  refine S_ 2 rfl rfl rfl _ (y_assign rfl rfl) ?_
  refine S_go (fun _ _ h => h) ?_
  refine T_ret (fun a w hF hM => hRb a w (post1 rfl rfl (fun w hM => ?_) a w hF hM))
  exact ⟨rfl, hM.below⟩
theorem tnum_any (x : SC) (g : FuncId) (f : Evt → Int) (b2 b : Nat) (e : Evt) (w : World) (hcf : ∀ args w, (callFunc g args).run Tryd.prog w = .ok (.enter g args) w)
    (hg : ∀ w', Calls Tryd.prog g #[e.val] w' fun en w'' => en = .returned (.int .i64 (f e)) ∧ Below w'.heap.size w' w'') (h2 : Cell1 w b2 (.func (.func g) #[] #[])) (h : CellsAt w b x.enc) :
    Calls Tryd.prog 33 #[e.val, ptF b2, ptF b] w fun en w' => en = .returned (.bool (inB (f e) x.lo x.hi)) ∧ Below w.heap.size w w' := by
  refine enter_args (args := [.agg #[str e.id, .int .i64 e.at_, .int .i64 e.lv, .slice e.fa.A e.fa.q e.fa.c, .slice e.ta.A e.ta.q e.ta.c, .slice e.cr.A e.cr.q e.cr.c, str e.rel, str e.us, .int .i64 e.wt], ptF b2, ptF b]) (F := _) Tryd.func33 rfl Tryd.ntmps33 rfl rfl ?_
  intro Rb hRb hRn
  refine T_seq ?_
  refine T_region ?_
  refine S_box 3 3 rfl rfl rfl rfl rfl ?_
  intro b3
  refine S_ 4 rfl rfl rfl _ (y_assign rfl rfl) ?_
  refine S_go (fun _ _ h => h) ?_
  refine T_seq ?_
  refine T_draws (by kernel_rfl) (by kernel_rfl) ?_
  refine D_ 5 rfl rfl rfl _ (y_load_far rfl rfl h2.1 h2.2 Tryd.underlying67 rfl) ?_
  refine D_ 6 rfl rfl rfl _ (y_loadA 3 rfl rfl rfl Tryd.underlying35 rfl sz35) ?_
  refine D_ 7 rfl rfl rfl _ (y_call rfl rfl rfl hcf (fun _ w _ => hg w)) ?_
  refine D_ 8 rfl rfl rfl _ (y_fieldAddr rfl rfl fa24_2) ?_
  refine D_ 9 rfl rfl rfl _ (y_load_far rfl rfl (h.one (j := 2) rfl).1 (h.one (j := 2) (cs := x.enc) rfl).2 Tryd.underlying3 rfl) ?_
  refine D_ 10 rfl rfl rfl _ (y_fieldAddr rfl rfl fa24_3) ?_
  refine D_ 11 rfl rfl rfl _ (y_load_far rfl rfl (h.one (j := 3) rfl).1 (h.one (j := 3) (cs := x.enc) rfl).2 Tryd.underlying3 rfl) ?_
  refine D_ 12 rfl rfl rfl _ (y_call rfl rfl rfl cf34 (fun _ w _ => fout_any _ _ _ w)) ?_
  refine D_ 13 rfl rfl rfl _ (y_not rfl rfl) ?_
  refine D_ 4 rfl rfl rfl _ (y_assign rfl rfl) ?_
  refine D_go (fun _ _ h => h) ?_
  refine T_ret (fun a w hF hM => hRb a w (post1 rfl rfl (fun w hM => ?_) a w hF hM))
  exact ⟨by rw [Bool.not_not], hM.below⟩
theorem askNum {x : SC} {g : FuncId} {f : Evt → Int} {b2 b : Nat} {w : World} (hcf : ∀ args w, (callFunc g args).run Tryd.prog w = .ok (.enter g args) w)
    (hg : ∀ e w', Calls Tryd.prog g #[e.val] w' fun en w'' => en = .returned (.int .i64 (f e)) ∧ Below w'.heap.size w' w'') (h2 : Cell1 w b2 (.func (.func g) #[] #[])) (h : CellsAt w b x.enc) :
    AskF Evt.val EvR ⟨33, #[ptF b2, ptF b]⟩ (fun e => inB (f e) x.lo x.hi) w :=
  ⟨cf33, fun w' hb e _ => tnum_any x g f b2 b e w' hcf (hg e) (cellK h2 hb) (cells_to h hb)⟩
/-! ### Of an event: a tag, the release, the user -/
theorem ttag_any (x : SC) (b : Nat) (e : Evt) (w : World) (he : e.Ok w) (hs : EvS e) (ht : x.tx.length ≤ 200) (h : CellsAt w b x.enc) :
    Calls Tryd.prog 44 #[e.val, ptF b] w fun en w' => en = .returned (.bool ((tagV x.nm e.ta.l).2 && (decide (x.op = 8) || gm eqL x.tx (tagV x.nm e.ta.l).1))) ∧ Below w.heap.size w w' := by
  have htl := tagV_small (n := x.nm) hs.ta
  refine enter_args (args := [.agg #[str e.id, .int .i64 e.at_, .int .i64 e.lv, .slice e.fa.A e.fa.q e.fa.c, .slice e.ta.A e.ta.q e.ta.c, .slice e.cr.A e.cr.q e.cr.c, str e.rel, str e.us, .int .i64 e.wt], ptF b]) (F := _) Tryd.func44 rfl Tryd.ntmps44 rfl rfl ?_
  intro Rb hRb hRn
  refine T_seq ?_
  refine T_region ?_
  refine S_box 2 2 rfl rfl rfl rfl rfl ?_
  intro b2
  refine S_ 3 rfl rfl rfl _ (y_assign rfl rfl) ?_
  refine S_go (fun _ _ h => h) ?_
  refine T_seq ?_
  refine T_region ?_
  refine S_ 7 rfl rfl rfl _ (y_loadA 2 rfl rfl rfl Tryd.underlying35 rfl sz35) ?_
  refine S_ 8 rfl rfl rfl _ (y_fieldAddr rfl rfl fa24_4) ?_
  refine S_ 9 rfl rfl rfl _ (y_load_far rfl rfl (h.one (j := 4) rfl).1 (h.one (j := 4) (cs := x.enc) rfl).2 Tryd.underlying9 rfl) ?_
  refine S_ 10 rfl rfl rfl _ (y_call rfl rfl rfl cf45 (fun _ w hM => Tag_any e _ w (he.below hM.below))) ?_
  refine S_ 6 rfl rfl rfl _ (y_move rfl rfl) ?_
  refine S_ 11 rfl rfl rfl _ (y_extract rfl rfl rfl) ?_
  refine S_ 12 rfl rfl rfl _ (y_extract rfl rfl rfl) ?_
  refine S_ 4 rfl rfl rfl _ (y_assign rfl rfl) ?_
  refine S_ 5 rfl rfl rfl _ (y_assign rfl rfl) ?_
  refine S_go (fun _ _ h => h) ?_
  refine T_seq ?_
  refine T_region ?_
  refine S_ 13 rfl rfl rfl _ (y_move rfl rfl) ?_
  refine S_ 14 rfl rfl rfl _ (y_move rfl rfl) ?_
  refine Sg_ 15 rfl rfl rfl rfl rfl rfl _ (y_fieldAddr rfl rfl fa24_0) ?_
  refine Sg_ 16 rfl rfl rfl rfl rfl rfl _ (y_load_far rfl rfl (h.one (j := 0) rfl).1 (h.one (j := 0) (cs := x.enc) rfl).2 Tryd.underlying3 rfl) ?_
  refine Sg_ 17 rfl rfl rfl rfl rfl rfl _ (y_bin rfl rfl rfl (fun _ => b_eql)) ?_
  refine Sg_ 18 rfl rfl rfl rfl rfl rfl _ (y_move rfl rfl) ?_
  refine Sg_ 19 rfl rfl rfl rfl rfl rfl _ (y_fieldAddr rfl rfl fa24_5) ?_
  refine Sg_ 20 rfl rfl rfl rfl rfl rfl _ (y_load_far rfl rfl (h.one (j := 5) rfl).1 (h.one (j := 5) (cs := x.enc) rfl).2 Tryd.underlying9 rfl) ?_
  refine Sg_ 21 rfl rfl rfl rfl rfl rfl _ (y_move rfl rfl) ?_
  refine Sg_ 22 rfl rfl rfl rfl rfl rfl _ (y_call rfl rfl rfl cf8 (fun _ w _ => Fits_any _ _ w (by omega) (by omega))) ?_
  refine Sg_ 23 rfl rfl rfl rfl rfl rfl _ (y_or rfl rfl rfl) ?_
  refine S_ 24 rfl rfl rfl _ (y_and rfl rfl rfl) ?_
  refine S_ 3 rfl rfl rfl _ (y_assign rfl rfl) ?_
  refine S_go (fun _ _ h => h) ?_
  refine T_ret (fun a w hF hM => hRb a w (post1 rfl rfl (fun w hM => ?_) a w hF hM))
  exact ⟨rfl, hM.below⟩
theorem askTag {x : SC} {b : Nat} {w : World} (ht : x.tx.length ≤ 200) (h : CellsAt w b x.enc) :
    AskF Evt.val EvR ⟨44, #[ptF b]⟩ (fun e => (tagV x.nm e.ta.l).2 && (decide (x.op = 8) || gm eqL x.tx (tagV x.nm e.ta.l).1)) w :=
  ⟨cf44, fun w' hb e he => ttag_any x b e w' he.1 he.2 ht (cells_to h hb)⟩
theorem trel_any (x : SC) (b : Nat) (e : Evt) (w : World) (hs : EvS e) (ht : x.tx.length ≤ 200) (h : CellsAt w b x.enc) :
    Calls Tryd.prog 46 #[e.val, ptF b] w fun en w' => en = .returned (.bool (!decide (e.rel = []) && gm eqL x.tx e.rel)) ∧ Below w.heap.size w w' := by
  have hl := hs.rel
  refine enter_args (args := [.agg #[str e.id, .int .i64 e.at_, .int .i64 e.lv, .slice e.fa.A e.fa.q e.fa.c, .slice e.ta.A e.ta.q e.ta.c, .slice e.cr.A e.cr.q e.cr.c, str e.rel, str e.us, .int .i64 e.wt], ptF b]) (F := _) Tryd.func46 rfl Tryd.ntmps46 rfl rfl ?_
  intro Rb hRb hRn
  refine T_seq ?_
  refine T_region ?_
  refine S_box 2 2 rfl rfl rfl rfl rfl ?_
  intro b2
  refine S_ 3 rfl rfl rfl _ (y_assign rfl rfl) ?_
  refine S_go (fun _ _ h => h) ?_
  refine T_seq ?_
  refine T_region ?_
  refine S_ 4 rfl rfl rfl _ (y_fieldAddr rfl rfl fa35_6) ?_
  refine S_ 5 rfl rfl rfl _ (y_load 2 rfl rfl rfl rfl Tryd.underlying9 rfl) ?_
  refine S_ 6 rfl rfl rfl _ (y_bin rfl rfl rfl (fun _ => b_neqs)) ?_
  refine S_ 7 rfl rfl rfl _ (y_move rfl rfl) ?_
  refine Sg_ 8 rfl rfl rfl rfl rfl rfl _ (y_fieldAddr rfl rfl fa24_5) ?_
  refine Sg_ 9 rfl rfl rfl rfl rfl rfl _ (y_load_far rfl rfl (h.one (j := 5) rfl).1 (h.one (j := 5) (cs := x.enc) rfl).2 Tryd.underlying9 rfl) ?_
  refine Sg_ 10 rfl rfl rfl rfl rfl rfl _ (y_fieldAddr rfl rfl fa35_6) ?_
  refine Sg_ 11 rfl rfl rfl rfl rfl rfl _ (y_load 2 rfl rfl rfl rfl Tryd.underlying9 rfl) ?_
  refine Sg_ 12 rfl rfl rfl rfl rfl rfl _ (y_call rfl rfl rfl cf8 (fun _ w _ => Fits_any _ _ w (by omega) (by omega))) ?_
  refine S_ 13 rfl rfl rfl _ (y_and rfl rfl rfl) ?_
  refine S_ 3 rfl rfl rfl _ (y_assign rfl rfl) ?_
  refine S_go (fun _ _ h => h) ?_
  refine T_ret (fun a w hF hM => hRb a w (post1 rfl rfl (fun w hM => ?_) a w hF hM))
  exact ⟨rfl, hM.below⟩
theorem askrel {x : SC} {b : Nat} {w : World} (ht : x.tx.length ≤ 200) (h : CellsAt w b x.enc) :
    AskF Evt.val EvR ⟨46, #[ptF b]⟩ (fun e => !decide (e.rel = []) && gm eqL x.tx e.rel) w :=
  ⟨cf46, fun w' hb e he => trel_any x b e w' he.2 ht (cells_to h hb)⟩
theorem tus_any (x : SC) (b : Nat) (e : Evt) (w : World) (hs : EvS e) (ht : x.tx.length ≤ 200) (h : CellsAt w b x.enc) :
    Calls Tryd.prog 47 #[e.val, ptF b] w fun en w' => en = .returned (.bool (!decide (e.us = []) && gm eqL x.tx e.us)) ∧ Below w.heap.size w w' := by
  have hl := hs.us
  refine enter_args (args := [.agg #[str e.id, .int .i64 e.at_, .int .i64 e.lv, .slice e.fa.A e.fa.q e.fa.c, .slice e.ta.A e.ta.q e.ta.c, .slice e.cr.A e.cr.q e.cr.c, str e.rel, str e.us, .int .i64 e.wt], ptF b]) (F := _) Tryd.func47 rfl Tryd.ntmps47 rfl rfl ?_
  intro Rb hRb hRn
  refine T_seq ?_
  refine T_region ?_
  refine S_box 2 2 rfl rfl rfl rfl rfl ?_
  intro b2
  refine S_ 3 rfl rfl rfl _ (y_assign rfl rfl) ?_
  refine S_go (fun _ _ h => h) ?_
  refine T_seq ?_
  refine T_region ?_
  refine S_ 4 rfl rfl rfl _ (y_fieldAddr rfl rfl fa35_7) ?_
  refine S_ 5 rfl rfl rfl _ (y_load 2 rfl rfl rfl rfl Tryd.underlying9 rfl) ?_
  refine S_ 6 rfl rfl rfl _ (y_bin rfl rfl rfl (fun _ => b_neqs)) ?_
  refine S_ 7 rfl rfl rfl _ (y_move rfl rfl) ?_
  refine Sg_ 8 rfl rfl rfl rfl rfl rfl _ (y_fieldAddr rfl rfl fa24_5) ?_
  refine Sg_ 9 rfl rfl rfl rfl rfl rfl _ (y_load_far rfl rfl (h.one (j := 5) rfl).1 (h.one (j := 5) (cs := x.enc) rfl).2 Tryd.underlying9 rfl) ?_
  refine Sg_ 10 rfl rfl rfl rfl rfl rfl _ (y_fieldAddr rfl rfl fa35_7) ?_
  refine Sg_ 11 rfl rfl rfl rfl rfl rfl _ (y_load 2 rfl rfl rfl rfl Tryd.underlying9 rfl) ?_
  refine Sg_ 12 rfl rfl rfl rfl rfl rfl _ (y_call rfl rfl rfl cf8 (fun _ w _ => Fits_any _ _ w (by omega) (by omega))) ?_
  refine S_ 13 rfl rfl rfl _ (y_and rfl rfl rfl) ?_
  refine S_ 3 rfl rfl rfl _ (y_assign rfl rfl) ?_
  refine S_go (fun _ _ h => h) ?_
  refine T_ret (fun a w hF hM => hRb a w (post1 rfl rfl (fun w hM => ?_) a w hF hM))
  exact ⟨rfl, hM.below⟩
theorem askus {x : SC} {b : Nat} {w : World} (ht : x.tx.length ≤ 200) (h : CellsAt w b x.enc) :
    AskF Evt.val EvR ⟨47, #[ptF b]⟩ (fun e => !decide (e.us = []) && gm eqL x.tx e.us) w :=
  ⟨cf47, fun w' hb e he => tus_any x b e w' he.2 ht (cells_to h hb)⟩
/-! ### Of a fault, of a frame -/
theorem tkind_any (x : SC) (b : Nat) (f : Flt) (w : World) (hs : FltS f) (ht : x.tx.length ≤ 200) (h : CellsAt w b x.enc) :
    Calls Tryd.prog 48 #[f.val, ptF b] w fun en w' => en = .returned (.bool (gm eqL x.tx f.k)) ∧ Below w.heap.size w w' := by
  have hl := hs.k
  refine enter_args (args := [.agg #[str f.k, str f.t, .slice f.fr.A f.fr.q f.fr.c], ptF b]) (F := _) Tryd.func48 rfl Tryd.ntmps48 rfl rfl ?_
  intro Rb hRb hRn
  refine T_seq ?_
  refine T_region ?_
  refine S_box 2 2 rfl rfl rfl rfl rfl ?_
  intro b2
  refine S_ 3 rfl rfl rfl _ (y_assign rfl rfl) ?_
  refine S_go (fun _ _ h => h) ?_
  refine T_seq ?_
  refine T_region ?_
  refine S_ 4 rfl rfl rfl _ (y_fieldAddr rfl rfl fa24_5) ?_
  refine S_ 5 rfl rfl rfl _ (y_load_far rfl rfl (h.one (j := 5) rfl).1 (h.one (j := 5) (cs := x.enc) rfl).2 Tryd.underlying9 rfl) ?_
  refine S_ 6 rfl rfl rfl _ (y_fieldAddr rfl rfl fa60_0) ?_
  refine S_ 7 rfl rfl rfl _ (y_load 2 rfl rfl rfl rfl Tryd.underlying9 rfl) ?_
  refine S_ 8 rfl rfl rfl _ (y_call rfl rfl rfl cf8 (fun _ w _ => Fits_any _ _ w (by omega) (by omega))) ?_
  refine S_ 3 rfl rfl rfl _ (y_assign rfl rfl) ?_
  refine S_go (fun _ _ h => h) ?_
  refine T_ret (fun a w hF hM => hRb a w (post1 rfl rfl (fun w hM => ?_) a w hF hM))
  exact ⟨rfl, hM.below⟩
theorem askKind {x : SC} {b : Nat} {w : World} (ht : x.tx.length ≤ 200) (h : CellsAt w b x.enc) : AskF Flt.val FltR ⟨48, #[ptF b]⟩ (fun f => gm eqL x.tx f.k) w :=
  ⟨cf48, fun w' hb f hf => tkind_any x b f w' hf.2 ht (cells_to h hb)⟩
theorem tsays_any (t : List UInt8) (b : Nat) (f : Flt) (w : World) (hs : FltS f) (hm : MLen w) (h : Cell1 w b (str t)) :
    Calls Tryd.prog 50 #[f.val, ptF b] w fun en w' => en = .returned (.bool (Lib.contains (f.t.map lowB) t)) ∧ Below w.heap.size w w' := by
  have hl := hs.t
  refine enter_args (args := [.agg #[str f.k, str f.t, .slice f.fr.A f.fr.q f.fr.c], ptF b]) (F := _) Tryd.func50 rfl Tryd.ntmps50 rfl rfl ?_
  intro Rb hRb hRn
  refine T_seq ?_
  refine T_region ?_
  refine S_box 2 2 rfl rfl rfl rfl rfl ?_
  intro b2
  refine S_ 3 rfl rfl rfl _ (y_assign rfl rfl) ?_
  refine S_go (fun _ _ h => h) ?_
  refine T_seq ?_
  refine T_draws (by kernel_rfl) (by kernel_rfl) ?_
  refine D_ 4 rfl rfl rfl _ (y_fieldAddr rfl rfl fa60_1) ?_
  refine D_ 5 rfl rfl rfl _ (y_load 2 rfl rfl rfl rfl Tryd.underlying9 rfl) ?_
  refine D_ 6 rfl rfl rfl _ (y_call rfl rfl rfl cf49 (fun _ w _ => fsmall_any _ (by omega) w)) ?_
  refine D_ 7 rfl rfl rfl _ (y_load_far rfl rfl h.1 h.2 Tryd.underlying9 rfl) ?_
  refine D_ 8 rfl rfl rfl _ (y_call rfl rfl rfl cf51 (fun _ w hM => Contains2_any _ _ (by rw [List.length_map]; omega) w (hm.below hM.below))) ?_
  refine D_ 3 rfl rfl rfl _ (y_assign rfl rfl) ?_
  refine D_go (fun _ _ h => h) ?_
  refine T_ret (fun a w hF hM => hRb a w (post1 rfl rfl (fun w hM => ?_) a w hF hM))
  exact ⟨rfl, hM.below⟩
theorem askSays {t : List UInt8} {b : Nat} {w : World} (hm : MLen w) (h : Cell1 w b (str t)) : AskF Flt.val FltR ⟨50, #[ptF b]⟩ (fun f => Lib.contains (f.t.map lowB) t) w :=
  ⟨cf50, fun w' hb f hf => tsays_any t b f w' hf.2 (hm.below hb) (cellK h hb)⟩
theorem tFunc_any (x : SC) (b : Nat) (y : Frm) (w : World) (hs : y.f.length ≤ 2000 ∧ y.fi.length ≤ 2000) (ht : x.tx.length ≤ 200) (h : CellsAt w b x.enc) :
    Calls Tryd.prog 52 #[y.val, ptF b] w fun en w' => en = .returned (.bool (gm eqL x.tx y.f)) ∧ Below w.heap.size w w' := by
  refine enter_args (args := [.agg #[str y.m, str y.f, str y.fi, .int .i64 y.ln, .int .i64 y.ad, .bool y.own], ptF b]) (F := _) Tryd.func52 rfl Tryd.ntmps52 rfl rfl ?_
  intro Rb hRb hRn
  refine T_seq ?_
  refine T_region ?_
  refine S_box 2 2 rfl rfl rfl rfl rfl ?_
  intro b2
  refine S_ 3 rfl rfl rfl _ (y_assign rfl rfl) ?_
  refine S_go (fun _ _ h => h) ?_
  refine T_seq ?_
  refine T_region ?_
  refine S_ 4 rfl rfl rfl _ (y_fieldAddr rfl rfl fa24_5) ?_
  refine S_ 5 rfl rfl rfl _ (y_load_far rfl rfl (h.one (j := 5) rfl).1 (h.one (j := 5) (cs := x.enc) rfl).2 Tryd.underlying9 rfl) ?_
  refine S_ 6 rfl rfl rfl _ (y_fieldAddr rfl rfl fa65_1) ?_
  refine S_ 7 rfl rfl rfl _ (y_load 2 rfl rfl rfl rfl Tryd.underlying9 rfl) ?_
  refine S_ 8 rfl rfl rfl _ (y_call rfl rfl rfl cf8 (fun _ w _ => Fits_any _ _ w (by omega) (by omega))) ?_
  refine S_ 3 rfl rfl rfl _ (y_assign rfl rfl) ?_
  refine S_go (fun _ _ h => h) ?_
  refine T_ret (fun a w hF hM => hRb a w (post1 rfl rfl (fun w hM => ?_) a w hF hM))
  exact ⟨rfl, hM.below⟩
theorem askFunc {x : SC} {b : Nat} {w : World} (ht : x.tx.length ≤ 200) (h : CellsAt w b x.enc) : AskF Frm.val FrmR ⟨52, #[ptF b]⟩ (fun y => gm eqL x.tx y.f) w :=
  ⟨cf52, fun w' hb y hy => tFunc_any x b y w' hy ht (cells_to h hb)⟩
theorem tFile_any (x : SC) (b : Nat) (y : Frm) (w : World) (hs : y.f.length ≤ 2000 ∧ y.fi.length ≤ 2000) (ht : x.tx.length ≤ 200) (h : CellsAt w b x.enc) :
    Calls Tryd.prog 53 #[y.val, ptF b] w fun en w' => en = .returned (.bool (gm eqL x.tx y.fi)) ∧ Below w.heap.size w w' := by
  refine enter_args (args := [.agg #[str y.m, str y.f, str y.fi, .int .i64 y.ln, .int .i64 y.ad, .bool y.own], ptF b]) (F := _) Tryd.func53 rfl Tryd.ntmps53 rfl rfl ?_
  intro Rb hRb hRn
  refine T_seq ?_
  refine T_region ?_
  refine S_box 2 2 rfl rfl rfl rfl rfl ?_
  intro b2
  refine S_ 3 rfl rfl rfl _ (y_assign rfl rfl) ?_
  refine S_go (fun _ _ h => h) ?_
  refine T_seq ?_
  refine T_region ?_
  refine S_ 4 rfl rfl rfl _ (y_fieldAddr rfl rfl fa24_5) ?_
  refine S_ 5 rfl rfl rfl _ (y_load_far rfl rfl (h.one (j := 5) rfl).1 (h.one (j := 5) (cs := x.enc) rfl).2 Tryd.underlying9 rfl) ?_
  refine S_ 6 rfl rfl rfl _ (y_fieldAddr rfl rfl fa65_2) ?_
  refine S_ 7 rfl rfl rfl _ (y_load 2 rfl rfl rfl rfl Tryd.underlying9 rfl) ?_
  refine S_ 8 rfl rfl rfl _ (y_call rfl rfl rfl cf8 (fun _ w _ => Fits_any _ _ w (by omega) (by omega))) ?_
  refine S_ 3 rfl rfl rfl _ (y_assign rfl rfl) ?_
  refine S_go (fun _ _ h => h) ?_
  refine T_ret (fun a w hF hM => hRb a w (post1 rfl rfl (fun w hM => ?_) a w hF hM))
  exact ⟨rfl, hM.below⟩
theorem askFile {x : SC} {b : Nat} {w : World} (ht : x.tx.length ≤ 200) (h : CellsAt w b x.enc) : AskF Frm.val FrmR ⟨53, #[ptF b]⟩ (fun y => gm eqL x.tx y.fi) w :=
  ⟨cf53, fun w' hb y hy => tFile_any x b y w' hy ht (cells_to h hb)⟩
/-! ### Any fault, any frame -/
theorem tfault_any (v : Fn) (p : Flt → Bool) (b : Nat) (e : Evt) (w : World) (he : e.Ok w) (hs : EvS e) (h : Cell1 w b v.v) (hv : AskF Flt.val FltR v p w) :
    Calls Tryd.prog 27 #[e.val, ptF b] w fun en w' => en = .returned (.bool (e.fa.l.any p)) ∧ Below w.heap.size w w' := by
  refine enter_args (args := [.agg #[str e.id, .int .i64 e.at_, .int .i64 e.lv, .slice e.fa.A e.fa.q e.fa.c, .slice e.ta.A e.ta.q e.ta.c, .slice e.cr.A e.cr.q e.cr.c, str e.rel, str e.us, .int .i64 e.wt], ptF b]) (F := _) Tryd.func27 rfl Tryd.ntmps27 rfl rfl ?_
  intro Rb hRb hRn
  refine T_seq ?_
  refine T_region ?_
  refine S_box 2 2 rfl rfl rfl rfl rfl ?_
  intro b2
  refine S_ 3 rfl rfl rfl _ (y_assign rfl rfl) ?_
  refine S_go (fun _ _ h => h) ?_
  refine T_seq ?_
  refine T_region ?_
  refine S_ 4 rfl rfl rfl _ (y_fieldAddr rfl rfl fa35_3) ?_
  refine S_ 5 rfl rfl rfl _ (y_load 2 rfl rfl rfl rfl Tryd.underlying31 rfl) ?_
  refine S_ 6 rfl rfl rfl _ (y_load_far rfl rfl h.1 h.2 Tryd.underlying56 rfl) ?_
  refine S_ 7 rfl rfl rfl _ (y_call rfl rfl rfl cf28 (fun _ w hM => ContFF_ask (he.fa.below hM.below) hs.fa (hv.below hM.below))) ?_
  refine S_ 3 rfl rfl rfl _ (y_assign rfl rfl) ?_
  refine S_go (fun _ _ h => h) ?_
  refine T_ret (fun a w hF hM => hRb a w (post1 rfl rfl (fun w hM => ?_) a w hF hM))
  exact ⟨rfl, hM.below⟩
theorem askFault {v : Fn} {p : Flt → Bool} {b : Nat} {w : World} (h : Cell1 w b v.v) (hv : AskF Flt.val FltR v p w) : AskF Evt.val EvR ⟨27, #[ptF b]⟩ (fun e => e.fa.l.any p) w :=
  ⟨cf27, fun w' hb e he => tfault_any v p b e w' he.1 he.2 (cellK h hb) (hv.below hb)⟩
theorem tframe_any (v : Fn) (p : Frm → Bool) (b : Nat) (f : Flt) (w : World) (hf : FltOk w f) (hs : FltS f) (h : Cell1 w b v.v) (hv : AskF Frm.val FrmR v p w) :
    Calls Tryd.prog 30 #[f.val, ptF b] w fun en w' => en = .returned (.bool (f.fr.l.any p)) ∧ Below w.heap.size w w' := by
  refine enter_args (args := [.agg #[str f.k, str f.t, .slice f.fr.A f.fr.q f.fr.c], ptF b]) (F := _) Tryd.func30 rfl Tryd.ntmps30 rfl rfl ?_
  intro Rb hRb hRn
  refine T_seq ?_
  refine T_region ?_
  refine S_box 2 2 rfl rfl rfl rfl rfl ?_
  intro b2
  refine S_ 3 rfl rfl rfl _ (y_assign rfl rfl) ?_
  refine S_go (fun _ _ h => h) ?_
  refine T_seq ?_
  refine T_region ?_
  refine S_ 4 rfl rfl rfl _ (y_fieldAddr rfl rfl fa60_2) ?_
  refine S_ 5 rfl rfl rfl _ (y_load 2 rfl rfl rfl rfl Tryd.underlying58 rfl) ?_
  refine S_ 6 rfl rfl rfl _ (y_load_far rfl rfl h.1 h.2 Tryd.underlying62 rfl) ?_
  refine S_ 7 rfl rfl rfl _ (y_call rfl rfl rfl cf31 (fun _ w hM => ContFR_ask (hf.fr.below hM.below) hs.fr (hv.below hM.below))) ?_
  refine S_ 3 rfl rfl rfl _ (y_assign rfl rfl) ?_
  refine S_go (fun _ _ h => h) ?_
  refine T_ret (fun a w hF hM => hRb a w (post1 rfl rfl (fun w hM => ?_) a w hF hM))
  exact ⟨rfl, hM.below⟩
theorem askFrame {v : Fn} {p : Frm → Bool} {b : Nat} {w : World} (h : Cell1 w b v.v) (hv : AskF Frm.val FrmR v p w) : AskF Flt.val FltR ⟨30, #[ptF b]⟩ (fun f => f.fr.l.any p) w :=
  ⟨cf30, fun w' hb f hf => tframe_any v p b f w' hf.1 hf.2 (cellK h hb) (hv.below hb)⟩
/-! ### And, Or, Not -/
/-- kids as function values: each asks what its condition holds for -/
def KidsAt (b : Nat) (ks : List SC) (w : World) : Prop := ∃ (A : Option Addr) (q c : Nat) (Z : List (Fn × SC)), Cell1 w b (.slice A q c) ∧ SlT fnE 1 w A q Z ∧ q ≤ 4611686018427387904 ∧ Z.map Prod.snd = ks ∧ ∀ z ∈ Z, AskF Evt.val EvR z.1 (fun e => hoX e z.2) w
theorem tno_any (e : Evt) (g : FuncId) (cap : Array Value) (p : Bool) (be : Nat) (w : World) (hcf : ∀ args w, (callFunc g args).run Tryd.prog w = .ok (.enter g args) w) (h : CellsAt w be e.enc)
    (hg : ∀ w', Below w.heap.size w w' → Calls Tryd.prog g (#[e.val] ++ cap) w' fun en w'' => en = .returned (.bool p) ∧ Below w'.heap.size w' w'') :
    Calls Tryd.prog 37 #[.func (.func g) #[] cap, ptF be] w fun en w' => en = .returned (.bool (!p)) ∧ Below w.heap.size w w' := by
  refine enter_args (args := [.func (.func g) #[] cap, ptF be]) (F := _) Tryd.func37 rfl Tryd.ntmps37 rfl rfl ?_
  intro Rb hRb hRn
  refine T_seq ?_
  refine T_region ?_
  refine S_ 3 rfl rfl rfl _ (y_assign rfl rfl) ?_
  refine S_go (fun _ _ h => h) ?_
  refine T_seq ?_
  refine T_region ?_
  refine S_ 4 rfl rfl rfl _ (y_move rfl rfl) ?_
  refine S_ 5 rfl rfl rfl _ (y_loadA_far rfl rfl h.1 h.2 Tryd.underlying35 rfl sz35) ?_
  refine S_ 6 rfl rfl rfl _ (y_call rfl rfl rfl hcf (fun _ w hM => hg w hM.below)) ?_
  refine S_ 7 rfl rfl rfl _ (y_not rfl rfl) ?_
  refine S_ 3 rfl rfl rfl _ (y_assign rfl rfl) ?_
  refine S_go (fun _ _ h => h) ?_
  refine T_ret (fun a w hF hM => hRb a w (post1 rfl rfl (fun w hM => ?_) a w hF hM))
  exact ⟨rfl, hM.below⟩
theorem tis_any (e : Evt) (g : FuncId) (cap : Array Value) (p : Bool) (be : Nat) (w : World) (hcf : ∀ args w, (callFunc g args).run Tryd.prog w = .ok (.enter g args) w) (h : CellsAt w be e.enc)
    (hg : ∀ w', Below w.heap.size w w' → Calls Tryd.prog g (#[e.val] ++ cap) w' fun en w'' => en = .returned (.bool p) ∧ Below w'.heap.size w' w'') :
    Calls Tryd.prog 39 #[.func (.func g) #[] cap, ptF be] w fun en w' => en = .returned (.bool (p)) ∧ Below w.heap.size w w' := by
  refine enter_args (args := [.func (.func g) #[] cap, ptF be]) (F := _) Tryd.func39 rfl Tryd.ntmps39 rfl rfl ?_
  intro Rb hRb hRn
  refine T_seq ?_
  refine T_region ?_
  refine S_ 3 rfl rfl rfl _ (y_assign rfl rfl) ?_
  refine S_go (fun _ _ h => h) ?_
  refine T_seq ?_
  refine T_region ?_
  refine S_ 4 rfl rfl rfl _ (y_move rfl rfl) ?_
  refine S_ 5 rfl rfl rfl _ (y_loadA_far rfl rfl h.1 h.2 Tryd.underlying35 rfl sz35) ?_
  refine S_ 6 rfl rfl rfl _ (y_call rfl rfl rfl hcf (fun _ w hM => hg w hM.below)) ?_
  refine S_ 3 rfl rfl rfl _ (y_assign rfl rfl) ?_
  refine S_go (fun _ _ h => h) ?_
  refine T_ret (fun a w hF hM => hRb a w (post1 rfl rfl (fun w hM => ?_) a w hF hM))
  exact ⟨rfl, hM.below⟩
theorem tAnd_any (e : Evt) (b : Nat) (A : Option Addr) (q c : Nat) (Z : List (Fn × SC)) (w : World) (he : EvR w e) (h : Cell1 w b (.slice A q c)) (hl : SlT fnE 1 w A q Z) (hq : q ≤ 4611686018427387904) (hz : ∀ z ∈ Z, AskF Evt.val EvR z.1 (fun e => hoX e z.2) w) :
    Calls Tryd.prog 35 #[e.val, ptF b] w fun en w' => en = .returned (.bool (Z.all fun z => hoX e z.2)) ∧ Below w.heap.size w w' := by
  refine enter_args (args := [.agg #[str e.id, .int .i64 e.at_, .int .i64 e.lv, .slice e.fa.A e.fa.q e.fa.c, .slice e.ta.A e.ta.q e.ta.c, .slice e.cr.A e.cr.q e.cr.c, str e.rel, str e.us, .int .i64 e.wt], ptF b]) (F := _) Tryd.func35 rfl Tryd.ntmps35 rfl rfl ?_
  intro Rb hRb hRn
  refine T_seq ?_
  refine T_region ?_
  refine S_box 2 2 rfl rfl rfl rfl rfl ?_
  intro b2
  refine S_ 3 rfl rfl rfl _ (y_assign rfl rfl) ?_
  refine S_go (fun _ _ h => h) ?_
  refine T_seq ?_
  refine T_region ?_
  refine S_ 4 rfl rfl rfl _ (y_load_far rfl rfl h.1 h.2 Tryd.underlying69 rfl) ?_
  refine S_ 5 rfl rfl rfl _ (y_makeFunc rfl rfl rfl rfl rfl) ?_
  refine S_ 6 rfl rfl rfl _ (y_call rfl rfl rfl cf36 (fun _ w1 hM => ContFK_any A q c Z 37 _ (fun z => !hoX e z.2) w1 (hl.below hM.below) hq cf37 (fun z hzm w2 hb2 => have ha := (hz z hzm).below (hM.below.trans (hb2.mono hM.below.size)); tno_any e z.1.g z.1.cap _ b2 w2 ha.1 (cells_below (hM.box_cells 2 rfl) hb2) (fun w3 hb3 => ha.2 w3 hb3 e ((he.below (hM.below.trans (hb2.mono hM.below.size))).below hb3))))) ?_
  refine S_ 7 rfl rfl rfl _ (y_not rfl rfl) ?_
  refine S_ 3 rfl rfl rfl _ (y_assign rfl rfl) ?_
  refine S_go (fun _ _ h => h) ?_
  refine T_ret (fun a w hF hM => hRb a w (post1 rfl rfl (fun w hM => ?_) a w hF hM))
  exact ⟨by rw [show (Z.all fun z => hoX e z.2) = !(Z.any fun z => !hoX e z.2) from by rw [List.not_any_eq_all_not]; simp], hM.below⟩
theorem askAnd {b : Nat} {ks : List SC} {w : World} (h : KidsAt b ks w) : AskF Evt.val EvR ⟨35, #[ptF b]⟩ (fun e => ks.all (hoX e)) w := by
  obtain ⟨A, q, c, Z, h1, h2, h3, rfl, h5⟩ := h
  have ha : AskF Evt.val EvR ⟨35, #[ptF b]⟩ (fun e => Z.all fun z => hoX e z.2) w := ⟨cf35, fun w' hb e he => tAnd_any e b A q c Z w' he (cellK h1 hb) (h2.below hb) h3 fun z hz => (h5 z hz).below hb⟩
  exact ha.ext fun e => by rw [List.all_map]; rfl
theorem tOr_any (e : Evt) (b : Nat) (A : Option Addr) (q c : Nat) (Z : List (Fn × SC)) (w : World) (he : EvR w e) (h : Cell1 w b (.slice A q c)) (hl : SlT fnE 1 w A q Z) (hq : q ≤ 4611686018427387904) (hz : ∀ z ∈ Z, AskF Evt.val EvR z.1 (fun e => hoX e z.2) w) :
    Calls Tryd.prog 38 #[e.val, ptF b] w fun en w' => en = .returned (.bool (Z.any fun z => hoX e z.2)) ∧ Below w.heap.size w w' := by
  refine enter_args (args := [.agg #[str e.id, .int .i64 e.at_, .int .i64 e.lv, .slice e.fa.A e.fa.q e.fa.c, .slice e.ta.A e.ta.q e.ta.c, .slice e.cr.A e.cr.q e.cr.c, str e.rel, str e.us, .int .i64 e.wt], ptF b]) (F := _) Tryd.func38 rfl Tryd.ntmps38 rfl rfl ?_
  intro Rb hRb hRn
  refine T_seq ?_
  refine T_region ?_
  refine S_box 2 2 rfl rfl rfl rfl rfl ?_
  intro b2
  refine S_ 3 rfl rfl rfl _ (y_assign rfl rfl) ?_
  refine S_go (fun _ _ h => h) ?_
  refine T_seq ?_
  refine T_region ?_
  refine S_ 4 rfl rfl rfl _ (y_load_far rfl rfl h.1 h.2 Tryd.underlying69 rfl) ?_
  refine S_ 5 rfl rfl rfl _ (y_makeFunc rfl rfl rfl rfl rfl) ?_
  refine S_ 6 rfl rfl rfl _ (y_call rfl rfl rfl cf36 (fun _ w1 hM => ContFK_any A q c Z 39 _ (fun z => hoX e z.2) w1 (hl.below hM.below) hq cf39 (fun z hzm w2 hb2 => have ha := (hz z hzm).below (hM.below.trans (hb2.mono hM.below.size)); tis_any e z.1.g z.1.cap _ b2 w2 ha.1 (cells_below (hM.box_cells 2 rfl) hb2) (fun w3 hb3 => ha.2 w3 hb3 e ((he.below (hM.below.trans (hb2.mono hM.below.size))).below hb3))))) ?_
  refine S_ 3 rfl rfl rfl _ (y_assign rfl rfl) ?_
  refine S_go (fun _ _ h => h) ?_
  refine T_ret (fun a w hF hM => hRb a w (post1 rfl rfl (fun w hM => ?_) a w hF hM))
  exact ⟨rfl, hM.below⟩
theorem askOr {b : Nat} {ks : List SC} {w : World} (h : KidsAt b ks w) : AskF Evt.val EvR ⟨38, #[ptF b]⟩ (fun e => ks.any (hoX e)) w := by
  obtain ⟨A, q, c, Z, h1, h2, h3, rfl, h5⟩ := h
  have ha : AskF Evt.val EvR ⟨38, #[ptF b]⟩ (fun e => Z.any fun z => hoX e z.2) w := ⟨cf38, fun w' hb e he => tOr_any e b A q c Z w' he (cellK h1 hb) (h2.below hb) h3 fun z hz => (h5 z hz).below hb⟩
  exact ha.ext fun e => by rw [List.any_map]; rfl
theorem tNot_any (e : Evt) (b : Nat) (A : Option Addr) (q c : Nat) (z : Fn × SC) (w : World) (he : EvR w e) (h : Cell1 w b (.slice A q c)) (hl : SlT fnE 1 w A q [z]) (hq : q = 1) (hz : AskF Evt.val EvR z.1 (fun e => hoX e z.2) w) :
    Calls Tryd.prog 40 #[e.val, ptF b] w fun en w' => en = .returned (.bool (!hoX e z.2)) ∧ Below w.heap.size w w' := by
  refine enter_args (args := [.agg #[str e.id, .int .i64 e.at_, .int .i64 e.lv, .slice e.fa.A e.fa.q e.fa.c, .slice e.ta.A e.ta.q e.ta.c, .slice e.cr.A e.cr.q e.cr.c, str e.rel, str e.us, .int .i64 e.wt], ptF b]) (F := _) Tryd.func40 rfl Tryd.ntmps40 rfl rfl ?_
  intro Rb hRb hRn
  refine T_seq ?_
  refine T_region ?_
  refine S_box 2 2 rfl rfl rfl rfl rfl ?_
  intro b2
  refine S_ 3 rfl rfl rfl _ (y_assign rfl rfl) ?_
  refine S_go (fun _ _ h => h) ?_
  refine T_seq ?_
  refine T_draws (by kernel_rfl) (by kernel_rfl) ?_
  refine D_ 4 rfl rfl rfl _ (y_load_far rfl rfl h.1 h.2 Tryd.underlying69 rfl) ?_
  refine D_ 5 rfl rfl rfl _ (y_indexAddrI (j := 0) rfl rfl rfl (fun _ => rfl) Tryd.underlying69 sz44 (fun hg => hl.isSome (by omega)) (fun _ => by omega)) ?_
  refine D_ 6 rfl rfl rfl _ (y_loadT1 (val := (fun z : Fn × SC => Value.func (.func z.1.g) #[] z.1.cap)) rfl rfl hl (fun _ => rfl) Tryd.underlying44 rfl) ?_
  refine D_ 7 rfl rfl rfl _ (y_loadA 2 rfl rfl rfl Tryd.underlying35 rfl sz35) ?_
  refine D_ 8 rfl rfl rfl _ (y_call rfl rfl rfl hz.1 (fun _ w hM => hz.2 w hM.below e (he.below hM.below))) ?_
  refine D_ 9 rfl rfl rfl _ (y_not rfl rfl) ?_
  refine D_ 3 rfl rfl rfl _ (y_assign rfl rfl) ?_
  refine D_go (fun _ _ h => h) ?_
  refine T_ret (fun a w hF hM => hRb a w (post1 rfl rfl (fun w hM => ?_) a w hF hM))
  exact ⟨rfl, hM.below⟩
theorem askNot {b : Nat} {k : SC} {w : World} (h : KidsAt b [k] w) : AskF Evt.val EvR ⟨40, #[ptF b]⟩ (fun e => !hoX e k) w := by
  obtain ⟨A, q, c, Z, h1, h2, h3, h4, h5⟩ := h
  match Z, h4 with
  | [(v, k')], h4 =>
    obtain rfl : k' = k := by simpa using h4
    have hq : q = 1 := by have := h2.len; simpa using this.symm
    exact ⟨cf40, fun w' hb e he => tNot_any e b A q c (v, k') w' he (cellK h1 hb) (h2.below hb) hq ((h5 _ (List.mem_singleton.2 rfl)).below hb)⟩
end Go.Proofs.YtfmbgaaonfgenaaDoor
end
section
namespace Go.Proofs.YtfmbgaaonfgenaaDoor
set_option linter.unusedSimpArgs false
set_option linter.unusedVariables false
set_option maxRecDepth 20000
open Go.RowKit Go.Eng
structure FnR where
  fn : Fn
  rs : List Row
abbrev FnR.v (z : FnR) : Value := .func (.func z.fn.g) #[] z.fn.cap
/-- what is returned asks p, where C holds; it stands on rows -/
structure FnOk {α : Type} (val : α → Value) (ok : World → α → Prop) (w0 : World) (rs : List Row) (C : World → Prop) (p : α → Bool) (z : FnR) : Prop where
  cf : CfOf z.fn.g
  more : ∀ r ∈ rs, r ∈ z.rs
  sees : Sees w0 z.rs fun w => C w → AskF val ok z.fn p w
theorem in_l {a b : List Row} {r : Row} (h : r ∈ a) : r ∈ a ++ b := List.mem_append_left _ h
theorem in_r {a : List Row} {r : Row} : r ∈ a ++ [r] := List.mem_append_right _ (List.mem_singleton.2 rfl)
theorem test1_any {w0 : World} {K : HL} (hK : FromK K) (rs : List Row) (C : World → Prop) (f : Fn) (p : Flt → Bool) (hv : Sees w0 rs fun w => C w → AskF Flt.val FltR f p w) (w : World) (hM0 : Mem w0 ([(900, .many rs)] ++ K) w) :
    Calls Tryd.prog 26 #[.func (.func f.g) #[] f.cap] w fun e w' => ∃ z : FnR, e = .returned z.v ∧ FnOk Evt.val EvR w0 rs C (fun e => e.fa.l.any p) z ∧ Mem w0 ([(900, .many z.rs)] ++ K) w' := by
  refine enterM_args (args := [.func (.func f.g) #[] f.cap]) (F := _) hM0 Tryd.func26 rfl Tryd.ntmps26 rfl rfl ?_
  intro Rb hRb hRn
  refine T_seq ?_
  refine T_region ?_
  refine S_box 1 1 rfl rfl rfl rfl rfl ?_
  intro b1
  refine S_ 2 rfl rfl rfl _ (y_assign rfl rfl) ?_
  refine S_go (fun _ _ h => h) ?_
  refine T_seq ?_
  refine T_region ?_
  refine S_ 3 rfl rfl rfl _ (y_makeFunc rfl rfl rfl rfl rfl) ?_
  refine S_ 2 rfl rfl rfl _ (y_assign rfl rfl) ?_
  refine S_go (fun _ _ h => h) ?_
  refine T_ret (fun a w hF hM => hRb a w (post1 rfl rfl (fun w hM => ?_) a w hF hM))
  have hM := hM.boxRow (i := 1) rfl
  have hM := hM.bankK (ks := [(1, 1), (900, 900)]) (m := 900) (i := 1) rfl rfl rfl (by repeat (first | exact kl_nil | exact kl_rest (by assumption) rfl | (apply kl_in; focus rfl) | (apply kl_out; focus rfl))) rfl
  exact ⟨⟨⟨27, #[ptF b1]⟩, _⟩, rfl, ⟨cf27, fun r h => in_l h, fun w hb hr hC => askFault (cell1_of (row_cells (hr _ in_r))) (hv w hb (fun r h => hr r (in_l h)) hC)⟩, hM.keep (ks := [(0, 999)]) (by repeat (first | exact kl_rest (by assumption) rfl | (apply kl_in; focus rfl))) _ ⟨rfl, trivial⟩⟩
theorem test2_any {w0 : World} {K : HL} (hK : FromK K) (rs : List Row) (C : World → Prop) (f : Fn) (p : Frm → Bool) (b3 : Nat) (hv : Sees w0 rs fun w => C w → AskF Frm.val FrmR f p w) (w : World)
    (hM0 : Mem w0 ([(901, .blk b3 (IsBox [.func (.func 26) #[] #[]] 61)), (900, .many rs)] ++ K) w) :
    Calls Tryd.prog 29 #[.func (.func f.g) #[] f.cap, ptF b3] w fun e w' => ∃ z : FnR, e = .returned z.v ∧ FnOk Evt.val EvR w0 rs C (fun e => e.fa.l.any fun f => f.fr.l.any p) z ∧ Mem w0 ([(901, .blk b3 (IsBox [.func (.func 26) #[] #[]] 61)), (900, .many z.rs)] ++ K) w' := by
  refine enterM_args (args := [.func (.func f.g) #[] f.cap, ptF b3]) (F := _) hM0 Tryd.func29 rfl Tryd.ntmps29 rfl rfl ?_
  intro Rb hRb hRn
  refine T_seq ?_
  refine T_region ?_
  refine S_box 2 2 rfl rfl rfl rfl rfl ?_
  intro b2
  refine S_ 3 rfl rfl rfl _ (y_assign rfl rfl) ?_
  refine S_go (fun _ _ h => h) ?_
  refine T_seq ?_
  refine T_region ?_
  refine S_ 4 rfl rfl rfl _ (y_load 901 rfl rfl rfl rfl Tryd.underlying61 rfl) ?_
  refine S_ 5 rfl rfl rfl _ (y_makeFunc rfl rfl rfl rfl rfl) ?_
  refine S_callM 6 [(900, 900)] (X := FnR) rfl rfl rfl rfl rfl rfl rfl cf26 rfl (fun z => z.v) (FnOk Evt.val EvR w0 rs (fun w => Cell1 w b2 f.v ∧ C w) (fun e => e.fa.l.any fun f => f.fr.l.any p)) (fun z => [(900, .many z.rs)]) (fun _ => rfl) (fun _ => rfl) (fun K hK w hM => test1_any hK rs (fun w => Cell1 w b2 f.v ∧ C w) ⟨30, #[ptF b2]⟩ (fun f => f.fr.l.any p) (fun w hb hr hC => askFrame hC.1 (hv w hb hr hC.2)) w hM) ?_
  intro x6 hx6
  refine S_ 3 rfl rfl rfl _ (y_assign rfl rfl) ?_
  refine S_go (fun _ _ h => h) ?_
  refine T_ret (fun a w hF hM => hRb a w (post1 rfl rfl (fun w hM => ?_) a w hF hM))
  have hM := hM.boxRow (i := 2) rfl
  have hM := hM.bankK (ks := [(2, 2), (900, 900)]) (m := 900) (i := 2) rfl rfl rfl (by repeat (first | exact kl_nil | exact kl_rest (by assumption) rfl | (apply kl_in; focus rfl) | (apply kl_out; focus rfl))) rfl
  exact ⟨⟨x6.fn, x6.rs ++ [boxRow 62 b2 [f.v]]⟩, rfl, ⟨hx6.cf, fun r h => in_l (hx6.more r h), fun w hb hr hC => hx6.sees w hb (fun r h => hr r (in_l h)) ⟨cell1_of (row_cells (hr _ in_r)), hC⟩⟩, hM.keep (ks := [(0, 999)]) (by repeat (first | exact kl_rest (by assumption) rfl | (apply kl_in; focus rfl))) _ ⟨rfl, rfl, trivial⟩⟩
theorem test3_any {w0 : World} {K : HL} (hK : FromK K) (rs : List Row) (x : SC) (g : FuncId) (f : Evt → Int) (b1 : Nat) (hcf : CfOf g) (hg : ∀ e w', Calls Tryd.prog g #[e.val] w' fun en w'' => en = .returned (.int .i64 (f e)) ∧ Below w'.heap.size w' w'') (w : World) (hM0 : Mem w0 ([(900, .many rs)] ++ K) w) :
    Calls Tryd.prog 32 #[.func (.func g) #[] #[], ptF b1] w fun e w' => ∃ z : FnR, e = .returned z.v ∧ FnOk Evt.val EvR w0 rs (fun w => CellsAt w b1 x.enc) (fun e => inB (f e) x.lo x.hi) z ∧ Mem w0 ([(900, .many z.rs)] ++ K) w' := by
  refine enterM_args (args := [.func (.func g) #[] #[], ptF b1]) (F := _) hM0 Tryd.func32 rfl Tryd.ntmps32 rfl rfl ?_
  intro Rb hRb hRn
  refine T_seq ?_
  refine T_region ?_
  refine S_box 2 2 rfl rfl rfl rfl rfl ?_
  intro b2
  refine S_ 3 rfl rfl rfl _ (y_assign rfl rfl) ?_
  refine S_go (fun _ _ h => h) ?_
  refine T_seq ?_
  refine T_region ?_
  refine S_ 4 rfl rfl rfl _ (y_makeFunc rfl rfl rfl rfl rfl) ?_
  refine S_ 3 rfl rfl rfl _ (y_assign rfl rfl) ?_
  refine S_go (fun _ _ h => h) ?_
  refine T_ret (fun a w hF hM => hRb a w (post1 rfl rfl (fun w hM => ?_) a w hF hM))
  have hM := hM.boxRow (i := 2) rfl
  have hM := hM.bankK (ks := [(2, 2), (900, 900)]) (m := 900) (i := 2) rfl rfl rfl (by repeat (first | exact kl_nil | exact kl_rest (by assumption) rfl | (apply kl_in; focus rfl) | (apply kl_out; focus rfl))) rfl
  exact ⟨⟨⟨33, #[ptF b2, ptF b1]⟩, _⟩, rfl, ⟨cf33, fun r h => in_l h, fun w hb hr hC => askNum hcf hg (cell1_of (row_cells (hr _ in_r))) hC⟩, hM.keep (ks := [(0, 999)]) (by repeat (first | exact kl_rest (by assumption) rfl | (apply kl_in; focus rfl))) _ ⟨rfl, trivial⟩⟩
def kidRow (A : Option Addr) (q c : Nat) (Z : List (Fn × SC)) : Row := ⟨44, 1, .slice A q c, q, Z.flatMap fnE⟩
theorem kids_sees {w0 : World} {ws : List Row} {A : Option Addr} {q c b : Nat} {Z : List (Fn × SC)} {ks : List SC} (hl : Z.length = q) (hq : q ≤ 4611686018427387904) (hk : Z.map Prod.snd = ks) (hz : ∀ z ∈ Z, Sees w0 ws (AskF Evt.val EvR z.1 fun e => hoX e z.2)) :
    Sees w0 ((ws ++ [kidRow A q c Z]) ++ [boxRow 69 b [.slice A q c]]) (KidsAt b ks) := fun w hb hr =>
  ⟨A, q, c, Z, cell1_of (row_cells (hr _ in_r)), (row_ok (hr _ (in_l in_r)) hl).t, hq, hk, fun z h => hz z h w hb fun r h => hr r (in_l (in_l h))⟩
def TestAt (x : SC) : Prop := ∀ {w0 : World} {K : HL} (_ : FromK K) (rs : List Row) (w : World), x.Ok w0 → chX x = 0 → MLen w0 → Mem w0 ([(900, .many rs)] ++ K) w →
    Calls Tryd.prog 13 #[x.val] w fun e w' => ∃ z : FnR, e = .returned z.v ∧ FnOk Evt.val EvR w0 rs (fun _ => True) (fun e => hoX e x) z ∧ Mem w0 ([(900, .many z.rs)] ++ K) w'
theorem z61 : ∀ w, (zeroValue 61).run Tryd.prog w = .ok .nilFunc w := fun _ => by kernel_rfl
set_option maxHeartbeats 3200000 in
theorem test_step (x : SC) (ih : ∀ k ∈ x.kids, TestAt k) : TestAt x := by
  intro w0 K hK rs w hok h0 hmx hM0
  obtain ⟨hs, hq, hb80, hn, htl, hk⟩ := hok.parts
  have hl : SlT SC.enc 6 w0 x.ad x.q x.kids := hs.t
  have hlen := hl.len
  have htx := ch_text h0
  obtain ⟨ar1, ar2, ar3, ar4⟩ := ch_ar h0
  refine enterM_args (args := [.agg #[.int .i64 x.op, .slice x.ad x.q x.c, .int .i64 x.lo, .int .i64 x.hi, str x.nm, str x.tx]]) (F := _) hM0 Tryd.func13 rfl Tryd.ntmps13 rfl rfl ?_
  intro Rb hRb hRn
  refine T_seq ?_
  refine T_region ?_
  refine S_box 1 1 rfl rfl rfl rfl rfl ?_
  intro b1
  refine S_ 2 rfl rfl rfl _ (y_assign rfl rfl) ?_
  refine S_go (fun _ _ h => h) ?_
  refine T_seq ?_
  refine T_region ?_
  refine S_alloc 3 3 rfl rfl rfl rfl z61 ?_
  intro b3
  refine S_store 3 rfl rfl rfl rfl rfl rfl sz61 rfl rfl ?_
  refine S_go (fun _ _ h => h) ?_
  refine T_seq ?_
  refine T_region ?_
  refine S_ 10 rfl rfl rfl _ (y_makeFunc rfl rfl rfl rfl rfl) ?_
  refine S_ 4 rfl rfl rfl _ (y_assign rfl rfl) ?_
  refine S_go (fun _ _ h => h) ?_
  refine T_seq ?_
  refine T_region ?_
  refine S_ 11 rfl rfl rfl _ (y_makeFunc rfl rfl rfl rfl rfl) ?_
  refine S_ 5 rfl rfl rfl _ (y_assign rfl rfl) ?_
  refine S_go (fun _ _ h => h) ?_
  refine T_seq ?_
  refine T_region ?_
  refine S_alloc 6 6 rfl rfl rfl rfl z69 ?_
  intro b6
  refine S_go (fun _ _ h => h) ?_
  refine T_seq ?_
  refine T_seq ?_
  refine T_region ?_
  refine S_nilSlice 906 (e := 44) (size := 1) ?_
  refine S_ 12 rfl rfl rfl _ (y_fieldAddr rfl rfl fa24_1) ?_
  refine S_ 13 rfl rfl rfl _ (y_load 1 rfl rfl rfl rfl Tryd.underlying22 rfl) ?_
  refine S_ 14 rfl rfl rfl _ (y_len_slice rfl rfl Tryd.underlying22) ?_
  refine S_ 15 rfl rfl rfl _ (y_move rfl rfl) ?_
  refine S_go (fun _ _ h => h) ?_
  refine T_block ?_
  refine T_loopK5 (kf := [(8, 8), (15, 24)]) (kl := [(6, 6), (8, 8), (15, 24), (900, 900), (906, 906)]) (fun (i : Nat) (A : Option Addr) (c : Nat) (Z : List (Fn × SC)) (ws : List Row) => [(15, true, .int .i64 (i : Int))]) (fun (i : Nat) (A : Option Addr) (c : Nat) (Z : List (Fn × SC)) (ws : List Row) => [(6, .blk b6 (IsBox [.slice A i c] 69)), (906, .own 44 1 (.slice A i c) i (Z.flatMap fnE)), (900, .many ws)]) (fun (i : Nat) (A : Option Addr) (c : Nat) (Z : List (Fn × SC)) (ws : List Row) => i ≤ x.q ∧ Z.length = i ∧ Z.map Prod.snd = x.kids.take i ∧ (∀ r ∈ rs, r ∈ ws) ∧ ∀ z ∈ Z, Sees w0 ws (AskF Evt.val EvR z.1 fun e => hoX e z.2)) (fun (i : Nat) (A : Option Addr) (c : Nat) (Z : List (Fn × SC)) (ws : List Row) => x.q - i) 0 none 0 [] rs (by repeat (first | exact kf_nil | (apply kf_in; focus rfl) | (apply kf_out; focus rfl))) (by repeat (first | exact kl_nil | exact kl_rest (by assumption) rfl | (apply kl_in; focus rfl) | (apply kl_out; focus rfl))) ?_ ?_ ?_ ?_
  · exact ⟨by omega, rfl, rfl, fun _ h => h, fun _ h => by simp at h⟩
  · exact ⟨rfl, trivial⟩
  · exact ⟨rfl, rfl, rfl, trivial⟩
  rintro i A c Z ws ⟨hp1, hp2, hp3, hp4, hp5⟩
  refine T_seq ?_
  refine T_region ?_
  refine S_ 16 rfl rfl rfl _ (y_bin rfl rfl rfl (fun _ => b_lss)) ?_
  refine S_go (fun _ _ h => h) ?_
  refine T_seq ?_
  refine T_cond rfl (fun h16 => ?_) (fun h16 => ?_)
  · try simp only [decide_eq_true_eq, decide_eq_false_iff_not, Bool.or_eq_true, Bool.or_eq_false_iff, Bool.and_eq_true, Bool.and_eq_false_iff, Bool.not_eq_true', Bool.not_eq_false', Bool.not_eq_true, Bool.not_eq_false, Bool.not_true, Bool.not_false, Int.not_lt, Int.not_le, not_or, not_and, Classical.not_not] at h16
    obtain ⟨k, hx1, hx2⟩ := hl.at (i := i) (by omega)
    refine T_skip_go (fun _ _ h => h) ?_
    refine T_seq ?_
    refine T_block ?_
    refine T_seq ?_
    refine T_region ?_
    refine S_ 17 rfl rfl rfl _ (y_indexAddr rfl rfl rfl Tryd.underlying22 sz24 (fun hg => hl.isSome (by omega)) (fun _ => by omega)) ?_
    refine S_ 18 rfl rfl rfl _ (y_loadT rfl rfl hl (fun _ => rfl) (fun _ => hx1) Tryd.underlying24 rfl sz24) ?_
    refine S_alloc 8 8 rfl rfl rfl rfl z24 ?_
    intro b8
    refine S_store 8 rfl rfl rfl rfl rfl rfl sz24 rfl rfl ?_
    refine S_go (fun _ _ h => h) ?_
    refine T_perm [0, 1, 2, 3, 4, 5] [true, true, false, false, false, false] [0, 0, 2, 6, 15, 31] [(0, [6]), (1, [8])] (by kernel_rfl) (by kernel_rfl) (by kernel_rfl) rfl (by kernel_rfl) ?_
    refine Rf_ 0 19 rfl rfl rfl rfl rfl _ ⟨rfl, trivial⟩ (Y.z (y_load 6 rfl rfl rfl rfl Tryd.underlying69 rfl) rfl) ?_
    refine Rf_ 1 20 rfl rfl rfl rfl rfl _ ⟨rfl, trivial⟩ (Y.z (y_loadA 8 rfl rfl rfl Tryd.underlying24 rfl sz24) rfl) ?_
    refine R_chain 2 rfl rfl ?_
    refine S_callM 21 [(900, 900)] (X := FnR) rfl rfl rfl rfl rfl rfl rfl cf13 rfl (fun z => z.v) (FnOk Evt.val EvR w0 ws (fun _ => True) (fun e => hoX e k)) (fun z => [(900, .many z.rs)]) (fun _ => rfl) (fun _ => rfl) (fun K hK w hM => ih k (mem_at hx1) hK ws w (hk k (mem_at hx1)) (ch_kids h0 (mem_at hx1)) hmx hM) ?_
    intro x21 hx21
    refine R_next ⟨.inr ⟨rfl, trivial⟩, .inl rfl, trivial⟩ ?_
    refine R_chain 3 rfl rfl ?_
    refine S_buildSlice 22 22 rfl rfl rfl rfl rfl Tryd.underlying69 inf44 rfl (by decide) (by decide) rfl rfl (by decide) rfl (_) rfl ?_
    intro b22
    refine R_next ⟨.inr ⟨rfl, trivial⟩, .inl rfl, trivial⟩ ?_
    refine R_chain 4 rfl rfl ?_
    obtain ⟨i23, hi23, hz23, hs23, hy23⟩ := info_parts inf44
    refine S_append 23 906 22 rfl rfl rfl rfl rfl rfl rfl rfl Tryd.underlying69 hi23 hz23 hs23 hy23 rfl (by decide) (by decide) rfl ?_ ?_ (_) ((Z ++ [(x21.fn, k)]).flatMap fnE) rfl ?_ ?_
    · (simp only [maxLen]; omega)
    · omega
    · rw [List.flatMap_append]; rfl
    intro A23 c23
    refine R_next ⟨.inl rfl, .inl rfl, trivial⟩ ?_
    refine R_chain 5 rfl rfl ?_
    refine S_store 6 rfl rfl rfl rfl rfl rfl sz69 rfl rfl ?_
    refine R_next ⟨.inl rfl, .inl rfl, trivial⟩ ?_
    refine R_go (fun _ _ h => h) ?_
    refine T_region ?_
    refine S_ 24 rfl rfl rfl _ (y_bin rfl rfl rfl (fun hg => b_add (by omega))) ?_
    refine S_ 15 rfl rfl rfl _ (y_move rfl rfl) ?_
    refine S_nil (nextK5 (kf := [(8, 8), (15, 24)]) (kl := [(6, 6), (8, 8), (15, 24), (900, 900), (906, 906)]) (i + 1) A23 c23 (Z ++ [(x21.fn, k)]) x21.rs (by repeat (first | exact kf_nil | (apply kf_in; focus rfl) | (apply kf_out; focus rfl))) (by repeat (first | exact kl_nil | exact kl_rest (by assumption) rfl | (apply kl_in; focus rfl) | (apply kl_out; focus rfl))) ?_ ?_ ?_ ?_)
    · omega
    · exact ⟨by omega, by rw [List.length_append, hp2]; rfl, by rw [List.map_append, hp3, List.take_add_one, hx1]; rfl, fun r h => hx21.more r (hp4 r h), fun z hz => by
        rcases List.mem_append.1 hz with h | h
        · exact (hp5 z h).more hx21.more
        · rw [List.mem_singleton.1 h]; exact hx21.sees.map fun w h => h trivial⟩
    · exact ⟨rfl, trivial⟩
    · exact ⟨rfl, rfl, rfl, trivial⟩
  · try simp only [decide_eq_true_eq, decide_eq_false_iff_not, Bool.or_eq_true, Bool.or_eq_false_iff, Bool.and_eq_true, Bool.and_eq_false_iff, Bool.not_eq_true', Bool.not_eq_false', Bool.not_eq_true, Bool.not_eq_false, Bool.not_true, Bool.not_false, Int.not_lt, Int.not_le, not_or, not_and, Classical.not_not] at h16
    have hiq : i = x.q := by omega
    have hZk : Z.map Prod.snd = x.kids := by rw [hp3, List.take_of_length_le (by omega)]
    refine T_exit_go (fun _ _ h => h) ?_
    refine T_seq ?_
    refine T_seq ?_
    refine T_region ?_
    refine S_ 25 rfl rfl rfl _ (y_fieldAddr rfl rfl fa24_0) ?_
    refine S_ 26 rfl rfl rfl _ (y_load 1 rfl rfl rfl rfl Tryd.underlying3 rfl) ?_
    refine S_go (fun _ _ h => h) ?_
    refine T_block ?_
    refine T_seq ?_
    refine T_region ?_
    refine S_ 28 rfl rfl rfl _ (y_bin rfl rfl rfl (fun _ => b_eql)) ?_
    refine S_ 27 rfl rfl rfl _ (y_assign rfl rfl) ?_
    refine S_go (fun _ _ h => h) ?_
    refine T_cond rfl (fun h27 => ?_) (fun h27 => ?_)
    · skip
      have hop : x.op = 1 := by simpa using h27
      refine T_seq ?_
      refine T_region ?_
      refine S_ 29 rfl rfl rfl _ (y_makeFunc rfl rfl rfl rfl rfl) ?_
      refine S_ 2 rfl rfl rfl _ (y_assign rfl rfl) ?_
      refine S_go (fun _ _ h => h) ?_
      refine T_ret (fun a w hF hM => hRb a w (post1 rfl rfl (fun w hM => ?_) a w hF hM))
      have hM := hM.bankK (ks := [(906, 906), (900, 900)]) (m := 900) (i := 906) rfl rfl rfl (by repeat (first | exact kl_nil | exact kl_rest (by assumption) rfl | (apply kl_in; focus rfl) | (apply kl_out; focus rfl))) rfl
      have hM := hM.boxRow (i := 6) rfl
      have hM := hM.bankK (ks := [(6, 6), (900, 900)]) (m := 900) (i := 6) rfl rfl rfl (by repeat (first | exact kl_nil | exact kl_rest (by assumption) rfl | (apply kl_in; focus rfl) | (apply kl_out; focus rfl))) rfl
      exact ⟨⟨⟨35, #[ptF b6]⟩, _⟩, rfl, ⟨cf35, fun r h => in_l (in_l (hp4 r h)), fun w hb hr _ => (askAnd (kids_sees hp2 (by omega) hZk hp5 w hb hr)).ext fun e => ho1 hop⟩, hM.keep (ks := [(0, 999)]) (by repeat (first | exact kl_rest (by assumption) rfl | (apply kl_in; focus rfl))) _ ⟨rfl, trivial⟩⟩
    · skip
      have n1 : ¬ x.op = 1 := by simpa using h27
      refine T_seq ?_
      refine T_region ?_
      refine S_ 31 rfl rfl rfl _ (y_bin rfl rfl rfl (fun _ => b_eql)) ?_
      refine S_ 30 rfl rfl rfl _ (y_assign rfl rfl) ?_
      refine S_go (fun _ _ h => h) ?_
      refine T_cond rfl (fun h30 => ?_) (fun h30 => ?_)
      · skip
        have hop : x.op = 2 := by simpa using h30
        refine T_seq ?_
        refine T_region ?_
        refine S_ 32 rfl rfl rfl _ (y_makeFunc rfl rfl rfl rfl rfl) ?_
        refine S_ 2 rfl rfl rfl _ (y_assign rfl rfl) ?_
        refine S_go (fun _ _ h => h) ?_
        refine T_ret (fun a w hF hM => hRb a w (post1 rfl rfl (fun w hM => ?_) a w hF hM))
        have hM := hM.bankK (ks := [(906, 906), (900, 900)]) (m := 900) (i := 906) rfl rfl rfl (by repeat (first | exact kl_nil | exact kl_rest (by assumption) rfl | (apply kl_in; focus rfl) | (apply kl_out; focus rfl))) rfl
        have hM := hM.boxRow (i := 6) rfl
        have hM := hM.bankK (ks := [(6, 6), (900, 900)]) (m := 900) (i := 6) rfl rfl rfl (by repeat (first | exact kl_nil | exact kl_rest (by assumption) rfl | (apply kl_in; focus rfl) | (apply kl_out; focus rfl))) rfl
        exact ⟨⟨⟨38, #[ptF b6]⟩, _⟩, rfl, ⟨cf38, fun r h => in_l (in_l (hp4 r h)), fun w hb hr _ => (askOr (kids_sees hp2 (by omega) hZk hp5 w hb hr)).ext fun e => ho2 hop⟩, hM.keep (ks := [(0, 999)]) (by repeat (first | exact kl_rest (by assumption) rfl | (apply kl_in; focus rfl))) _ ⟨rfl, trivial⟩⟩
      · skip
        have n2 : ¬ x.op = 2 := by simpa using h30
        refine T_seq ?_
        refine T_region ?_
        refine S_ 34 rfl rfl rfl _ (y_bin rfl rfl rfl (fun _ => b_eql)) ?_
        refine S_ 33 rfl rfl rfl _ (y_assign rfl rfl) ?_
        refine S_go (fun _ _ h => h) ?_
        refine T_cond rfl (fun h33 => ?_) (fun h33 => ?_)
        · skip
          have hop : x.op = 3 := by simpa using h33
          refine T_seq ?_
          refine T_region ?_
          refine S_ 35 rfl rfl rfl _ (y_makeFunc rfl rfl rfl rfl rfl) ?_
          refine S_ 2 rfl rfl rfl _ (y_assign rfl rfl) ?_
          refine S_go (fun _ _ h => h) ?_
          refine T_ret (fun a w hF hM => hRb a w (post1 rfl rfl (fun w hM => ?_) a w hF hM))
          obtain ⟨k, hk1⟩ : ∃ k, x.kids = [k] := by
            match h : x.kids, ar4 hop with
            | [k], _ => exact ⟨k, rfl⟩
          have hM := hM.bankK (ks := [(906, 906), (900, 900)]) (m := 900) (i := 906) rfl rfl rfl (by repeat (first | exact kl_nil | exact kl_rest (by assumption) rfl | (apply kl_in; focus rfl) | (apply kl_out; focus rfl))) rfl
          have hM := hM.boxRow (i := 6) rfl
          have hM := hM.bankK (ks := [(6, 6), (900, 900)]) (m := 900) (i := 6) rfl rfl rfl (by repeat (first | exact kl_nil | exact kl_rest (by assumption) rfl | (apply kl_in; focus rfl) | (apply kl_out; focus rfl))) rfl
          exact ⟨⟨⟨40, #[ptF b6]⟩, _⟩, rfl, ⟨cf40, fun r h => in_l (in_l (hp4 r h)), fun w hb hr _ => (askNot (kids_sees hp2 (by omega) (hZk.trans hk1) hp5 w hb hr)).ext fun e => ho3 hop hk1⟩, hM.keep (ks := [(0, 999)]) (by repeat (first | exact kl_rest (by assumption) rfl | (apply kl_in; focus rfl))) _ ⟨rfl, trivial⟩⟩
        · skip
          have n3 : ¬ x.op = 3 := by simpa using h33
          refine T_seq ?_
          refine T_region ?_
          refine S_ 37 rfl rfl rfl _ (y_bin rfl rfl rfl (fun _ => b_eql)) ?_
          refine S_ 36 rfl rfl rfl _ (y_assign rfl rfl) ?_
          refine S_go (fun _ _ h => h) ?_
          refine T_cond rfl (fun h36 => ?_) (fun h36 => ?_)
          · skip
            have hop : x.op = 4 := by simpa using h36
            refine T_seq ?_
            refine T_region ?_
            refine S_ 38 rfl rfl rfl _ (y_move rfl rfl) ?_
            refine S_callM 39 [(900, 900)] (X := FnR) rfl rfl rfl rfl rfl rfl rfl cf32 rfl (fun z => z.v) (FnOk Evt.val EvR w0 ws (fun w => CellsAt w b1 x.enc) (fun e => inB e.lv x.lo x.hi)) (fun z => [(900, .many z.rs)]) (fun _ => rfl) (fun _ => rfl) (fun K hK w hM => test3_any hK ws x 41 (fun e => e.lv) b1 cf41 nlv_any w hM) ?_
            intro x39 hx39
            refine S_ 2 rfl rfl rfl _ (y_assign rfl rfl) ?_
            refine S_go (fun _ _ h => h) ?_
            refine T_ret (fun a w hF hM => hRb a w (post1 rfl rfl (fun w hM => ?_) a w hF hM))
            have hM := hM.boxRow (i := 1) rfl
            have hM := hM.bankK (ks := [(1, 1), (900, 900)]) (m := 900) (i := 1) rfl rfl rfl (by repeat (first | exact kl_nil | exact kl_rest (by assumption) rfl | (apply kl_in; focus rfl) | (apply kl_out; focus rfl))) rfl
            exact ⟨⟨x39.fn, x39.rs ++ [boxRow 24 b1 x.enc]⟩, rfl, ⟨hx39.cf, fun r h => in_l (hx39.more r (hp4 r h)), fun w hb hr _ => (hx39.sees w hb (fun r h => hr r (in_l h)) (cells_of (row_cells (hr _ in_r)))).ext fun e => ho4 hop⟩, hM.keep (ks := [(0, 999)]) (by repeat (first | exact kl_rest (by assumption) rfl | (apply kl_in; focus rfl))) _ ⟨rfl, trivial⟩⟩
          · skip
            have n4 : ¬ x.op = 4 := by simpa using h36
            refine T_seq ?_
            refine T_region ?_
            refine S_ 41 rfl rfl rfl _ (y_bin rfl rfl rfl (fun _ => b_eql)) ?_
            refine S_ 40 rfl rfl rfl _ (y_assign rfl rfl) ?_
            refine S_go (fun _ _ h => h) ?_
            refine T_cond rfl (fun h40 => ?_) (fun h40 => ?_)
            · skip
              have hop : x.op = 5 := by simpa using h40
              refine T_seq ?_
              refine T_region ?_
              refine S_ 42 rfl rfl rfl _ (y_move rfl rfl) ?_
              refine S_callM 43 [(900, 900)] (X := FnR) rfl rfl rfl rfl rfl rfl rfl cf32 rfl (fun z => z.v) (FnOk Evt.val EvR w0 ws (fun w => CellsAt w b1 x.enc) (fun e => inB e.at_ x.lo x.hi)) (fun z => [(900, .many z.rs)]) (fun _ => rfl) (fun _ => rfl) (fun K hK w hM => test3_any hK ws x 42 (fun e => e.at_) b1 cf42 nat_any w hM) ?_
              intro x43 hx43
              refine S_ 2 rfl rfl rfl _ (y_assign rfl rfl) ?_
              refine S_go (fun _ _ h => h) ?_
              refine T_ret (fun a w hF hM => hRb a w (post1 rfl rfl (fun w hM => ?_) a w hF hM))
              have hM := hM.boxRow (i := 1) rfl
              have hM := hM.bankK (ks := [(1, 1), (900, 900)]) (m := 900) (i := 1) rfl rfl rfl (by repeat (first | exact kl_nil | exact kl_rest (by assumption) rfl | (apply kl_in; focus rfl) | (apply kl_out; focus rfl))) rfl
              exact ⟨⟨x43.fn, x43.rs ++ [boxRow 24 b1 x.enc]⟩, rfl, ⟨hx43.cf, fun r h => in_l (hx43.more r (hp4 r h)), fun w hb hr _ => (hx43.sees w hb (fun r h => hr r (in_l h)) (cells_of (row_cells (hr _ in_r)))).ext fun e => ho5 hop⟩, hM.keep (ks := [(0, 999)]) (by repeat (first | exact kl_rest (by assumption) rfl | (apply kl_in; focus rfl))) _ ⟨rfl, trivial⟩⟩
            · skip
              have n5 : ¬ x.op = 5 := by simpa using h40
              refine T_seq ?_
              refine T_region ?_
              refine S_ 45 rfl rfl rfl _ (y_bin rfl rfl rfl (fun _ => b_eql)) ?_
              refine S_ 44 rfl rfl rfl _ (y_assign rfl rfl) ?_
              refine S_go (fun _ _ h => h) ?_
              refine T_cond rfl (fun h44 => ?_) (fun h44 => ?_)
              · skip
                have hop : x.op = 6 := by simpa using h44
                refine T_seq ?_
                refine T_region ?_
                refine S_ 46 rfl rfl rfl _ (y_move rfl rfl) ?_
                refine S_callM 47 [(900, 900)] (X := FnR) rfl rfl rfl rfl rfl rfl rfl cf32 rfl (fun z => z.v) (FnOk Evt.val EvR w0 ws (fun w => CellsAt w b1 x.enc) (fun e => inB e.wt x.lo x.hi)) (fun z => [(900, .many z.rs)]) (fun _ => rfl) (fun _ => rfl) (fun K hK w hM => test3_any hK ws x 43 (fun e => e.wt) b1 cf43 nwt_any w hM) ?_
                intro x47 hx47
                refine S_ 2 rfl rfl rfl _ (y_assign rfl rfl) ?_
                refine S_go (fun _ _ h => h) ?_
                refine T_ret (fun a w hF hM => hRb a w (post1 rfl rfl (fun w hM => ?_) a w hF hM))
                have hM := hM.boxRow (i := 1) rfl
                have hM := hM.bankK (ks := [(1, 1), (900, 900)]) (m := 900) (i := 1) rfl rfl rfl (by repeat (first | exact kl_nil | exact kl_rest (by assumption) rfl | (apply kl_in; focus rfl) | (apply kl_out; focus rfl))) rfl
                exact ⟨⟨x47.fn, x47.rs ++ [boxRow 24 b1 x.enc]⟩, rfl, ⟨hx47.cf, fun r h => in_l (hx47.more r (hp4 r h)), fun w hb hr _ => (hx47.sees w hb (fun r h => hr r (in_l h)) (cells_of (row_cells (hr _ in_r)))).ext fun e => ho6 hop⟩, hM.keep (ks := [(0, 999)]) (by repeat (first | exact kl_rest (by assumption) rfl | (apply kl_in; focus rfl))) _ ⟨rfl, trivial⟩⟩
              · skip
                have n6 : ¬ x.op = 6 := by simpa using h44
                refine T_seq ?_
                refine T_seq ?_
                refine T_region ?_
                refine S_ 49 rfl rfl rfl _ (y_bin rfl rfl rfl (fun _ => b_eql)) ?_
                refine S_ 48 rfl rfl rfl _ (y_assign rfl rfl) ?_
                refine S_go (fun _ _ h => h) ?_
                refine T_cond rfl (fun h48 => ?_) (fun h48 => ?_)
                · skip
                  have hop7 := h48
                  have hop : x.op = 7 ∨ x.op = 8 := .inl (by simpa using h48)
                  refine T_skip_go (fun _ _ h => h) ?_
                  refine T_cond rfl (fun h48 => ?_) (fun h48 => ?_)
                  · skip
                    refine T_seq ?_
                    refine T_region ?_
                    refine S_ 51 rfl rfl rfl _ (y_makeFunc rfl rfl rfl rfl rfl) ?_
                    refine S_ 2 rfl rfl rfl _ (y_assign rfl rfl) ?_
                    refine S_go (fun _ _ h => h) ?_
                    refine T_ret (fun a w hF hM => hRb a w (post1 rfl rfl (fun w hM => ?_) a w hF hM))
                    have hM := hM.boxRow (i := 1) rfl
                    have hM := hM.bankK (ks := [(1, 1), (900, 900)]) (m := 900) (i := 1) rfl rfl rfl (by repeat (first | exact kl_nil | exact kl_rest (by assumption) rfl | (apply kl_in; focus rfl) | (apply kl_out; focus rfl))) rfl
                    exact ⟨⟨⟨44, #[ptF b1]⟩, ws ++ [boxRow 24 b1 x.enc]⟩, rfl, ⟨cf44, fun r h => in_l (hp4 r h), fun w hb hr _ => (askTag htx (cells_of (row_cells (hr _ in_r)))).ext fun e => ho7 hop⟩, hM.keep (ks := [(0, 999)]) (by repeat (first | exact kl_rest (by assumption) rfl | (apply kl_in; focus rfl))) _ ⟨rfl, trivial⟩⟩
                  · skip
                    exact absurd (hop7.symm.trans h48) (by decide)
                · skip
                  have n7 : ¬ x.op = 7 := by simpa using h48
                  refine T_region ?_
                  refine S_ 50 rfl rfl rfl _ (y_bin rfl rfl rfl (fun _ => b_eql)) ?_
                  refine S_ 48 rfl rfl rfl _ (y_assign rfl rfl) ?_
                  refine S_go (fun _ _ h => h) ?_
                  refine T_cond rfl (fun h48 => ?_) (fun h48 => ?_)
                  · skip
                    have hop : x.op = 7 ∨ x.op = 8 := .inr (by simpa using h48)
                    refine T_seq ?_
                    refine T_region ?_
                    refine S_ 51 rfl rfl rfl _ (y_makeFunc rfl rfl rfl rfl rfl) ?_
                    refine S_ 2 rfl rfl rfl _ (y_assign rfl rfl) ?_
                    refine S_go (fun _ _ h => h) ?_
                    refine T_ret (fun a w hF hM => hRb a w (post1 rfl rfl (fun w hM => ?_) a w hF hM))
                    have hM := hM.boxRow (i := 1) rfl
                    have hM := hM.bankK (ks := [(1, 1), (900, 900)]) (m := 900) (i := 1) rfl rfl rfl (by repeat (first | exact kl_nil | exact kl_rest (by assumption) rfl | (apply kl_in; focus rfl) | (apply kl_out; focus rfl))) rfl
                    exact ⟨⟨⟨44, #[ptF b1]⟩, ws ++ [boxRow 24 b1 x.enc]⟩, rfl, ⟨cf44, fun r h => in_l (hp4 r h), fun w hb hr _ => (askTag htx (cells_of (row_cells (hr _ in_r)))).ext fun e => ho7 hop⟩, hM.keep (ks := [(0, 999)]) (by repeat (first | exact kl_rest (by assumption) rfl | (apply kl_in; focus rfl))) _ ⟨rfl, trivial⟩⟩
                  · skip
                    have n8 : ¬ x.op = 8 := by simpa using h48
                    refine T_seq ?_
                    refine T_region ?_
                    refine S_ 53 rfl rfl rfl _ (y_bin rfl rfl rfl (fun _ => b_eql)) ?_
                    refine S_ 52 rfl rfl rfl _ (y_assign rfl rfl) ?_
                    refine S_go (fun _ _ h => h) ?_
                    refine T_cond rfl (fun h52 => ?_) (fun h52 => ?_)
                    · skip
                      have hop : x.op = 9 := by simpa using h52
                      refine T_seq ?_
                      refine T_region ?_
                      refine S_ 54 rfl rfl rfl _ (y_makeFunc rfl rfl rfl rfl rfl) ?_
                      refine S_ 2 rfl rfl rfl _ (y_assign rfl rfl) ?_
                      refine S_go (fun _ _ h => h) ?_
                      refine T_ret (fun a w hF hM => hRb a w (post1 rfl rfl (fun w hM => ?_) a w hF hM))
                      have hM := hM.boxRow (i := 1) rfl
                      have hM := hM.bankK (ks := [(1, 1), (900, 900)]) (m := 900) (i := 1) rfl rfl rfl (by repeat (first | exact kl_nil | exact kl_rest (by assumption) rfl | (apply kl_in; focus rfl) | (apply kl_out; focus rfl))) rfl
                      exact ⟨⟨⟨46, #[ptF b1]⟩, ws ++ [boxRow 24 b1 x.enc]⟩, rfl, ⟨cf46, fun r h => in_l (hp4 r h), fun w hb hr _ => (askrel htx (cells_of (row_cells (hr _ in_r)))).ext fun e => ho9 hop⟩, hM.keep (ks := [(0, 999)]) (by repeat (first | exact kl_rest (by assumption) rfl | (apply kl_in; focus rfl))) _ ⟨rfl, trivial⟩⟩
                    · skip
                      have n9 : ¬ x.op = 9 := by simpa using h52
                      refine T_seq ?_
                      refine T_region ?_
                      refine S_ 56 rfl rfl rfl _ (y_bin rfl rfl rfl (fun _ => b_eql)) ?_
                      refine S_ 55 rfl rfl rfl _ (y_assign rfl rfl) ?_
                      refine S_go (fun _ _ h => h) ?_
                      refine T_cond rfl (fun h55 => ?_) (fun h55 => ?_)
                      · skip
                        have hop : x.op = 10 := by simpa using h55
                        refine T_seq ?_
                        refine T_region ?_
                        refine S_ 57 rfl rfl rfl _ (y_makeFunc rfl rfl rfl rfl rfl) ?_
                        refine S_ 2 rfl rfl rfl _ (y_assign rfl rfl) ?_
                        refine S_go (fun _ _ h => h) ?_
                        refine T_ret (fun a w hF hM => hRb a w (post1 rfl rfl (fun w hM => ?_) a w hF hM))
                        have hM := hM.boxRow (i := 1) rfl
                        have hM := hM.bankK (ks := [(1, 1), (900, 900)]) (m := 900) (i := 1) rfl rfl rfl (by repeat (first | exact kl_nil | exact kl_rest (by assumption) rfl | (apply kl_in; focus rfl) | (apply kl_out; focus rfl))) rfl
                        exact ⟨⟨⟨47, #[ptF b1]⟩, ws ++ [boxRow 24 b1 x.enc]⟩, rfl, ⟨cf47, fun r h => in_l (hp4 r h), fun w hb hr _ => (askus htx (cells_of (row_cells (hr _ in_r)))).ext fun e => ho10 hop⟩, hM.keep (ks := [(0, 999)]) (by repeat (first | exact kl_rest (by assumption) rfl | (apply kl_in; focus rfl))) _ ⟨rfl, trivial⟩⟩
                      · skip
                        have n10 : ¬ x.op = 10 := by simpa using h55
                        refine T_seq ?_
                        refine T_region ?_
                        refine S_ 59 rfl rfl rfl _ (y_bin rfl rfl rfl (fun _ => b_eql)) ?_
                        refine S_ 58 rfl rfl rfl _ (y_assign rfl rfl) ?_
                        refine S_go (fun _ _ h => h) ?_
                        refine T_cond rfl (fun h58 => ?_) (fun h58 => ?_)
                        · skip
                          have hop : x.op = 11 := by simpa using h58
                          refine T_seq ?_
                          refine T_region ?_
                          refine S_ 60 rfl rfl rfl _ (y_load 3 rfl rfl rfl rfl Tryd.underlying61 rfl) ?_
                          refine S_ 61 rfl rfl rfl _ (y_makeFunc rfl rfl rfl rfl rfl) ?_
                          refine S_callM 62 [(900, 900)] (X := FnR) rfl rfl rfl rfl rfl rfl rfl cf26 rfl (fun z => z.v) (FnOk Evt.val EvR w0 ws (fun w => CellsAt w b1 x.enc) (fun e => e.fa.l.any fun f => gm eqL x.tx f.k)) (fun z => [(900, .many z.rs)]) (fun _ => rfl) (fun _ => rfl) (fun K hK w hM => test1_any hK ws (fun w => CellsAt w b1 x.enc) ⟨48, #[ptF b1]⟩ (fun f => gm eqL x.tx f.k) (fun w _ _ hC => askKind htx hC) w hM) ?_
                          intro x62 hx62
                          refine S_ 2 rfl rfl rfl _ (y_assign rfl rfl) ?_
                          refine S_go (fun _ _ h => h) ?_
                          refine T_ret (fun a w hF hM => hRb a w (post1 rfl rfl (fun w hM => ?_) a w hF hM))
                          have hM := hM.boxRow (i := 1) rfl
                          have hM := hM.bankK (ks := [(1, 1), (900, 900)]) (m := 900) (i := 1) rfl rfl rfl (by repeat (first | exact kl_nil | exact kl_rest (by assumption) rfl | (apply kl_in; focus rfl) | (apply kl_out; focus rfl))) rfl
                          exact ⟨⟨x62.fn, x62.rs ++ [boxRow 24 b1 x.enc]⟩, rfl, ⟨hx62.cf, fun r h => in_l (hx62.more r (hp4 r h)), fun w hb hr _ => (hx62.sees w hb (fun r h => hr r (in_l h)) (cells_of (row_cells (hr _ in_r)))).ext fun e => ho11 hop⟩, hM.keep (ks := [(0, 999)]) (by repeat (first | exact kl_rest (by assumption) rfl | (apply kl_in; focus rfl))) _ ⟨rfl, trivial⟩⟩
                        · skip
                          have n11 : ¬ x.op = 11 := by simpa using h58
                          refine T_seq ?_
                          refine T_region ?_
                          refine S_ 64 rfl rfl rfl _ (y_bin rfl rfl rfl (fun _ => b_eql)) ?_
                          refine S_ 63 rfl rfl rfl _ (y_assign rfl rfl) ?_
                          refine S_go (fun _ _ h => h) ?_
                          refine T_cond rfl (fun h63 => ?_) (fun h63 => ?_)
                          · skip
                            have hop : x.op = 12 := by simpa using h63
                            refine T_seq ?_
                            refine T_region ?_
                            refine S_ 65 rfl rfl rfl _ (y_fieldAddr rfl rfl fa24_5) ?_
                            refine S_ 66 rfl rfl rfl _ (y_load 1 rfl rfl rfl rfl Tryd.underlying9 rfl) ?_
                            refine S_ 67 rfl rfl rfl _ (y_call rfl rfl rfl cf49 (fun _ w _ => fsmall_any _ (by omega) w)) ?_
                            refine S_alloc 9 9 rfl rfl rfl rfl z9 ?_
                            intro b9
                            refine S_store 9 rfl rfl rfl rfl rfl rfl sz9 rfl rfl ?_
                            refine S_go (fun _ _ h => h) ?_
                            refine T_seq ?_
                            refine T_region ?_
                            refine S_ 68 rfl rfl rfl _ (y_load 3 rfl rfl rfl rfl Tryd.underlying61 rfl) ?_
                            refine S_ 69 rfl rfl rfl _ (y_makeFunc rfl rfl rfl rfl rfl) ?_
                            refine S_callM 70 [(900, 900)] (X := FnR) rfl rfl rfl rfl rfl rfl rfl cf26 rfl (fun z => z.v) (FnOk Evt.val EvR w0 ws (fun w => Cell1 w b9 (str (x.tx.map lowB))) (fun e => e.fa.l.any fun f => Lib.contains (f.t.map lowB) (x.tx.map lowB))) (fun z => [(900, .many z.rs)]) (fun _ => rfl) (fun _ => rfl) (fun K hK w hM => test1_any hK ws (fun w => Cell1 w b9 (str (x.tx.map lowB))) ⟨50, #[ptF b9]⟩ (fun f => Lib.contains (f.t.map lowB) (x.tx.map lowB)) (fun w hb _ hC => askSays (hmx.below hb) hC) w hM) ?_
                            intro x70 hx70
                            refine S_ 2 rfl rfl rfl _ (y_assign rfl rfl) ?_
                            refine S_go (fun _ _ h => h) ?_
                            refine T_ret (fun a w hF hM => hRb a w (post1 rfl rfl (fun w hM => ?_) a w hF hM))
                            have hM := hM.boxRow (i := 9) rfl
                            have hM := hM.bankK (ks := [(9, 9), (900, 900)]) (m := 900) (i := 9) rfl rfl rfl (by repeat (first | exact kl_nil | exact kl_rest (by assumption) rfl | (apply kl_in; focus rfl) | (apply kl_out; focus rfl))) rfl
                            exact ⟨⟨x70.fn, x70.rs ++ [boxRow 9 b9 [str (x.tx.map lowB)]]⟩, rfl, ⟨hx70.cf, fun r h => in_l (hx70.more r (hp4 r h)), fun w hb hr _ => (hx70.sees w hb (fun r h => hr r (in_l h)) (cell1_of (row_cells (hr _ in_r)))).ext fun e => ho12 hop⟩, hM.keep (ks := [(0, 999)]) (by repeat (first | exact kl_rest (by assumption) rfl | (apply kl_in; focus rfl))) _ ⟨rfl, trivial⟩⟩
                          · skip
                            have n12 : ¬ x.op = 12 := by simpa using h63
                            refine T_seq ?_
                            refine T_region ?_
                            refine S_ 72 rfl rfl rfl _ (y_bin rfl rfl rfl (fun _ => b_eql)) ?_
                            refine S_ 71 rfl rfl rfl _ (y_assign rfl rfl) ?_
                            refine S_go (fun _ _ h => h) ?_
                            refine T_cond rfl (fun h71 => ?_) (fun h71 => ?_)
                            · skip
                              have hop : x.op = 13 := by simpa using h71
                              refine T_seq ?_
                              refine T_region ?_
                              refine S_ 73 rfl rfl rfl _ (y_move rfl rfl) ?_
                              refine S_ 74 rfl rfl rfl _ (y_makeFunc rfl rfl rfl rfl rfl) ?_
                              refine S_callM 75 [(901, 3), (900, 900)] (X := FnR) rfl rfl rfl rfl rfl rfl rfl cf29 rfl (fun z => z.v) (FnOk Evt.val EvR w0 ws (fun w => CellsAt w b1 x.enc) (fun e => e.fa.l.any fun f => f.fr.l.any fun y => gm eqL x.tx y.f)) (fun z => [(901, .blk b3 (IsBox [.func (.func 26) #[] #[]] 61)), (900, .many z.rs)]) (fun _ => rfl) (fun _ => rfl) (fun K hK w hM => test2_any hK ws (fun w => CellsAt w b1 x.enc) ⟨52, #[ptF b1]⟩ (fun y => gm eqL x.tx y.f) b3 (fun w _ _ hC => askFunc htx hC) w hM) ?_
                              intro x75 hx75
                              refine S_ 2 rfl rfl rfl _ (y_assign rfl rfl) ?_
                              refine S_go (fun _ _ h => h) ?_
                              refine T_ret (fun a w hF hM => hRb a w (post1 rfl rfl (fun w hM => ?_) a w hF hM))
                              have hM := hM.boxRow (i := 1) rfl
                              have hM := hM.bankK (ks := [(1, 1), (900, 900)]) (m := 900) (i := 1) rfl rfl rfl (by repeat (first | exact kl_nil | exact kl_rest (by assumption) rfl | (apply kl_in; focus rfl) | (apply kl_out; focus rfl))) rfl
                              exact ⟨⟨x75.fn, x75.rs ++ [boxRow 24 b1 x.enc]⟩, rfl, ⟨hx75.cf, fun r h => in_l (hx75.more r (hp4 r h)), fun w hb hr _ => (hx75.sees w hb (fun r h => hr r (in_l h)) (cells_of (row_cells (hr _ in_r)))).ext fun e => ho13 hop⟩, hM.keep (ks := [(0, 999)]) (by repeat (first | exact kl_rest (by assumption) rfl | (apply kl_in; focus rfl))) _ ⟨rfl, trivial⟩⟩
                            · skip
                              have n13 : ¬ x.op = 13 := by simpa using h71
                              have hop : x.op = 14 := by omega
                              refine T_skip_go (fun _ _ h => h) ?_
                              refine T_seq ?_
                              refine T_region ?_
                              refine S_ 76 rfl rfl rfl _ (y_move rfl rfl) ?_
                              refine S_ 77 rfl rfl rfl _ (y_makeFunc rfl rfl rfl rfl rfl) ?_
                              refine S_callM 78 [(901, 3), (900, 900)] (X := FnR) rfl rfl rfl rfl rfl rfl rfl cf29 rfl (fun z => z.v) (FnOk Evt.val EvR w0 ws (fun w => CellsAt w b1 x.enc) (fun e => e.fa.l.any fun f => f.fr.l.any fun y => gm eqL x.tx y.fi)) (fun z => [(901, .blk b3 (IsBox [.func (.func 26) #[] #[]] 61)), (900, .many z.rs)]) (fun _ => rfl) (fun _ => rfl) (fun K hK w hM => test2_any hK ws (fun w => CellsAt w b1 x.enc) ⟨53, #[ptF b1]⟩ (fun y => gm eqL x.tx y.fi) b3 (fun w _ _ hC => askFile htx hC) w hM) ?_
                              intro x78 hx78
                              refine S_ 2 rfl rfl rfl _ (y_assign rfl rfl) ?_
                              refine S_go (fun _ _ h => h) ?_
                              refine T_ret (fun a w hF hM => hRb a w (post1 rfl rfl (fun w hM => ?_) a w hF hM))
                              have hM := hM.boxRow (i := 1) rfl
                              have hM := hM.bankK (ks := [(1, 1), (900, 900)]) (m := 900) (i := 1) rfl rfl rfl (by repeat (first | exact kl_nil | exact kl_rest (by assumption) rfl | (apply kl_in; focus rfl) | (apply kl_out; focus rfl))) rfl
                              exact ⟨⟨x78.fn, x78.rs ++ [boxRow 24 b1 x.enc]⟩, rfl, ⟨hx78.cf, fun r h => in_l (hx78.more r (hp4 r h)), fun w hb hr _ => (hx78.sees w hb (fun r h => hr r (in_l h)) (cells_of (row_cells (hr _ in_r)))).ext fun e => ho14 hop⟩, hM.keep (ks := [(0, 999)]) (by repeat (first | exact kl_rest (by assumption) rfl | (apply kl_in; focus rfl))) _ ⟨rfl, trivial⟩⟩
theorem test_any (x : SC) : TestAt x := SC.ind (Q := TestAt) test_step x
end Go.Proofs.YtfmbgaaonfgenaaDoor
end
section
namespace Go.Proofs.YtfmbgaaonfgenaaDoor
set_option linter.unusedSimpArgs false
set_option linter.unusedVariables false
set_option maxRecDepth 20000
open Go.RowKit Go.Eng
/-- the fault of a question whether a condition holds, and the answer -/
def hoNo (x : SC) (e : Evt) : Int := fst (condNo x) (evNo e)
def hoB (x : SC) (e : Evt) : Bool := decide (hoNo x e = 0) && hoX e x
theorem cond_ch {x : SC} (h : condNo x = 0) : chX x = 0 := by
  unfold condNo at h
  split at h
  · cases h
  split at h
  · cases h
  exact h
theorem Holds_any (x : SC) (e : Evt) (w : World) (hok : x.Ok w) (he : e.Ok w) (hm : MLen w) :
    Calls Tryd.prog 7 #[x.val, e.val] w fun en w' => en = .returned (.tuple #[.bool (hoB x e), .int .i64 (hoNo x e)]) ∧ Below w.heap.size w w' := by
  refine enter_args (args := [.agg #[.int .i64 x.op, .slice x.ad x.q x.c, .int .i64 x.lo, .int .i64 x.hi, str x.nm, str x.tx], .agg #[str e.id, .int .i64 e.at_, .int .i64 e.lv, .slice e.fa.A e.fa.q e.fa.c, .slice e.ta.A e.ta.q e.ta.c, .slice e.cr.A e.cr.q e.cr.c, str e.rel, str e.us, .int .i64 e.wt]]) (F := _) Tryd.func7 rfl Tryd.ntmps7 rfl rfl ?_
  intro Rb hRb hRn
  refine T_many0 900 ?_
  refine T_seq ?_
  refine T_region ?_
  refine S_box 2 2 rfl rfl rfl rfl rfl ?_
  intro b2
  refine S_box 3 3 rfl rfl rfl rfl rfl ?_
  intro b3
  refine S_ 4 rfl rfl rfl _ (y_assign rfl rfl) ?_
  refine S_ 5 rfl rfl rfl _ (y_assign rfl rfl) ?_
  refine S_go (fun _ _ h => h) ?_
  refine T_seq ?_
  refine T_seq ?_
  refine T_region ?_
  refine S_ 8 rfl rfl rfl _ (y_loadA 2 rfl rfl rfl Tryd.underlying24 rfl sz24) ?_
  refine S_ 9 rfl rfl rfl _ (y_call rfl rfl rfl cf9 (fun _ w1 hM => CheckCond_any x w1 (hok.lift hM.below))) ?_
  refine S_ 6 rfl rfl rfl _ (y_assign rfl rfl) ?_
  refine S_go (fun _ _ h => h) ?_
  refine T_seq ?_
  refine T_region ?_
  refine S_ 10 rfl rfl rfl _ (y_move rfl rfl) ?_
  refine S_ 11 rfl rfl rfl _ (y_bin rfl rfl rfl (fun _ => b_neq)) ?_
  refine S_go (fun _ _ h => h) ?_
  refine T_cond rfl (fun h11 => ?_) (fun h11 => ?_)
  · skip
    have h11 : ¬ condNo x = 0 := by simpa using h11
    refine T_seq ?_
    refine T_region ?_
    refine S_ 12 rfl rfl rfl _ (y_move rfl rfl) ?_
    refine S_ 4 rfl rfl rfl _ (y_assign rfl rfl) ?_
    refine S_ 5 rfl rfl rfl _ (y_assign rfl rfl) ?_
    refine S_go (fun _ _ h => h) ?_
    refine T_ret (fun a w hF hM => hRb a w (post2 rfl rfl rfl (fun w hM => ?_) a w hF hM))
    have e0 : hoNo x e = condNo x := fst_t h11
    exact ⟨by rw [hoB, e0, decide_eq_false h11]; rfl, hM.below⟩
  · skip
    have h11 : condNo x = 0 := by simpa using h11
    refine T_skip_go (fun _ _ h => h) ?_
    refine T_seq ?_
    refine T_seq ?_
    refine T_region ?_
    refine S_ 13 rfl rfl rfl _ (y_loadA 3 rfl rfl rfl Tryd.underlying35 rfl sz35) ?_
    refine S_ 14 rfl rfl rfl _ (y_call rfl rfl rfl cf12 (fun _ w1 hM => Check_any e w1 (he.below hM.below))) ?_
    refine S_ 7 rfl rfl rfl _ (y_assign rfl rfl) ?_
    refine S_go (fun _ _ h => h) ?_
    refine T_seq ?_
    refine T_region ?_
    refine S_ 15 rfl rfl rfl _ (y_move rfl rfl) ?_
    refine S_ 16 rfl rfl rfl _ (y_bin rfl rfl rfl (fun _ => b_neq)) ?_
    refine S_go (fun _ _ h => h) ?_
    refine T_cond rfl (fun h16 => ?_) (fun h16 => ?_)
    · skip
      have h15 : ¬ evNo e = 0 := by simpa using h16
      refine T_seq ?_
      refine T_region ?_
      refine S_ 17 rfl rfl rfl _ (y_move rfl rfl) ?_
      refine S_ 4 rfl rfl rfl _ (y_assign rfl rfl) ?_
      refine S_ 5 rfl rfl rfl _ (y_assign rfl rfl) ?_
      refine S_go (fun _ _ h => h) ?_
      refine T_ret (fun a w hF hM => hRb a w (post2 rfl rfl rfl (fun w hM => ?_) a w hF hM))
      have e0 : hoNo x e = evNo e := fst_f h11
      exact ⟨by rw [hoB, e0, decide_eq_false h15]; rfl, hM.below⟩
    · skip
      have h15 : evNo e = 0 := by simpa using h16
      refine T_skip_go (fun _ _ h => h) ?_
      refine T_seq ?_
      refine T_perm [0, 2, 1, 3, 4, 5] [true, false, true, false, true, true] [0, 1, 0, 7, 15, 31] [(0, [2]), (2, [3])] (by kernel_rfl) (by kernel_rfl) (by kernel_rfl) rfl (by kernel_rfl) ?_
      refine Rf_ 0 18 rfl rfl rfl rfl rfl _ ⟨rfl, trivial⟩ (Y.z (y_loadA 2 rfl rfl rfl Tryd.underlying24 rfl sz24) rfl) ?_
      refine Rf_ 2 20 rfl rfl rfl rfl rfl _ ⟨rfl, trivial⟩ (Y.z (y_loadA 3 rfl rfl rfl Tryd.underlying35 rfl sz35) rfl) ?_
      refine R_chain 1 rfl rfl ?_
      refine S_callM 19 [(900, 900)] (X := FnR) rfl rfl rfl rfl rfl rfl rfl cf13 rfl (fun z => z.v) (FnOk Evt.val EvR w [] (fun _ => True) (fun e => hoX e x)) (fun z => [(900, .many z.rs)]) (fun _ => rfl) (fun _ => rfl) (fun K hK w1 hM => test_any x hK [] w1 hok (cond_ch h11) hm hM) ?_
      intro x19 hx19
      refine R_next ⟨.inl rfl, .inr ⟨rfl, trivial⟩, trivial⟩ ?_
      refine R_chain 3 rfl rfl ?_
      refine S_ 21 rfl rfl rfl _ (y_call rfl rfl rfl hx19.cf (fun _ w1 hM => (hx19.sees.at hM 900 rfl trivial).2 w1 (Below.refl _ _) e ⟨he.below hM.below, ev_small h15⟩)) ?_
      refine R_next ⟨.inl rfl, .inl rfl, trivial⟩ ?_
      refine Rf_ 4 4 rfl rfl rfl rfl rfl _ trivial (Y.z (y_assign rfl rfl) rfl) ?_
      refine Rf_ 5 5 rfl rfl rfl rfl rfl _ trivial (Y.z (y_assign rfl rfl) rfl) ?_
      refine R_go (fun _ _ h => h) ?_
      refine T_ret (fun a w hF hM => hRb a w (post2 rfl rfl rfl (fun w hM => ?_) a w hF hM))
      have e0 : hoNo x e = 0 := (fst_f h11).trans h15
      exact ⟨by rw [hoB, e0]; rfl, hM.below⟩
end Go.Proofs.YtfmbgaaonfgenaaDoor
end
section
namespace Go.Proofs.YtfmbgaaonfgenaaDoor
set_option linter.unusedSimpArgs false
set_option linter.unusedVariables false
set_option maxRecDepth 20000
open Go.RowKit Go.Eng
theorem cond_parts {x : SC} (h : condNo x = 0) : cntP x.says ≤ 100 ∧ chX x = 0 := ((condN_zero (txt := txtNo) (nm := nameOk) (c := x.says)).1 h).2
theorem sc0_ok (w : World) : sc0.Ok w := .mk ⟨⟨⟨rfl, fun h => absurd h (Nat.lt_irrefl 0)⟩, rfl⟩, Nat.le_refl 0⟩ (by decide) (by decide) (by decide) (by decide) (fun k hk => by cases hk)
structure PnOk (w0 : World) (rs : List Row) (x : SC) (z : PlR) : Prop where
  says : condNo x = 0 → z.sc.says = plainP x.says
  more : ∀ r ∈ rs, r ∈ z.rs
  ok : Sees w0 z.rs fun w => z.sc.Ok w
theorem FPlain_any {w0 : World} {K : HL} (hK : FromK K) (rs : List Row) (x : SC) (w : World) (hok : Sees w0 rs fun w => x.Ok w) (hM0 : Mem w0 ([(900, .many rs)] ++ K) w) :
    Calls Tryd.prog 5 #[x.val] w fun e w' => ∃ z : PlR, e = .returned (.tuple #[z.sc.val, .int .i64 (condNo x)]) ∧ PnOk w0 rs x z ∧ Mem w0 ([(900, .many z.rs)] ++ K) w' := by
  refine enterM_args (args := [.agg #[.int .i64 x.op, .slice x.ad x.q x.c, .int .i64 x.lo, .int .i64 x.hi, str x.nm, str x.tx]]) (F := _) hM0 Tryd.func5 rfl Tryd.ntmps5 rfl rfl ?_
  intro Rb hRb hRn
  refine T_seq ?_
  refine T_region ?_
  refine S_box 1 1 rfl rfl rfl rfl rfl ?_
  intro b1
  refine S_alloc 2 2 rfl rfl rfl rfl z24 ?_
  intro b2
  refine S_ 3 rfl rfl rfl _ (y_assign rfl rfl) ?_
  refine S_go (fun _ _ h => h) ?_
  refine T_seq ?_
  refine T_seq ?_
  refine T_region ?_
  refine S_ 5 rfl rfl rfl _ (y_loadA 1 rfl rfl rfl Tryd.underlying24 rfl sz24) ?_
  refine S_ 6 rfl rfl rfl _ (y_call rfl rfl rfl cf9 (fun _ w1 hM => CheckCond_any x w1 (hok.at hM 900 rfl))) ?_
  refine S_ 4 rfl rfl rfl _ (y_assign rfl rfl) ?_
  refine S_go (fun _ _ h => h) ?_
  refine T_seq ?_
  refine T_region ?_
  refine S_ 7 rfl rfl rfl _ (y_move rfl rfl) ?_
  refine S_ 8 rfl rfl rfl _ (y_bin rfl rfl rfl (fun _ => b_neq)) ?_
  refine S_go (fun _ _ h => h) ?_
  refine T_cond rfl (fun h8 => ?_) (fun h8 => ?_)
  · skip
    have h8 : ¬ condNo x = 0 := by simpa using h8
    refine T_seq ?_
    refine T_region ?_
    refine S_ 9 rfl rfl rfl _ (y_build (zv := .agg #[.int .i64 0, .slice none 0 0, .int .i64 0, .int .i64 0, .string ⟨#[]⟩, .string ⟨#[]⟩]) (pl := [(0, 1), (1, 1), (2, 1), (3, 1), (4, 1), (5, 1)]) (out := [.int .i64 0, .slice none 0 0, .int .i64 0, .int .i64 0, .string ⟨#[]⟩, .string ⟨#[]⟩]) rfl rfl Tryd.underlying24 z24 (by kernel_rfl) rfl) ?_
    refine S_ 10 rfl rfl rfl _ (y_move rfl rfl) ?_
    refine S_store 2 rfl rfl rfl rfl rfl rfl sz24 rfl rfl ?_
    refine S_ 3 rfl rfl rfl _ (y_assign rfl rfl) ?_
    refine S_go (fun _ _ h => h) ?_
    refine T_ret (fun a w hF hM => hRb a w (post_cell 2 rfl rfl rfl rfl Tryd.underlying24 rfl (by exact sz24) (fun w hM => ?_) a w hF hM))
    exact ⟨⟨sc0, rs⟩, rfl, ⟨fun h => absurd h h8, fun r h => h, fun w _ _ => sc0_ok w⟩, hM.keep (ks := [(0, 999)]) (by repeat (first | exact kl_rest (by assumption) rfl | (apply kl_in; focus rfl))) _ ⟨rfl, trivial⟩⟩
  · skip
    have h8 : condNo x = 0 := by simpa using h8
    refine T_skip_go (fun _ _ h => h) ?_
    refine T_seq ?_
    refine T_region ?_
    refine S_ 11 rfl rfl rfl _ (y_loadA 1 rfl rfl rfl Tryd.underlying24 rfl sz24) ?_
    refine S_callM 12 [(900, 900)] (X := PlR) rfl rfl rfl rfl rfl rfl rfl cf10 rfl (fun z => .agg #[.int .i64 z.sc.op, .slice z.sc.ad z.sc.q z.sc.c, .int .i64 z.sc.lo, .int .i64 z.sc.hi, str z.sc.nm, str z.sc.tx]) (PlOk w0 rs (plainP x.says)) (fun z => [(900, .many z.rs)]) (fun _ => rfl) (fun _ => rfl) (fun K hK w hM => fplain_any x hK rs w hok (cond_parts h8).2 (cond_parts h8).1 hM) ?_
    intro z hz
    refine S_store 2 rfl rfl rfl rfl rfl rfl sz24 rfl rfl ?_
    refine S_ 3 rfl rfl rfl _ (y_assign rfl rfl) ?_
    refine S_go (fun _ _ h => h) ?_
    refine T_ret (fun a w hF hM => hRb a w (post_cell 2 rfl rfl rfl rfl Tryd.underlying24 rfl (by exact sz24) (fun w hM => ?_) a w hF hM))
    exact ⟨z, by rw [h8]; rfl, ⟨fun _ => hz.says, hz.more, hz.ok⟩, hM.keep (ks := [(0, 999)]) (by repeat (first | exact kl_rest (by assumption) rfl | (apply kl_in; focus rfl))) _ ⟨rfl, trivial⟩⟩
structure EvsF (w : World) (l : Sl Evt) : Prop where
  ok : l.Ok Evt.enc 9 w
  q : l.q ≤ 4611686018427387904
  n : ∀ e ∈ l.l, e.Ok w
theorem awakeFind_any (w : World) : Calls Tryd.prog 4 #[] w fun e w' => e = .returned (.bool true) ∧ Below w.heap.size w w' := by
  refine enter_args (args := []) (F := _) Tryd.func4 rfl Tryd.ntmps4 rfl rfl ?_
  intro Rb hRb hRn
  refine T_seq ?_
  refine T_region ?_
  refine S_ 0 rfl rfl rfl _ (y_assign rfl rfl) ?_
  refine S_go (fun _ _ h => h) ?_
  refine T_seq ?_
  refine T_region ?_
  refine S_ 1 rfl rfl rfl _ (y_call rfl rfl rfl cf8 (fun _ w _ => Fits_any [97, 42] [97, 98] w (by decide) (by decide))) ?_
  refine S_ 0 rfl rfl rfl _ (y_assign rfl rfl) ?_
  refine S_go (fun _ _ h => h) ?_
  refine T_ret (fun a w hF hM => hRb a w (post1 rfl rfl (fun w hM => ?_) a w hF hM))
  exact ⟨by rw [show gm eqL [97, 42] [97, 98] = true from by first | decide | kernel_rfl], hM.below⟩
def notC (b : Nat) (p : SC) : SC := .mk 3 (some ⟨b, 0, none⟩) 1 1 [p] 0 0 [] []
theorem notC_ok {b : Nat} {p : SC} {w : World} (h : Sl.Ok SC.enc 6 w ⟨some ⟨b, 0, none⟩, 1, 1, [p]⟩) (hp : p.Ok w) : (notC b p).Ok w :=
  .mk h (by decide) (by decide) (by decide) (by decide) (fun k hk => by rw [List.mem_singleton.1 hk]; exact hp)
theorem not_ho (e : Evt) (b : Nat) (p : SC) : hoX e (notC b p) = !hoX e p := ho3 rfl rfl
set_option maxHeartbeats 3200000 in
theorem FindPlain_any (x : SC) (l : Sl Evt) (w : World) (hok : x.Ok w) (hl : EvsF w l) (hm : MLen w) :
    Calls Tryd.prog 3 #[x.val, .slice l.A l.q l.c] w fun e w' => e = .returned (.bool true) ∧ Below w.heap.size w w' := by
  have hlt := hl.ok.t
  have hq := hl.q
  refine enter_args (args := [.agg #[.int .i64 x.op, .slice x.ad x.q x.c, .int .i64 x.lo, .int .i64 x.hi, str x.nm, str x.tx], .slice l.A l.q l.c]) (F := _) Tryd.func3 rfl Tryd.ntmps3 rfl rfl ?_
  intro Rb hRb hRn
  refine T_many0 900 ?_
  refine T_seq ?_
  refine T_region ?_
  refine S_box 2 2 rfl rfl rfl rfl rfl ?_
  intro b2
  refine S_ 4 rfl rfl rfl _ (y_assign rfl rfl) ?_
  refine S_go (fun _ _ h => h) ?_
  refine T_seq ?_
  refine T_seq ?_
  refine T_region ?_
  refine S_ 16 rfl rfl rfl _ (y_call rfl rfl rfl cf4 (fun _ w1 _ => awakeFind_any w1)) ?_
  refine S_ 17 rfl rfl rfl _ (y_not rfl rfl) ?_
  refine S_go (fun _ _ h => h) ?_
  refine T_cond rfl (fun h17 => ?_) (fun h17 => ?_)
  · skip
    cases h17
  · skip
    refine T_skip_go (fun _ _ h => h) ?_
    refine T_seq ?_
    refine T_region ?_
    refine S_ 19 rfl rfl rfl _ (y_loadA 2 rfl rfl rfl Tryd.underlying24 rfl sz24) ?_
    refine S_callM 20 [(900, 900)] (X := PlR) rfl rfl rfl rfl rfl rfl rfl cf5 rfl (fun z => .tuple #[.agg #[.int .i64 z.sc.op, .slice z.sc.ad z.sc.q z.sc.c, .int .i64 z.sc.lo, .int .i64 z.sc.hi, str z.sc.nm, str z.sc.tx], .int .i64 (condNo x)]) (PnOk w [] x) (fun z => [(900, .many z.rs)]) (fun _ => rfl) (fun _ => rfl) (fun K hK w1 hM => FPlain_any hK [] x w1 (fun w2 hb _ => hok.lift hb) hM) ?_
    intro p hp
    refine S_ 18 rfl rfl rfl _ (y_move rfl rfl) ?_
    refine S_ 21 rfl rfl rfl _ (y_extract rfl rfl rfl) ?_
    refine S_ 22 rfl rfl rfl _ (y_extract rfl rfl rfl) ?_
    refine S_alloc 5 5 rfl rfl rfl rfl z24 ?_
    intro b5
    refine S_store 5 rfl rfl rfl rfl rfl rfl sz24 rfl rfl ?_
    refine S_ 6 rfl rfl rfl _ (y_assign rfl rfl) ?_
    refine S_go (fun _ _ h => h) ?_
    refine T_seq ?_
    refine T_seq ?_
    refine T_region ?_
    refine S_ 23 rfl rfl rfl _ (y_move rfl rfl) ?_
    refine S_ 24 rfl rfl rfl _ (y_bin rfl rfl rfl (fun _ => b_neq)) ?_
    refine S_go (fun _ _ h => h) ?_
    refine T_cond rfl (fun h24 => ?_) (fun h24 => ?_)
    · skip
      have h24 : ¬ condNo x = 0 := by simpa using h24
      refine T_seq ?_
      refine T_region ?_
      refine S_ 4 rfl rfl rfl _ (y_assign rfl rfl) ?_
      refine S_go (fun _ _ h => h) ?_
      refine T_ret (fun a w hF hM => hRb a w (post1 rfl rfl (fun w hM => ?_) a w hF hM))
      exact ⟨rfl, hM.below⟩
    · skip
      have h24 : condNo x = 0 := by simpa using h24
      have hpr := plain_right (txt := txtNo) (nm := nameOk) (c := x.says) h24
      have hps : p.sc.says = plainP x.says := hp.says h24
      have hpn : condNo p.sc = 0 := by show condN txtNo nameOk p.sc.says = 0; rw [hps]; exact hpr.1
      have hh : ∀ e, hoX e p.sc = hoX e x := fun e => by show holdsP _ p.sc.says = _; rw [hps]; exact hpr.2.2 _
      refine T_skip_go (fun _ _ h => h) ?_
      refine T_seq ?_
      refine T_region ?_
      refine S_ 26 rfl rfl rfl _ (y_loadA 5 rfl rfl rfl Tryd.underlying24 rfl sz24) ?_
      refine S_callM 27 [(900, 900)] (X := PlR) rfl rfl rfl rfl rfl rfl rfl cf5 rfl (fun z => .tuple #[.agg #[.int .i64 z.sc.op, .slice z.sc.ad z.sc.q z.sc.c, .int .i64 z.sc.lo, .int .i64 z.sc.hi, str z.sc.nm, str z.sc.tx], .int .i64 (condNo p.sc)]) (PnOk w p.rs p.sc) (fun z => [(900, .many z.rs)]) (fun _ => rfl) (fun _ => rfl) (fun K hK w1 hM => FPlain_any hK p.rs p.sc w1 hp.ok hM) ?_
      intro q hq2
      have hqs : q.sc.says = p.sc.says := (hq2.says hpn).trans (by rw [hps]; exact hpr.2.1)
      refine S_ 25 rfl rfl rfl _ (y_move rfl rfl) ?_
      refine S_ 28 rfl rfl rfl _ (y_extract rfl rfl rfl) ?_
      refine S_ 29 rfl rfl rfl _ (y_extract rfl rfl rfl) ?_
      refine S_alloc 7 7 rfl rfl rfl rfl z24 ?_
      intro b7
      refine S_store 7 rfl rfl rfl rfl rfl rfl sz24 rfl rfl ?_
      refine S_ 6 rfl rfl rfl _ (y_assign rfl rfl) ?_
      refine S_go (fun _ _ h => h) ?_
      refine T_seq ?_
      refine T_seq ?_
      refine T_region ?_
      refine S_ 30 rfl rfl rfl _ (y_move rfl rfl) ?_
      refine S_ 31 rfl rfl rfl _ (y_bin rfl rfl rfl (fun _ => b_neq)) ?_
      refine S_ 32 rfl rfl rfl _ (y_move rfl rfl) ?_
      refine Sg_ 33 rfl rfl rfl rfl rfl rfl _ (y_loadA 5 rfl rfl rfl Tryd.underlying24 rfl sz24) ?_
      refine Sg_ 34 rfl rfl rfl rfl rfl rfl _ (y_loadA 7 rfl rfl rfl Tryd.underlying24 rfl sz24) ?_
      refine Sg_ 35 rfl rfl rfl rfl rfl rfl _ (y_call rfl rfl rfl cf6 (fun _ w1 hM => FSame_any p.sc q.sc w1 ((hp.ok.more hq2.more).at hM 900 rfl) (hq2.ok.at hM 900 rfl))) ?_
      refine Sg_ 36 rfl rfl rfl rfl rfl rfl _ (y_not rfl rfl) ?_
      refine S_ 37 rfl rfl rfl _ (y_or rfl rfl rfl) ?_
      refine S_go (fun _ _ h => h) ?_
      refine T_cond rfl (fun h37 => ?_) (fun h37 => ?_)
      · skip
        rw [hqs, sameP_refl, hpn] at h37; simp at h37
      · skip
        refine T_skip_go (fun _ _ h => h) ?_
        refine T_seq ?_
        refine T_seq ?_
        refine T_region ?_
        refine S_ 38 rfl rfl rfl _ (y_move rfl rfl) ?_
        refine S_ 39 rfl rfl rfl _ (y_len_slice rfl rfl Tryd.underlying25) ?_
        refine S_ 40 rfl rfl rfl _ (y_move rfl rfl) ?_
        refine S_go (fun _ _ h => h) ?_
        refine T_block ?_
        refine T_loopK1 (kf := [(4, 4), (9, 15), (40, 83)]) (kl := [(4, 4), (9, 15), (40, 83)]) (fun (i : Nat) => [(40, true, .int .i64 (i : Int))]) (fun (i : Nat) => []) (fun (i : Nat) => i ≤ l.q) (fun (i : Nat) => l.q - i) 0 (by repeat (first | exact kf_nil | (apply kf_in; focus rfl) | (apply kf_out; focus rfl))) (by repeat (first | exact kl_nil | exact kl_rest (by assumption) rfl | (apply kl_in; focus rfl) | (apply kl_out; focus rfl))) ?_ ?_ ?_ ?_
        · omega
        · exact ⟨rfl, trivial⟩
        · exact trivial
        rintro i hp1
        refine T_seq ?_
        refine T_region ?_
        refine S_ 41 rfl rfl rfl _ (y_bin rfl rfl rfl (fun _ => b_lss)) ?_
        refine S_go (fun _ _ h => h) ?_
        refine T_seq ?_
        refine T_cond rfl (fun h41 => ?_) (fun h41 => ?_)
        · try simp only [decide_eq_true_eq, decide_eq_false_iff_not, Bool.or_eq_true, Bool.or_eq_false_iff, Bool.and_eq_true, Bool.and_eq_false_iff, Bool.not_eq_true', Bool.not_eq_false', Bool.not_eq_true, Bool.not_eq_false, Bool.not_true, Bool.not_false, Int.not_lt, Int.not_le, not_or, not_and, Classical.not_not] at h41
          obtain ⟨e, hx1, hx2⟩ := hlt.at (i := i) (by omega)
          have hn1 : hoNo p.sc e = hoNo x e := by unfold hoNo; rw [hpn, h24]
          have hb1 : hoB p.sc e = hoB x e := by unfold hoB; rw [hn1, hh]
          refine T_skip_go (fun _ _ h => h) ?_
          refine T_seq ?_
          refine T_block ?_
          refine T_seq ?_
          refine T_region ?_
          refine S_ 42 rfl rfl rfl _ (y_indexAddr rfl rfl rfl Tryd.underlying25 sz35 (fun hg => hlt.isSome (by omega)) (fun _ => by omega)) ?_
          refine S_ 43 rfl rfl rfl _ (y_loadT rfl rfl hlt (fun _ => rfl) (fun _ => hx1) Tryd.underlying35 rfl sz35) ?_
          refine S_alloc 9 9 rfl rfl rfl rfl z35 ?_
          intro b9
          refine S_store 9 rfl rfl rfl rfl rfl rfl sz35 rfl rfl ?_
          refine S_go (fun _ _ h => h) ?_
          refine T_seq ?_
          refine T_region ?_
          refine S_ 45 rfl rfl rfl _ (y_loadA 2 rfl rfl rfl Tryd.underlying24 rfl sz24) ?_
          refine S_ 46 rfl rfl rfl _ (y_loadA 9 rfl rfl rfl Tryd.underlying35 rfl sz35) ?_
          refine S_ 47 rfl rfl rfl _ (y_call rfl rfl rfl cf7 (fun _ w1 hM => Holds_any x e w1 (hok.lift hM.below) ((hl.n e (mem_at hx1)).below hM.below) (hm.below hM.below))) ?_
          refine S_ 44 rfl rfl rfl _ (y_move rfl rfl) ?_
          refine S_ 48 rfl rfl rfl _ (y_extract rfl rfl rfl) ?_
          refine S_ 49 rfl rfl rfl _ (y_extract rfl rfl rfl) ?_
          refine S_ 10 rfl rfl rfl _ (y_assign rfl rfl) ?_
          refine S_ 11 rfl rfl rfl _ (y_assign rfl rfl) ?_
          refine S_go (fun _ _ h => h) ?_
          refine T_seq ?_
          refine T_region ?_
          refine S_ 51 rfl rfl rfl _ (y_loadA 5 rfl rfl rfl Tryd.underlying24 rfl sz24) ?_
          refine S_ 52 rfl rfl rfl _ (y_loadA 9 rfl rfl rfl Tryd.underlying35 rfl sz35) ?_
          refine S_ 53 rfl rfl rfl _ (y_call rfl rfl rfl cf7 (fun _ w1 hM => Holds_any p.sc e w1 ((hp.ok.more hq2.more).at hM 900 rfl) ((hl.n e (mem_at hx1)).below hM.below) (hm.below hM.below))) ?_
          refine S_ 50 rfl rfl rfl _ (y_move rfl rfl) ?_
          refine S_ 54 rfl rfl rfl _ (y_extract rfl rfl rfl) ?_
          refine S_ 55 rfl rfl rfl _ (y_extract rfl rfl rfl) ?_
          refine S_ 12 rfl rfl rfl _ (y_assign rfl rfl) ?_
          refine S_ 13 rfl rfl rfl _ (y_assign rfl rfl) ?_
          refine S_go (fun _ _ h => h) ?_
          refine T_seq ?_
          refine T_seq ?_
          refine T_region ?_
          refine S_ 56 rfl rfl rfl _ (y_move rfl rfl) ?_
          refine S_ 57 rfl rfl rfl _ (y_move rfl rfl) ?_
          refine S_ 58 rfl rfl rfl _ (y_bin rfl rfl rfl (fun _ => b_neq)) ?_
          refine S_ 59 rfl rfl rfl _ (y_move rfl rfl) ?_
          refine Sg_ 60 rfl rfl rfl rfl rfl rfl _ (y_move rfl rfl) ?_
          refine Sg_ 61 rfl rfl rfl rfl rfl rfl _ (y_move rfl rfl) ?_
          refine Sg_ 62 rfl rfl rfl rfl rfl rfl _ (y_bin rfl rfl rfl (fun _ => b_neqb Tryd.underlying4)) ?_
          refine S_ 63 rfl rfl rfl _ (y_or rfl rfl rfl) ?_
          refine S_go (fun _ _ h => h) ?_
          refine T_cond rfl (fun h63 => ?_) (fun h63 => ?_)
          · skip
            rw [hn1, hb1] at h63; simp at h63
          · skip
            refine T_skip_go (fun _ _ h => h) ?_
            refine T_seq ?_
            refine T_region ?_
            refine S_ 65 rfl rfl rfl _ (y_loadA 5 rfl rfl rfl Tryd.underlying24 rfl sz24) ?_
            refine S_buildSlice 66 66 rfl rfl rfl rfl rfl Tryd.underlying22 inf24 rfl (by decide) (by decide) rfl rfl (by decide) rfl (_) rfl ?_
            intro b66
            refine S_ 67 rfl rfl rfl _ (y_build (zv := .agg #[.int .i64 0, .slice none 0 0, .int .i64 0, .int .i64 0, .string ⟨#[]⟩, .string ⟨#[]⟩]) (pl := [(0, 1), (1, 1), (2, 1), (3, 1), (4, 1), (5, 1)]) (out := [_, _, .int .i64 0, .int .i64 0, .string ⟨#[]⟩, .string ⟨#[]⟩]) rfl rfl Tryd.underlying24 z24 (by kernel_rfl) rfl) ?_
            refine S_ 68 rfl rfl rfl _ (y_loadA 9 rfl rfl rfl Tryd.underlying35 rfl sz35) ?_
            refine S_ 69 rfl rfl rfl _ (y_call rfl rfl rfl cf7 (fun _ w1 hM => Holds_any (notC b66 p.sc) e w1 (notC_ok (owned_ok (enc := SC.enc) (l := [p.sc]) hM rfl (i := 66) rfl) ((hp.ok.more hq2.more).at hM 900 rfl)) ((hl.n e (mem_at hx1)).below hM.below) (hm.below hM.below))) ?_
            refine S_ 64 rfl rfl rfl _ (y_move rfl rfl) ?_
            refine S_ 70 rfl rfl rfl _ (y_extract rfl rfl rfl) ?_
            refine S_ 71 rfl rfl rfl _ (y_extract rfl rfl rfl) ?_
            refine S_ 14 rfl rfl rfl _ (y_assign rfl rfl) ?_
            refine S_ 15 rfl rfl rfl _ (y_assign rfl rfl) ?_
            refine S_go (fun _ _ h => h) ?_
            refine T_seq ?_
            refine T_region ?_
            refine S_ 72 rfl rfl rfl _ (y_move rfl rfl) ?_
            refine S_ 73 rfl rfl rfl _ (y_bin rfl rfl rfl (fun _ => b_eql)) ?_
            refine S_ 74 rfl rfl rfl _ (y_move rfl rfl) ?_
            refine Sg_ 75 rfl rfl rfl rfl rfl rfl _ (y_move rfl rfl) ?_
            refine Sg_ 76 rfl rfl rfl rfl rfl rfl _ (y_bin rfl rfl rfl (fun _ => b_eql)) ?_
            refine S_ 77 rfl rfl rfl _ (y_and rfl rfl rfl) ?_
            refine S_ 78 rfl rfl rfl _ (y_move rfl rfl) ?_
            refine Sg_ 79 rfl rfl rfl rfl rfl rfl _ (y_move rfl rfl) ?_
            refine Sg_ 80 rfl rfl rfl rfl rfl rfl _ (y_move rfl rfl) ?_
            refine Sg_ 81 rfl rfl rfl rfl rfl rfl _ (y_bin rfl rfl rfl (fun _ => b_eqlb Tryd.underlying4)) ?_
            refine S_ 82 rfl rfl rfl _ (y_and rfl rfl rfl) ?_
            refine S_go (fun _ _ h => h) ?_
            refine T_cond rfl (fun h82 => ?_) (fun h82 => ?_)
            · skip
              simp only [Bool.and_eq_true, decide_eq_true_eq] at h82
              obtain ⟨⟨h1, h2⟩, h3⟩ := h82
              rw [hoB, hoB, h1, h2, not_ho, hh] at h3
              cases hc : hoX e x <;> rw [hc] at h3 <;> simp at h3
            · skip
              refine T_skip_go (fun _ _ h => h) ?_
              refine T_region ?_
              refine S_ 83 rfl rfl rfl _ (y_bin rfl rfl rfl (fun hg => b_add (by omega))) ?_
              refine S_ 40 rfl rfl rfl _ (y_move rfl rfl) ?_
              refine S_nil (nextK1 (kf := [(4, 4), (9, 15), (40, 83)]) (kl := [(4, 4), (9, 15), (40, 83)]) (i + 1) (by repeat (first | exact kf_nil | (apply kf_in; focus rfl) | (apply kf_out; focus rfl))) (by repeat (first | exact kl_nil | exact kl_rest (by assumption) rfl | (apply kl_in; focus rfl) | (apply kl_out; focus rfl))) ?_ ?_ ?_ ?_)
              · omega
              · omega
              · exact ⟨rfl, trivial⟩
              · exact trivial
        · try simp only [decide_eq_true_eq, decide_eq_false_iff_not, Bool.or_eq_true, Bool.or_eq_false_iff, Bool.and_eq_true, Bool.and_eq_false_iff, Bool.not_eq_true', Bool.not_eq_false', Bool.not_eq_true, Bool.not_eq_false, Bool.not_true, Bool.not_false, Int.not_lt, Int.not_le, not_or, not_and, Classical.not_not] at h41
          refine T_exit_go (fun _ _ h => h) ?_
          refine T_seq ?_
          refine T_region ?_
          refine S_ 4 rfl rfl rfl _ (y_assign rfl rfl) ?_
          refine S_go (fun _ _ h => h) ?_
          refine T_ret (fun a w hF hM => hRb a w (post1 rfl rfl (fun w hM => ?_) a w hF hM))
          exact ⟨rfl, hM.below⟩
end Go.Proofs.YtfmbgaaonfgenaaDoor
end
section
namespace Go.Proofs.YtfmbgaaonfgenaaDoor
set_option linter.unusedSimpArgs false
set_option linter.unusedVariables false
set_option maxRecDepth 20000
open Go.ChangeShapes Go.WideShapes Go.RowKit
theorem ownNone : ownKnob Tryd.prog.godebug = none := by kernel_rfl
theorem laidOut : laidOutB Tryd.prog = true := by kernel_rfl
def firstCells : Array Value := (Go.Pinned.utf8FirstZ.map fun n : Nat => Value.int .u8 (n : Int)).toArray
def tabCells (k : IntKind) (zs : List Int) : Array Value := (zs.map fun n => Value.int k n).toArray
def rangeZ : List Int := [128, 191, 160, 191, 128, 159, 144, 191, 128, 143, 0, 0, 0, 0, 0, 0, 0, 0, 0, 0, 0, 0, 0, 0, 0, 0, 0, 0, 0, 0, 0, 0]
def layCells (cs : Array Value) : Obj → Obj
  | .cells _ t frozen => .cells cs t frozen
  | o => o
noncomputable def laidWorld (os : Os) (args : Array Value) : World :=
  { World.holding Tryd.prog os ⟨#[], args, []⟩ with heap := ((World.holding Tryd.prog os ⟨#[], args, []⟩).heap.modify 1 (layCells firstCells)).modify 2 (layCells (tabCells .u8 rangeZ)) }
theorem mlen_of {W : World} (h : W.ShapedOpen Tryd.prog) : MLen W := by
  obtain ⟨m, hm⟩ := Tryd.laysM144.s1_3 W h
  refine ⟨m, hm, ?_⟩
  unfold World.cell? at hm
  cases hg : W.heap[0]? with
  | none =>
    have hg' : W.heap[Tryd.laysM144_ren.g 1]? = none := hg
    rw [hg'] at hm; cases hm
  | some o => exact (Array.getElem?_eq_some_iff.1 hg).1
end Go.Proofs.YtfmbgaaonfgenaaDoor
end
