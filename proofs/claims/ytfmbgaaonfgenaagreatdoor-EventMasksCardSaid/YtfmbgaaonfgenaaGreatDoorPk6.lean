/- Part 6, merged by a program. event.Copy, the rows of the frames said one by one: they lie apart. Conditions: those of the theorem. The reference's Star: a table of what fits. Condition: the lengths are bounded. Lower letters: fitting without regard to letters is fitting of the lowered. Plain lists; no program in sight. The reference's lower, and FitsText. Condition: the lengths are bounded. What is made plain is right where the condition was, is plain, is no greater, and holds for the same. Plain trees; no program in sight. Events that are right are small, and what a leaf of a condition asks of an event. No program in sight. Rules that mask find nothing when they are asked again; the same content has the same faults. No program in sight. What is cleared, and groups: the rules' faults, the program's and the reference's. Conditions: those of each theorem. event.Clear with rules that mask. Conditions: those of the theorem. The law EventMasks walked. Conditions: those of the theorem. A world in which the listed tables of Go's hold what their text says, and what a row's condition says of the table of trailing noughts. No condition. -/
import Derived.Test.YtfmbgaaonfgenaaGreatDoorCopy
import Derived.Test.YtfmbgaaonfgenaaGreatDoorMov
import Derived.Test.YtfmbgaaonfgenaaGreatDoorSwp
import Derived.Test.YtfmbgaaonfgenaaGreatDoorByw
import Derived.Test.YtfmbgaaonfgenaaGreatDoorPost
import Derived.Test.YtfmbgaaonfgenaaGreatDoorCards
import Derived.Test.YtfmbgaaonfgenaaGreatDoorTie
import Derived.Deep.DeepHandedRow
import Derived.Lib.LaidTab
import Derived.Stop.LaidErr
import Derived.ProofKit
import Derived.OpenShut
import Derived.Test.YtfmbgaaonfgenaaGreatDoorPk5
section
namespace Go.Proofs.YtfmbgaaonfgenaaGreatDoor
set_option linter.unusedSimpArgs false
set_option linter.unusedVariables false
set_option maxRecDepth 20000
open Go.RowKit Go.Eng
theorem dis_snoc {l : List Flt} {x : Flt} (h : DisF l) (hx : ∀ f ∈ l, ∀ b, blkF f = some b → blkF x ≠ some b) : DisF (l ++ [x]) := by
  unfold DisF
  rw [List.map_append, List.pairwise_append]
  refine ⟨h, List.pairwise_singleton _ _, fun a ha b hb g hg => ?_⟩
  obtain ⟨f, hf, rfl⟩ := List.mem_map.1 ha
  rw [List.map_singleton, List.mem_singleton] at hb
  subst hb
  exact hx f hf g hg
set_option maxHeartbeats 1600000 in
theorem CopyD_any {w0 : World} {K : HL} (hK : FromK K) (e : Evt) (w : World) (he : e.Ok w0) (hn : e.fa.q ≤ 1000 ∧ e.ta.q ≤ 1000 ∧ e.cr.q ≤ 1000 ∧ ∀ f ∈ e.fa.l, f.fr.q ≤ 1000) (hM0 : Mem w0 ([] ++ K) w) :
    Calls Tryz.prog 76 #[e.val] w fun en w' => ∃ z : CopyR, en = .returned (z.evt e).val ∧ (z.gs.map Flt.cont = e.fa.l.map Flt.cont ∧ (∀ f ∈ z.gs, f.fr.q = f.fr.l.length) ∧ z.rs = z.gs.map frRow ∧ DisF z.gs) ∧ Mem w0 (z.L e ++ K) w' := by
  have hfa := he.fa
  have hft := hfa.ok.t
  have hfl := hft.len
  obtain ⟨hn1, hn2, hn3, hn4⟩ := hn
  refine enterM_args (args := [.agg #[str e.id, .int .i64 e.at_, .int .i64 e.lv, .slice e.fa.A e.fa.q e.fa.c, .slice e.ta.A e.ta.q e.ta.c, .slice e.cr.A e.cr.q e.cr.c, str e.rel, str e.us, .int .i64 e.wt]]) (F := _) hM0 Tryz.func76 rfl Tryz.ntmps76 rfl rfl ?_
  intro Rb hRb hRn
  refine T_seq ?_
  refine T_region ?_
  refine S_box 1 1 rfl rfl rfl rfl rfl ?_
  intro b1
  refine S_alloc 2 2 rfl rfl rfl rfl z29 ?_
  intro b2
  refine S_go (fun _ _ h => h) ?_
  refine T_seq ?_
  refine T_region ?_
  refine S_ 6 rfl rfl rfl _ (y_fieldAddr rfl rfl fa29_3) ?_
  refine S_ 7 rfl rfl rfl _ (y_load 1 rfl rfl rfl rfl Tryz.underlying25 rfl) ?_
  refine S_callOwn 8 8 rfl rfl rfl rfl rfl rfl rfl cf82 (fun A c => .slice A (e.fa.q) c) 50 3 (e.fa.q) (e.fa.l.flatMap Flt.enc) (fun w hM => CloneFlt_any e.fa w (hfa.ok.below hM.below) (by omega)) ?_
  intro A8 c8
  refine S_ 9 rfl rfl rfl _ (y_fieldAddr rfl rfl fa29_3) ?_
  refine S_store 1 rfl rfl rfl rfl rfl rfl sz25 rfl rfl ?_
  refine S_go (fun _ _ h => h) ?_
  refine T_seq ?_
  refine T_seq ?_
  refine T_region ?_
  refine S_ 10 rfl rfl rfl _ (y_fieldAddr rfl rfl fa29_3) ?_
  refine S_ 11 rfl rfl rfl _ (y_load 1 rfl rfl rfl rfl Tryz.underlying25 rfl) ?_
  refine S_ 12 rfl rfl rfl _ (y_len_slice rfl rfl Tryz.underlying25) ?_
  refine S_many0 900 ?_
  refine S_ 13 rfl rfl rfl _ (y_move rfl rfl) ?_
  refine S_go (fun _ _ h => h) ?_
  refine T_block ?_
  refine T_loopK3 (kf := [(3, 5), (13, 32)]) (kl := [(3, 5), (8, 8), (13, 32), (900, 900)]) (fun (i : Nat) (gs : List Flt) (rs : List Row) => [(13, true, .int .i64 (i : Int))]) (fun (i : Nat) (gs : List Flt) (rs : List Row) => [(8, .own 50 3 (.slice A8 e.fa.q c8) e.fa.q ((gs ++ e.fa.l.drop i).flatMap Flt.enc)), (900, .many rs)]) (fun (i : Nat) (gs : List Flt) (rs : List Row) => i ≤ e.fa.q ∧ gs.length = i ∧ gs.map Flt.cont = (e.fa.l.take i).map Flt.cont ∧ (∀ f ∈ gs, f.fr.q = f.fr.l.length) ∧ rs = gs.map frRow ∧ DisF gs) (fun (i : Nat) (gs : List Flt) (rs : List Row) => e.fa.q - i) 0 [] [] (by repeat (first | exact kf_nil | (apply kf_in; focus rfl) | (apply kf_out; focus rfl))) (by repeat (first | exact kl_nil | exact kl_rest (by assumption) rfl | (apply kl_in; focus rfl) | (apply kl_out; focus rfl))) ?_ ?_ ?_ ?_
  · exact ⟨by omega, rfl, rfl, fun _ h => by simp at h, rfl, List.Pairwise.nil⟩
  · exact ⟨rfl, trivial⟩
  · exact ⟨rfl, rfl, trivial⟩
  rintro i gs rs ⟨hp1, hp2, hp3, hp4, hp5, hp6⟩
  refine T_seq ?_
  refine T_region ?_
  refine S_ 14 rfl rfl rfl _ (y_bin rfl rfl rfl (fun _ => b_lss)) ?_
  refine S_go (fun _ _ h => h) ?_
  refine T_seq ?_
  refine T_cond rfl (fun h14 => ?_) (fun h14 => ?_)
  · try simp only [decide_eq_true_eq, decide_eq_false_iff_not, Bool.or_eq_true, Bool.or_eq_false_iff, Bool.and_eq_true, Bool.and_eq_false_iff, Bool.not_eq_true', Bool.not_eq_false', Bool.not_eq_true, Bool.not_eq_false, Bool.not_true, Bool.not_false, Int.not_lt, Int.not_le, not_or, not_and, Classical.not_not] at h14
    obtain ⟨x, hx1, hx2⟩ := hft.at (i := i) (by omega)
    have hxf := (hfa.n x (mem_at hx1)).fr
    have hxn := hn4 x (mem_at hx1)
    refine T_skip_go (fun _ _ h => h) ?_
    refine T_seq ?_
    refine T_block ?_
    refine T_seq ?_
    refine T_region ?_
    refine S_ 15 rfl rfl rfl _ (y_move rfl rfl) ?_
    refine S_ 16 rfl rfl rfl _ (y_indexOwn 8 rfl rfl rfl rfl Tryz.underlying25 sz50 (fun _ => by omega)) ?_
    refine S_ 17 rfl rfl rfl _ (y_loadO 8 rfl rfl rfl (by simp; omega) (fun _ => rfl) (fun _ => at_next hp2 hx2) Tryz.underlying50 rfl sz50) ?_
    refine S_alloc 4 4 rfl rfl rfl rfl z50 ?_
    intro b4
    refine S_ 3 rfl rfl rfl _ (y_assign rfl rfl) ?_
    refine S_store 4 rfl rfl rfl rfl rfl rfl sz50 rfl rfl ?_
    refine S_go (fun _ _ h => h) ?_
    refine T_seq ?_
    refine T_region ?_
    refine S_ 18 rfl rfl rfl _ (y_fieldAddr rfl rfl fa50_2) ?_
    refine S_ 19 rfl rfl rfl _ (y_load 4 rfl rfl rfl rfl Tryz.underlying48 rfl) ?_
    refine S_ 20 rfl rfl rfl _ (y_len_slice rfl rfl Tryz.underlying48) ?_
    obtain ⟨i21, hi21, hz21, hs21, hy21⟩ := info_parts inf116
    refine S_makeSlice 21 21 rfl rfl rfl rfl rfl rfl Tryz.underlying48 hi21 hz21 hs21 (by rw [hy21]; omega) (by simp only [maxLen]; omega) rfl ?_
    intro b21
    refine S_ 5 rfl rfl rfl _ (y_assign rfl rfl) ?_
    refine S_go (fun _ _ h => h) ?_
    refine T_seq ?_
    refine T_region ?_
    refine S_ 22 rfl rfl rfl _ (y_move rfl rfl) ?_
    refine S_ 23 rfl rfl rfl _ (y_fieldAddr rfl rfl fa50_2) ?_
    refine S_ 24 rfl rfl rfl _ (y_load 4 rfl rfl rfl rfl Tryz.underlying48 rfl) ?_
    refine S_copy 25 21 rfl rfl rfl rfl rfl rfl rfl Tryz.underlying48 sz116 (fun w hM => (hxf.ok.below hM.below).t.rd) (fun v hv => by obtain ⟨a, _, ha⟩ := List.mem_flatMap.1 hv; simp [Frm.enc] at ha; rcases ha with rfl | rfl | rfl | rfl | rfl | rfl <;> rfl) ?_
    refine S_go (fun _ _ h => h) ?_
    refine T_region ?_
    refine S_ 26 rfl rfl rfl _ (y_fieldAddr rfl rfl fa29_3) ?_
    refine S_ 27 rfl rfl rfl _ (y_load 1 rfl rfl rfl rfl Tryz.underlying25 rfl) ?_
    refine S_ 28 rfl rfl rfl _ (y_move rfl rfl) ?_
    refine S_ 29 rfl rfl rfl _ (y_move rfl rfl) ?_
    refine S_ 30 rfl rfl rfl _ (y_indexOwn 8 rfl rfl rfl rfl Tryz.underlying25 sz50 (fun _ => by omega)) ?_
    refine S_ 31 rfl rfl rfl _ (y_fieldOwn 8 rfl rfl rfl (fun _ => by omega) fa50_2) ?_
    refine S_storeOwn 8 rfl rfl rfl rfl rfl rfl sz48 rfl rfl ?_ (xs' := ((gs ++ [(⟨x.k, x.t, (⟨some ⟨b21, 0, none⟩, x.fr.q, x.fr.q, x.fr.l⟩ : Sl Frm)⟩ : Flt)]) ++ e.fa.l.drop (i + 1)).flatMap Flt.enc) ?_ ?_
    · (rw [flat_lenN (enc := Flt.enc) (size := 3) (fun _ => rfl)]; simp; omega)
    · rw [← set_next hp2 hx2]; exact flat_set (enc := Flt.enc) (size := 3) (off := 2) (fun _ => rfl) (at_next hp2 hx2) (by decide) rfl
    refine S_go (fun _ _ h => h) ?_
    refine T_region ?_
    refine S_ 32 rfl rfl rfl _ (y_bin rfl rfl rfl (fun hg => b_add (by omega))) ?_
    refine S_ 13 rfl rfl rfl _ (y_move rfl rfl) ?_
    refine S_known (fun w hM => hM.apart_row (m := 900) (i := 21) rfl rfl rfl) (fun hap => ?_)
    refine S_bank [(21, 21), (900, 900)] 900 21 rfl rfl rfl rfl (by repeat (first | exact kl_nil | exact kl_rest (by assumption) rfl | (apply kl_in; focus rfl) | (apply kl_out; focus rfl))) ?_
    refine S_nil (nextK3 (kf := [(3, 5), (13, 32)]) (kl := [(3, 5), (8, 8), (13, 32), (900, 900)]) (i + 1) (gs ++ [(⟨x.k, x.t, (⟨some ⟨b21, 0, none⟩, x.fr.q, x.fr.q, x.fr.l⟩ : Sl Frm)⟩ : Flt)]) (rs ++ [⟨116, 6, .slice (some ⟨b21, 0, none⟩) x.fr.q x.fr.q, x.fr.q, x.fr.l.flatMap Frm.enc⟩]) (by repeat (first | exact kf_nil | (apply kf_in; focus rfl) | (apply kf_out; focus rfl))) (by repeat (first | exact kl_nil | exact kl_rest (by assumption) rfl | (apply kl_in; focus rfl) | (apply kl_out; focus rfl))) ?_ ?_ ?_ ?_)
    · omega
    · exact ⟨by omega, by simp [hp2], by rw [List.map_append, hp3, take_at hx1, List.map_append]; rfl, fun f hf => by
        rcases List.mem_append.1 hf with h | h
        · exact hp4 f h
        · simp only [List.mem_singleton] at h
          subst h
          exact hxf.ok.t.len.symm, by rw [hp5, List.map_append]; rfl, dis_snoc hp6 (fun f hf b hb he => hap (frRow f) (by rw [hp5]; exact List.mem_map.2 ⟨f, hf, rfl⟩) b he hb)⟩
    · exact ⟨rfl, trivial⟩
    · exact ⟨rfl, rfl, trivial⟩
  · try simp only [decide_eq_true_eq, decide_eq_false_iff_not, Bool.or_eq_true, Bool.or_eq_false_iff, Bool.and_eq_true, Bool.and_eq_false_iff, Bool.not_eq_true', Bool.not_eq_false', Bool.not_eq_true, Bool.not_eq_false, Bool.not_true, Bool.not_false, Int.not_lt, Int.not_le, not_or, not_and, Classical.not_not] at h14
    refine T_exit_go (fun _ _ h => h) ?_
    refine T_seq ?_
    refine T_region ?_
    refine S_ 33 rfl rfl rfl _ (y_fieldAddr rfl rfl fa29_4) ?_
    refine S_ 34 rfl rfl rfl _ (y_load 1 rfl rfl rfl rfl Tryz.underlying26 rfl) ?_
    refine S_callOwn 35 35 rfl rfl rfl rfl rfl rfl rfl cf83 (fun A c => .slice A (e.ta.q) c) 104 2 (e.ta.q) (e.ta.l.flatMap STag.enc) (fun w hM => CloneTag_any e.ta w (he.ta.ok.below hM.below) (by omega)) ?_
    intro A35 c35
    refine S_ 36 rfl rfl rfl _ (y_fieldAddr rfl rfl fa29_4) ?_
    refine S_store 1 rfl rfl rfl rfl rfl rfl sz26 rfl rfl ?_
    refine S_go (fun _ _ h => h) ?_
    refine T_seq ?_
    refine T_region ?_
    refine S_ 37 rfl rfl rfl _ (y_fieldAddr rfl rfl fa29_5) ?_
    refine S_ 38 rfl rfl rfl _ (y_load 1 rfl rfl rfl rfl Tryz.underlying27 rfl) ?_
    refine S_callOwn 39 39 rfl rfl rfl rfl rfl rfl rfl cf84 (fun A c => .slice A (e.cr.q) c) 107 3 (e.cr.q) (e.cr.l.flatMap SCrumb.enc) (fun w hM => CloneCrumb_any e.cr w (he.cr.ok.below hM.below) (by omega)) ?_
    intro A39 c39
    refine S_ 40 rfl rfl rfl _ (y_fieldAddr rfl rfl fa29_5) ?_
    refine S_store 1 rfl rfl rfl rfl rfl rfl sz27 rfl rfl ?_
    refine S_go (fun _ _ h => h) ?_
    refine T_seq ?_
    refine T_region ?_
    refine S_ 41 rfl rfl rfl _ (y_loadA 1 rfl rfl rfl Tryz.underlying29 rfl sz29) ?_
    refine S_store 2 rfl rfl rfl rfl rfl rfl sz29 rfl rfl ?_
    refine S_go (fun _ _ h => h) ?_
    refine T_ret (fun a w hF hM => hRb a w (post_cell1 2 rfl rfl rfl Tryz.underlying29 rfl (by exact sz29) (fun w hM => ?_) a w hF hM))
    exact ⟨⟨A8, c8, gs, rs, A35, c35, A39, c39⟩, rfl, ⟨by rw [hp3, List.take_of_length_le (by omega)], hp4, hp5, hp6⟩, hM.keep (ks := [(0, 999)]) (by repeat (first | exact kl_rest (by assumption) rfl | (apply kl_in; focus rfl))) _ ⟨by rw [hft.end (by omega : e.fa.q ≤ i), List.append_nil]; rfl, rfl, rfl, rfl, trivial⟩⟩
end Go.Proofs.YtfmbgaaonfgenaaGreatDoor
end
section
namespace Go.Proofs.YtfmbgaaonfgenaaGreatDoor
set_option linter.unusedSimpArgs false
set_option linter.unusedVariables false
set_option maxRecDepth 20000
open Go.RowKit Go.Eng
/-! ### step -/
end Go.Proofs.YtfmbgaaonfgenaaGreatDoor
end
section
namespace Go.Proofs.YtfmbgaaonfgenaaGreatDoor
set_option linter.unusedSimpArgs false
set_option linter.unusedVariables false
set_option maxRecDepth 20000
open Go.RowKit Go.Eng
def lowB (c : UInt8) : UInt8 := UInt8.ofNat (lowN c.toNat)
end Go.Proofs.YtfmbgaaonfgenaaGreatDoor
end
section
namespace Go.Proofs.YtfmbgaaonfgenaaGreatDoor
set_option linter.unusedSimpArgs false
set_option linter.unusedVariables false
set_option maxRecDepth 20000
open Go.RowKit Go.Eng
end Go.Proofs.YtfmbgaaonfgenaaGreatDoor
end
section
namespace Go.Proofs.YtfmbgaaonfgenaaGreatDoor
set_option linter.unusedSimpArgs false
set_option linter.unusedVariables false
set_option maxRecDepth 20000
open Go.RowKit Go.Eng
/-! ### Right -/
section
variable {txt : List UInt8 → Int} {nm : List UInt8 → Bool} {op lo hi : Int} {nk nk' : Nat} {n t : List UInt8}
end
/-! ### Plain -/
inductive NF : PC → Prop where
  | mk {op lo hi : Int} {kids : List PC} {n t : List UInt8} (h1 : ∀ k ∈ kids, NF k) (h2 : ∀ k ∈ kids, joinB op k = false) (h3 : ¬ (op = 3 ∧ (kids.getD 0 pc0).op = 3)) : NF (.mk op kids lo hi n t)
theorem NF.not {c : PC} (h : NF c) : ¬ (c.op = 3 ∧ (c.kids.getD 0 pc0).op = 3) := by
  cases h with
  | mk _ _ h3 => exact h3
end Go.Proofs.YtfmbgaaonfgenaaGreatDoor
end
section
namespace Go.Proofs.YtfmbgaaonfgenaaGreatDoor
set_option linter.unusedSimpArgs false
set_option linter.unusedVariables false
set_option maxRecDepth 20000
open Go.RowKit Go.Eng
theorem fst_0F {a b : Int} (h : fst a b = 0) : a = 0 ∧ b = 0 := by
  unfold fst at h
  split at h
  · exact absurd h ‹_›
  · exact ⟨by omega, h⟩
theorem flts_smallF : ∀ l : List Flt, fltsNo l = 0 → ∀ f ∈ l, fltNo f = 0
  | [], _ => fun f h => by simp at h
  | a :: r, h => fun f hf => by
    rw [fltsNo] at h
    by_cases ha : fltNo a = 0
    · rw [if_neg (by simpa using ha)] at h
      rcases List.mem_cons.1 hf with rfl | h1
      · exact ha
      · exact flts_smallF r h f h1
    · rw [if_pos ha] at h; exact absurd h ha
theorem frms_smallF : ∀ l : List Frm, frmsNo l = 0 → ∀ f ∈ l, frmNo f = 0
  | [], _ => fun f h => by simp at h
  | a :: r, h => fun f hf => by
    rw [frmsNo] at h
    by_cases ha : frmNo a = 0
    · rw [if_neg (by simpa using ha)] at h
      rcases List.mem_cons.1 hf with rfl | h1
      · exact ha
      · exact frms_smallF r h f h1
    · rw [if_pos ha] at h; exact absurd h ha
structure FltS (f : Flt) : Prop where
  k : f.k.length ≤ 2000
  t : f.t.length ≤ 2000
  fr : ∀ x ∈ f.fr.l, x.f.length ≤ 2000 ∧ x.fi.length ≤ 2000
structure EvS (e : Evt) : Prop where
  rel : e.rel.length ≤ 2000
  us : e.us.length ≤ 2000
  ta : ∀ t ∈ e.ta.l, t.v.length ≤ 2000
  fa : ∀ f ∈ e.fa.l, FltS f
theorem frm_small {x : Frm} (h : frmNo x = 0) : x.f.length ≤ 2000 ∧ x.fi.length ≤ 2000 := by
  have hw : wordsNo x.m x.f x.fi = 0 := by
    unfold frmNo at h
    by_cases hw : wordsNo x.m x.f x.fi = 0
    · exact hw
    · rw [if_pos hw] at h; exact absurd h hw
  unfold wordsNo at hw
  split at hw
  · cases hw
  · rename_i hb
    simp only [Bool.or_eq_true, decide_eq_true_eq, not_or] at hb
    omega
theorem flt_small {f : Flt} (h : fltNo f = 0) : FltS f := by
  unfold fltNo at h
  split at h
  · cases h
  rename_i h1
  split at h
  · cases h
  split at h
  · cases h
  by_cases h2 : sayNo f.t = 0
  · rw [if_neg (by simpa using h2)] at h
    refine ⟨by omega, ?_, fun x hx => ?_⟩
    · unfold sayNo at h2
      split at h2
      · cases h2
      · omega
    · unfold framesNo at h
      split at h
      · cases h
      · exact frm_small (frms_smallF _ h x hx)
  · rw [if_pos h2] at h; exact absurd h h2
theorem tags_small : ∀ (l : List STag) (p : Option (List UInt8)), tagsNo p l = 0 → ∀ t ∈ l, t.v.length ≤ 2000
  | [], _, _ => fun t h => by simp at h
  | a :: r, p, h => fun t ht => by
    rw [tagsNo] at h
    split at h
    · cases h
    split at h
    · cases h
    by_cases hv : valNo a.v = 0
    · rw [if_neg (by simpa using hv)] at h
      rcases List.mem_cons.1 ht with rfl | h1
      · unfold valNo at hv
        split at hv
        · cases hv
        · omega
      · exact tags_small r _ h t h1
    · rw [if_pos hv] at h; exact absurd h hv
theorem ev_small {e : Evt} (h : evNo e = 0) : EvS e := by
  unfold evNo at h
  obtain ⟨_, h⟩ := fst_0F h
  obtain ⟨h1, h⟩ := fst_0F h
  obtain ⟨h2, h⟩ := fst_0F h
  obtain ⟨_, h⟩ := fst_0F h
  split at h
  · cases h
  rename_i hr
  obtain ⟨h3, _⟩ := fst_0F h
  refine ⟨?_, ?_, ?_, ?_⟩
  · simp only [Bool.and_eq_true, Bool.not_eq_true', decide_eq_false_iff_not, not_and, Bool.not_eq_false] at hr
    by_cases he : e.rel = []
    · rw [he]; simp
    · have := hr he
      unfold nameOk at this
      simp only [Bool.and_eq_true, decide_eq_true_eq] at this
      omega
  · unfold valNo at h3
    split at h3
    · cases h3
    · omega
  · split at h2
    · cases h2
    · exact tags_small _ _ h2
  · unfold faultsNo at h1
    split at h1
    · cases h1
    split at h1
    · cases h1
    · exact fun f hf => flt_small (flts_smallF _ h1 f hf)
/-- what a leaf asks of an event -/
def lfB (e : Evt) (c : PC) : Bool :=
  if c.op = 4 then inB e.lv c.lo c.hi
  else if c.op = 5 then inB e.at_ c.lo c.hi
  else if c.op = 6 then inB e.wt c.lo c.hi
  else if c.op = 7 ∨ c.op = 8 then (tagV c.name e.ta.l).2 && (decide (c.op = 8) || gm eqL c.text (tagV c.name e.ta.l).1)
  else if c.op = 9 then !decide (e.rel = []) && gm eqL c.text e.rel
  else if c.op = 10 then !decide (e.us = []) && gm eqL c.text e.us
  else if c.op = 11 then e.fa.l.any fun f => gm eqL c.text f.k
  else if c.op = 12 then e.fa.l.any fun f => Lib.contains (f.t.map lowB) (c.text.map lowB)
  else if c.op = 13 then e.fa.l.any fun f => f.fr.l.any fun x => gm eqL c.text x.f
  else e.fa.l.any fun f => f.fr.l.any fun x => gm eqL c.text x.fi
abbrev hoX (e : Evt) (x : SC) : Bool := holdsP (lfB e) x.says
theorem ho1 {e : Evt} {x : SC} (h : x.op = 1) : hoX e x = x.kids.all (hoX e) := by
  show holdsP _ x.says = _
  rw [SC.says_form, holdsP, if_pos h, holdsA_all, List.all_map]; rfl
theorem ho2 {e : Evt} {x : SC} (h : x.op = 2) : hoX e x = x.kids.any (hoX e) := by
  show holdsP _ x.says = _
  rw [SC.says_form, holdsP, if_neg (by omega), if_pos h, holdsO_any, List.any_map]; rfl
section
variable {e : Evt} {x : SC}
end
end Go.Proofs.YtfmbgaaonfgenaaGreatDoor
end
section
namespace Go.Proofs.YtfmbgaaonfgenaaGreatDoor
set_option linter.unusedSimpArgs false
set_option linter.unusedVariables false
set_option maxRecDepth 20000
open Go.RowKit Go.Eng
/-! ### one string -/
def RulOk (r : SRl) : Prop := MskR r ∧ (r.fd = 2 ∨ r.fd = 4 → 1 ≤ r.ls)
theorem digM_42 : digM 42 = false := by decide
theorem hexM_42 : hexM 42 = false := by decide
theorem malM_42 : malM 42 = false := by decide
theorem malM_64 : malM 64 = false := by decide
theorem putM_nil (s : List UInt8) : putM s 0 [] = s := by rw [putM, List.drop_zero]
theorem mk_nil {r : SRl} {s : List UInt8} (h : fndR r s = []) : mk r s = s := by rw [mk, h, putM_nil]
theorem fnd_gone {r : SRl} (hr : RulOk r) (s : List UInt8) : fndR r (mk r s) = [] := by
  obtain ⟨⟨hf, _⟩, hls⟩ := hr
  unfold mk fndR
  by_cases h2 : r.fd = 2
  · obtain ⟨k, hk⟩ : ∃ k : Nat, r.ls = k := ⟨r.ls.toNat, by have := hls (.inl h2); omega⟩
    have := hls (.inl h2)
    rw [if_pos h2, if_pos h2, hk]
    exact rowsK_none (rowsK_gone digM_42 (by omega))
  · rw [if_neg h2, if_neg h2]
    by_cases h4 : r.fd = 4
    · obtain ⟨k, hk⟩ : ∃ k : Nat, r.ls = k := ⟨r.ls.toNat, by have := hls (.inr h4); omega⟩
      have := hls (.inr h4)
      rw [if_pos h4, if_pos h4, hk]
      exact rowsK_none (rowsK_gone hexM_42 (by omega))
    · rw [if_neg h4, if_neg h4]
      exact mailsF_none (mailsF_gone malM_42 malM_64)
theorem fnd_msk {r : SRl} (hr : RulOk r) {s t : List UInt8} (hm : Msk s t) (h : fndR r s = []) : fndR r t = [] := by
  obtain ⟨⟨hf, _⟩, hls⟩ := hr
  unfold fndR at h ⊢
  by_cases h2 : r.fd = 2
  · obtain ⟨k, hk⟩ : ∃ k : Nat, r.ls = k := ⟨r.ls.toNat, by have := hls (.inl h2); omega⟩
    have := hls (.inl h2)
    rw [if_pos h2, hk] at h ⊢
    have hg := rowsK_gone (is := digM) (s := s) (k := k) digM_42 (by omega)
    rw [h, putM_nil] at hg
    exact rowsK_none fun hR => hg (hR.msk digM_42 hm)
  · rw [if_neg h2] at h ⊢
    by_cases h4 : r.fd = 4
    · obtain ⟨k, hk⟩ : ∃ k : Nat, r.ls = k := ⟨r.ls.toNat, by have := hls (.inr h4); omega⟩
      have := hls (.inr h4)
      rw [if_pos h4, hk] at h ⊢
      have hg := rowsK_gone (is := hexM) (s := s) (k := k) hexM_42 (by omega)
      rw [h, putM_nil] at hg
      exact rowsK_none fun hR => hg (hR.msk hexM_42 hm)
    · rw [if_neg h4] at h ⊢
      have hg := mailsF_gone (is := malM) (s := s) malM_42 malM_64
      rw [h, putM_nil] at hg
      exact mailsF_none fun hR => hg (hR.msk malM_42 hm)
theorem mk_msk (r : SRl) (s : List UInt8) : Msk s (mk r s) := putM_msk (fndR_ok r s)
theorem fnd_mk {r r2 : SRl} (hr : RulOk r) {s : List UInt8} (h : fndR r s = []) : fndR r (mk r2 s) = [] := fnd_msk hr (mk_msk r2 s) h
/-! ### sums that are nought -/
theorem sm_each {α : Type} {k : α → Nat} : ∀ {l : List α}, sm k l = 0 → ∀ x ∈ l, k x = 0
  | [], _, x, hx => by cases hx
  | a :: r, h, x, hx => by
    have e : sm k (a :: r) = k a + sm k r := by simp [sm]
    rw [e] at h
    rcases List.mem_cons.1 hx with rfl | hx
    · omega
    · exact sm_each (by omega) x hx
theorem map_same {α : Type} {f : α → α} : ∀ {l : List α}, (∀ x ∈ l, f x = x) → l.map f = l
  | [], _ => rfl
  | a :: r, h => by rw [List.map_cons, h a (List.mem_cons_self ..), map_same fun x hx => h x (List.mem_cons_of_mem _ hx)]
theorem len0 {α : Type} {l : List α} (h : l.length = 0) : l = [] := List.eq_nil_of_length_eq_zero h
/-! ### elements -/
section
variable {r r2 : SRl}
theorem cnT_0 {t : STag} (h : cnT r t = 0) : gm eqI r.nm t.n = true → fndR r t.v = [] := fun hg => by rw [cnT, if_pos hg] at h; exact len0 h
theorem cnC_0 {t : SCrumb} (h : cnC r t = 0) : gm eqI r.nm t.k = true → fndR r t.t = [] := fun hg => by rw [cnC, if_pos hg] at h; exact len0 h
theorem cnT_of {t : STag} (h : gm eqI r.nm t.n = true → fndR r t.v = []) : cnT r t = 0 := by
  unfold cnT; split
  · rename_i hg; rw [h hg]; rfl
  · rfl
theorem cnC_of {t : SCrumb} (h : gm eqI r.nm t.k = true → fndR r t.t = []) : cnC r t = 0 := by
  unfold cnC; split
  · rename_i hg; rw [h hg]; rfl
  · rfl
theorem clT_n {t : STag} : (clT r t).n = t.n := by unfold clT; split <;> rfl
theorem clC_k {t : SCrumb} : (clC r t).k = t.k := by unfold clC; split <;> rfl
theorem clT_v {t : STag} : (clT r t).v = t.v ∨ (clT r t).v = mk r t.v := by unfold clT; split; exact .inr rfl; exact .inl rfl
theorem clC_t {t : SCrumb} : (clC r t).t = t.t ∨ (clC r t).t = mk r t.t := by unfold clC; split; exact .inr rfl; exact .inl rfl
theorem clT_same {t : STag} (h : cnT r t = 0) : clT r t = t := by
  unfold clT; split
  · rename_i hg; rw [mk_nil (cnT_0 h hg)]
  · rfl
theorem clC_same {t : SCrumb} (h : cnC r t = 0) : clC r t = t := by
  unfold clC; split
  · rename_i hg; rw [mk_nil (cnC_0 h hg)]
  · rfl
theorem clM_same {x : Frm} (h : cnM r x = 0) : clM r x = x := by
  unfold clM; rw [mk_nil (len0 h)]
theorem cnT_gone (hr : RulOk r) (t : STag) : cnT r (clT r t) = 0 := cnT_of fun hg => by
  rw [clT_n] at hg
  rw [clT, if_pos hg]; exact fnd_gone hr t.v
theorem cnC_gone (hr : RulOk r) (t : SCrumb) : cnC r (clC r t) = 0 := cnC_of fun hg => by
  rw [clC_k] at hg
  rw [clC, if_pos hg]; exact fnd_gone hr t.t
theorem cnM_gone (hr : RulOk r) (x : Frm) : cnM r (clM r x) = 0 := by unfold cnM clM; rw [fnd_gone hr]; rfl
theorem cnT_mono (hr : RulOk r) {t : STag} (h : cnT r t = 0) : cnT r (clT r2 t) = 0 := cnT_of fun hg => by
  rw [clT_n] at hg
  have h0 := cnT_0 h hg
  rcases clT_v (r := r2) (t := t) with e | e
  · rw [e]; exact h0
  · rw [e]; exact fnd_mk hr h0
theorem cnC_mono (hr : RulOk r) {t : SCrumb} (h : cnC r t = 0) : cnC r (clC r2 t) = 0 := cnC_of fun hg => by
  rw [clC_k] at hg
  have h0 := cnC_0 h hg
  rcases clC_t (r := r2) (t := t) with e | e
  · rw [e]; exact h0
  · rw [e]; exact fnd_mk hr h0
theorem cnM_mono (hr : RulOk r) {x : Frm} (h : cnM r x = 0) : cnM r (clM r2 x) = 0 := by
  unfold cnM clM
  rw [fnd_mk hr (len0 h)]; rfl
theorem cnF_parts {f : Flt} : cnF r f = 0 ↔ (r.wh = 1 → fndR r f.t = []) ∧ (r.wh = 5 → ∀ x ∈ f.fr.l, cnM r x = 0) := by
  unfold cnF cnX
  constructor
  · intro h
    refine ⟨fun h1 => ?_, fun h5 => ?_⟩
    · rw [if_pos h1] at h; exact len0 (by omega)
    · rw [if_pos h5] at h; exact sm_each (by omega)
  · rintro ⟨h1, h2⟩
    have e1 : (if r.wh = 1 then (fndR r f.t).length else 0) = 0 := by
      split
      · rename_i h; rw [h1 h]; rfl
      · rfl
    have e2 : (if r.wh = 5 then sm (cnM r) f.fr.l else 0) = 0 := by
      split
      · rename_i h; exact sm_zero (h2 h)
      · rfl
    rw [e1, e2]
theorem clF_same {f : Flt} (h : cnF r f = 0) : clF r f = f := by
  obtain ⟨h1, h2⟩ := cnF_parts.1 h
  have e1 : (if r.wh = 1 then mk r f.t else f.t) = f.t := by
    split
    · rename_i h; exact mk_nil (h1 h)
    · rfl
  have e2 : (if r.wh = 5 then f.fr.l.map (clM r) else f.fr.l) = f.fr.l := by
    split
    · rename_i h; exact map_same fun x hx => clM_same (h2 h x hx)
    · rfl
  unfold clF
  rw [e1, e2]
theorem cnF_gone (hr : RulOk r) (f : Flt) : cnF r (clF r f) = 0 := cnF_parts.2 ⟨fun h => by
    show fndR r (if r.wh = 1 then mk r f.t else f.t) = []
    rw [if_pos h]; exact fnd_gone hr f.t, fun h => by
    show ∀ x ∈ (if r.wh = 5 then f.fr.l.map (clM r) else f.fr.l), _
    rw [if_pos h]
    intro x hx
    obtain ⟨y, _, rfl⟩ := List.mem_map.1 hx
    exact cnM_gone hr y⟩
theorem cnF_mono (hr : RulOk r) {f : Flt} (h : cnF r f = 0) : cnF r (clF r2 f) = 0 := by
  obtain ⟨h1, h2⟩ := cnF_parts.1 h
  refine cnF_parts.2 ⟨fun h => ?_, fun h => ?_⟩
  · show fndR r (if r2.wh = 1 then mk r2 f.t else f.t) = []
    split
    · exact fnd_mk hr (h1 h)
    · exact h1 h
  · show ∀ x ∈ (if r2.wh = 5 then f.fr.l.map (clM r2) else f.fr.l), _
    split
    · intro x hx
      obtain ⟨y, hy, rfl⟩ := List.mem_map.1 hx
      exact cnM_mono hr (h2 h y hy)
    · exact h2 h
/-! ### events -/
theorem cnE_parts {e : Evt} : cnE r e = 0 ↔ (r.wh = 2 → ∀ t ∈ e.ta.l, cnT r t = 0) ∧ (r.wh = 3 → ∀ t ∈ e.cr.l, cnC r t = 0) ∧ (r.wh = 4 → fndR r e.us = []) ∧ ∀ f ∈ e.fa.l, cnF r f = 0 := by
  unfold cnE m0R
  constructor
  · intro h
    refine ⟨fun h2 => ?_, fun h3 => ?_, fun h4 => ?_, sm_each (by omega)⟩
    · rw [if_pos h2] at h; exact sm_each (by omega)
    · rw [if_neg (by omega), if_pos h3] at h; exact sm_each (by omega)
    · rw [if_neg (by omega), if_neg (by omega), if_pos h4] at h; exact len0 (by omega)
  · rintro ⟨h2, h3, h4, h5⟩
    rw [sm_zero h5]
    split
    · rename_i h; rw [sm_zero (h2 h)]
    · split
      · rename_i h; rw [sm_zero (h3 h)]
      · split
        · rename_i h; rw [h4 h]; rfl
        · rfl
theorem clE_same {e : Evt} (h : cnE r e = 0) : clE r e = e := by
  obtain ⟨h2, h3, h4, h5⟩ := cnE_parts.1 h
  have e1 : taR r e = e.ta.l := by
    unfold taR; split
    · rename_i h; exact map_same fun t ht => clT_same (h2 h t ht)
    · rfl
  have e2 : crR r e = e.cr.l := by
    unfold crR; split
    · rename_i h; exact map_same fun t ht => clC_same (h3 h t ht)
    · rfl
  have e3 : usR r e = e.us := by
    unfold usR; split
    · rename_i h; exact mk_nil (h4 h)
    · rfl
  have e4 : e.fa.l.map (clF r) = e.fa.l := map_same fun f hf => clF_same (h5 f hf)
  unfold clE
  rw [e1, e2, e3, e4]
theorem cnE_gone (hr : RulOk r) (e : Evt) : cnE r (clE r e) = 0 := cnE_parts.2 ⟨fun h => by
    show ∀ t ∈ taR r e, _
    rw [taR, if_pos h]
    intro x hx
    obtain ⟨y, _, rfl⟩ := List.mem_map.1 hx
    exact cnT_gone hr y, fun h => by
    show ∀ t ∈ crR r e, _
    rw [crR, if_pos h]
    intro x hx
    obtain ⟨y, _, rfl⟩ := List.mem_map.1 hx
    exact cnC_gone hr y, fun h => by
    show fndR r (usR r e) = []
    rw [usR, if_pos h]; exact fnd_gone hr e.us, fun f hf => by
    obtain ⟨y, _, rfl⟩ := List.mem_map.1 (show f ∈ e.fa.l.map (clF r) from hf)
    exact cnF_gone hr y⟩
theorem cnE_mono (hr : RulOk r) {e : Evt} (h : cnE r e = 0) : cnE r (clE r2 e) = 0 := by
  obtain ⟨h2, h3, h4, h5⟩ := cnE_parts.1 h
  refine cnE_parts.2 ⟨fun h => ?_, fun h => ?_, fun h => ?_, fun f hf => ?_⟩
  · show ∀ t ∈ taR r2 e, _
    unfold taR; split
    · intro x hx
      obtain ⟨y, hy, rfl⟩ := List.mem_map.1 hx
      exact cnT_mono hr (h2 h y hy)
    · exact h2 h
  · show ∀ t ∈ crR r2 e, _
    unfold crR; split
    · intro x hx
      obtain ⟨y, hy, rfl⟩ := List.mem_map.1 hx
      exact cnC_mono hr (h3 h y hy)
    · exact h3 h
  · show fndR r (usR r2 e) = []
    unfold usR; split
    · exact fnd_mk hr (h4 h)
    · exact h4 h
  · obtain ⟨y, hy, rfl⟩ := List.mem_map.1 (show f ∈ e.fa.l.map (clF r2) from hf)
    exact cnF_mono hr (h5 y hy)
end
/-! ### all rules -/
def clA : List SRl → Evt → Evt
  | [], e => e
  | r :: l, e => clA l (clE r e)
def hitsN : List SRl → Evt → Nat
  | [], _ => 0
  | r :: l, e => (if 0 < cnE r e then 1 else 0) + hitsN l (clE r e)
theorem clA_mono {r : SRl} (hr : RulOk r) : ∀ (l : List SRl) {e : Evt}, cnE r e = 0 → cnE r (clA l e) = 0
  | [], _, h => h
  | _ :: l, _, h => clA_mono hr l (cnE_mono hr h)
theorem clA_quiet : ∀ (l : List SRl) (e : Evt), (∀ r ∈ l, RulOk r) → ∀ r ∈ l, cnE r (clA l e) = 0
  | [], _, _, r, hr => by cases hr
  | a :: l, e, h, r, hr => by
    rcases List.mem_cons.1 hr with rfl | hr
    · exact clA_mono (h r (List.mem_cons_self ..)) l (cnE_gone (h r (List.mem_cons_self ..)) e)
    · exact clA_quiet l (clE a e) (fun x hx => h x (List.mem_cons_of_mem _ hx)) r hr
theorem quiet_again : ∀ (l : List SRl) (e : Evt), (∀ r ∈ l, cnE r e = 0) → clA l e = e ∧ hitsN l e = 0
  | [], _, _ => ⟨rfl, rfl⟩
  | a :: l, e, h => by
    have h1 := h a (List.mem_cons_self ..)
    have h2 := quiet_again l e fun r hr => h r (List.mem_cons_of_mem _ hr)
    rw [clA, hitsN, clE_same h1, h1]
    exact ⟨h2.1, by rw [h2.2]; rfl⟩
theorem clA_take {l : List SRl} {i : Nat} {x : SRl} {e : Evt} (hx : l[i]? = some x) : clA (l.take (i + 1)) e = clE x (clA (l.take i) e) := by
  have : ∀ (a b : List SRl) (e : Evt), clA (a ++ b) e = clA b (clA a e) := by
    intro a
    induction a with
    | nil => intro b e; rfl
    | cons y a ih => intro b e; exact ih b _
  rw [List.take_add_one, hx, this]; rfl
theorem hits_take {l : List SRl} {i : Nat} {x : SRl} {e : Evt} (hx : l[i]? = some x) : hitsN (l.take (i + 1)) e = hitsN (l.take i) e + if 0 < cnE x (clA (l.take i) e) then 1 else 0 := by
  have : ∀ (a b : List SRl) (e : Evt), hitsN (a ++ b) e = hitsN a e + hitsN b (clA a e) := by
    intro a
    induction a with
    | nil => intro b e; rw [List.nil_append, hitsN, Nat.zero_add]; rfl
    | cons y a ih => intro b e; rw [List.cons_append, hitsN, hitsN, ih, Nat.add_assoc]; rfl
  rw [List.take_add_one, hx, this]; rfl
theorem LenE.clA {e : Evt} : ∀ (l : List SRl), LenE e → LenE (clA l e)
  | [], h => h
  | r :: l, h => LenE.clA l (LenE.cl (r := r) h)
theorem DisF.clA : ∀ (l : List SRl) {e : Evt}, DisF e.fa.l → DisF (clA l e).fa.l
  | [], _, h => h
  | r :: l, e, h => DisF.clA l (e := clE r e) (DisF.map h)
/-! ### the same content -/
structure ContE (a b : Evt) : Prop where
  id : a.id = b.id
  at_ : a.at_ = b.at_
  lv : a.lv = b.lv
  rel : a.rel = b.rel
  us : a.us = b.us
  wt : a.wt = b.wt
  fa : a.fa.l.map Flt.cont = b.fa.l.map Flt.cont
  fq : a.fa.q = b.fa.q
  ta : a.ta.l = b.ta.l
  tq : a.ta.q = b.ta.q
  cr : a.cr.l = b.cr.l
  cq : a.cr.q = b.cr.q
theorem cont_sameM {a b : Evt} (h : ContE a b) : sameE a b = true := by
  have hf : ∀ {x y : List Flt}, x.map Flt.cont = y.map Flt.cont → eqLB Flt.eqB x y = true := by
    intro x
    induction x with
    | nil => intro y h; cases y with
      | nil => rfl
      | cons _ _ => simp at h
    | cons u x ih => intro y h; cases y with
      | nil => simp at h
      | cons v y =>
        simp only [List.map_cons, List.cons.injEq] at h
        obtain ⟨h1, h2⟩ := h
        simp only [Flt.cont, Prod.mk.injEq] at h1
        obtain ⟨hk, ht, hl⟩ := h1
        rw [eqLB, ih h2, Bool.and_true, Flt.eqB, hk, ht, hl]
        simp [eqL_refl (fun a => (Frm.eqB_iff a a).2 rfl)]
  rw [sameE, h.id, h.at_, h.lv, hf h.fa, h.ta, h.cr, h.rel, h.us, h.wt]
  simp [eqL_refl (fun a => (STag.eqB_iff a a).2 rfl), eqL_refl (fun a => (SCrumb.eqB_iff a a).2 rfl)]
def FitE (e : Evt) : Prop := ∀ f ∈ e.fa.l, f.fr.q = f.fr.l.length
theorem flts_contM : ∀ {x y : List Flt}, x.map Flt.cont = y.map Flt.cont → (∀ f ∈ x, f.fr.q = f.fr.l.length) → (∀ f ∈ y, f.fr.q = f.fr.l.length) → fltsNo x = fltsNo y
  | [], [], _, _, _ => rfl
  | [], _ :: _, h, _, _ => by simp at h
  | _ :: _, [], h, _, _ => by simp at h
  | u :: x, v :: y, h, hx, hy => by
    simp only [List.map_cons, List.cons.injEq] at h
    obtain ⟨h1, h2⟩ := h
    simp only [Flt.cont, Prod.mk.injEq] at h1
    obtain ⟨hk, ht, hl⟩ := h1
    have hq : u.fr.q = v.fr.q := by rw [hx u (List.mem_cons_self ..), hy v (List.mem_cons_self ..), hl]
    have e : fltNo u = fltNo v := by rw [fltNo, fltNo, hk, ht, framesNo, framesNo, hl, hq]
    rw [fltsNo, fltsNo, e, flts_contM h2 (fun f hf => hx f (List.mem_cons_of_mem _ hf)) (fun f hf => hy f (List.mem_cons_of_mem _ hf))]
theorem evNo_same {a b : Evt} (h : ContE a b) (ha : FitE a) (hb : FitE b) : evNo a = evNo b := by
  rw [evNo, evNo, h.id, h.at_, h.lv, faultsNo, faultsNo, h.fq, flts_contM h.fa ha hb, h.ta, h.tq, h.cr, h.cq, h.rel, h.us, h.wt]
/-! ### what a right event's lengths are -/
theorem crumbs_smallM : ∀ (l : List SCrumb) (p : Option Int), crumbsNo p l = 0 → ∀ t ∈ l, t.t.length ≤ 2000
  | [], _, _ => fun t h => by simp at h
  | a :: r, p, h => fun t ht => by
    rw [crumbsNo] at h
    split at h
    · cases h
    split at h
    · cases h
    split at h
    · cases h
    by_cases hv : sayNo a.t = 0
    · rw [if_neg (by simpa using hv)] at h
      rcases List.mem_cons.1 ht with rfl | h1
      · unfold sayNo at hv
        split at hv
        · cases hv
        · omega
      · exact crumbs_smallM r _ h t h1
    · rw [if_pos hv] at h; exact absurd h hv
theorem flt_qM {f : Flt} (h : fltNo f = 0) : f.fr.q ≤ 200 := by
  unfold fltNo at h
  split at h
  · cases h
  split at h
  · cases h
  split at h
  · cases h
  by_cases h2 : sayNo f.t = 0
  · rw [if_neg (by simpa using h2)] at h
    unfold framesNo at h
    split at h
    · cases h
    · omega
  · rw [if_pos h2] at h; exact absurd h h2
/-- the parts that stay whatever a rule does -/
structure OkE (e : Evt) : Prop where
  fa : ∀ f ∈ e.fa.l, f.k.length ≤ 4611686018427387904 ∧ f.t.length ≤ 4611686018427387904 ∧ f.fr.l.length = f.fr.q ∧ f.fr.q ≤ 4611686018427387904 ∧ ∀ x ∈ f.fr.l, x.m.length ≤ 4611686018427387904 ∧ x.f.length ≤ 4611686018427387904 ∧ x.fi.length ≤ 4611686018427387904
  fq : e.fa.l.length = e.fa.q ∧ e.fa.q ≤ 4611686018427387904
  ta : ∀ t ∈ e.ta.l, t.n.length ≤ 4611686018427387904 ∧ t.v.length ≤ 4611686018427387904
  tq : e.ta.l.length = e.ta.q ∧ e.ta.q ≤ 4611686018427387904
  cr : ∀ t ∈ e.cr.l, t.k.length ≤ 4611686018427387904 ∧ t.t.length ≤ 4611686018427387904
  cq : e.cr.l.length = e.cr.q ∧ e.cr.q ≤ 4611686018427387904
  id : e.id.length ≤ 4611686018427387904
  rel : e.rel.length ≤ 4611686018427387904
  us : e.us.length ≤ 4611686018427387904
theorem OkE.cl {r : SRl} {e : Evt} (h : OkE e) : OkE (clE r e) := by
  refine ⟨map_mem h.fa fun f hf => ⟨hf.1, ?_, ?_, hf.2.2.2.1, ?_⟩, ⟨by show (e.fa.l.map _).length = _; rw [List.length_map]; exact h.fq.1, h.fq.2⟩, ?_, ⟨?_, h.tq.2⟩, ?_, ⟨?_, h.cq.2⟩, h.id, h.rel, ?_⟩
  · show (if r.wh = 1 then Go.Proofs.YtfmbgaaonfgenaaGreatDoor.mk r f.t else f.t).length ≤ _
    split
    · rw [mk_len]; exact hf.2.1
    · exact hf.2.1
  · show (if r.wh = 5 then f.fr.l.map (clM r) else f.fr.l).length = _
    split
    · rw [List.length_map]; exact hf.2.2.1
    · exact hf.2.2.1
  · show ∀ x ∈ (if r.wh = 5 then f.fr.l.map (clM r) else f.fr.l), _
    split
    · exact map_mem (p := fun x : Frm => x.m.length ≤ 4611686018427387904 ∧ x.f.length ≤ 4611686018427387904 ∧ x.fi.length ≤ 4611686018427387904) hf.2.2.2.2 fun x hx => ⟨hx.1, hx.2.1, by show (Go.Proofs.YtfmbgaaonfgenaaGreatDoor.mk r x.fi).length ≤ _; rw [mk_len]; exact hx.2.2⟩
    · exact hf.2.2.2.2
  · show ∀ t ∈ taR r e, _
    unfold taR; split
    · exact map_mem (p := fun t : STag => t.n.length ≤ 4611686018427387904 ∧ t.v.length ≤ 4611686018427387904) h.ta fun t ht => ⟨by rw [clT_n]; exact ht.1, by rcases clT_v (r := r) (t := t) with e | e <;> rw [e]; exact ht.2; rw [mk_len]; exact ht.2⟩
    · exact h.ta
  · show (taR r e).length = _
    unfold taR; split
    · rw [List.length_map]; exact h.tq.1
    · exact h.tq.1
  · show ∀ t ∈ crR r e, _
    unfold crR; split
    · exact map_mem (p := fun t : SCrumb => t.k.length ≤ 4611686018427387904 ∧ t.t.length ≤ 4611686018427387904) h.cr fun t ht => ⟨by rw [clC_k]; exact ht.1, by rcases clC_t (r := r) (t := t) with e | e <;> rw [e]; exact ht.2; rw [mk_len]; exact ht.2⟩
    · exact h.cr
  · show (crR r e).length = _
    unfold crR; split
    · rw [List.length_map]; exact h.cq.1
    · exact h.cq.1
  · show (usR r e).length ≤ _
    unfold usR; split
    · rw [mk_len]; exact h.us
    · exact h.us
theorem OkE.clA {e : Evt} : ∀ (l : List SRl), OkE e → OkE (clA l e)
  | [], h => h
  | r :: l, h => OkE.clA l (OkE.cl (r := r) h)
theorem OkE.fit {e : Evt} (h : OkE e) : FitE e := fun f hf => (h.fa f hf).2.2.1.symm
theorem OkE.of {w : World} {e : Evt} (h : e.Ok w) : OkE e :=
  ⟨fun f hf => ⟨(h.fa.n f hf).k, (h.fa.n f hf).t, (h.fa.n f hf).fr.ok.t.len, (h.fa.n f hf).fr.q, (h.fa.n f hf).fr.n⟩, ⟨h.fa.ok.t.len, h.fa.q⟩, h.ta.n, ⟨h.ta.ok.t.len, h.ta.q⟩, h.cr.n, ⟨h.cr.ok.t.len, h.cr.q⟩, h.id, h.rel, h.us⟩
/-- .. in memory -/
theorem evOk_of {w : World} {B : Nat} {e : Evt} (hp : OkE e) (h1 : w.ownsRow B 50 3 (.slice e.fa.A e.fa.q e.fa.c) e.fa.q (e.fa.l.flatMap Flt.enc)) (h2 : ∀ r ∈ e.fa.l.map frRow, w.ownsRow B r.t r.size r.v r.n r.xs)
    (h3 : w.ownsRow B 104 2 (.slice e.ta.A e.ta.q e.ta.c) e.ta.q (e.ta.l.flatMap STag.enc)) (h4 : w.ownsRow B 107 3 (.slice e.cr.A e.cr.q e.cr.c) e.cr.q (e.cr.l.flatMap SCrumb.enc)) : e.Ok w :=
  ⟨⟨row_ok h1 hp.fq.1, hp.fq.2, fun f hf => ⟨(hp.fa f hf).1, (hp.fa f hf).2.1, row_ok (h2 (frRow f) (List.mem_map.2 ⟨f, hf, rfl⟩)) (hp.fa f hf).2.2.1, (hp.fa f hf).2.2.2.1, (hp.fa f hf).2.2.2.2⟩⟩,
   ⟨row_ok h3 hp.tq.1, hp.tq.2, hp.ta⟩, ⟨row_ok h4 hp.cq.1, hp.cq.2, hp.cr⟩, hp.id, hp.rel, hp.us⟩
theorem LenE.of {e : Evt} (h : evNo e = 0) (ho : OkE e) : LenE e := by
  have hs := ev_small h
  have h' := h
  unfold evNo at h'
  obtain ⟨_, h'⟩ := fst_0F h'
  obtain ⟨h1, h'⟩ := fst_0F h'
  obtain ⟨h2, h'⟩ := fst_0F h'
  obtain ⟨h3, _⟩ := fst_0F h'
  have hfq : e.fa.q ≤ 10 ∧ ∀ f ∈ e.fa.l, fltNo f = 0 := by
    unfold faultsNo at h1
    split at h1
    · cases h1
    split at h1
    · cases h1
    · exact ⟨by omega, flts_smallF _ h1⟩
  have htq : e.ta.q ≤ 40 := by
    split at h2
    · cases h2
    · omega
  have hcq : e.cr.q ≤ 50 ∧ ∀ t ∈ e.cr.l, t.t.length ≤ 2000 := by
    split at h3
    · cases h3
    · exact ⟨by omega, crumbs_smallM _ _ h3⟩
  exact ⟨Nat.le_trans hs.us (by decide), fun t ht => ⟨(ho.ta t ht).1, Nat.le_trans (hs.ta t ht) (by decide)⟩, fun t ht => ⟨(ho.cr t ht).1, Nat.le_trans (hcq.2 t ht) (by decide)⟩,
    fun f hf => ⟨Nat.le_trans (hs.fa f hf).t (by decide), Nat.le_trans (flt_qM (hfq.2 f hf)) (by decide), (ho.fa f hf).2.2.1, fun x hx => Nat.le_trans ((hs.fa f hf).fr x hx).2 (by decide)⟩, ⟨by omega, ho.fq.1⟩, ⟨by omega, ho.tq.1⟩, ⟨by omega, ho.cq.1⟩⟩
/-- what the law looks at: kinds and lengths of texts stay -/
def headF (f : Flt) : List UInt8 × Nat := (f.k, f.t.length)
theorem clA_head : ∀ (l : List SRl) (e : Evt), (clA l e).fa.l.map headF = e.fa.l.map headF ∧ (clA l e).us.length = e.us.length
  | [], _ => ⟨rfl, rfl⟩
  | r :: l, e => by
    obtain ⟨h1, h2⟩ := clA_head l (clE r e)
    refine ⟨h1.trans ?_, h2.trans ?_⟩
    · show (e.fa.l.map (clF r)).map headF = _
      rw [List.map_map]
      refine List.map_congr_left fun f _ => ?_
      show (f.k, (if r.wh = 1 then mk r f.t else f.t).length) = _
      split
      · rw [mk_len]; rfl
      · rfl
    · show (usR r e).length = _
      unfold usR; split
      · rw [mk_len]
      · rfl
theorem cont_head {a b : Evt} (h : ContE a b) : a.fa.l.map headF = b.fa.l.map headF := by
  have e : ∀ l : List Flt, l.map headF = (l.map Flt.cont).map fun x => (x.1, x.2.1.length) := fun l => by rw [List.map_map]; rfl
  rw [e, e, h.fa]
/-- a rule of a right list that masks is one that we know -/
theorem rul_of {l : List SRl} (h : fstL rlNo l = 0) (hm : ∀ r ∈ l, MskR r) : ∀ r ∈ l, RulOk r ∧ r.nm.length ≤ 40 := by
  induction l with
  | nil => intro r hr; cases hr
  | cons a l ih =>
    rw [fstL] at h
    by_cases ha : rlNo a = 0
    · rw [if_neg (by simpa using ha)] at h
      intro r hr
      rcases List.mem_cons.1 hr with rfl | hr
      · have hmr := hm r (List.mem_cons_self ..)
        unfold rlNo at ha
        split at ha
        · cases ha
        split at ha
        · cases ha
        split at ha
        · cases ha
        rename_i h3
        split at ha
        · cases ha
        split at ha
        · cases ha
        split at ha
        · cases ha
        rename_i h6
        refine ⟨⟨hmr, fun h24 => ?_⟩, (rlF3_len (by simpa using h3)).1⟩
        have hc : rlCtd r = true := by
          unfold rlCtd
          rcases h24 with h | h <;> simp [h]
        rw [hc, Bool.true_and] at h6
        unfold outI at h6
        simp at h6
        omega
      · exact ih h (fun x hx => hm x (List.mem_cons_of_mem _ hx)) r hr
    · rw [if_pos ha] at h; exact absurd h ha
end Go.Proofs.YtfmbgaaonfgenaaGreatDoor
end
section
namespace Go.Proofs.YtfmbgaaonfgenaaGreatDoor
set_option linter.unusedSimpArgs false
set_option linter.unusedVariables false
set_option maxRecDepth 20000
open Go.RowKit Go.Eng
theorem TrimPat_any (s : List UInt8) (hs : s.length ≤ 1000) (w : World) :
    Calls Tryz.prog 72 #[str s, str patBs] w fun e w' => e = .returned (str (Lib.trimS s patBs)) ∧ Below w.heap.size w w' :=
  Any.strings_Trim_laid Tryz.lays160 (by kernel_rfl) ⟨s.toArray⟩ ⟨patBs.toArray⟩ w (by rw [Lib.size_eq]; simp; omega) (by decide) (ascii_of_all (by decide))
theorem rnamed_any (r : SRl) (w : World) : Calls Tryz.prog 211 #[r.val] w fun e w' => e = .returned (.bool (rlNmd r)) ∧ Below w.heap.size w w' := by
  refine enter_args (args := [.agg #[.int .i64 r.wh, str r.nm, .int .i64 r.fd, .int .i64 r.ls, str r.tx, .int .i64 r.dd]]) (F := _) Tryz.func211 rfl Tryz.ntmps211 rfl rfl ?_
  intro Rb hRb hRn
  refine T_seq ?_
  refine T_region ?_
  refine S_box 1 1 rfl rfl rfl rfl rfl ?_
  intro b1
  refine S_ 2 rfl rfl rfl _ (y_assign rfl rfl) ?_
  refine S_go (fun _ _ h => h) ?_
  refine T_seq ?_
  refine T_region ?_
  refine S_ 3 rfl rfl rfl _ (y_fieldAddr rfl rfl fa43_0) ?_
  refine S_ 4 rfl rfl rfl _ (y_load 1 rfl rfl rfl rfl Tryz.underlying3 rfl) ?_
  refine S_ 5 rfl rfl rfl _ (y_bin rfl rfl rfl (fun _ => b_eql)) ?_
  refine S_ 6 rfl rfl rfl _ (y_move rfl rfl) ?_
  refine Sg_ 7 rfl rfl rfl rfl rfl rfl _ (y_fieldAddr rfl rfl fa43_0) ?_
  refine Sg_ 8 rfl rfl rfl rfl rfl rfl _ (y_load 1 rfl rfl rfl rfl Tryz.underlying3 rfl) ?_
  refine Sg_ 9 rfl rfl rfl rfl rfl rfl _ (y_bin rfl rfl rfl (fun _ => b_eql)) ?_
  refine S_ 10 rfl rfl rfl _ (y_or rfl rfl rfl) ?_
  refine S_ 2 rfl rfl rfl _ (y_assign rfl rfl) ?_
  refine S_go (fun _ _ h => h) ?_
  refine T_ret (fun a w hF hM => hRb a w (post1 rfl rfl (fun w hM => ?_) a w hF hM))
  exact ⟨rfl, hM.below⟩
theorem rcounted_any (r : SRl) (w : World) : Calls Tryz.prog 212 #[r.val] w fun e w' => e = .returned (.bool (rlCtd r)) ∧ Below w.heap.size w w' := by
  refine enter_args (args := [.agg #[.int .i64 r.wh, str r.nm, .int .i64 r.fd, .int .i64 r.ls, str r.tx, .int .i64 r.dd]]) (F := _) Tryz.func212 rfl Tryz.ntmps212 rfl rfl ?_
  intro Rb hRb hRn
  refine T_seq ?_
  refine T_region ?_
  refine S_box 1 1 rfl rfl rfl rfl rfl ?_
  intro b1
  refine S_ 2 rfl rfl rfl _ (y_assign rfl rfl) ?_
  refine S_go (fun _ _ h => h) ?_
  refine T_seq ?_
  refine T_region ?_
  refine S_ 3 rfl rfl rfl _ (y_fieldAddr rfl rfl fa43_2) ?_
  refine S_ 4 rfl rfl rfl _ (y_load 1 rfl rfl rfl rfl Tryz.underlying3 rfl) ?_
  refine S_ 5 rfl rfl rfl _ (y_bin rfl rfl rfl (fun _ => b_eql)) ?_
  refine S_ 6 rfl rfl rfl _ (y_move rfl rfl) ?_
  refine Sg_ 7 rfl rfl rfl rfl rfl rfl _ (y_fieldAddr rfl rfl fa43_2) ?_
  refine Sg_ 8 rfl rfl rfl rfl rfl rfl _ (y_load 1 rfl rfl rfl rfl Tryz.underlying3 rfl) ?_
  refine Sg_ 9 rfl rfl rfl rfl rfl rfl _ (y_bin rfl rfl rfl (fun _ => b_eql)) ?_
  refine S_ 10 rfl rfl rfl _ (y_or rfl rfl rfl) ?_
  refine S_ 2 rfl rfl rfl _ (y_assign rfl rfl) ?_
  refine S_go (fun _ _ h => h) ?_
  refine T_ret (fun a w hF hM => hRb a w (post1 rfl rfl (fun w hM => ?_) a w hF hM))
  exact ⟨rfl, hM.below⟩
theorem ckRule_any (r : SRl) (w : World) (hn : r.nm.length ≤ 4611686018427387904) (ht : r.tx.length ≤ 4611686018427387904) :
    Calls Tryz.prog 160 #[r.val] w fun e w' => e = .returned (.int .i64 (rlNo r)) ∧ Below w.heap.size w w' := by
  refine enter_args (args := [.agg #[.int .i64 r.wh, str r.nm, .int .i64 r.fd, .int .i64 r.ls, str r.tx, .int .i64 r.dd]]) (F := _) Tryz.func160 rfl Tryz.ntmps160 rfl rfl ?_
  intro Rb hRb hRn
  refine T_seq ?_
  refine T_region ?_
  refine S_box 1 1 rfl rfl rfl rfl rfl ?_
  intro b1
  refine S_ 2 rfl rfl rfl _ (y_assign rfl rfl) ?_
  refine S_go (fun _ _ h => h) ?_
  refine T_seq ?_
  refine T_block ?_
  refine T_seq ?_
  refine T_region ?_
  refine S_ 5 rfl rfl rfl _ (y_fieldAddr rfl rfl fa43_0) ?_
  refine S_ 6 rfl rfl rfl _ (y_load 1 rfl rfl rfl rfl Tryz.underlying3 rfl) ?_
  refine S_ 7 rfl rfl rfl _ (y_call rfl rfl rfl cf118 (fun _ w _ => eoutside_any _ _ _ w)) ?_
  refine S_ 8 rfl rfl rfl _ (y_move rfl rfl) ?_
  refine Sg_ 9 rfl rfl rfl rfl rfl rfl _ (y_fieldAddr rfl rfl fa43_2) ?_
  refine Sg_ 10 rfl rfl rfl rfl rfl rfl _ (y_load 1 rfl rfl rfl rfl Tryz.underlying3 rfl) ?_
  refine Sg_ 11 rfl rfl rfl rfl rfl rfl _ (y_call rfl rfl rfl cf118 (fun _ w _ => eoutside_any _ _ _ w)) ?_
  refine S_ 12 rfl rfl rfl _ (y_or rfl rfl rfl) ?_
  refine S_ 13 rfl rfl rfl _ (y_move rfl rfl) ?_
  refine Sg_ 14 rfl rfl rfl rfl rfl rfl _ (y_fieldAddr rfl rfl fa43_5) ?_
  refine Sg_ 15 rfl rfl rfl rfl rfl rfl _ (y_load 1 rfl rfl rfl rfl Tryz.underlying3 rfl) ?_
  refine Sg_ 16 rfl rfl rfl rfl rfl rfl _ (y_call rfl rfl rfl cf118 (fun _ w _ => eoutside_any _ _ _ w)) ?_
  refine S_ 17 rfl rfl rfl _ (y_as (v' := .bool (rlF1 r)) (by exact rfl) (y_or rfl rfl rfl)) ?_
  refine S_ 4 rfl rfl rfl _ (y_assign rfl rfl) ?_
  refine S_go (fun _ _ h => h) ?_
  refine T_cond rfl (fun h4 => ?_) (fun h4 => ?_)
  · skip
    refine T_seq ?_
    refine T_region ?_
    refine S_ 2 rfl rfl rfl _ (y_assign rfl rfl) ?_
    refine S_go (fun _ _ h => h) ?_
    refine T_ret (fun a w hF hM => hRb a w (post1 rfl rfl (fun w hM => ?_) a w hF hM))
    exact ⟨by rw [rlNo, if_pos h4], hM.below⟩
  · skip
    refine T_seq ?_
    refine T_draws (by kernel_rfl) (by kernel_rfl) ?_
    refine D_ 19 rfl rfl rfl _ (y_fieldAddr rfl rfl fa43_1) ?_
    refine D_ 20 rfl rfl rfl _ (y_load 1 rfl rfl rfl rfl Tryz.underlying9 rfl) ?_
    refine D_ 21 rfl rfl rfl _ (y_bin rfl rfl rfl (fun _ => b_neqs)) ?_
    refine D_ 22 rfl rfl rfl _ (y_loadA 1 rfl rfl rfl Tryz.underlying43 rfl sz43) ?_
    refine D_ 23 rfl rfl rfl _ (y_call rfl rfl rfl cf211 (fun _ w _ => rnamed_any r w)) ?_
    refine D_ 24 rfl rfl rfl _ (y_bin rfl rfl rfl (fun _ => b_neqb Tryz.underlying4)) ?_
    refine D_ 25 rfl rfl rfl _ (y_move rfl rfl) ?_
    refine Dg_ 26 rfl rfl rfl rfl rfl rfl _ (y_fieldAddr rfl rfl fa43_3) ?_
    refine Dg_ 27 rfl rfl rfl rfl rfl rfl _ (y_load 1 rfl rfl rfl rfl Tryz.underlying3 rfl) ?_
    refine Dg_ 28 rfl rfl rfl rfl rfl rfl _ (y_bin rfl rfl rfl (fun _ => b_neq)) ?_
    refine Dg_ 29 rfl rfl rfl rfl rfl rfl _ (y_move rfl rfl) ?_
    refine Dg_ 30 rfl rfl rfl rfl rfl rfl _ (y_loadA 1 rfl rfl rfl Tryz.underlying43 rfl sz43) ?_
    refine Dg_ 31 rfl rfl rfl rfl rfl rfl _ (y_call rfl rfl rfl cf212 (fun _ w _ => rcounted_any r w)) ?_
    refine Dg_ 32 rfl rfl rfl rfl rfl rfl _ (y_not rfl rfl) ?_
    refine Dg_ 33 rfl rfl rfl rfl rfl rfl _ (y_and rfl rfl rfl) ?_
    refine D_ 34 rfl rfl rfl _ (y_or rfl rfl rfl) ?_
    refine D_ 35 rfl rfl rfl _ (y_move rfl rfl) ?_
    refine Dg_ 36 rfl rfl rfl rfl rfl rfl _ (y_fieldAddr rfl rfl fa43_4) ?_
    refine Dg_ 37 rfl rfl rfl rfl rfl rfl _ (y_load 1 rfl rfl rfl rfl Tryz.underlying9 rfl) ?_
    refine Dg_ 38 rfl rfl rfl rfl rfl rfl _ (y_bin rfl rfl rfl (fun _ => b_neqs)) ?_
    refine Dg_ 39 rfl rfl rfl rfl rfl rfl _ (y_fieldAddr rfl rfl fa43_2) ?_
    refine Dg_ 40 rfl rfl rfl rfl rfl rfl _ (y_load 1 rfl rfl rfl rfl Tryz.underlying3 rfl) ?_
    refine Dg_ 41 rfl rfl rfl rfl rfl rfl _ (y_bin rfl rfl rfl (fun _ => b_eql)) ?_
    refine Dg_ 42 rfl rfl rfl rfl rfl rfl _ (y_bin rfl rfl rfl (fun _ => b_neqb Tryz.underlying4)) ?_
    refine D_ 43 rfl rfl rfl _ (y_as (v' := .bool (rlF2 r)) (by exact rfl) (y_or rfl rfl rfl)) ?_
    refine D_ 18 rfl rfl rfl _ (y_assign rfl rfl) ?_
    refine D_go (fun _ _ h => h) ?_
    refine T_cond rfl (fun h18 => ?_) (fun h18 => ?_)
    · skip
      refine T_seq ?_
      refine T_region ?_
      refine S_ 2 rfl rfl rfl _ (y_assign rfl rfl) ?_
      refine S_go (fun _ _ h => h) ?_
      refine T_ret (fun a w hF hM => hRb a w (post1 rfl rfl (fun w hM => ?_) a w hF hM))
      exact ⟨by rw [rlNo, if_f h4, if_pos h18], hM.below⟩
    · skip
      refine T_seq ?_
      refine T_region ?_
      refine S_ 45 rfl rfl rfl _ (y_fieldAddr rfl rfl fa43_1) ?_
      refine S_ 46 rfl rfl rfl _ (y_load 1 rfl rfl rfl rfl Tryz.underlying9 rfl) ?_
      refine S_ 47 rfl rfl rfl _ (y_len_str rfl rfl Tryz.underlying9) ?_
      refine S_ 48 rfl rfl rfl _ (y_bin rfl rfl rfl (fun _ => b_gtr)) ?_
      refine S_ 49 rfl rfl rfl _ (y_move rfl rfl) ?_
      refine Sg_ 50 rfl rfl rfl rfl rfl rfl _ (y_fieldAddr rfl rfl fa43_4) ?_
      refine Sg_ 51 rfl rfl rfl rfl rfl rfl _ (y_load 1 rfl rfl rfl rfl Tryz.underlying9 rfl) ?_
      refine Sg_ 52 rfl rfl rfl rfl rfl rfl _ (y_len_str rfl rfl Tryz.underlying9) ?_
      refine Sg_ 53 rfl rfl rfl rfl rfl rfl _ (y_bin rfl rfl rfl (fun _ => b_gtr)) ?_
      refine S_ 54 rfl rfl rfl _ (y_as (v' := .bool (rlF3 r)) (by exact rfl) (y_or rfl rfl rfl)) ?_
      refine S_ 44 rfl rfl rfl _ (y_assign rfl rfl) ?_
      refine S_go (fun _ _ h => h) ?_
      refine T_cond rfl (fun h44 => ?_) (fun h44 => ?_)
      · skip
        refine T_seq ?_
        refine T_region ?_
        refine S_ 2 rfl rfl rfl _ (y_assign rfl rfl) ?_
        refine S_go (fun _ _ h => h) ?_
        refine T_ret (fun a w hF hM => hRb a w (post1 rfl rfl (fun w hM => ?_) a w hF hM))
        exact ⟨by rw [rlNo, if_f h4, if_f h18, if_pos h44], hM.below⟩
      · skip
        have h44l := rlF3_len h44
        refine T_seq ?_
        refine T_region ?_
        refine S_ 56 rfl rfl rfl _ (y_fieldAddr rfl rfl fa43_1) ?_
        refine S_ 57 rfl rfl rfl _ (y_load 1 rfl rfl rfl rfl Tryz.underlying9 rfl) ?_
        refine S_ 58 rfl rfl rfl _ (y_call rfl rfl rfl cf72 (fun _ w _ => TrimPat_any _ (by omega) w)) ?_
        refine S_ 59 rfl rfl rfl _ (y_bin rfl rfl rfl (fun _ => b_neqs)) ?_
        refine S_ 55 rfl rfl rfl _ (y_assign rfl rfl) ?_
        refine S_go (fun _ _ h => h) ?_
        refine T_cond rfl (fun h55 => ?_) (fun h55 => ?_)
        · skip
          have h55 : ¬ Lib.trimS r.nm patBs = [] := by simpa using h55
          refine T_seq ?_
          refine T_region ?_
          refine S_ 2 rfl rfl rfl _ (y_assign rfl rfl) ?_
          refine S_go (fun _ _ h => h) ?_
          refine T_ret (fun a w hF hM => hRb a w (post1 rfl rfl (fun w hM => ?_) a w hF hM))
          exact ⟨by rw [rlNo, if_f h4, if_f h18, if_f h44, if_pos h55], hM.below⟩
        · skip
          have h55 : Lib.trimS r.nm patBs = [] := by simpa using h55
          refine T_skip_go (fun _ _ h => h) ?_
          refine T_seq ?_
          refine T_seq ?_
          refine T_region ?_
          refine S_ 60 rfl rfl rfl _ (y_fieldAddr rfl rfl fa43_4) ?_
          refine S_ 61 rfl rfl rfl _ (y_load 1 rfl rfl rfl rfl Tryz.underlying9 rfl) ?_
          refine S_ 62 rfl rfl rfl _ (y_len_str rfl rfl Tryz.underlying9) ?_
          refine S_ 63 rfl rfl rfl _ (y_move rfl rfl) ?_
          refine S_go (fun _ _ h => h) ?_
          refine T_block ?_
          refine T_loopK1 (kf := [(2, 3), (63, 78)]) (kl := [(2, 3), (63, 78)]) (fun (i : Nat) => [(63, true, .int .i64 (i : Int))]) (fun (i : Nat) => []) (fun (i : Nat) => i ≤ r.tx.length ∧ r.tx.any bytBad = (r.tx.drop i).any bytBad) (fun (i : Nat) => r.tx.length - i) 0 (by repeat (first | exact kf_nil | (apply kf_in; focus rfl) | (apply kf_out; focus rfl))) (by repeat (first | exact kl_nil | exact kl_rest (by assumption) rfl | (apply kl_in; focus rfl) | (apply kl_out; focus rfl))) ?_ ?_ ?_ ?_
          · exact ⟨by omega, rfl⟩
          · exact ⟨rfl, trivial⟩
          · exact trivial
          rintro i ⟨hp1, hp2⟩
          refine T_seq ?_
          refine T_region ?_
          refine S_ 64 rfl rfl rfl _ (y_bin rfl rfl rfl (fun _ => b_lss)) ?_
          refine S_go (fun _ _ h => h) ?_
          refine T_seq ?_
          refine T_cond rfl (fun h64 => ?_) (fun h64 => ?_)
          · try simp only [decide_eq_true_eq, decide_eq_false_iff_not, Bool.or_eq_true, Bool.or_eq_false_iff, Bool.and_eq_true, Bool.and_eq_false_iff, Bool.not_eq_true', Bool.not_eq_false', Bool.not_eq_true, Bool.not_eq_false, Bool.not_true, Bool.not_false, Int.not_lt, Int.not_le, not_or, not_and, Classical.not_not] at h64
            refine T_skip_go (fun _ _ h => h) ?_
            refine T_seq ?_
            refine T_block ?_
            refine T_seq ?_
            refine T_region ?_
            refine S_ 65 rfl rfl rfl _ (y_move rfl rfl) ?_
            refine S_ 3 rfl rfl rfl _ (y_assign rfl rfl) ?_
            refine S_go (fun _ _ h => h) ?_
            refine T_seq ?_
            refine T_region ?_
            refine S_ 66 rfl rfl rfl _ (y_fieldAddr rfl rfl fa43_4) ?_
            refine S_ 67 rfl rfl rfl _ (y_load 1 rfl rfl rfl rfl Tryz.underlying9 rfl) ?_
            refine S_ 68 rfl rfl rfl _ (y_move rfl rfl) ?_
            refine S_ 69 rfl rfl rfl _ (y_index_str rfl rfl rfl Tryz.underlying9 (fun _ => by omega)) ?_
            refine S_ 70 rfl rfl rfl _ (y_bin rfl rfl rfl (fun _ => b_lss)) ?_
            refine S_ 71 rfl rfl rfl _ (y_move rfl rfl) ?_
            refine Sg_ 72 rfl rfl rfl rfl rfl rfl _ (y_fieldAddr rfl rfl fa43_4) ?_
            refine Sg_ 73 rfl rfl rfl rfl rfl rfl _ (y_load 1 rfl rfl rfl rfl Tryz.underlying9 rfl) ?_
            refine Sg_ 74 rfl rfl rfl rfl rfl rfl _ (y_move rfl rfl) ?_
            refine Sg_ 75 rfl rfl rfl rfl rfl rfl _ (y_index_str rfl rfl rfl Tryz.underlying9 (fun hg => by simp only [Bool.true_and, Bool.and_eq_true, beq_iff_eq, decide_eq_true_eq, decide_eq_false_iff_not, Int.not_lt, Int.not_le] at hg; omega)) ?_
            refine Sg_ 76 rfl rfl rfl rfl rfl rfl _ (y_bin rfl rfl rfl (fun _ => b_gtr)) ?_
            refine S_ 77 rfl rfl rfl _ (y_as (v' := .bool (bytBad (r.tx.getD i 0))) (by exact rfl) (y_or rfl rfl rfl)) ?_
            refine S_go (fun _ _ h => h) ?_
            refine T_cond rfl (fun h77 => ?_) (fun h77 => ?_)
            · skip
              refine T_seq ?_
              refine T_region ?_
              refine S_ 2 rfl rfl rfl _ (y_assign rfl rfl) ?_
              refine S_go (fun _ _ h => h) ?_
              refine T_ret (fun a w hF hM => hRb a w (post1 rfl rfl (fun w hM => ?_) a w hF hM))
              exact ⟨by rw [rlNo, if_f h4, if_f h18, if_f h44, if_neg (by simpa using h55), if_pos (by rw [hp2, drop_str (by omega), any_t h77])], hM.below⟩
            · skip
              refine T_skip_go (fun _ _ h => h) ?_
              refine T_region ?_
              refine S_ 78 rfl rfl rfl _ (y_bin rfl rfl rfl (fun hg => b_add (by omega))) ?_
              refine S_ 63 rfl rfl rfl _ (y_move rfl rfl) ?_
              refine S_nil (nextK1 (kf := [(2, 3), (63, 78)]) (kl := [(2, 3), (63, 78)]) (i + 1) (by repeat (first | exact kf_nil | (apply kf_in; focus rfl) | (apply kf_out; focus rfl))) (by repeat (first | exact kl_nil | exact kl_rest (by assumption) rfl | (apply kl_in; focus rfl) | (apply kl_out; focus rfl))) ?_ ?_ ?_ ?_)
              · omega
              · exact ⟨by omega, by rw [hp2, drop_str (by omega), any_f h77]⟩
              · exact ⟨rfl, trivial⟩
              · exact trivial
          · try simp only [decide_eq_true_eq, decide_eq_false_iff_not, Bool.or_eq_true, Bool.or_eq_false_iff, Bool.and_eq_true, Bool.and_eq_false_iff, Bool.not_eq_true', Bool.not_eq_false', Bool.not_eq_true, Bool.not_eq_false, Bool.not_true, Bool.not_false, Int.not_lt, Int.not_le, not_or, not_and, Classical.not_not] at h64
            refine T_exit_go (fun _ _ h => h) ?_
            refine T_seq ?_
            refine T_seq ?_
            refine T_region ?_
            refine S_ 79 rfl rfl rfl _ (y_loadA 1 rfl rfl rfl Tryz.underlying43 rfl sz43) ?_
            refine S_ 80 rfl rfl rfl _ (y_call rfl rfl rfl cf212 (fun _ w _ => rcounted_any r w)) ?_
            refine S_ 81 rfl rfl rfl _ (y_move rfl rfl) ?_
            refine Sg_ 82 rfl rfl rfl rfl rfl rfl _ (y_fieldAddr rfl rfl fa43_3) ?_
            refine Sg_ 83 rfl rfl rfl rfl rfl rfl _ (y_load 1 rfl rfl rfl rfl Tryz.underlying3 rfl) ?_
            refine Sg_ 84 rfl rfl rfl rfl rfl rfl _ (y_call rfl rfl rfl cf118 (fun _ w _ => eoutside_any _ _ _ w)) ?_
            refine S_ 85 rfl rfl rfl _ (y_as (v' := .bool (rlCtd r && outI r.ls 1 100)) (by exact rfl) (y_and rfl rfl rfl)) ?_
            refine S_go (fun _ _ h => h) ?_
            refine T_cond rfl (fun h85 => ?_) (fun h85 => ?_)
            · skip
              refine T_seq ?_
              refine T_region ?_
              refine S_ 2 rfl rfl rfl _ (y_assign rfl rfl) ?_
              refine S_go (fun _ _ h => h) ?_
              refine T_ret (fun a w hF hM => hRb a w (post1 rfl rfl (fun w hM => ?_) a w hF hM))
              exact ⟨by rw [rlNo, if_f h4, if_f h18, if_f h44, if_neg (by simpa using h55), if_neg (by rw [hp2, List.drop_eq_nil_of_le (by omega)]; simp), if_pos h85], hM.below⟩
            · skip
              refine T_skip_go (fun _ _ h => h) ?_
              refine T_seq ?_
              refine T_region ?_
              refine S_ 2 rfl rfl rfl _ (y_assign rfl rfl) ?_
              refine S_go (fun _ _ h => h) ?_
              refine T_ret (fun a w hF hM => hRb a w (post1 rfl rfl (fun w hM => ?_) a w hF hM))
              exact ⟨by rw [rlNo, if_f h4, if_f h18, if_f h44, if_neg (by simpa using h55), if_neg (by rw [hp2, List.drop_eq_nil_of_le (by omega)]; simp), if_f h85], hM.below⟩
theorem ECheckRules_any (l : Sl SRl) (w : World) (hl : RlsOk w l) : Calls Tryz.prog 75 #[.slice l.A l.q l.c] w fun e w' => e = .returned (.int .i64 (clearNo l)) ∧ Below w.heap.size w w' := by
  have ht := hl.ok.t
  have hq := hl.q
  refine enter_args (args := [.slice l.A l.q l.c]) (F := _) Tryz.func75 rfl Tryz.ntmps75 rfl rfl ?_
  intro Rb hRb hRn
  refine T_seq ?_
  refine T_region ?_
  refine S_ 2 rfl rfl rfl _ (y_assign rfl rfl) ?_
  refine S_go (fun _ _ h => h) ?_
  refine T_seq ?_
  refine T_seq ?_
  refine T_region ?_
  refine S_ 6 rfl rfl rfl _ (y_move rfl rfl) ?_
  refine S_ 7 rfl rfl rfl _ (y_len_slice rfl rfl Tryz.underlying40) ?_
  refine S_ 8 rfl rfl rfl _ (y_bin rfl rfl rfl (fun _ => b_gtr)) ?_
  refine S_go (fun _ _ h => h) ?_
  refine T_cond rfl (fun h8 => ?_) (fun h8 => ?_)
  · try simp only [decide_eq_true_eq, decide_eq_false_iff_not, Bool.or_eq_true, Bool.or_eq_false_iff, Bool.and_eq_true, Bool.and_eq_false_iff, Bool.not_eq_true', Bool.not_eq_false', Bool.not_eq_true, Bool.not_eq_false, Bool.not_true, Bool.not_false, Int.not_lt, Int.not_le, not_or, not_and, Classical.not_not] at h8
    refine T_seq ?_
    refine T_region ?_
    refine S_ 2 rfl rfl rfl _ (y_assign rfl rfl) ?_
    refine S_go (fun _ _ h => h) ?_
    refine T_ret (fun a w hF hM => hRb a w (post1 rfl rfl (fun w hM => ?_) a w hF hM))
    exact ⟨by rw [clearNo, if_pos (by omega)], hM.below⟩
  · try simp only [decide_eq_true_eq, decide_eq_false_iff_not, Bool.or_eq_true, Bool.or_eq_false_iff, Bool.and_eq_true, Bool.and_eq_false_iff, Bool.not_eq_true', Bool.not_eq_false', Bool.not_eq_true, Bool.not_eq_false, Bool.not_true, Bool.not_false, Int.not_lt, Int.not_le, not_or, not_and, Classical.not_not] at h8
    refine T_skip_go (fun _ _ h => h) ?_
    refine T_seq ?_
    refine T_seq ?_
    refine T_region ?_
    refine S_ 9 rfl rfl rfl _ (y_move rfl rfl) ?_
    refine S_ 10 rfl rfl rfl _ (y_len_slice rfl rfl Tryz.underlying40) ?_
    refine S_ 11 rfl rfl rfl _ (y_move rfl rfl) ?_
    refine S_go (fun _ _ h => h) ?_
    refine T_block ?_
    refine T_loopK1 (kf := [(2, 2), (4, 5), (11, 20)]) (kl := [(2, 2), (4, 5), (11, 20)]) (fun (i : Nat) => [(11, true, .int .i64 (i : Int))]) (fun (i : Nat) => []) (fun (i : Nat) => i ≤ l.q ∧ fstL rlNo l.l = fstL rlNo (l.l.drop i)) (fun (i : Nat) => l.q - i) 0 (by repeat (first | exact kf_nil | (apply kf_in; focus rfl) | (apply kf_out; focus rfl))) (by repeat (first | exact kl_nil | exact kl_rest (by assumption) rfl | (apply kl_in; focus rfl) | (apply kl_out; focus rfl))) ?_ ?_ ?_ ?_
    · exact ⟨by omega, rfl⟩
    · exact ⟨rfl, trivial⟩
    · exact trivial
    rintro i ⟨hp1, hp2⟩
    refine T_seq ?_
    refine T_region ?_
    refine S_ 12 rfl rfl rfl _ (y_bin rfl rfl rfl (fun _ => b_lss)) ?_
    refine S_go (fun _ _ h => h) ?_
    refine T_seq ?_
    refine T_cond rfl (fun h12 => ?_) (fun h12 => ?_)
    · try simp only [decide_eq_true_eq, decide_eq_false_iff_not, Bool.or_eq_true, Bool.or_eq_false_iff, Bool.and_eq_true, Bool.and_eq_false_iff, Bool.not_eq_true', Bool.not_eq_false', Bool.not_eq_true, Bool.not_eq_false, Bool.not_true, Bool.not_false, Int.not_lt, Int.not_le, not_or, not_and, Classical.not_not] at h12
      obtain ⟨x, hx1, hx2⟩ := ht.at (i := i) (by omega)
      rw [hx2, fstL] at hp2
      refine T_skip_go (fun _ _ h => h) ?_
      refine T_seq ?_
      refine T_block ?_
      refine T_seq ?_
      refine T_region ?_
      refine S_ 13 rfl rfl rfl _ (y_indexAddr rfl rfl rfl Tryz.underlying40 sz43 (fun hg => ht.isSome (by omega)) (fun _ => by omega)) ?_
      refine S_ 14 rfl rfl rfl _ (y_loadT rfl rfl ht (fun _ => rfl) (fun _ => hx1) Tryz.underlying43 rfl sz43) ?_
      refine S_alloc 4 4 rfl rfl rfl rfl z43 ?_
      intro b4
      refine S_store 4 rfl rfl rfl rfl rfl rfl sz43 rfl rfl ?_
      refine S_go (fun _ _ h => h) ?_
      refine T_seq ?_
      refine T_region ?_
      refine S_ 15 rfl rfl rfl _ (y_loadA 4 rfl rfl rfl Tryz.underlying43 rfl sz43) ?_
      refine S_ 16 rfl rfl rfl _ (y_call rfl rfl rfl cf160 (fun _ w hM => ckRule_any x w (hl.n x (mem_at hx1)).1 (hl.n x (mem_at hx1)).2)) ?_
      refine S_ 5 rfl rfl rfl _ (y_assign rfl rfl) ?_
      refine S_go (fun _ _ h => h) ?_
      refine T_seq ?_
      refine T_region ?_
      refine S_ 17 rfl rfl rfl _ (y_move rfl rfl) ?_
      refine S_ 18 rfl rfl rfl _ (y_bin rfl rfl rfl (fun _ => b_neq)) ?_
      refine S_go (fun _ _ h => h) ?_
      refine T_cond rfl (fun h18 => ?_) (fun h18 => ?_)
      · skip
        have h18 : ¬ rlNo x = 0 := by simpa using h18
        rw [if_pos h18] at hp2
        refine T_seq ?_
        refine T_region ?_
        refine S_ 19 rfl rfl rfl _ (y_move rfl rfl) ?_
        refine S_ 2 rfl rfl rfl _ (y_assign rfl rfl) ?_
        refine S_go (fun _ _ h => h) ?_
        refine T_ret (fun a w hF hM => hRb a w (post1 rfl rfl (fun w hM => ?_) a w hF hM))
        exact ⟨by rw [clearNo, if_neg (by omega), hp2], hM.below⟩
      · skip
        have h18 : rlNo x = 0 := by simpa using h18
        rw [if_neg (by simpa using h18)] at hp2
        refine T_skip_go (fun _ _ h => h) ?_
        refine T_region ?_
        refine S_ 20 rfl rfl rfl _ (y_bin rfl rfl rfl (fun hg => b_add (by omega))) ?_
        refine S_ 11 rfl rfl rfl _ (y_move rfl rfl) ?_
        refine S_nil (nextK1 (kf := [(2, 2), (4, 5), (11, 20)]) (kl := [(2, 2), (4, 5), (11, 20)]) (i + 1) (by repeat (first | exact kf_nil | (apply kf_in; focus rfl) | (apply kf_out; focus rfl))) (by repeat (first | exact kl_nil | exact kl_rest (by assumption) rfl | (apply kl_in; focus rfl) | (apply kl_out; focus rfl))) ?_ ?_ ?_ ?_)
        · omega
        · exact ⟨by omega, hp2⟩
        · exact ⟨rfl, trivial⟩
        · exact trivial
    · try simp only [decide_eq_true_eq, decide_eq_false_iff_not, Bool.or_eq_true, Bool.or_eq_false_iff, Bool.and_eq_true, Bool.and_eq_false_iff, Bool.not_eq_true', Bool.not_eq_false', Bool.not_eq_true, Bool.not_eq_false, Bool.not_true, Bool.not_false, Int.not_lt, Int.not_le, not_or, not_and, Classical.not_not] at h12
      rw [ht.end (by omega), fstL] at hp2
      refine T_exit_go (fun _ _ h => h) ?_
      refine T_seq ?_
      refine T_region ?_
      refine S_ 2 rfl rfl rfl _ (y_assign rfl rfl) ?_
      refine S_go (fun _ _ h => h) ?_
      refine T_ret (fun a w hF hM => hRb a w (post1 rfl rfl (fun w hM => ?_) a w hF hM))
      exact ⟨by rw [clearNo, if_neg (by omega), hp2], hM.below⟩
end Go.Proofs.YtfmbgaaonfgenaaGreatDoor
end
section
namespace Go.Proofs.YtfmbgaaonfgenaaGreatDoor
set_option linter.unusedSimpArgs false
set_option linter.unusedVariables false
set_option maxRecDepth 20000
open Go.RowKit Go.Eng
theorem cont_mem {a b : Evt} (h : ContE a b) : ∀ f ∈ a.fa.l, ∃ g ∈ b.fa.l, f.cont = g.cont := fun f hf => by
  have : f.cont ∈ b.fa.l.map Flt.cont := by rw [← h.fa]; exact List.mem_map.2 ⟨f, hf, rfl⟩
  obtain ⟨g, hg, he⟩ := List.mem_map.1 this
  exact ⟨g, hg, he.symm⟩
theorem OkE.cont {a b : Evt} (hb : OkE b) (h : ContE a b) (hf : FitE a) : OkE a := by
  refine ⟨fun f hfm => ?_, ⟨?_, by rw [h.fq]; exact hb.fq.2⟩, by rw [h.ta]; exact hb.ta, by rw [h.ta, h.tq]; exact hb.tq, by rw [h.cr]; exact hb.cr, by rw [h.cr, h.cq]; exact hb.cq, by rw [h.id]; exact hb.id, by rw [h.rel]; exact hb.rel, by rw [h.us]; exact hb.us⟩
  · obtain ⟨g, hg, he⟩ := cont_mem h f hfm
    have hh := hb.fa g hg
    simp only [Flt.cont, Prod.mk.injEq] at he
    obtain ⟨hk, ht, hl⟩ := he
    have hq := hf f hfm
    refine ⟨by rw [hk]; exact hh.1, by rw [ht]; exact hh.2.1, hq.symm, by rw [hq, hl, hh.2.2.1]; exact hh.2.2.2.1, by rw [hl]; exact hh.2.2.2.2⟩
  · have := congrArg List.length h.fa
    rw [List.length_map, List.length_map] at this
    rw [this, h.fq]; exact hb.fq.1
structure ClrR where
  ev : Evt
  A : Option Addr
  q : Nat
  c : Nat
  no : Int
  rs : List Row
abbrev rsEv (e : Evt) : List Row := ((e.fa.l.map frRow ++ [(⟨50, 3, .slice e.fa.A e.fa.q e.fa.c, e.fa.q, e.fa.l.flatMap Flt.enc⟩ : Row)]) ++ [(⟨104, 2, .slice e.ta.A e.ta.q e.ta.c, e.ta.q, e.ta.l.flatMap STag.enc⟩ : Row)]) ++ [(⟨107, 3, .slice e.cr.A e.cr.q e.cr.c, e.cr.q, e.cr.l.flatMap SCrumb.enc⟩ : Row)]
theorem sees_ev {w0 : World} {e : Evt} (h : OkE e) : Sees w0 (rsEv e) fun w => e.Ok w := fun w _ hr =>
  evOk_of h (hr _ (List.mem_append_left _ (List.mem_append_left _ (List.mem_append_right _ (List.mem_singleton.2 rfl))))) (fun r hx => hr r (List.mem_append_left _ (List.mem_append_left _ (List.mem_append_left _ hx))))
    (hr _ (List.mem_append_left _ (List.mem_append_right _ (List.mem_singleton.2 rfl)))) (hr _ (List.mem_append_right _ (List.mem_singleton.2 rfl)))
def ClrP (w0 : World) (e : Evt) (l : Sl SRl) (z : ClrR) : Prop :=
  (z.no = 0 → ∃ e1, ContE e1 e ∧ FitE e1 ∧ z.ev = clA l.l e1 ∧ evNo e = 0 ∧ clearNo l = 0 ∧ evNo z.ev = 0 ∧ z.q = hitsN l.l e1 ∧ Sees w0 z.rs fun w => z.ev.Ok w) ∧ (evNo e = 0 → clearNo l = 0 → (∀ e1, ContE e1 e → FitE e1 → evNo (clA l.l e1) = 0) → z.no = 0)
def evZM : Evt := ⟨[], 0, 0, ⟨none, 0, 0, []⟩, ⟨none, 0, 0, []⟩, ⟨none, 0, 0, []⟩, [], [], 0⟩
abbrev ownHit (A : Option Addr) (c : Nat) (hs : List Sp) : It := .own 134 2 (.slice A hs.length c) hs.length (hs.flatMap spE)
set_option maxHeartbeats 2000000 in
theorem Clear_any {w0 : World} {K : HL} (hK : FromK K) (e : Evt) (l : Sl SRl) (w : World) (he : e.Ok w0) (hl : RlsOk w0 l) (hm : ∀ r ∈ l.l, MskR r) (hM0 : Mem w0 ([] ++ K) w) :
    Calls Tryz.prog 15 #[e.val, .slice l.A l.q l.c] w fun en w' => ∃ z : ClrR, en = .returned (.tuple #[z.ev.val, .slice z.A z.q z.c, .int .i64 z.no]) ∧ ClrP w0 e l z ∧ Mem w0 ([(900, .many z.rs)] ++ K) w' := by
  have hll := hl.ok.t.len
  have hoe := OkE.of he
  refine enterM_args (args := [.agg #[str e.id, .int .i64 e.at_, .int .i64 e.lv, .slice e.fa.A e.fa.q e.fa.c, .slice e.ta.A e.ta.q e.ta.c, .slice e.cr.A e.cr.q e.cr.c, str e.rel, str e.us, .int .i64 e.wt], .slice l.A l.q l.c]) (F := _) hM0 Tryz.func15 rfl Tryz.ntmps15 rfl rfl ?_
  intro Rb hRb hRn
  refine T_seq ?_
  refine T_region ?_
  refine S_box 2 2 rfl rfl rfl rfl rfl ?_
  intro b2
  refine S_many0 900 ?_
  refine S_alloc 4 4 rfl rfl rfl rfl z29 ?_
  intro b4
  refine S_nilSlice 5 (e := 134) (size := 2) ?_
  refine S_ 5 rfl rfl rfl _ (y_assign rfl rfl) ?_
  refine S_ 6 rfl rfl rfl _ (y_assign rfl rfl) ?_
  refine S_go (fun _ _ h => h) ?_
  refine T_seq ?_
  refine T_seq ?_
  refine T_region ?_
  refine S_ 14 rfl rfl rfl _ (y_loadA 2 rfl rfl rfl Tryz.underlying29 rfl sz29) ?_
  refine S_ 15 rfl rfl rfl _ (y_call rfl rfl rfl cf44 (fun _ w hM => Check_any e w (he.below hM.below))) ?_
  refine S_ 7 rfl rfl rfl _ (y_assign rfl rfl) ?_
  refine S_go (fun _ _ h => h) ?_
  refine T_seq ?_
  refine T_region ?_
  refine S_ 16 rfl rfl rfl _ (y_move rfl rfl) ?_
  refine S_ 17 rfl rfl rfl _ (y_bin rfl rfl rfl (fun _ => b_neq)) ?_
  refine S_go (fun _ _ h => h) ?_
  refine T_cond rfl (fun h17 => ?_) (fun h17 => ?_)
  · try simp only [decide_eq_true_eq, decide_eq_false_iff_not, Bool.or_eq_true, Bool.or_eq_false_iff, Bool.and_eq_true, Bool.and_eq_false_iff, Bool.not_eq_true', Bool.not_eq_false', Bool.not_eq_true, Bool.not_eq_false, Bool.not_true, Bool.not_false, Int.not_lt, Int.not_le, not_or, not_and, Classical.not_not] at h17
    refine T_seq ?_
    refine T_region ?_
    refine S_ 18 rfl rfl rfl _ (y_build (zv := .agg #[.string ⟨#[]⟩, .int .i64 0, .int .i64 0, .slice none 0 0, .slice none 0 0, .slice none 0 0, .string ⟨#[]⟩, .string ⟨#[]⟩, .int .i64 0]) (pl := [(0, 1), (1, 1), (2, 1), (3, 1), (4, 1), (5, 1), (6, 1), (7, 1), (8, 1)]) (out := [.string ⟨#[]⟩, .int .i64 0, .int .i64 0, .slice none 0 0, .slice none 0 0, .slice none 0 0, .string ⟨#[]⟩, .string ⟨#[]⟩, .int .i64 0]) rfl rfl Tryz.underlying29 z29 (by kernel_rfl) rfl) ?_
    refine S_ 19 rfl rfl rfl _ (y_move rfl rfl) ?_
    refine S_store 4 rfl rfl rfl rfl rfl rfl sz29 rfl rfl ?_
    refine S_nilSlice 5 (e := 134) (size := 2) ?_
    refine S_ 5 rfl rfl rfl _ (y_assign rfl rfl) ?_
    refine S_ 6 rfl rfl rfl _ (y_assign rfl rfl) ?_
    refine S_go (fun _ _ h => h) ?_
    refine T_ret (fun a w hF hM => hRb a w (post_cell2 4 rfl rfl rfl rfl rfl Tryz.underlying29 rfl (by exact sz29) (fun w hM => ?_) a w hF hM))
    exact ⟨⟨evZM, none, 0, 0, evNo e, []⟩, rfl, ⟨fun h => absurd h h17, fun h => absurd h h17⟩, hM.keep (ks := [(0, 999)]) (by repeat (first | exact kl_rest (by assumption) rfl | (apply kl_in; focus rfl))) _ ⟨rfl, trivial⟩⟩
  · try simp only [decide_eq_true_eq, decide_eq_false_iff_not, Bool.or_eq_true, Bool.or_eq_false_iff, Bool.and_eq_true, Bool.and_eq_false_iff, Bool.not_eq_true', Bool.not_eq_false', Bool.not_eq_true, Bool.not_eq_false, Bool.not_true, Bool.not_false, Int.not_lt, Int.not_le, not_or, not_and, Classical.not_not] at h17
    refine T_skip_go (fun _ _ h => h) ?_
    refine T_seq ?_
    refine T_seq ?_
    refine T_region ?_
    refine S_ 20 rfl rfl rfl _ (y_move rfl rfl) ?_
    refine S_ 21 rfl rfl rfl _ (y_call rfl rfl rfl cf75 (fun _ w hM => ECheckRules_any l w (hl.below hM.below))) ?_
    refine S_ 8 rfl rfl rfl _ (y_assign rfl rfl) ?_
    refine S_go (fun _ _ h => h) ?_
    refine T_seq ?_
    refine T_region ?_
    refine S_ 22 rfl rfl rfl _ (y_move rfl rfl) ?_
    refine S_ 23 rfl rfl rfl _ (y_bin rfl rfl rfl (fun _ => b_neq)) ?_
    refine S_go (fun _ _ h => h) ?_
    refine T_cond rfl (fun h23 => ?_) (fun h23 => ?_)
    · try simp only [decide_eq_true_eq, decide_eq_false_iff_not, Bool.or_eq_true, Bool.or_eq_false_iff, Bool.and_eq_true, Bool.and_eq_false_iff, Bool.not_eq_true', Bool.not_eq_false', Bool.not_eq_true, Bool.not_eq_false, Bool.not_true, Bool.not_false, Int.not_lt, Int.not_le, not_or, not_and, Classical.not_not] at h23
      refine T_seq ?_
      refine T_region ?_
      refine S_ 24 rfl rfl rfl _ (y_build (zv := .agg #[.string ⟨#[]⟩, .int .i64 0, .int .i64 0, .slice none 0 0, .slice none 0 0, .slice none 0 0, .string ⟨#[]⟩, .string ⟨#[]⟩, .int .i64 0]) (pl := [(0, 1), (1, 1), (2, 1), (3, 1), (4, 1), (5, 1), (6, 1), (7, 1), (8, 1)]) (out := [.string ⟨#[]⟩, .int .i64 0, .int .i64 0, .slice none 0 0, .slice none 0 0, .slice none 0 0, .string ⟨#[]⟩, .string ⟨#[]⟩, .int .i64 0]) rfl rfl Tryz.underlying29 z29 (by kernel_rfl) rfl) ?_
      refine S_ 25 rfl rfl rfl _ (y_move rfl rfl) ?_
      refine S_store 4 rfl rfl rfl rfl rfl rfl sz29 rfl rfl ?_
      refine S_nilSlice 5 (e := 134) (size := 2) ?_
      refine S_ 5 rfl rfl rfl _ (y_assign rfl rfl) ?_
      refine S_ 6 rfl rfl rfl _ (y_assign rfl rfl) ?_
      refine S_go (fun _ _ h => h) ?_
      refine T_ret (fun a w hF hM => hRb a w (post_cell2 4 rfl rfl rfl rfl rfl Tryz.underlying29 rfl (by exact sz29) (fun w hM => ?_) a w hF hM))
      exact ⟨⟨evZM, none, 0, 0, clearNo l, []⟩, rfl, ⟨fun h => absurd h h23, fun _ h => absurd h h23⟩, hM.keep (ks := [(0, 999)]) (by repeat (first | exact kl_rest (by assumption) rfl | (apply kl_in; focus rfl))) _ ⟨rfl, trivial⟩⟩
    · try simp only [decide_eq_true_eq, decide_eq_false_iff_not, Bool.or_eq_true, Bool.or_eq_false_iff, Bool.and_eq_true, Bool.and_eq_false_iff, Bool.not_eq_true', Bool.not_eq_false', Bool.not_eq_true, Bool.not_eq_false, Bool.not_true, Bool.not_false, Int.not_lt, Int.not_le, not_or, not_and, Classical.not_not] at h23
      have hle0 : LenE e := LenE.of h17 hoe
      have hq50 : l.q ≤ 50 := by
        unfold clearNo at h23
        split at h23
        · cases h23
        · omega
      have hrl : fstL rlNo l.l = 0 := by
        unfold clearNo at h23
        split at h23
        · cases h23
        · exact h23
      refine T_skip_go (fun _ _ h => h) ?_
      refine T_seq ?_
      refine T_region ?_
      refine S_ 26 rfl rfl rfl _ (y_loadA 2 rfl rfl rfl Tryz.underlying29 rfl sz29) ?_
      refine S_callN 27 [] [(8, 908), (900, 900), (35, 935), (39, 939)] (X := CopyR) rfl rfl rfl rfl rfl rfl rfl cf76 rfl (fun z => .agg #[str e.id, .int .i64 e.at_, .int .i64 e.lv, .slice z.A e.fa.q z.c, .slice z.B e.ta.q z.b, .slice z.D e.cr.q z.d, str e.rel, str e.us, .int .i64 e.wt]) (fun z => z.gs.map Flt.cont = e.fa.l.map Flt.cont ∧ (∀ f ∈ z.gs, f.fr.q = f.fr.l.length) ∧ z.rs = z.gs.map frRow ∧ DisF z.gs) (fun z => z.L e) (fun _ => rfl) (fun _ => rfl) (fun K1 hK1 w hM => CopyD_any hK1 e w he ⟨hle0.fq.1, hle0.tq.1, hle0.cq.1, fun f hf => (hle0.fa f hf).2.1⟩ hM) ?_
      rintro z ⟨hz1, hz2, hz3, hz4⟩
      have hce : ContE (z.evt e) e := ⟨rfl, rfl, rfl, rfl, rfl, rfl, hz1, rfl, rfl, rfl, rfl, rfl⟩
      have hfe : FitE (z.evt e) := hz2
      have hoz : OkE (z.evt e) := hoe.cont hce hfe
      have hev1 : evNo (z.evt e) = 0 := (evNo_same hce hfe hoe.fit).trans h17
      have hle1 : LenE (z.evt e) := LenE.of hev1 hoz
      have hoc := hoz.clA l.l
      refine S_store 2 rfl rfl rfl rfl rfl rfl sz29 rfl rfl ?_
      refine S_go (fun _ _ h => h) ?_
      refine T_seq ?_
      refine T_region ?_
      refine S_nilSlice 909 (e := 134) (size := 2) ?_
      refine S_nilSlice 9 (e := 134) (size := 2) ?_
      refine S_ 9 rfl rfl rfl _ (y_assign rfl rfl) ?_
      refine S_go (fun _ _ h => h) ?_
      refine T_seq ?_
      refine T_seq ?_
      refine T_region ?_
      refine S_ 28 rfl rfl rfl _ (y_move rfl rfl) ?_
      refine S_ 29 rfl rfl rfl _ (y_len_slice rfl rfl Tryz.underlying40) ?_
      refine S_ 30 rfl rfl rfl _ (y_move rfl rfl) ?_
      refine S_go (fun _ _ h => h) ?_
      refine T_block ?_
      refine T_loopK4 (kf := [(9, 12), (30, 54)]) (kl := [(2, 2), (9, 12), (30, 54), (900, 900), (908, 909), (935, 935), (939, 939)]) (fun (i : Nat) (A : Option Addr) (c : Nat) (hs : List Sp) => [(30, true, .int .i64 (i : Int)), (9, true, .slice A hs.length c)]) (fun (i : Nat) (A : Option Addr) (c : Nat) (hs : List Sp) => [(2, evBox b2 (clA (l.l.take i) (z.evt e))), (908, ownFa (clA (l.l.take i) (z.evt e)).fa (clA (l.l.take i) (z.evt e)).fa.l), (900, .many ((clA (l.l.take i) (z.evt e)).fa.l.map frRow)), (935, ownTa (clA (l.l.take i) (z.evt e)).ta (clA (l.l.take i) (z.evt e)).ta.l), (939, ownCr (clA (l.l.take i) (z.evt e)).cr (clA (l.l.take i) (z.evt e)).cr.l), (909, ownHit A c hs)]) (fun (i : Nat) (A : Option Addr) (c : Nat) (hs : List Sp) => i ≤ l.q ∧ hs.length = hitsN (l.l.take i) (z.evt e) ∧ hs.length ≤ i) (fun (i : Nat) (A : Option Addr) (c : Nat) (hs : List Sp) => l.q - i) 0 none 0 [] (by repeat (first | exact kf_nil | (apply kf_in; focus rfl) | (apply kf_out; focus rfl))) (by repeat (first | exact kl_nil | exact kl_rest (by assumption) rfl | (apply kl_in; focus rfl) | (apply kl_out; focus rfl))) ?_ ?_ ?_ ?_
      · exact ⟨by omega, rfl, Nat.le_refl _⟩
      · exact ⟨rfl, rfl, trivial⟩
      · exact ⟨rfl, rfl, by rw [show (clA (l.l.take 0) (z.evt e)).fa.l.map frRow = z.rs from hz3.symm]; rfl, rfl, rfl, rfl, trivial⟩
      rintro i A c hs ⟨hp1, hp2, hp3⟩
      refine T_seq ?_
      refine T_region ?_
      refine S_ 31 rfl rfl rfl _ (y_bin rfl rfl rfl (fun _ => b_lss)) ?_
      refine S_go (fun _ _ h => h) ?_
      refine T_seq ?_
      refine T_cond rfl (fun h31 => ?_) (fun h31 => ?_)
      · try simp only [decide_eq_true_eq, decide_eq_false_iff_not, Bool.or_eq_true, Bool.or_eq_false_iff, Bool.and_eq_true, Bool.and_eq_false_iff, Bool.not_eq_true', Bool.not_eq_false', Bool.not_eq_true, Bool.not_eq_false, Bool.not_true, Bool.not_false, Int.not_lt, Int.not_le, not_or, not_and, Classical.not_not] at h31
        obtain ⟨x, hx1, hx2⟩ := hl.ok.t.at (i := i) (by omega)
        have hnx : clA (l.l.take (i + 1)) (z.evt e) = clE x (clA (l.l.take i) (z.evt e)) := clA_take hx1
        have hxn : x.nm.length ≤ 1000000 := by have := (rul_of hrl hm x (mem_at hx1)).2; omega
        have hht := hits_take (e := z.evt e) hx1
        refine T_skip_go (fun _ _ h => h) ?_
        refine T_seq ?_
        refine T_block ?_
        refine T_seq ?_
        refine T_region ?_
        refine S_ 32 rfl rfl rfl _ (y_move rfl rfl) ?_
        refine S_ 33 rfl rfl rfl _ (y_indexAddr rfl rfl rfl Tryz.underlying40 sz43 (fun hg => hl.ok.t.isSome (by omega)) (fun _ => by omega)) ?_
        refine S_ 34 rfl rfl rfl _ (y_loadT rfl rfl hl.ok.t (fun _ => rfl) (fun _ => hx1) Tryz.underlying43 rfl sz43) ?_
        refine S_alloc 11 11 rfl rfl rfl rfl z43 ?_
        intro b11
        refine S_ 10 rfl rfl rfl _ (y_assign rfl rfl) ?_
        refine S_store 11 rfl rfl rfl rfl rfl rfl sz43 rfl rfl ?_
        refine S_go (fun _ _ h => h) ?_
        refine T_seq ?_
        refine T_region ?_
        refine S_ 35 rfl rfl rfl _ (y_loadA 11 rfl rfl rfl Tryz.underlying43 rfl sz43) ?_
        refine S_callN 36 [] [(1, 901), (5, 905)] (X := ClrX) rfl rfl rfl rfl rfl rfl rfl cf77 rfl (fun y => selfP y.c) (fun y => FindF x y.b y.g y.cap) (fun y => [(1, rulBox y.b x), (5, clrBox y.c y.g y.cap 0)]) (fun _ => rfl) (fun _ => rfl) (fun K1 hK1 w hM => newClearing_any hK1 x (hm x (mem_at hx1)) w hM) ?_
        rintro y hy
        refine S_ 12 rfl rfl rfl _ (y_assign rfl rfl) ?_
        refine S_go (fun _ _ h => h) ?_
        refine T_seq ?_
        refine T_region ?_
        refine S_ 37 rfl rfl rfl _ (y_loadA 11 rfl rfl rfl Tryz.underlying43 rfl sz43) ?_
        refine S_ 38 rfl rfl rfl _ (y_move rfl rfl) ?_
        refine S_callM 39 [(0, 905), (1, 901), (2, 2), (908, 908), (900, 900), (935, 935), (939, 939)] (X := Unit) rfl rfl rfl rfl rfl rfl rfl cf78 rfl (fun _ => .tuple #[]) (fun _ => True) (fun _ => [(0, clrBox y.c y.g y.cap (cnE x (clA (l.l.take i) (z.evt e)) : Nat)), (1, rulBox y.b x)] ++ evL b2 (clA (l.l.take (i + 1)) (z.evt e))) (fun _ => rfl) (fun _ => rfl) (fun K1 hK1 w hM => by rw [hnx]; exact Rclear_any hK1 x y.b y.c b2 y.g y.cap hy (clA (l.l.take i) (z.evt e)) (hle1.clA (l.l.take i)) hxn (DisF.clA (l.l.take i) hz4) w hM) ?_
        intro _ _
        refine S_go (fun _ _ h => h) ?_
        refine T_seq ?_
        refine T_region ?_
        refine S_ 40 rfl rfl rfl _ (y_move rfl rfl) ?_
        refine S_ 41 rfl rfl rfl _ (y_nilCheck rfl rfl) ?_
        refine S_ 42 rfl rfl rfl _ (y_fieldAddr rfl rfl fa132_2) ?_
        refine S_ 43 rfl rfl rfl _ (y_load 905 rfl rfl rfl rfl Tryz.underlying3 rfl) ?_
        refine S_ 44 rfl rfl rfl _ (y_bin rfl rfl rfl (fun _ => b_gtr)) ?_
        refine S_go (fun _ _ h => h) ?_
        refine T_cond rfl (fun h44 => ?_) (fun h44 => ?_)
        · try simp only [decide_eq_true_eq, decide_eq_false_iff_not, Bool.or_eq_true, Bool.or_eq_false_iff, Bool.and_eq_true, Bool.and_eq_false_iff, Bool.not_eq_true', Bool.not_eq_false', Bool.not_eq_true, Bool.not_eq_false, Bool.not_true, Bool.not_false, Int.not_lt, Int.not_le, not_or, not_and, Classical.not_not] at h44
          rw [if_pos (by omega)] at hht
          refine T_region ?_
          refine S_ 45 rfl rfl rfl _ (y_move rfl rfl) ?_
          refine S_ 46 rfl rfl rfl _ (y_move rfl rfl) ?_
          refine S_ 47 rfl rfl rfl _ (y_move rfl rfl) ?_
          refine S_ 48 rfl rfl rfl _ (y_nilCheck rfl rfl) ?_
          refine S_ 49 rfl rfl rfl _ (y_fieldAddr rfl rfl fa132_2) ?_
          refine S_ 50 rfl rfl rfl _ (y_load 905 rfl rfl rfl rfl Tryz.underlying3 rfl) ?_
          refine S_ 51 rfl rfl rfl _ (y_build (zv := .agg #[.int .i64 0, .int .i64 0]) (pl := [(0, 1), (1, 1)]) (out := [_, _]) rfl rfl Tryz.underlying134 z134 (by kernel_rfl) rfl) ?_
          refine S_buildSlice 52 52 rfl rfl rfl rfl rfl Tryz.underlying44 inf134 rfl (by decide) (by decide) rfl rfl (by decide) rfl (_) rfl ?_
          intro b52
          obtain ⟨i53, hi53, hz53, hs53, hy53⟩ := info_parts inf134
          refine S_append 53 909 52 rfl rfl rfl rfl rfl rfl rfl rfl Tryz.underlying44 hi53 hz53 hs53 hy53 rfl (by decide) (by decide) rfl ?_ ?_ ((hs ++ [(i, cnE x (clA (l.l.take i) (z.evt e)))]).length) ((hs ++ [(i, cnE x (clA (l.l.take i) (z.evt e)))]).flatMap spE) ?_ ?_ ?_
          · (simp only [maxLen]; omega)
          · omega
          · rw [List.length_append]; rfl
          · rw [List.flatMap_append]; rfl
          intro A53 c53
          refine S_ 9 rfl rfl rfl _ (y_assign rfl rfl) ?_
          refine S_go (fun _ _ h => h) ?_
          refine T_region ?_
          refine S_ 54 rfl rfl rfl _ (y_bin rfl rfl rfl (fun hg => b_add (by omega))) ?_
          refine S_ 30 rfl rfl rfl _ (y_move rfl rfl) ?_
          refine S_nil (nextK4 (kf := [(9, 12), (30, 54)]) (kl := [(2, 2), (9, 12), (30, 54), (900, 900), (908, 909), (935, 935), (939, 939)]) (i + 1) A53 c53 (hs ++ [(i, cnE x (clA (l.l.take i) (z.evt e)))]) (by repeat (first | exact kf_nil | (apply kf_in; focus rfl) | (apply kf_out; focus rfl))) (by refine ks_go ?_; repeat (first | exact ks_nil | exact ks_tail (by assumption) rfl (by repeat (first | exact ti_refl | (apply ti_cons; focus rfl))) | refine ks_dup rfl ?_ | refine ks_cons rfl rfl ?_)) ?_ ?_ ?_ ?_)
          · omega
          · exact ⟨by omega, by rw [List.length_append, List.length_singleton]; omega, by rw [List.length_append, List.length_singleton]; omega⟩
          · exact ⟨rfl, rfl, trivial⟩
          · exact ⟨rfl, rfl, rfl, rfl, rfl, rfl, trivial⟩
        · try simp only [decide_eq_true_eq, decide_eq_false_iff_not, Bool.or_eq_true, Bool.or_eq_false_iff, Bool.and_eq_true, Bool.and_eq_false_iff, Bool.not_eq_true', Bool.not_eq_false', Bool.not_eq_true, Bool.not_eq_false, Bool.not_true, Bool.not_false, Int.not_lt, Int.not_le, not_or, not_and, Classical.not_not] at h44
          rw [if_neg (by omega)] at hht
          refine T_skip_go (fun _ _ h => h) ?_
          refine T_region ?_
          refine S_ 54 rfl rfl rfl _ (y_bin rfl rfl rfl (fun hg => b_add (by omega))) ?_
          refine S_ 30 rfl rfl rfl _ (y_move rfl rfl) ?_
          refine S_nil (nextK4 (kf := [(9, 12), (30, 54)]) (kl := [(2, 2), (9, 12), (30, 54), (900, 900), (908, 909), (935, 935), (939, 939)]) (i + 1) A c hs (by repeat (first | exact kf_nil | (apply kf_in; focus rfl) | (apply kf_out; focus rfl))) (by refine ks_go ?_; repeat (first | exact ks_nil | exact ks_tail (by assumption) rfl (by repeat (first | exact ti_refl | (apply ti_cons; focus rfl))) | refine ks_dup rfl ?_ | refine ks_cons rfl rfl ?_)) ?_ ?_ ?_ ?_)
          · omega
          · exact ⟨by omega, by omega, by omega⟩
          · exact ⟨rfl, rfl, trivial⟩
          · exact ⟨rfl, rfl, rfl, rfl, rfl, rfl, trivial⟩
      · try simp only [decide_eq_true_eq, decide_eq_false_iff_not, Bool.or_eq_true, Bool.or_eq_false_iff, Bool.and_eq_true, Bool.and_eq_false_iff, Bool.not_eq_true', Bool.not_eq_false', Bool.not_eq_true, Bool.not_eq_false, Bool.not_true, Bool.not_false, Int.not_lt, Int.not_le, not_or, not_and, Classical.not_not] at h31
        rw [show l.l.take i = l.l from List.take_of_length_le (by omega)]
        rw [show l.l.take i = l.l from List.take_of_length_le (by omega)] at hp2
        refine T_exit_go (fun _ _ h => h) ?_
        refine T_seq ?_
        refine T_seq ?_
        refine T_region ?_
        refine S_ 55 rfl rfl rfl _ (y_loadA 2 rfl rfl rfl Tryz.underlying29 rfl sz29) ?_
        refine S_ 56 rfl rfl rfl _ (y_call rfl rfl rfl cf44 (fun _ w hM => Check_any (clA l.l (z.evt e)) w (evOk_of hoc (hM.sat 908 _ rfl) (hM.sat 900 _ rfl) (hM.sat 935 _ rfl) (hM.sat 939 _ rfl)))) ?_
        refine S_ 13 rfl rfl rfl _ (y_assign rfl rfl) ?_
        refine S_go (fun _ _ h => h) ?_
        refine T_seq ?_
        refine T_region ?_
        refine S_ 57 rfl rfl rfl _ (y_move rfl rfl) ?_
        refine S_ 58 rfl rfl rfl _ (y_bin rfl rfl rfl (fun _ => b_neq)) ?_
        refine S_go (fun _ _ h => h) ?_
        refine T_cond rfl (fun h58 => ?_) (fun h58 => ?_)
        · try simp only [decide_eq_true_eq, decide_eq_false_iff_not, Bool.or_eq_true, Bool.or_eq_false_iff, Bool.and_eq_true, Bool.and_eq_false_iff, Bool.not_eq_true', Bool.not_eq_false', Bool.not_eq_true, Bool.not_eq_false, Bool.not_true, Bool.not_false, Int.not_lt, Int.not_le, not_or, not_and, Classical.not_not] at h58
          refine T_seq ?_
          refine T_region ?_
          refine S_ 59 rfl rfl rfl _ (y_build (zv := .agg #[.string ⟨#[]⟩, .int .i64 0, .int .i64 0, .slice none 0 0, .slice none 0 0, .slice none 0 0, .string ⟨#[]⟩, .string ⟨#[]⟩, .int .i64 0]) (pl := [(0, 1), (1, 1), (2, 1), (3, 1), (4, 1), (5, 1), (6, 1), (7, 1), (8, 1)]) (out := [.string ⟨#[]⟩, .int .i64 0, .int .i64 0, .slice none 0 0, .slice none 0 0, .slice none 0 0, .string ⟨#[]⟩, .string ⟨#[]⟩, .int .i64 0]) rfl rfl Tryz.underlying29 z29 (by kernel_rfl) rfl) ?_
          refine S_ 60 rfl rfl rfl _ (y_move rfl rfl) ?_
          refine S_store 4 rfl rfl rfl rfl rfl rfl sz29 rfl rfl ?_
          refine S_nilSlice 5 (e := 134) (size := 2) ?_
          refine S_ 5 rfl rfl rfl _ (y_assign rfl rfl) ?_
          refine S_ 6 rfl rfl rfl _ (y_assign rfl rfl) ?_
          refine S_go (fun _ _ h => h) ?_
          refine T_ret (fun a w hF hM => hRb a w (post_cell2 4 rfl rfl rfl rfl rfl Tryz.underlying29 rfl (by exact sz29) (fun w hM => ?_) a w hF hM))
          exact ⟨⟨evZM, none, 0, 0, evNo (clA l.l (z.evt e)), (clA l.l (z.evt e)).fa.l.map frRow⟩, rfl, ⟨fun h => absurd h h58, fun _ _ h => absurd (h _ hce hfe) h58⟩, hM.keep (ks := [(0, 999)]) (by repeat (first | exact kl_rest (by assumption) rfl | (apply kl_in; focus rfl))) _ ⟨rfl, trivial⟩⟩
        · try simp only [decide_eq_true_eq, decide_eq_false_iff_not, Bool.or_eq_true, Bool.or_eq_false_iff, Bool.and_eq_true, Bool.and_eq_false_iff, Bool.not_eq_true', Bool.not_eq_false', Bool.not_eq_true, Bool.not_eq_false, Bool.not_true, Bool.not_false, Int.not_lt, Int.not_le, not_or, not_and, Classical.not_not] at h58
          refine T_skip_go (fun _ _ h => h) ?_
          refine T_seq ?_
          refine T_region ?_
          refine S_bank [(908, 908), (900, 900)] 900 908 rfl rfl rfl rfl (by repeat (first | exact kl_nil | exact kl_rest (by assumption) rfl | (apply kl_in; focus rfl) | (apply kl_out; focus rfl))) ?_
          refine S_bank [(935, 935), (900, 900)] 900 935 rfl rfl rfl rfl (by repeat (first | exact kl_nil | exact kl_rest (by assumption) rfl | (apply kl_in; focus rfl) | (apply kl_out; focus rfl))) ?_
          refine S_bank [(939, 939), (900, 900)] 900 939 rfl rfl rfl rfl (by repeat (first | exact kl_nil | exact kl_rest (by assumption) rfl | (apply kl_in; focus rfl) | (apply kl_out; focus rfl))) ?_
          refine S_ 61 rfl rfl rfl _ (y_loadA 2 rfl rfl rfl Tryz.underlying29 rfl sz29) ?_
          refine S_ 62 rfl rfl rfl _ (y_move rfl rfl) ?_
          refine S_store 4 rfl rfl rfl rfl rfl rfl sz29 rfl rfl ?_
          refine S_ 5 rfl rfl rfl _ (y_assign rfl rfl) ?_
          refine S_ 6 rfl rfl rfl _ (y_assign rfl rfl) ?_
          refine S_go (fun _ _ h => h) ?_
          refine T_ret (fun a w hF hM => hRb a w (post_cell2 4 rfl rfl rfl rfl rfl Tryz.underlying29 rfl (by exact sz29) (fun w hM => ?_) a w hF hM))
          exact ⟨⟨clA l.l (z.evt e), A, hs.length, c, 0, rsEv (clA l.l (z.evt e))⟩, rfl, ⟨fun _ => ⟨z.evt e, hce, hfe, rfl, h17, h23, h58, hp2, sees_ev hoc⟩, fun _ _ _ => rfl⟩, hM.keep (ks := [(0, 999)]) (by repeat (first | exact kl_rest (by assumption) rfl | (apply kl_in; focus rfl))) _ ⟨rfl, trivial⟩⟩
end Go.Proofs.YtfmbgaaonfgenaaGreatDoor
end
section
namespace Go.Proofs.YtfmbgaaonfgenaaGreatDoor
set_option linter.unusedSimpArgs false
set_option linter.unusedVariables false
set_option maxRecDepth 20000
open Go.RowKit Go.Eng
theorem awakeMasks_any (w : World) (hT : TzTab w) :
    Calls Tryz.prog 14 #[] w fun e w' => e = .returned (.bool true) ∧ Below w.heap.size w w' := by
  refine enter_args (args := []) (F := _) Tryz.func14 rfl Tryz.ntmps14 rfl rfl ?_
  intro Rb hRb hRn
  refine T_seq ?_
  refine T_region ?_
  refine S_ 0 rfl rfl rfl _ (y_assign rfl rfl) ?_
  refine S_go (fun _ _ h => h) ?_
  refine T_seq ?_
  refine T_region ?_
  refine S_ 1 rfl rfl rfl _ (y_call rfl rfl rfl cf74 (fun _ w hM => Sum_any [] (by decide) w (hT.below hM.below))) ?_
  refine S_ 2 rfl rfl rfl _ (y_bin rfl rfl rfl (fun _ => b_eqls)) ?_
  refine S_ 0 rfl rfl rfl _ (y_assign rfl rfl) ?_
  refine S_go (fun _ _ h => h) ?_
  refine T_ret (fun a w hF hM => hRb a w (post1 rfl rfl (fun w hM => ?_) a w hF hM))
  exact ⟨by kernel_rfl, hM.below⟩
/-- the rules that the law takes, made to mask -/
def setM (r : SRl) : SRl := ⟨r.wh, r.nm, r.fd, r.ls, r.tx, 2⟩
def tkM (r : SRl) : Bool := decide (2 ≤ r.fd) && decide (r.fd ≤ 4)
def mskL (l : List SRl) : List SRl := (l.filter tkM).map setM
theorem mskL_snoc {l : List SRl} {i : Nat} {x : SRl} (hx : l[i]? = some x) : mskL (l.take (i + 1)) = mskL (l.take i) ++ if tkM x = true then [setM x] else [] := by
  rw [mskL, mskL, List.take_add_one, hx, List.filter_append, List.map_append]
  congr 1
  show List.map setM (List.filter tkM [x]) = _
  rw [List.filter_cons]
  split <;> simp
theorem mskL_ok {l : List SRl} : ∀ r ∈ mskL l, MskR r := by
  intro r hr
  obtain ⟨y, hy, rfl⟩ := List.mem_map.1 hr
  have := (List.mem_filter.1 hy).2
  simp only [tkM, Bool.and_eq_true, decide_eq_true_eq] at this
  refine ⟨?_, rfl⟩
  show y.fd = 2 ∨ y.fd = 3 ∨ y.fd = 4
  omega
theorem mskL_len {w : World} {l : Sl SRl} (h : RlsOk w l) : ∀ r ∈ mskL l.l, r.nm.length ≤ 4611686018427387904 ∧ r.tx.length ≤ 4611686018427387904 := by
  intro r hr
  obtain ⟨y, hy, rfl⟩ := List.mem_map.1 hr
  exact h.n y (List.mem_filter.1 hy).1
theorem cnE_cont {a b : Evt} (h : ContE a b) (r : SRl) (h0 : cnE r b = 0) : cnE r a = 0 := by
  obtain ⟨h2, h3, h4, h5⟩ := cnE_parts.1 h0
  refine cnE_parts.2 ⟨by rw [h.ta]; exact h2, by rw [h.cr]; exact h3, by rw [h.us]; exact h4, fun f hf => ?_⟩
  obtain ⟨g, hg, he⟩ := cont_mem h f hf
  have hh := h5 g hg
  simp only [Flt.cont, Prod.mk.injEq] at he
  obtain ⟨_, ht, hl⟩ := he
  unfold cnF cnX at hh ⊢
  rw [ht, hl]; exact hh
theorem ContE.symm {a b : Evt} (h : ContE a b) : ContE b a := ⟨h.id.symm, h.at_.symm, h.lv.symm, h.rel.symm, h.us.symm, h.wt.symm, h.fa.symm, h.fq.symm, h.ta.symm, h.tq.symm, h.cr.symm, h.cq.symm⟩
theorem map_atM {α β γ : Type} {f : α → γ} {g : β → γ} {l : List α} {m : List β} {i : Nat} {x : α} (h : l.map f = m.map g) (hx : l[i]? = some x) : ∃ y, m[i]? = some y ∧ f x = g y := by
  have : (m.map g)[i]? = some (f x) := by rw [← h, List.getElem?_map, hx]; rfl
  rw [List.getElem?_map] at this
  obtain ⟨y, hy, he⟩ := Option.map_eq_some_iff.1 this
  exact ⟨y, hy, he.symm⟩
/-- the second time -/
theorem again_M {w1 w2 : World} {e v : Evt} {l l2 : Sl SRl} {z z2 : ClrR} (hl : l2.l = l.l) (hq : l2.q = l.q) (hm : ∀ r ∈ l.l, MskR r) (hv : v = z.ev) (ho : OkE v) (h1 : ClrP w1 e l z) (h2 : ClrP w2 v l2 z2) (h0 : z.no = 0) :
    z2.no = 0 ∧ ContE z2.ev v ∧ z2.q = 0 ∧ v.fa.l.map headF = e.fa.l.map headF ∧ v.us.length = e.us.length := by
  subst hv
  obtain ⟨e1, hc1, hf1, hev, hn, hcl, hnv, _, _⟩ := h1.1 h0
  have hrl : fstL rlNo l.l = 0 := by
    unfold clearNo at hcl
    split at hcl
    · cases hcl
    · exact hcl
  have hqt : ∀ r ∈ l.l, cnE r z.ev = 0 := by
    rw [hev]
    exact clA_quiet l.l e1 fun r hr => (rul_of hrl hm r hr).1
  have hcl2 : clearNo l2 = 0 := by rw [clearNo, hq, hl]; exact hcl
  have h20 : z2.no = 0 := h2.2 hnv hcl2 fun e2 hc hf => by
    rw [hl, (quiet_again l.l e2 fun r hr => cnE_cont hc r (hqt r hr)).1, evNo_same hc hf ho.fit]; exact hnv
  obtain ⟨e2, hc2, _, hev2, _, _, _, hq2, _⟩ := h2.1 h20
  have hqa := quiet_again l.l e2 fun r hr => cnE_cont hc2 r (hqt r hr)
  rw [hl] at hev2 hq2
  rw [hqa.1] at hev2
  rw [hqa.2] at hq2
  have hhd := clA_head l.l e1
  refine ⟨h20, by rw [hev2]; exact hc2, hq2, by rw [hev, hhd.1, cont_head hc1], by rw [hev, hhd.2, hc1.us]⟩
set_option maxHeartbeats 1600000 in
theorem EventMasks_any (e : Evt) (l : Sl SRl) (w : World) (he : e.Ok w) (hl : RlsOk w l) (hlb : l.q * 64 ≤ 140737488351232) (hT : TzTab w) :
    Calls Tryz.prog 4 #[e.val, .slice l.A l.q l.c] w fun en w' => en = .returned (.bool true) ∧ Below w.heap.size w w' := by
  have hll := hl.ok.t.len
  refine enter_args (args := [.agg #[str e.id, .int .i64 e.at_, .int .i64 e.lv, .slice e.fa.A e.fa.q e.fa.c, .slice e.ta.A e.ta.q e.ta.c, .slice e.cr.A e.cr.q e.cr.c, str e.rel, str e.us, .int .i64 e.wt], .slice l.A l.q l.c]) (F := _) Tryz.func4 rfl Tryz.ntmps4 rfl rfl ?_
  intro Rb hRb hRn
  refine T_seq ?_
  refine T_region ?_
  refine S_box 2 2 rfl rfl rfl rfl rfl ?_
  intro b2
  refine S_ 4 rfl rfl rfl _ (y_assign rfl rfl) ?_
  refine S_go (fun _ _ h => h) ?_
  refine T_seq ?_
  refine T_seq ?_
  refine T_region ?_
  refine S_ 15 rfl rfl rfl _ (y_call rfl rfl rfl cf14 (fun _ w hM => awakeMasks_any w (hT.below hM.below))) ?_
  refine S_ 16 rfl rfl rfl _ (y_not rfl rfl) ?_
  refine S_go (fun _ _ h => h) ?_
  refine T_cond rfl (fun h16 => ?_) (fun h16 => ?_)
  · skip
    cases h16
  · skip
    refine T_skip_go (fun _ _ h => h) ?_
    refine T_seq ?_
    refine T_region ?_
    refine S_nilSlice 905 (e := 43) (size := 6) ?_
    refine S_nilSlice 5 (e := 43) (size := 6) ?_
    refine S_ 5 rfl rfl rfl _ (y_assign rfl rfl) ?_
    refine S_go (fun _ _ h => h) ?_
    refine T_seq ?_
    refine T_seq ?_
    refine T_region ?_
    refine S_ 17 rfl rfl rfl _ (y_move rfl rfl) ?_
    refine S_ 18 rfl rfl rfl _ (y_len_slice rfl rfl Tryz.underlying40) ?_
    refine S_ 19 rfl rfl rfl _ (y_move rfl rfl) ?_
    refine S_go (fun _ _ h => h) ?_
    refine T_block ?_
    refine T_loopK4 (kf := [(5, 5), (7, 7), (19, 36)]) (kl := [(5, 5), (7, 7), (19, 36), (905, 905)]) (fun (i : Nat) (A : Option Addr) (c : Nat) (out : List SRl) => [(19, true, .int .i64 (i : Int)), (5, true, .slice A out.length c)]) (fun (i : Nat) (A : Option Addr) (c : Nat) (out : List SRl) => [(905, .own 43 6 (.slice A out.length c) out.length (out.flatMap SRl.enc))]) (fun (i : Nat) (A : Option Addr) (c : Nat) (out : List SRl) => i ≤ l.q ∧ out = mskL (l.l.take i) ∧ out.length ≤ i) (fun (i : Nat) (A : Option Addr) (c : Nat) (out : List SRl) => l.q - i) 0 none 0 [] (by repeat (first | exact kf_nil | (apply kf_in; focus rfl) | (apply kf_out; focus rfl))) (by repeat (first | exact kl_nil | exact kl_rest (by assumption) rfl | (apply kl_in; focus rfl) | (apply kl_out; focus rfl))) ?_ ?_ ?_ ?_
    · exact ⟨by omega, rfl, Nat.le_refl _⟩
    · exact ⟨rfl, rfl, trivial⟩
    · exact ⟨rfl, trivial⟩
    rintro i A c out ⟨hp1, hp2, hp3⟩
    refine T_seq ?_
    refine T_region ?_
    refine S_ 20 rfl rfl rfl _ (y_bin rfl rfl rfl (fun _ => b_lss)) ?_
    refine S_go (fun _ _ h => h) ?_
    refine T_seq ?_
    refine T_cond rfl (fun h20 => ?_) (fun h20 => ?_)
    · try simp only [decide_eq_true_eq, decide_eq_false_iff_not, Bool.or_eq_true, Bool.or_eq_false_iff, Bool.and_eq_true, Bool.and_eq_false_iff, Bool.not_eq_true', Bool.not_eq_false', Bool.not_eq_true, Bool.not_eq_false, Bool.not_true, Bool.not_false, Int.not_lt, Int.not_le, not_or, not_and, Classical.not_not] at h20
      obtain ⟨x, hx1, hx2⟩ := hl.ok.t.at (i := i) (by omega)
      have hsn := mskL_snoc hx1
      refine T_skip_go (fun _ _ h => h) ?_
      refine T_seq ?_
      refine T_block ?_
      refine T_seq ?_
      refine T_region ?_
      refine S_ 21 rfl rfl rfl _ (y_indexAddr rfl rfl rfl Tryz.underlying40 sz43 (fun hg => hl.ok.t.isSome (by omega)) (fun _ => by omega)) ?_
      refine S_ 22 rfl rfl rfl _ (y_loadT rfl rfl hl.ok.t (fun _ => rfl) (fun _ => hx1) Tryz.underlying43 rfl sz43) ?_
      refine S_alloc 7 7 rfl rfl rfl rfl z43 ?_
      intro b7
      refine S_store 7 rfl rfl rfl rfl rfl rfl sz43 rfl rfl ?_
      refine S_go (fun _ _ h => h) ?_
      refine T_seq ?_
      refine T_region ?_
      refine S_ 23 rfl rfl rfl _ (y_fieldAddr rfl rfl fa43_2) ?_
      refine S_ 24 rfl rfl rfl _ (y_load 7 rfl rfl rfl rfl Tryz.underlying3 rfl) ?_
      refine S_ 25 rfl rfl rfl _ (y_bin rfl rfl rfl (fun _ => b_geq)) ?_
      refine S_ 26 rfl rfl rfl _ (y_move rfl rfl) ?_
      refine Sg_ 27 rfl rfl rfl rfl rfl rfl _ (y_fieldAddr rfl rfl fa43_2) ?_
      refine Sg_ 28 rfl rfl rfl rfl rfl rfl _ (y_load 7 rfl rfl rfl rfl Tryz.underlying3 rfl) ?_
      refine Sg_ 29 rfl rfl rfl rfl rfl rfl _ (y_bin rfl rfl rfl (fun _ => b_leq)) ?_
      refine S_ 30 rfl rfl rfl _ (y_and rfl rfl rfl) ?_
      refine S_go (fun _ _ h => h) ?_
      refine T_cond rfl (fun h30 => ?_) (fun h30 => ?_)
      · skip
        have h30 : tkM x = true := by simpa [tkM] using h30
        rw [if_pos h30] at hsn
        refine T_seq ?_
        refine T_region ?_
        refine S_ 31 rfl rfl rfl _ (y_fieldAddr rfl rfl fa43_5) ?_
        refine S_store 7 rfl rfl rfl rfl rfl rfl sz3 rfl rfl ?_
        refine S_go (fun _ _ h => h) ?_
        refine T_region ?_
        refine S_ 32 rfl rfl rfl _ (y_move rfl rfl) ?_
        refine S_ 33 rfl rfl rfl _ (y_loadA 7 rfl rfl rfl Tryz.underlying43 rfl sz43) ?_
        refine S_buildSlice 34 34 rfl rfl rfl rfl rfl Tryz.underlying40 inf43 rfl (by decide) (by decide) rfl rfl (by decide) rfl (_) rfl ?_
        intro b34
        obtain ⟨i35, hi35, hz35, hs35, hy35⟩ := info_parts inf43
        refine S_append 35 905 34 rfl rfl rfl rfl rfl rfl rfl rfl Tryz.underlying40 hi35 hz35 hs35 hy35 rfl (by decide) (by decide) rfl ?_ ?_ ((out ++ [setM x]).length) ((out ++ [setM x]).flatMap SRl.enc) ?_ ?_ ?_
        · (simp only [maxLen]; omega)
        · omega
        · rw [List.length_append]; rfl
        · rw [List.flatMap_append]; rfl
        intro A35 c35
        refine S_ 5 rfl rfl rfl _ (y_assign rfl rfl) ?_
        refine S_go (fun _ _ h => h) ?_
        refine T_region ?_
        refine S_ 36 rfl rfl rfl _ (y_bin rfl rfl rfl (fun hg => b_add (by omega))) ?_
        refine S_ 19 rfl rfl rfl _ (y_move rfl rfl) ?_
        refine S_nil (nextK4 (kf := [(5, 5), (7, 7), (19, 36)]) (kl := [(5, 5), (7, 7), (19, 36), (905, 905)]) (i + 1) A35 c35 (out ++ [setM x]) (by repeat (first | exact kf_nil | (apply kf_in; focus rfl) | (apply kf_out; focus rfl))) (by repeat (first | exact kl_nil | exact kl_rest (by assumption) rfl | (apply kl_in; focus rfl) | (apply kl_out; focus rfl))) ?_ ?_ ?_ ?_)
        · omega
        · exact ⟨by omega, by rw [hsn, ← hp2], by rw [List.length_append, List.length_singleton]; omega⟩
        · exact ⟨rfl, rfl, trivial⟩
        · exact ⟨rfl, trivial⟩
      · skip
        have h30 : ¬ tkM x = true := by simpa [tkM] using h30
        rw [if_neg h30, List.append_nil] at hsn
        refine T_skip_go (fun _ _ h => h) ?_
        refine T_region ?_
        refine S_ 36 rfl rfl rfl _ (y_bin rfl rfl rfl (fun hg => b_add (by omega))) ?_
        refine S_ 19 rfl rfl rfl _ (y_move rfl rfl) ?_
        refine S_nil (nextK4 (kf := [(5, 5), (7, 7), (19, 36)]) (kl := [(5, 5), (7, 7), (19, 36), (905, 905)]) (i + 1) A c out (by repeat (first | exact kf_nil | (apply kf_in; focus rfl) | (apply kf_out; focus rfl))) (by repeat (first | exact kl_nil | exact kl_rest (by assumption) rfl | (apply kl_in; focus rfl) | (apply kl_out; focus rfl))) ?_ ?_ ?_ ?_)
        · omega
        · exact ⟨by omega, by rw [hsn]; exact hp2, by omega⟩
        · exact ⟨rfl, rfl, trivial⟩
        · exact ⟨rfl, trivial⟩
    · try simp only [decide_eq_true_eq, decide_eq_false_iff_not, Bool.or_eq_true, Bool.or_eq_false_iff, Bool.and_eq_true, Bool.and_eq_false_iff, Bool.not_eq_true', Bool.not_eq_false', Bool.not_eq_true, Bool.not_eq_false, Bool.not_true, Bool.not_false, Int.not_lt, Int.not_le, not_or, not_and, Classical.not_not] at h20
      have hout : out = mskL l.l := by rw [hp2, List.take_of_length_le (by omega)]
      have hmk : ∀ r ∈ out, MskR r := by rw [hout]; exact mskL_ok
      refine T_exit_go (fun _ _ h => h) ?_
      refine T_seq ?_
      refine T_region ?_
      refine S_rebase fun w1 hM1 => ?_
      have hb1 := hM1.below
      have he1 := he.below hb1
      have C2 := hM1.box_cells 2 rfl
      have hrs : RlsOk w1 ⟨A, out.length, c, out⟩ := ⟨owned_ok hM1 (i := 905) rfl rfl, by show out.length ≤ _; omega, by show ∀ r ∈ out, _; rw [hout]; exact mskL_len hl⟩
      refine S_ 38 rfl rfl rfl _ (y_loadA_far rfl rfl C2.1 C2.2 Tryz.underlying29 rfl sz29) ?_
      refine S_ 39 rfl rfl rfl _ (y_move rfl rfl) ?_
      refine S_callN 40 [] [(900, 900)] (X := ClrR) rfl rfl rfl rfl rfl rfl rfl cf15 rfl (fun z => .tuple #[z.ev.val, .slice z.A z.q z.c, .int .i64 z.no]) (fun z => ClrP w1 e ⟨A, out.length, c, out⟩ z) (fun z => [(900, .many z.rs)]) (fun _ => rfl) (fun _ => rfl) (fun K1 hK1 w2 hM => Clear_any hK1 e ⟨A, out.length, c, out⟩ w2 he1 hrs hmk hM) ?_
      rintro z hz1
      refine S_ 37 rfl rfl rfl _ (y_move rfl rfl) ?_
      refine S_ 41 rfl rfl rfl _ (y_extract rfl rfl rfl) ?_
      refine S_ 42 rfl rfl rfl _ (y_extract rfl rfl rfl) ?_
      refine S_ 43 rfl rfl rfl _ (y_extract rfl rfl rfl) ?_
      refine S_alloc 8 8 rfl rfl rfl rfl z29 ?_
      intro b8
      refine S_store 8 rfl rfl rfl rfl rfl rfl sz29 rfl rfl ?_
      refine S_ 9 rfl rfl rfl _ (y_assign rfl rfl) ?_
      refine S_ 10 rfl rfl rfl _ (y_assign rfl rfl) ?_
      refine S_go (fun _ _ h => h) ?_
      refine T_seq ?_
      refine T_seq ?_
      refine T_region ?_
      refine S_ 44 rfl rfl rfl _ (y_move rfl rfl) ?_
      refine S_ 45 rfl rfl rfl _ (y_bin rfl rfl rfl (fun _ => b_neq)) ?_
      refine S_go (fun _ _ h => h) ?_
      refine T_cond rfl (fun h45 => ?_) (fun h45 => ?_)
      · try simp only [decide_eq_true_eq, decide_eq_false_iff_not, Bool.or_eq_true, Bool.or_eq_false_iff, Bool.and_eq_true, Bool.and_eq_false_iff, Bool.not_eq_true', Bool.not_eq_false', Bool.not_eq_true, Bool.not_eq_false, Bool.not_true, Bool.not_false, Int.not_lt, Int.not_le, not_or, not_and, Classical.not_not] at h45
        refine T_seq ?_
        refine T_region ?_
        refine S_ 4 rfl rfl rfl _ (y_assign rfl rfl) ?_
        refine S_go (fun _ _ h => h) ?_
        refine T_ret (fun a w hF hM => hRb a w (post1 rfl rfl (fun w hM => ?_) a w hF hM))
        exact ⟨rfl, hb1.trans (hM.below.mono hb1.size)⟩
      · try simp only [decide_eq_true_eq, decide_eq_false_iff_not, Bool.or_eq_true, Bool.or_eq_false_iff, Bool.and_eq_true, Bool.and_eq_false_iff, Bool.not_eq_true', Bool.not_eq_false', Bool.not_eq_true, Bool.not_eq_false, Bool.not_true, Bool.not_false, Int.not_lt, Int.not_le, not_or, not_and, Classical.not_not] at h45
        refine T_skip_go (fun _ _ h => h) ?_
        refine T_seq ?_
        refine T_region ?_
        refine S_rebase fun w2 hM2 => ?_
        have hb2 := hM2.below
        obtain ⟨_, _, _, _, _, _, _, _, hsee⟩ := hz1.1 h45
        have hv := hsee.at hM2 900 rfl
        have C2b := cells_below C2 hb2
        have C8 := hM2.box_cells 8 rfl
        have hrs2 := hrs.below hb2
        have he2 := he1.below hb2
        refine S_ 47 rfl rfl rfl _ (y_loadA_far rfl rfl C8.1 C8.2 Tryz.underlying29 rfl sz29) ?_
        refine S_ 48 rfl rfl rfl _ (y_move rfl rfl) ?_
        refine S_callN 49 [] [(900, 900)] (X := ClrR) rfl rfl rfl rfl rfl rfl rfl cf15 rfl (fun z2 => .tuple #[z2.ev.val, .slice z2.A z2.q z2.c, .int .i64 z2.no]) (fun z2 => ClrP w2 z.ev ⟨A, out.length, c, out⟩ z2) (fun z2 => [(900, .many z2.rs)]) (fun _ => rfl) (fun _ => rfl) (fun K1 hK1 w3 hM => Clear_any hK1 z.ev ⟨A, out.length, c, out⟩ w3 hv hrs2 hmk hM) ?_
        rintro z2 hz2
        refine S_ 46 rfl rfl rfl _ (y_move rfl rfl) ?_
        refine S_ 50 rfl rfl rfl _ (y_extract rfl rfl rfl) ?_
        refine S_ 51 rfl rfl rfl _ (y_extract rfl rfl rfl) ?_
        refine S_ 52 rfl rfl rfl _ (y_extract rfl rfl rfl) ?_
        refine S_alloc 11 11 rfl rfl rfl rfl z29 ?_
        intro b11
        refine S_store 11 rfl rfl rfl rfl rfl rfl sz29 rfl rfl ?_
        refine S_ 12 rfl rfl rfl _ (y_assign rfl rfl) ?_
        refine S_ 10 rfl rfl rfl _ (y_assign rfl rfl) ?_
        refine S_go (fun _ _ h => h) ?_
        refine T_seq ?_
        refine T_seq ?_
        refine T_region ?_
        refine S_rebase fun w3 hM3 => ?_
        have hb3 := hM3.below
        obtain ⟨h20, hcv, hq0, hhd, hus⟩ := again_M (l2 := ⟨A, out.length, c, out⟩) rfl rfl hmk rfl (OkE.of hv) hz1 hz2 h45
        obtain ⟨_, _, _, _, _, _, _, _, hsee2⟩ := hz2.1 h20
        have hu := hsee2.at hM3 900 rfl
        have D2 := cells_below C2b hb3
        have D8 := cells_below C8 hb3
        have D11 := hM3.box_cells 11 rfl
        have hv3 := hv.below hb3
        have he3 := he2.below hb3
        have hsm := cont_sameM hcv.symm
        have hvl := hv3.fa.ok.t.len
        have hel := he3.fa.ok.t.len
        have hfq : z.ev.fa.q = e.fa.q := by have := congrArg List.length hhd; simp only [List.length_map] at this; omega
        have hvq := hv3.fa.q
        refine S_ 53 rfl rfl rfl _ (y_move rfl rfl) ?_
        refine S_ 54 rfl rfl rfl _ (y_bin rfl rfl rfl (fun _ => b_neq)) ?_
        refine S_ 55 rfl rfl rfl _ (y_move rfl rfl) ?_
        refine Sg_ 56 rfl rfl rfl rfl rfl rfl _ (y_move rfl rfl) ?_
        refine Sg_ 57 rfl rfl rfl rfl rfl rfl _ (y_len_slice rfl rfl Tryz.underlying44) ?_
        refine Sg_ 58 rfl rfl rfl rfl rfl rfl _ (y_bin rfl rfl rfl (fun _ => b_gtr)) ?_
        refine S_ 59 rfl rfl rfl _ (y_or rfl rfl rfl) ?_
        refine S_ 60 rfl rfl rfl _ (y_move rfl rfl) ?_
        refine Sg_ 61 rfl rfl rfl rfl rfl rfl _ (y_loadA_far rfl rfl D8.1 D8.2 Tryz.underlying29 rfl sz29) ?_
        refine Sg_ 62 rfl rfl rfl rfl rfl rfl _ (y_loadA_far rfl rfl D11.1 D11.2 Tryz.underlying29 rfl sz29) ?_
        refine Sg_ 63 rfl rfl rfl rfl rfl rfl _ (y_call rfl rfl rfl cf16 (fun _ w hM => Same_any z.ev z2.ev w (hv3.below hM.below) (hu.below hM.below))) ?_
        refine Sg_ 64 rfl rfl rfl rfl rfl rfl _ (y_not rfl rfl) ?_
        refine S_ 65 rfl rfl rfl _ (y_or rfl rfl rfl) ?_
        refine S_ 66 rfl rfl rfl _ (y_move rfl rfl) ?_
        refine Sg_ 67 rfl rfl rfl rfl rfl rfl _ (y_fieldAddr rfl rfl fa29_7) ?_
        refine Sg_ 68 rfl rfl rfl rfl rfl rfl _ (y_load_far rfl rfl (D8.1 7 _ rfl) D8.2 Tryz.underlying9 rfl) ?_
        refine Sg_ 69 rfl rfl rfl rfl rfl rfl _ (y_len_str rfl rfl Tryz.underlying9) ?_
        refine Sg_ 70 rfl rfl rfl rfl rfl rfl _ (y_fieldAddr rfl rfl fa29_7) ?_
        refine Sg_ 71 rfl rfl rfl rfl rfl rfl _ (y_load_far rfl rfl (D2.1 7 _ rfl) D2.2 Tryz.underlying9 rfl) ?_
        refine Sg_ 72 rfl rfl rfl rfl rfl rfl _ (y_len_str rfl rfl Tryz.underlying9) ?_
        refine Sg_ 73 rfl rfl rfl rfl rfl rfl _ (y_bin rfl rfl rfl (fun _ => b_neq)) ?_
        refine S_ 74 rfl rfl rfl _ (y_or rfl rfl rfl) ?_
        refine S_go (fun _ _ h => h) ?_
        refine T_cond rfl (fun h74 => ?_) (fun h74 => ?_)
        · skip
          rw [hsm, h20, hq0, hus] at h74
          simp at h74
        · skip
          refine T_skip_go (fun _ _ h => h) ?_
          refine T_seq ?_
          refine T_seq ?_
          refine T_region ?_
          refine S_ 75 rfl rfl rfl _ (y_fieldAddr rfl rfl fa29_3) ?_
          refine S_ 76 rfl rfl rfl _ (y_load_far rfl rfl (D8.1 3 _ rfl) D8.2 Tryz.underlying25 rfl) ?_
          refine S_ 77 rfl rfl rfl _ (y_len_slice rfl rfl Tryz.underlying25) ?_
          refine S_ 78 rfl rfl rfl _ (y_move rfl rfl) ?_
          refine S_go (fun _ _ h => h) ?_
          refine T_block ?_
          refine T_loopK1 (kf := [(4, 4), (13, 14), (78, 105)]) (kl := [(4, 4), (13, 14), (78, 105)]) (fun (i : Nat) => [(78, true, .int .i64 (i : Int))]) (fun (i : Nat) => []) (fun (i : Nat) => i ≤ z.ev.fa.q) (fun (i : Nat) => z.ev.fa.q - i) 0 (by repeat (first | exact kf_nil | (apply kf_in; focus rfl) | (apply kf_out; focus rfl))) (by repeat (first | exact kl_nil | exact kl_rest (by assumption) rfl | (apply kl_in; focus rfl) | (apply kl_out; focus rfl))) ?_ ?_ ?_ ?_
          · omega
          · exact ⟨rfl, trivial⟩
          · exact trivial
          rintro i hq1
          refine T_seq ?_
          refine T_region ?_
          refine S_ 79 rfl rfl rfl _ (y_bin rfl rfl rfl (fun _ => b_lss)) ?_
          refine S_go (fun _ _ h => h) ?_
          refine T_seq ?_
          refine T_cond rfl (fun h79 => ?_) (fun h79 => ?_)
          · try simp only [decide_eq_true_eq, decide_eq_false_iff_not, Bool.or_eq_true, Bool.or_eq_false_iff, Bool.and_eq_true, Bool.and_eq_false_iff, Bool.not_eq_true', Bool.not_eq_false', Bool.not_eq_true, Bool.not_eq_false, Bool.not_true, Bool.not_false, Int.not_lt, Int.not_le, not_or, not_and, Classical.not_not] at h79
            obtain ⟨v, hx1, hx2⟩ := hv3.fa.ok.t.at (i := i) (by omega)
            obtain ⟨y, hy1, hy2⟩ := map_atM hhd hx1
            simp only [headF, Prod.mk.injEq] at hy2
            refine T_skip_go (fun _ _ h => h) ?_
            refine T_seq ?_
            refine T_block ?_
            refine T_seq ?_
            refine T_region ?_
            refine S_ 80 rfl rfl rfl _ (y_move rfl rfl) ?_
            refine S_ 81 rfl rfl rfl _ (y_indexAddr rfl rfl rfl Tryz.underlying25 sz50 (fun hg => hv3.fa.ok.t.isSome (by omega)) (fun _ => by omega)) ?_
            refine S_ 82 rfl rfl rfl _ (y_loadT rfl rfl hv3.fa.ok.t (fun _ => rfl) (fun _ => hx1) Tryz.underlying50 rfl sz50) ?_
            refine S_alloc 14 14 rfl rfl rfl rfl z50 ?_
            intro b14
            refine S_ 13 rfl rfl rfl _ (y_assign rfl rfl) ?_
            refine S_store 14 rfl rfl rfl rfl rfl rfl sz50 rfl rfl ?_
            refine S_go (fun _ _ h => h) ?_
            refine T_seq ?_
            refine T_draws (by kernel_rfl) (by kernel_rfl) ?_
            refine D_ 83 rfl rfl rfl _ (y_fieldAddr rfl rfl fa50_1) ?_
            refine D_ 84 rfl rfl rfl _ (y_load 14 rfl rfl rfl rfl Tryz.underlying9 rfl) ?_
            refine D_ 85 rfl rfl rfl _ (y_len_str rfl rfl Tryz.underlying9) ?_
            refine D_ 86 rfl rfl rfl _ (y_fieldAddr rfl rfl fa29_3) ?_
            refine D_ 87 rfl rfl rfl _ (y_load_far rfl rfl (D2.1 3 _ rfl) D2.2 Tryz.underlying25 rfl) ?_
            refine D_ 88 rfl rfl rfl _ (y_move rfl rfl) ?_
            refine D_ 89 rfl rfl rfl _ (y_indexAddr rfl rfl rfl Tryz.underlying25 sz50 (fun hg => he3.fa.ok.t.isSome (by omega)) (fun _ => by omega)) ?_
            refine D_ 90 rfl rfl rfl _ (y_fieldEl rfl rfl he3.fa.ok.t.rd (fun _ => by omega) fa50_1) ?_
            refine D_ 91 rfl rfl rfl _ (y_load_fT rfl rfl he3.fa.ok.t (fun _ => rfl) (fun _ => hy1) rfl Tryz.underlying9 rfl) ?_
            refine D_ 92 rfl rfl rfl _ (y_len_str rfl rfl Tryz.underlying9) ?_
            refine D_ 93 rfl rfl rfl _ (y_bin rfl rfl rfl (fun _ => b_neq)) ?_
            refine D_ 94 rfl rfl rfl _ (y_move rfl rfl) ?_
            refine Dg_ 95 rfl rfl rfl rfl rfl rfl _ (y_fieldAddr rfl rfl fa50_0) ?_
            refine Dg_ 96 rfl rfl rfl rfl rfl rfl _ (y_load 14 rfl rfl rfl rfl Tryz.underlying9 rfl) ?_
            refine Dg_ 97 rfl rfl rfl rfl rfl rfl _ (y_fieldAddr rfl rfl fa29_3) ?_
            refine Dg_ 98 rfl rfl rfl rfl rfl rfl _ (y_load_far rfl rfl (D2.1 3 _ rfl) D2.2 Tryz.underlying25 rfl) ?_
            refine Dg_ 99 rfl rfl rfl rfl rfl rfl _ (y_move rfl rfl) ?_
            refine Dg_ 100 rfl rfl rfl rfl rfl rfl _ (y_indexAddr rfl rfl rfl Tryz.underlying25 sz50 (fun hg => he3.fa.ok.t.isSome (by simp only [Bool.true_and, Bool.and_eq_true, beq_iff_eq, decide_eq_true_eq, decide_eq_false_iff_not, Int.not_lt, Int.not_le] at hg; omega)) (fun hg => by simp only [Bool.true_and, Bool.and_eq_true, beq_iff_eq, decide_eq_true_eq, decide_eq_false_iff_not, Int.not_lt, Int.not_le] at hg; omega)) ?_
            refine Dg_ 101 rfl rfl rfl rfl rfl rfl _ (y_fieldEl rfl rfl he3.fa.ok.t.rd (fun hg => by simp only [Bool.true_and, Bool.and_eq_true, beq_iff_eq, decide_eq_true_eq, decide_eq_false_iff_not, Int.not_lt, Int.not_le] at hg; omega) fa50_0) ?_
            refine Dg_ 102 rfl rfl rfl rfl rfl rfl _ (y_load_fT rfl rfl he3.fa.ok.t (fun _ => rfl) (fun _ => hy1) rfl Tryz.underlying9 rfl) ?_
            refine Dg_ 103 rfl rfl rfl rfl rfl rfl _ (y_bin rfl rfl rfl (fun _ => b_neqs)) ?_
            refine D_ 104 rfl rfl rfl _ (y_or rfl rfl rfl) ?_
            refine D_go (fun _ _ h => h) ?_
            refine T_cond rfl (fun h104 => ?_) (fun h104 => ?_)
            · skip
              rw [hy2.1, hy2.2] at h104
              simp at h104
            · skip
              refine T_skip_go (fun _ _ h => h) ?_
              refine T_region ?_
              refine S_ 105 rfl rfl rfl _ (y_bin rfl rfl rfl (fun hg => b_add (by omega))) ?_
              refine S_ 78 rfl rfl rfl _ (y_move rfl rfl) ?_
              refine S_nil (nextK1 (kf := [(4, 4), (13, 14), (78, 105)]) (kl := [(4, 4), (13, 14), (78, 105)]) (i + 1) (by repeat (first | exact kf_nil | (apply kf_in; focus rfl) | (apply kf_out; focus rfl))) (by repeat (first | exact kl_nil | exact kl_rest (by assumption) rfl | (apply kl_in; focus rfl) | (apply kl_out; focus rfl))) ?_ ?_ ?_ ?_)
              · omega
              · omega
              · exact ⟨rfl, trivial⟩
              · exact trivial
          · try simp only [decide_eq_true_eq, decide_eq_false_iff_not, Bool.or_eq_true, Bool.or_eq_false_iff, Bool.and_eq_true, Bool.and_eq_false_iff, Bool.not_eq_true', Bool.not_eq_false', Bool.not_eq_true, Bool.not_eq_false, Bool.not_true, Bool.not_false, Int.not_lt, Int.not_le, not_or, not_and, Classical.not_not] at h79
            refine T_exit_go (fun _ _ h => h) ?_
            refine T_seq ?_
            refine T_region ?_
            refine S_ 4 rfl rfl rfl _ (y_assign rfl rfl) ?_
            refine S_go (fun _ _ h => h) ?_
            refine T_ret (fun a w hF hM => hRb a w (post1 rfl rfl (fun w hM => ?_) a w hF hM))
            exact ⟨rfl, hb1.trans ((hb2.trans ((hb3.trans (hM.below.mono hb3.size)).mono hb2.size)).mono hb1.size)⟩
end Go.Proofs.YtfmbgaaonfgenaaGreatDoor
end
section
namespace Go.Proofs.YtfmbgaaonfgenaaGreatDoor
set_option linter.unusedSimpArgs false
set_option linter.unusedVariables false
set_option maxRecDepth 20000
open Go.ChangeShapes Go.WideShapes Go.RowKit
theorem ownNone : ownKnob Tryz.prog.godebug = none := by kernel_rfl
theorem laidOut : laidOutB Tryz.prog = true := by kernel_rfl
def firstCells : Array Value := (Go.Pinned.utf8FirstZ.map fun n : Nat => Value.int .u8 (n : Int)).toArray
def tabCells (k : IntKind) (zs : List Int) : Array Value := (zs.map fun n => Value.int k n).toArray
def rangeZ : List Int := [128, 191, 160, 191, 128, 159, 144, 191, 128, 143, 0, 0, 0, 0, 0, 0, 0, 0, 0, 0, 0, 0, 0, 0, 0, 0, 0, 0, 0, 0, 0, 0]
def tz32Z : List Int := [0, 1, 28, 2, 29, 14, 24, 3, 30, 22, 20, 15, 25, 17, 4, 8, 31, 27, 13, 23, 21, 19, 16, 7, 26, 12, 18, 6, 11, 5, 10, 9]
def tz64Z : List Int := [0, 1, 56, 2, 57, 49, 28, 3, 61, 58, 42, 50, 38, 29, 17, 4, 62, 47, 59, 36, 45, 43, 51, 22, 53, 39, 33, 30, 24, 18, 12, 5, 63, 55, 48, 27, 60, 41, 37, 16, 46, 35, 44, 21, 52, 32, 23, 11, 54, 26, 40, 15, 34, 20, 31, 10, 25, 14, 19, 9, 13, 8, 7, 6]
def pow10Z : List Int := [1, 10, 100, 1000, 10000, 100000, 1000000, 10000000, 100000000, 1000000000, 10000000000, 100000000000, 1000000000000, 10000000000000, 100000000000000, 1000000000000000, 10000000000000000, 100000000000000000, 1000000000000000000, 10000000000000000000]
def layCells (cs : Array Value) : Obj → Obj
  | .cells _ t frozen => .cells cs t frozen
  | o => o
noncomputable def laidWorld (os : Os) (args : Array Value) : World :=
  { World.holding Tryz.prog os ⟨#[], args, []⟩ with heap := (((((World.holding Tryz.prog os ⟨#[], args, []⟩).heap.modify 1 (layCells firstCells)).modify 2 (layCells (tabCells .u8 rangeZ))).modify 4 (layCells (tabCells .u8 tz32Z))).modify 5 (layCells (tabCells .u8 tz64Z))).modify 3 (layCells (tabCells .u64 pow10Z)) }
theorem tz_of {x : String × DataW Unit} {rest : List (String × DataW Unit)} {W : World} (h : laidMet Tryz.prog (x :: ("math/bits.deBruijn64tab", Rows.laid_math_bits_deBruijn64tab) :: rest) W) : TzTab W := by
  have h1 : laidMet Tryz.prog (("math/bits.deBruijn64tab", Lib.tabData .u8 tz64Z) :: rest) W := h.tail
  have h2 := (Lib.tabIs_of_head (P := Tryz.prog) (g := 5) (by kernel_rfl) (by kernel_rfl) Tryz.underlying290 Tryz.underlying5 (by kernel_rfl) (by kernel_rfl) h1).cell (g := 5) (by kernel_rfl) 15 (by decide)
  refine ⟨h2, ?_⟩
  unfold World.cell? at h2
  cases hg : W.heap[5]? with
  | none => rw [hg] at h2; cases h2
  | some o => exact (Array.getElem?_eq_some_iff.1 hg).1
end Go.Proofs.YtfmbgaaonfgenaaGreatDoor
end
