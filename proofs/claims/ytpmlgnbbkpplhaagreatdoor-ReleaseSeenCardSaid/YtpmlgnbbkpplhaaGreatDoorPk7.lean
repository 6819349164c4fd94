/- Part 7, merged by a program. Seen, and the laws ReleaseSeen and ReleaseKept, walked. Conditions: those of each theorem. Events opened: from the form's reading to 'Evt.Ok'. No condition. A world in which the listed tables of Go's hold what their text says, and what a row's condition says of the table of trailing noughts. No condition. A world in which the listed tables hold what their text says, and the two errors of strconv lie as their initialisers lay them. No condition. -/
import Derived.Test.YtpmlgnbbkpplhaaGreatDoorOpen
import Derived.Test.YtpmlgnbbkpplhaaGreatDoorCards
import Derived.Test.YtpmlgnbbkpplhaaGreatDoorTie
import Derived.Deep.DeepHandedRow
import Derived.Lib.LaidTab
import Derived.Stop.LaidErr
import Derived.ProofKit
import Derived.OpenShut
import Derived.Test.YtpmlgnbbkpplhaaGreatDoorPk6
section
namespace Go.Proofs.YtpmlgnbbkpplhaaGreatDoor
set_option linter.unusedSimpArgs false
set_option linter.unusedVariables false
set_option maxRecDepth 20000
open Go.RowKit Go.Eng
set_option maxHeartbeats 1600000 in
theorem Seen_any (s : PSt) (e : Evt) (A : Option Addr) (q c : Nat) (S : List (List UInt8)) (ppl : Int) (w : World) (he : e.Ok w) (hS : SlT strE 1 w A q S) :
    Calls Tryz.prog 27 #[s.val, e.val, .slice A q c, .int .i64 ppl] w fun en w' => en = .returned (.tuple #[(seenS s e S ppl).val, .bool (seenB s e S ppl), .int .i64 (seenNo s e S ppl)]) ∧ Below w.heap.size w w' := by
  refine enter_args (args := [.agg #[.int .i64 s.k, .int .i64 s.at_, str s.inn, .bool s.nx, .int .i64 s.till, .int .i64 s.more, .int .i64 s.ppl, .int .i64 s.again], .agg #[str e.id, .int .i64 e.at_, .int .i64 e.lv, .slice e.fa.A e.fa.q e.fa.c, .slice e.ta.A e.ta.q e.ta.c, .slice e.cr.A e.cr.q e.cr.c, str e.rel, str e.us, .int .i64 e.wt], .slice A q c, .int .i64 ppl]) (F := _) Tryz.func27 rfl Tryz.ntmps27 rfl rfl ?_
  intro Rb hRb hRn
  refine T_seq ?_
  refine T_region ?_
  refine S_box 4 4 rfl rfl rfl rfl rfl ?_
  intro b4
  refine S_box 5 5 rfl rfl rfl rfl rfl ?_
  intro b5
  refine S_alloc 8 8 rfl rfl rfl rfl z52 ?_
  intro b8
  refine S_ 9 rfl rfl rfl _ (y_assign rfl rfl) ?_
  refine S_ 10 rfl rfl rfl _ (y_assign rfl rfl) ?_
  refine S_go (fun _ _ h => h) ?_
  refine T_seq ?_
  refine T_seq ?_
  refine T_region ?_
  refine S_ 16 rfl rfl rfl _ (y_loadA 4 rfl rfl rfl Tryz.underlying52 rfl sz52) ?_
  refine S_ 17 rfl rfl rfl _ (y_call rfl rfl rfl cf109 (fun _ w _ => CheckState_any s w)) ?_
  refine S_ 11 rfl rfl rfl _ (y_assign rfl rfl) ?_
  refine S_go (fun _ _ h => h) ?_
  refine T_seq ?_
  refine T_region ?_
  refine S_ 18 rfl rfl rfl _ (y_move rfl rfl) ?_
  refine S_ 19 rfl rfl rfl _ (y_bin rfl rfl rfl (fun _ => b_neq)) ?_
  refine S_go (fun _ _ h => h) ?_
  refine T_cond rfl (fun h19 => ?_) (fun h19 => ?_)
  · try simp only [decide_eq_true_eq, decide_eq_false_iff_not, Bool.or_eq_true, Bool.or_eq_false_iff, Bool.and_eq_true, Bool.and_eq_false_iff, Bool.not_eq_true', Bool.not_eq_false', Bool.not_eq_true, Bool.not_eq_false, Bool.not_true, Bool.not_false, Int.not_lt, Int.not_le, not_or, not_and, Classical.not_not] at h19
    refine T_seq ?_
    refine T_region ?_
    refine S_ 20 rfl rfl rfl _ (y_build (zv := .agg #[.int .i64 0, .int .i64 0, .string ⟨#[]⟩, .bool false, .int .i64 0, .int .i64 0, .int .i64 0, .int .i64 0]) (pl := [(0, 1), (1, 1), (2, 1), (3, 1), (4, 1), (5, 1), (6, 1), (7, 1)]) (out := [.int .i64 0, .int .i64 0, .string ⟨#[]⟩, .bool false, .int .i64 0, .int .i64 0, .int .i64 0, .int .i64 0]) rfl rfl Tryz.underlying52 z52 (by kernel_rfl) rfl) ?_
    refine S_ 21 rfl rfl rfl _ (y_move rfl rfl) ?_
    refine S_store 8 rfl rfl rfl rfl rfl rfl sz52 rfl rfl ?_
    refine S_ 9 rfl rfl rfl _ (y_assign rfl rfl) ?_
    refine S_ 10 rfl rfl rfl _ (y_assign rfl rfl) ?_
    refine S_go (fun _ _ h => h) ?_
    refine T_ret (fun a w hF hM => hRb a w (post_cell2 8 rfl rfl rfl rfl rfl Tryz.underlying52 rfl (by exact sz52) (fun w hM => ?_) a w hF hM))
    have hno : seenNo s e S ppl = stNo s := fst_t h19
    exact ⟨by rw [seenS, seenB, hno, if_neg h19, if_neg h19]; rfl, hM.below⟩
  · try simp only [decide_eq_true_eq, decide_eq_false_iff_not, Bool.or_eq_true, Bool.or_eq_false_iff, Bool.and_eq_true, Bool.and_eq_false_iff, Bool.not_eq_true', Bool.not_eq_false', Bool.not_eq_true, Bool.not_eq_false, Bool.not_true, Bool.not_false, Int.not_lt, Int.not_le, not_or, not_and, Classical.not_not] at h19
    have h19 : stNo s = 0 := h19
    refine T_skip_go (fun _ _ h => h) ?_
    refine T_seq ?_
    refine T_seq ?_
    refine T_region ?_
    refine S_ 22 rfl rfl rfl _ (y_loadA 5 rfl rfl rfl Tryz.underlying29 rfl sz29) ?_
    refine S_ 23 rfl rfl rfl _ (y_call rfl rfl rfl cf57 (fun _ w hM => Check_any e w (he.below hM.below))) ?_
    refine S_ 12 rfl rfl rfl _ (y_assign rfl rfl) ?_
    refine S_go (fun _ _ h => h) ?_
    refine T_seq ?_
    refine T_region ?_
    refine S_ 24 rfl rfl rfl _ (y_move rfl rfl) ?_
    refine S_ 25 rfl rfl rfl _ (y_bin rfl rfl rfl (fun _ => b_neq)) ?_
    refine S_go (fun _ _ h => h) ?_
    refine T_cond rfl (fun h25 => ?_) (fun h25 => ?_)
    · try simp only [decide_eq_true_eq, decide_eq_false_iff_not, Bool.or_eq_true, Bool.or_eq_false_iff, Bool.and_eq_true, Bool.and_eq_false_iff, Bool.not_eq_true', Bool.not_eq_false', Bool.not_eq_true, Bool.not_eq_false, Bool.not_true, Bool.not_false, Int.not_lt, Int.not_le, not_or, not_and, Classical.not_not] at h25
      refine T_seq ?_
      refine T_region ?_
      refine S_ 26 rfl rfl rfl _ (y_build (zv := .agg #[.int .i64 0, .int .i64 0, .string ⟨#[]⟩, .bool false, .int .i64 0, .int .i64 0, .int .i64 0, .int .i64 0]) (pl := [(0, 1), (1, 1), (2, 1), (3, 1), (4, 1), (5, 1), (6, 1), (7, 1)]) (out := [.int .i64 0, .int .i64 0, .string ⟨#[]⟩, .bool false, .int .i64 0, .int .i64 0, .int .i64 0, .int .i64 0]) rfl rfl Tryz.underlying52 z52 (by kernel_rfl) rfl) ?_
      refine S_ 27 rfl rfl rfl _ (y_move rfl rfl) ?_
      refine S_store 8 rfl rfl rfl rfl rfl rfl sz52 rfl rfl ?_
      refine S_ 9 rfl rfl rfl _ (y_assign rfl rfl) ?_
      refine S_ 10 rfl rfl rfl _ (y_assign rfl rfl) ?_
      refine S_go (fun _ _ h => h) ?_
      refine T_ret (fun a w hF hM => hRb a w (post_cell2 8 rfl rfl rfl rfl rfl Tryz.underlying52 rfl (by exact sz52) (fun w hM => ?_) a w hF hM))
      have hno : seenNo s e S ppl = evNo e := by rw [seenNo, fst_f h19, fst_t h25]
      exact ⟨by rw [seenS, seenB, hno, if_neg h25, if_neg h25]; rfl, hM.below⟩
    · try simp only [decide_eq_true_eq, decide_eq_false_iff_not, Bool.or_eq_true, Bool.or_eq_false_iff, Bool.and_eq_true, Bool.and_eq_false_iff, Bool.not_eq_true', Bool.not_eq_false', Bool.not_eq_true, Bool.not_eq_false, Bool.not_true, Bool.not_false, Int.not_lt, Int.not_le, not_or, not_and, Classical.not_not] at h25
      have h25 : evNo e = 0 := h25
      refine T_skip_go (fun _ _ h => h) ?_
      refine T_seq ?_
      refine T_region ?_
      refine S_ 29 rfl rfl rfl _ (y_move rfl rfl) ?_
      refine S_callN 30 [] [(4, 904), (900, 920)] (X := AllR) rfl rfl rfl rfl rfl rfl rfl cf110 rfl (fun z => .tuple #[.slice z.A z.l.length z.c, .int .i64 (allNo S)]) (fun z => z.Ok w S) (fun z => [(4, .own 42 5 (.slice z.A z.l.length z.c) z.l.length (z.l.flatMap SVer.enc)), (900, .many z.rs)]) (fun _ => rfl) (fun _ => rfl) (fun K1 hK1 w1 hM => parseAll_any hK1 A q c S w1 hS hM) ?_
      intro x30 hx30
      refine S_ 28 rfl rfl rfl _ (y_move rfl rfl) ?_
      refine S_ 31 rfl rfl rfl _ (y_extract rfl rfl rfl) ?_
      refine S_ 32 rfl rfl rfl _ (y_extract rfl rfl rfl) ?_
      refine S_ 13 rfl rfl rfl _ (y_assign rfl rfl) ?_
      refine S_ 14 rfl rfl rfl _ (y_assign rfl rfl) ?_
      refine S_go (fun _ _ h => h) ?_
      refine T_seq ?_
      refine T_seq ?_
      refine T_region ?_
      refine S_ 33 rfl rfl rfl _ (y_move rfl rfl) ?_
      refine S_ 34 rfl rfl rfl _ (y_bin rfl rfl rfl (fun _ => b_neq)) ?_
      refine S_go (fun _ _ h => h) ?_
      refine T_cond rfl (fun h34 => ?_) (fun h34 => ?_)
      · try simp only [decide_eq_true_eq, decide_eq_false_iff_not, Bool.or_eq_true, Bool.or_eq_false_iff, Bool.and_eq_true, Bool.and_eq_false_iff, Bool.not_eq_true', Bool.not_eq_false', Bool.not_eq_true, Bool.not_eq_false, Bool.not_true, Bool.not_false, Int.not_lt, Int.not_le, not_or, not_and, Classical.not_not] at h34
        refine T_seq ?_
        refine T_region ?_
        refine S_ 35 rfl rfl rfl _ (y_build (zv := .agg #[.int .i64 0, .int .i64 0, .string ⟨#[]⟩, .bool false, .int .i64 0, .int .i64 0, .int .i64 0, .int .i64 0]) (pl := [(0, 1), (1, 1), (2, 1), (3, 1), (4, 1), (5, 1), (6, 1), (7, 1)]) (out := [.int .i64 0, .int .i64 0, .string ⟨#[]⟩, .bool false, .int .i64 0, .int .i64 0, .int .i64 0, .int .i64 0]) rfl rfl Tryz.underlying52 z52 (by kernel_rfl) rfl) ?_
        refine S_ 36 rfl rfl rfl _ (y_move rfl rfl) ?_
        refine S_store 8 rfl rfl rfl rfl rfl rfl sz52 rfl rfl ?_
        refine S_ 9 rfl rfl rfl _ (y_assign rfl rfl) ?_
        refine S_ 10 rfl rfl rfl _ (y_assign rfl rfl) ?_
        refine S_go (fun _ _ h => h) ?_
        refine T_ret (fun a w hF hM => hRb a w (post_cell2 8 rfl rfl rfl rfl rfl Tryz.underlying52 rfl (by exact sz52) (fun w hM => ?_) a w hF hM))
        have hno : seenNo s e S ppl = allNo S := by rw [seenNo, fst_f h19, fst_f h25, fst_t h34]
        exact ⟨by rw [seenS, seenB, hno, if_neg h34, if_neg h34]; rfl, hM.below⟩
      · try simp only [decide_eq_true_eq, decide_eq_false_iff_not, Bool.or_eq_true, Bool.or_eq_false_iff, Bool.and_eq_true, Bool.and_eq_false_iff, Bool.not_eq_true', Bool.not_eq_false', Bool.not_eq_true, Bool.not_eq_false, Bool.not_true, Bool.not_false, Int.not_lt, Int.not_le, not_or, not_and, Classical.not_not] at h34
        have h34 : allNo S = 0 := h34
        have hvs : x30.sl.l.map SVer.says = S.map verV := by have := hx30.says; rw [if_pos h34] at this; exact this
        refine T_skip_go (fun _ _ h => h) ?_
        refine T_seq ?_
        refine T_seq ?_
        refine T_region ?_
        refine S_ 37 rfl rfl rfl _ (y_move rfl rfl) ?_
        refine S_ 38 rfl rfl rfl _ (y_call rfl rfl rfl cf87 (fun _ w _ => routside_any _ _ _ w)) ?_
        refine S_go (fun _ _ h => h) ?_
        refine T_cond rfl (fun h38 => ?_) (fun h38 => ?_)
        · skip
          refine T_seq ?_
          refine T_region ?_
          refine S_ 39 rfl rfl rfl _ (y_build (zv := .agg #[.int .i64 0, .int .i64 0, .string ⟨#[]⟩, .bool false, .int .i64 0, .int .i64 0, .int .i64 0, .int .i64 0]) (pl := [(0, 1), (1, 1), (2, 1), (3, 1), (4, 1), (5, 1), (6, 1), (7, 1)]) (out := [.int .i64 0, .int .i64 0, .string ⟨#[]⟩, .bool false, .int .i64 0, .int .i64 0, .int .i64 0, .int .i64 0]) rfl rfl Tryz.underlying52 z52 (by kernel_rfl) rfl) ?_
          refine S_store 8 rfl rfl rfl rfl rfl rfl sz52 rfl rfl ?_
          refine S_ 9 rfl rfl rfl _ (y_assign rfl rfl) ?_
          refine S_ 10 rfl rfl rfl _ (y_assign rfl rfl) ?_
          refine S_go (fun _ _ h => h) ?_
          refine T_ret (fun a w hF hM => hRb a w (post_cell2 8 rfl rfl rfl rfl rfl Tryz.underlying52 rfl (by exact sz52) (fun w hM => ?_) a w hF hM))
          have hno : seenNo s e S ppl = 2 := by rw [seenNo, fst_f h19, fst_f h25, fst_f h34, if_pos h38]
          exact ⟨by rw [seenS, seenB, hno, if_neg (by decide), if_neg (by decide)]; rfl, hM.below⟩
        · skip
          refine T_skip_go (fun _ _ h => h) ?_
          refine T_seq ?_
          refine T_region ?_
          refine S_ 40 rfl rfl rfl _ (y_loadA 4 rfl rfl rfl Tryz.underlying52 rfl sz52) ?_
          refine S_ 41 rfl rfl rfl _ (y_loadA 5 rfl rfl rfl Tryz.underlying29 rfl sz29) ?_
          refine S_ 42 rfl rfl rfl _ (y_move rfl rfl) ?_
          refine S_ 43 rfl rfl rfl _ (y_move rfl rfl) ?_
          refine S_ 44 rfl rfl rfl _ (y_as (v' := (afterS s e.at_ e.rel e.wt (S.map verV) ppl).val) (by rw [hvs]) (y_call rfl rfl rfl cf111 (fun _ w hM => after_any s e x30.sl ppl w (AllR.vers hx30 hM 904 920 rfl rfl (by have := AllR.len hx30; omega)) (st_num h19 h25)))) ?_
          refine S_alloc 15 15 rfl rfl rfl rfl z52 ?_
          intro b15
          refine S_store 15 rfl rfl rfl rfl rfl rfl sz52 rfl rfl ?_
          refine S_go (fun _ _ h => h) ?_
          refine T_seq ?_
          refine T_perm [0, 1, 2, 3, 4, 5, 6, 7, 8, 9, 10, 11] [true, true, true, true, true, true, true, true, true, false, true, true] [0, 0, 0, 6, 14, 30, 62, 126, 254, 31, 1023, 2047] [(0, [15]), (1, [15]), (2, [4]), (6, [15])] (by kernel_rfl) (by kernel_rfl) (by kernel_rfl) rfl (by kernel_rfl) ?_
          refine Rf_ 0 45 rfl rfl rfl rfl rfl _ ⟨rfl, trivial⟩ (Y.z (y_loadA 15 rfl rfl rfl Tryz.underlying52 rfl sz52) rfl) ?_
          refine Rf_ 1 46 rfl rfl rfl rfl rfl _ ⟨rfl, trivial⟩ (Y.z (y_loadA 15 rfl rfl rfl Tryz.underlying52 rfl sz52) rfl) ?_
          refine Rf_ 2 47 rfl rfl rfl rfl rfl _ ⟨rfl, trivial⟩ (Y.z (y_loadA 4 rfl rfl rfl Tryz.underlying52 rfl sz52) rfl) ?_
          refine Rf_ 3 48 rfl rfl rfl rfl rfl _ trivial (Y.z (y_bin rfl rfl rfl (fun _ => b_neqA (rs := [_, _, _, _, _, _, _, _]) Tryz.underlying52 (by kernel_rfl) (by kernel_rfl) ⟨by decide, ⟨_, Tryz.underlying3, rfl, _, _, rfl, rfl, rfl⟩, by decide, ⟨_, Tryz.underlying3, rfl, _, _, rfl, rfl, rfl⟩, by decide, ⟨_, Tryz.underlying9, rfl, _, _, rfl, rfl, rfl⟩, by decide, ⟨_, Tryz.underlying4, rfl, _, _, rfl, rfl, rfl⟩, by decide, ⟨_, Tryz.underlying3, rfl, _, _, rfl, rfl, rfl⟩, by decide, ⟨_, Tryz.underlying3, rfl, _, _, rfl, rfl, rfl⟩, by decide, ⟨_, Tryz.underlying3, rfl, _, _, rfl, rfl, rfl⟩, by decide, ⟨_, Tryz.underlying3, rfl, _, _, rfl, rfl, rfl⟩, trivial⟩)) rfl) ?_
          refine Rf_ 4 49 rfl rfl rfl rfl rfl _ trivial (Y.z (y_move rfl rfl) rfl) ?_
          refine Rfg_ 5 50 rfl rfl rfl rfl rfl rfl rfl rfl _ trivial (Y.z (y_fieldAddr rfl rfl fa52_0) rfl) ?_
          refine Rfg_ 6 51 rfl rfl rfl rfl rfl rfl rfl rfl _ ⟨rfl, trivial⟩ (Y.z (y_load 15 rfl rfl rfl rfl Tryz.underlying3 rfl) rfl) ?_
          refine Rfg_ 7 52 rfl rfl rfl rfl rfl rfl rfl rfl _ trivial (Y.z (y_bin rfl rfl rfl (fun _ => b_eql)) rfl) ?_
          refine Rf_ 8 53 rfl rfl rfl rfl rfl _ trivial (Y.z (y_as (v' := .bool (againB s e.at_ e.rel e.wt (S.map verV) ppl)) (by exact congrArg Value.bool (by
            have hk := (st_parts h19).1
            cases hg : againB s e.at_ e.rel e.wt (S.map verV) ppl with
            | true =>
              have h2 := again_k hg
              have ha : afterS s e.at_ e.rel e.wt (S.map verV) ppl = opened s e.at_ := if_pos hg
              have h3 : ¬ (1 : Int) = s.k := by omega
              simp [ha, opened, h3]
            | false =>
              obtain ⟨h2, h3⟩ := after_k hg
              by_cases h1 : s.k = 1
              · simp [h3 h1]
              · simp [h2, h1])) (y_and rfl rfl rfl)) rfl) ?_
          refine R_chain 9 rfl rfl ?_
          refine S_store 8 rfl rfl rfl rfl rfl rfl sz52 rfl rfl ?_
          refine R_next ⟨.inl rfl, .inl rfl, .inl rfl, .inr ⟨rfl, trivial⟩, trivial⟩ ?_
          refine Rf_ 10 9 rfl rfl rfl rfl rfl _ trivial (Y.z (y_assign rfl rfl) rfl) ?_
          refine Rf_ 11 10 rfl rfl rfl rfl rfl _ trivial (Y.z (y_assign rfl rfl) rfl) ?_
          refine R_go (fun _ _ h => h) ?_
          refine T_ret (fun a w hF hM => hRb a w (post_cell2 8 rfl rfl rfl rfl rfl Tryz.underlying52 rfl (by exact sz52) (fun w hM => ?_) a w hF hM))
          have hno : seenNo s e S ppl = 0 := by rw [seenNo, fst_f h19, fst_f h25, fst_f h34, if_neg (by rw [h38]; simp)]
          exact ⟨by rw [seenS, seenB, hno, if_pos rfl, if_pos rfl]; rfl, hM.below⟩
theorem toldSt_any (v u : PSt) (e f : Int) (w : World) (he : e = f) (hz : f ≠ 0 → v = pst0) (h0 : f = 0 → u = v) :
    Calls Tryz.prog 31 #[v.val, .int .i64 e, u.val, .int .i64 f] w fun en w' => en = .returned (.bool true) ∧ Below w.heap.size w w' := by
  subst he
  refine enter_args (args := [.agg #[.int .i64 v.k, .int .i64 v.at_, str v.inn, .bool v.nx, .int .i64 v.till, .int .i64 v.more, .int .i64 v.ppl, .int .i64 v.again], .int .i64 e, .agg #[.int .i64 u.k, .int .i64 u.at_, str u.inn, .bool u.nx, .int .i64 u.till, .int .i64 u.more, .int .i64 u.ppl, .int .i64 u.again], .int .i64 e]) (F := _) Tryz.func31 rfl Tryz.ntmps31 rfl rfl ?_
  intro Rb hRb hRn
  refine T_seq ?_
  refine T_region ?_
  refine S_box 4 4 rfl rfl rfl rfl rfl ?_
  intro b4
  refine S_box 6 6 rfl rfl rfl rfl rfl ?_
  intro b6
  refine S_ 8 rfl rfl rfl _ (y_assign rfl rfl) ?_
  refine S_go (fun _ _ h => h) ?_
  refine T_seq ?_
  refine T_region ?_
  refine S_alloc 9 9 rfl rfl rfl rfl z52 ?_
  intro b9
  refine S_go (fun _ _ h => h) ?_
  refine T_seq ?_
  refine T_seq ?_
  refine T_region ?_
  refine S_ 10 rfl rfl rfl _ (y_move rfl rfl) ?_
  refine S_ 11 rfl rfl rfl _ (y_bin rfl rfl rfl (fun _ => b_neq)) ?_
  refine S_go (fun _ _ h => h) ?_
  refine T_cond rfl (fun h11 => ?_) (fun h11 => ?_)
  · try simp only [decide_eq_true_eq, decide_eq_false_iff_not, Bool.or_eq_true, Bool.or_eq_false_iff, Bool.and_eq_true, Bool.and_eq_false_iff, Bool.not_eq_true', Bool.not_eq_false', Bool.not_eq_true, Bool.not_eq_false, Bool.not_true, Bool.not_false, Int.not_lt, Int.not_le, not_or, not_and, Classical.not_not] at h11
    refine T_region ?_
    refine S_ 12 rfl rfl rfl _ (y_loadA 9 rfl rfl rfl Tryz.underlying52 rfl sz52) ?_
    refine S_store 6 rfl rfl rfl rfl rfl rfl sz52 rfl rfl ?_
    refine S_go (fun _ _ h => h) ?_
    refine T_seq ?_
    refine T_region ?_
    refine S_ 13 rfl rfl rfl _ (y_loadA 4 rfl rfl rfl Tryz.underlying52 rfl sz52) ?_
    refine S_ 14 rfl rfl rfl _ (y_loadA 6 rfl rfl rfl Tryz.underlying52 rfl sz52) ?_
    refine S_ 15 rfl rfl rfl _ (y_bin rfl rfl rfl (fun _ => b_eqlA (rs := [_, _, _, _, _, _, _, _]) Tryz.underlying52 (by kernel_rfl) (by kernel_rfl) ⟨by decide, ⟨_, Tryz.underlying3, rfl, _, _, rfl, rfl, rfl⟩, by decide, ⟨_, Tryz.underlying3, rfl, _, _, rfl, rfl, rfl⟩, by decide, ⟨_, Tryz.underlying9, rfl, _, _, rfl, rfl, rfl⟩, by decide, ⟨_, Tryz.underlying4, rfl, _, _, rfl, rfl, rfl⟩, by decide, ⟨_, Tryz.underlying3, rfl, _, _, rfl, rfl, rfl⟩, by decide, ⟨_, Tryz.underlying3, rfl, _, _, rfl, rfl, rfl⟩, by decide, ⟨_, Tryz.underlying3, rfl, _, _, rfl, rfl, rfl⟩, by decide, ⟨_, Tryz.underlying3, rfl, _, _, rfl, rfl, rfl⟩, trivial⟩)) ?_
    refine S_ 16 rfl rfl rfl _ (y_move rfl rfl) ?_
    refine Sg_ 17 rfl rfl rfl rfl rfl rfl _ (y_move rfl rfl) ?_
    refine Sg_ 18 rfl rfl rfl rfl rfl rfl _ (y_move rfl rfl) ?_
    refine Sg_ 19 rfl rfl rfl rfl rfl rfl _ (y_bin rfl rfl rfl (fun _ => b_eql)) ?_
    refine S_ 20 rfl rfl rfl _ (y_and rfl rfl rfl) ?_
    refine S_ 8 rfl rfl rfl _ (y_assign rfl rfl) ?_
    refine S_go (fun _ _ h => h) ?_
    refine T_ret (fun a w hF hM => hRb a w (post1 rfl rfl (fun w hM => ?_) a w hF hM))
    have hv := hz h11
    exact ⟨by simp [hv, pst0, str], hM.below⟩
  · try simp only [decide_eq_true_eq, decide_eq_false_iff_not, Bool.or_eq_true, Bool.or_eq_false_iff, Bool.and_eq_true, Bool.and_eq_false_iff, Bool.not_eq_true', Bool.not_eq_false', Bool.not_eq_true, Bool.not_eq_false, Bool.not_true, Bool.not_false, Int.not_lt, Int.not_le, not_or, not_and, Classical.not_not] at h11
    refine T_skip_go (fun _ _ h => h) ?_
    refine T_seq ?_
    refine T_region ?_
    refine S_ 13 rfl rfl rfl _ (y_loadA 4 rfl rfl rfl Tryz.underlying52 rfl sz52) ?_
    refine S_ 14 rfl rfl rfl _ (y_loadA 6 rfl rfl rfl Tryz.underlying52 rfl sz52) ?_
    refine S_ 15 rfl rfl rfl _ (y_bin rfl rfl rfl (fun _ => b_eqlA (rs := [_, _, _, _, _, _, _, _]) Tryz.underlying52 (by kernel_rfl) (by kernel_rfl) ⟨by decide, ⟨_, Tryz.underlying3, rfl, _, _, rfl, rfl, rfl⟩, by decide, ⟨_, Tryz.underlying3, rfl, _, _, rfl, rfl, rfl⟩, by decide, ⟨_, Tryz.underlying9, rfl, _, _, rfl, rfl, rfl⟩, by decide, ⟨_, Tryz.underlying4, rfl, _, _, rfl, rfl, rfl⟩, by decide, ⟨_, Tryz.underlying3, rfl, _, _, rfl, rfl, rfl⟩, by decide, ⟨_, Tryz.underlying3, rfl, _, _, rfl, rfl, rfl⟩, by decide, ⟨_, Tryz.underlying3, rfl, _, _, rfl, rfl, rfl⟩, by decide, ⟨_, Tryz.underlying3, rfl, _, _, rfl, rfl, rfl⟩, trivial⟩)) ?_
    refine S_ 16 rfl rfl rfl _ (y_move rfl rfl) ?_
    refine Sg_ 17 rfl rfl rfl rfl rfl rfl _ (y_move rfl rfl) ?_
    refine Sg_ 18 rfl rfl rfl rfl rfl rfl _ (y_move rfl rfl) ?_
    refine Sg_ 19 rfl rfl rfl rfl rfl rfl _ (y_bin rfl rfl rfl (fun _ => b_eql)) ?_
    refine S_ 20 rfl rfl rfl _ (y_and rfl rfl rfl) ?_
    refine S_ 8 rfl rfl rfl _ (y_assign rfl rfl) ?_
    refine S_go (fun _ _ h => h) ?_
    refine T_ret (fun a w hF hM => hRb a w (post1 rfl rfl (fun w hM => ?_) a w hF hM))
    have hv := h0 h11
    exact ⟨by simp [hv], hM.below⟩
def firstI (l : List Int) : Int := (l.find? fun x => decide (x ≠ 0)).getD 0
theorem firstG_any (A : Option Addr) (q c : Nat) (l : List Int) (w : World) (hl : SlT iE 1 w A q l) (hq : q ≤ 1000) : Calls Tryz.prog 12 #[.slice A q c] w fun e w' => e = .returned (.int .i64 (firstI l)) ∧ Below w.heap.size w w' := by
  have hlen := hl.len
  refine enter_args (args := [.slice A q c]) (F := _) Tryz.func12 rfl Tryz.ntmps12 rfl rfl ?_
  intro Rb hRb hRn
  refine T_seq ?_
  refine T_region ?_
  refine S_ 2 rfl rfl rfl _ (y_assign rfl rfl) ?_
  refine S_go (fun _ _ h => h) ?_
  refine T_seq ?_
  refine T_seq ?_
  refine T_region ?_
  refine S_ 5 rfl rfl rfl _ (y_move rfl rfl) ?_
  refine S_ 6 rfl rfl rfl _ (y_len_slice rfl rfl Tryz.underlying100) ?_
  refine S_ 7 rfl rfl rfl _ (y_move rfl rfl) ?_
  refine S_go (fun _ _ h => h) ?_
  refine T_block ?_
  refine T_loopK1 (kf := [(2, 2), (4, 4), (7, 14)]) (kl := [(2, 2), (4, 4), (7, 14)]) (fun (i : Nat) => [(7, true, .int .i64 (i : Int))]) (fun (i : Nat) => []) (fun (i : Nat) => i ≤ q ∧ firstI l = firstI (l.drop i)) (fun (i : Nat) => q - i) 0 (by repeat (first | exact kf_nil | (apply kf_in; focus rfl) | (apply kf_out; focus rfl))) (by repeat (first | exact kl_nil | exact kl_rest (by assumption) rfl | (apply kl_in; focus rfl) | (apply kl_out; focus rfl))) ?_ ?_ ?_ ?_
  · exact ⟨by omega, rfl⟩
  · exact ⟨rfl, trivial⟩
  · exact trivial
  rintro i ⟨hp1, hp2⟩
  refine T_seq ?_
  refine T_region ?_
  refine S_ 8 rfl rfl rfl _ (y_bin rfl rfl rfl (fun _ => b_lss)) ?_
  refine S_go (fun _ _ h => h) ?_
  refine T_seq ?_
  refine T_cond rfl (fun h8 => ?_) (fun h8 => ?_)
  · try simp only [decide_eq_true_eq, decide_eq_false_iff_not, Bool.or_eq_true, Bool.or_eq_false_iff, Bool.and_eq_true, Bool.and_eq_false_iff, Bool.not_eq_true', Bool.not_eq_false', Bool.not_eq_true, Bool.not_eq_false, Bool.not_true, Bool.not_false, Int.not_lt, Int.not_le, not_or, not_and, Classical.not_not] at h8
    obtain ⟨x, hx1, hx2⟩ := hl.at (i := i) (by omega)
    refine T_skip_go (fun _ _ h => h) ?_
    refine T_seq ?_
    refine T_block ?_
    refine T_seq ?_
    refine T_region ?_
    refine S_ 9 rfl rfl rfl _ (y_indexAddr rfl rfl rfl Tryz.underlying100 sz30 (fun hg => hl.isSome (by omega)) (fun _ => by omega)) ?_
    refine S_ 10 rfl rfl rfl _ (y_loadT1 (val := (fun n : Int => Value.int .i64 n)) rfl rfl hl (fun _ => hx1) Tryz.underlying30 rfl) ?_
    refine S_ 4 rfl rfl rfl _ (y_assign rfl rfl) ?_
    refine S_go (fun _ _ h => h) ?_
    refine T_seq ?_
    refine T_region ?_
    refine S_ 11 rfl rfl rfl _ (y_move rfl rfl) ?_
    refine S_ 12 rfl rfl rfl _ (y_bin rfl rfl rfl (fun _ => b_neq)) ?_
    refine S_go (fun _ _ h => h) ?_
    refine T_cond rfl (fun h12 => ?_) (fun h12 => ?_)
    · try simp only [decide_eq_true_eq, decide_eq_false_iff_not, Bool.or_eq_true, Bool.or_eq_false_iff, Bool.and_eq_true, Bool.and_eq_false_iff, Bool.not_eq_true', Bool.not_eq_false', Bool.not_eq_true, Bool.not_eq_false, Bool.not_true, Bool.not_false, Int.not_lt, Int.not_le, not_or, not_and, Classical.not_not] at h12
      refine T_seq ?_
      refine T_region ?_
      refine S_ 13 rfl rfl rfl _ (y_move rfl rfl) ?_
      refine S_ 2 rfl rfl rfl _ (y_assign rfl rfl) ?_
      refine S_go (fun _ _ h => h) ?_
      refine T_ret (fun a w hF hM => hRb a w (post1 rfl rfl (fun w hM => ?_) a w hF hM))
      exact ⟨by rw [hp2, hx2, firstI, List.find?_cons_of_pos (by simpa using h12)]; rfl, hM.below⟩
    · try simp only [decide_eq_true_eq, decide_eq_false_iff_not, Bool.or_eq_true, Bool.or_eq_false_iff, Bool.and_eq_true, Bool.and_eq_false_iff, Bool.not_eq_true', Bool.not_eq_false', Bool.not_eq_true, Bool.not_eq_false, Bool.not_true, Bool.not_false, Int.not_lt, Int.not_le, not_or, not_and, Classical.not_not] at h12
      refine T_skip_go (fun _ _ h => h) ?_
      refine T_region ?_
      refine S_ 14 rfl rfl rfl _ (y_bin rfl rfl rfl (fun hg => b_add (by omega))) ?_
      refine S_ 7 rfl rfl rfl _ (y_move rfl rfl) ?_
      refine S_nil (nextK1 (kf := [(2, 2), (4, 4), (7, 14)]) (kl := [(2, 2), (4, 4), (7, 14)]) (i + 1) (by repeat (first | exact kf_nil | (apply kf_in; focus rfl) | (apply kf_out; focus rfl))) (by repeat (first | exact kl_nil | exact kl_rest (by assumption) rfl | (apply kl_in; focus rfl) | (apply kl_out; focus rfl))) ?_ ?_ ?_ ?_)
      · omega
      · exact ⟨by omega, by rw [hp2, hx2, firstI, List.find?_cons_of_neg (by simpa using h12)]; rfl⟩
      · exact ⟨rfl, trivial⟩
      · exact trivial
  · try simp only [decide_eq_true_eq, decide_eq_false_iff_not, Bool.or_eq_true, Bool.or_eq_false_iff, Bool.and_eq_true, Bool.and_eq_false_iff, Bool.not_eq_true', Bool.not_eq_false', Bool.not_eq_true, Bool.not_eq_false, Bool.not_true, Bool.not_false, Int.not_lt, Int.not_le, not_or, not_and, Classical.not_not] at h8
    refine T_exit_go (fun _ _ h => h) ?_
    refine T_seq ?_
    refine T_region ?_
    refine S_ 2 rfl rfl rfl _ (y_assign rfl rfl) ?_
    refine S_go (fun _ _ h => h) ?_
    refine T_ret (fun a w hF hM => hRb a w (post1 rfl rfl (fun w hM => ?_) a w hF hM))
    exact ⟨by rw [hp2, hl.end (by omega)]; rfl, hM.below⟩
theorem first_2 (a b : Int) : firstI [a, b] = fst a b := by unfold firstI fst; by_cases h1 : a = 0 <;> by_cases h2 : b = 0 <;> simp [h1, h2]
theorem first_3 (a b c : Int) : firstI [a, b, c] = fst a (fst b c) := by unfold firstI fst; by_cases h1 : a = 0 <;> by_cases h2 : b = 0 <;> by_cases h3 : c = 0 <;> simp [h1, h2, h3]
def threeNo (s : PSt) (e : Evt) (S : List (List UInt8)) : Int := fst (stNo s) (fst (evNo e) (allNo S))
theorem seen_no (s : PSt) (e : Evt) (S : List (List UInt8)) (ppl : Int) : seenNo s e S ppl = fst (threeNo s e S) (if outB ppl 0 1000000 = true then 2 else 0) := by
  unfold seenNo threeNo fst
  by_cases h1 : stNo s = 0 <;> by_cases h2 : evNo e = 0 <;> by_cases h3 : allNo S = 0 <;> simp [h1, h2, h3]
theorem seenS_bad {s : PSt} {e : Evt} {S : List (List UInt8)} {ppl : Int} (h : seenNo s e S ppl ≠ 0) : seenS s e S ppl = pst0 ∧ seenB s e S ppl = false := ⟨if_neg h, if_neg h⟩
theorem seenS_good {s : PSt} {e : Evt} {S : List (List UInt8)} {ppl : Int} (h : seenNo s e S ppl = 0) : seenS s e S ppl = afterS s e.at_ e.rel e.wt (S.map verV) ppl ∧ seenB s e S ppl = againB s e.at_ e.rel e.wt (S.map verV) ppl := ⟨if_pos h, if_pos h⟩
set_option maxHeartbeats 1600000 in
theorem ReleaseSeen_any (s : PSt) (e : Evt) (A : Option Addr) (q c : Nat) (S : List (List UInt8)) (ppl : Int) (w : World) (he : e.Ok w) (hS : SlT strE 1 w A q S) :
    Calls Tryz.prog 5 #[s.val, e.val, .slice A q c, .int .i64 ppl] w fun en w' => en = .returned (.bool true) ∧ Below w.heap.size w w' := by
  have hsn := seen_no s e S ppl
  refine enter_args (args := [.agg #[.int .i64 s.k, .int .i64 s.at_, str s.inn, .bool s.nx, .int .i64 s.till, .int .i64 s.more, .int .i64 s.ppl, .int .i64 s.again], .agg #[str e.id, .int .i64 e.at_, .int .i64 e.lv, .slice e.fa.A e.fa.q e.fa.c, .slice e.ta.A e.ta.q e.ta.c, .slice e.cr.A e.cr.q e.cr.c, str e.rel, str e.us, .int .i64 e.wt], .slice A q c, .int .i64 ppl]) (F := _) Tryz.func5 rfl Tryz.ntmps5 rfl rfl ?_
  intro Rb hRb hRn
  refine T_seq ?_
  refine T_region ?_
  refine S_box 4 4 rfl rfl rfl rfl rfl ?_
  intro b4
  refine S_box 5 5 rfl rfl rfl rfl rfl ?_
  intro b5
  refine S_ 8 rfl rfl rfl _ (y_assign rfl rfl) ?_
  refine S_go (fun _ _ h => h) ?_
  refine T_seq ?_
  refine T_region ?_
  refine S_ 16 rfl rfl rfl _ (y_loadA 4 rfl rfl rfl Tryz.underlying52 rfl sz52) ?_
  refine S_ 17 rfl rfl rfl _ (y_loadA 5 rfl rfl rfl Tryz.underlying29 rfl sz29) ?_
  refine S_ 18 rfl rfl rfl _ (y_move rfl rfl) ?_
  refine S_ 19 rfl rfl rfl _ (y_move rfl rfl) ?_
  refine S_ 20 rfl rfl rfl _ (y_call rfl rfl rfl cf27 (fun _ w hM => Seen_any s e A q c S ppl w (he.below hM.below) (hS.below hM.below))) ?_
  refine S_ 15 rfl rfl rfl _ (y_move rfl rfl) ?_
  refine S_ 21 rfl rfl rfl _ (y_extract rfl rfl rfl) ?_
  refine S_ 22 rfl rfl rfl _ (y_extract rfl rfl rfl) ?_
  refine S_ 23 rfl rfl rfl _ (y_extract rfl rfl rfl) ?_
  refine S_alloc 9 9 rfl rfl rfl rfl z52 ?_
  intro b9
  refine S_store 9 rfl rfl rfl rfl rfl rfl sz52 rfl rfl ?_
  refine S_ 10 rfl rfl rfl _ (y_assign rfl rfl) ?_
  refine S_ 11 rfl rfl rfl _ (y_assign rfl rfl) ?_
  refine S_go (fun _ _ h => h) ?_
  refine T_seq ?_
  refine T_drawsTail 6 (by kernel_rfl) (by kernel_rfl) ?_
  refine D_ 24 rfl rfl rfl _ (y_loadA 4 rfl rfl rfl Tryz.underlying52 rfl sz52) ?_
  refine D_ 25 rfl rfl rfl _ (y_call rfl rfl rfl cf28 (fun _ w _ => StateFault_any s w)) ?_
  refine D_ 26 rfl rfl rfl _ (y_loadA 5 rfl rfl rfl Tryz.underlying29 rfl sz29) ?_
  refine D_ 27 rfl rfl rfl _ (y_call rfl rfl rfl cf14 (fun _ w hM => EventFault_any e w (he.below hM.below))) ?_
  refine D_ 28 rfl rfl rfl _ (y_move rfl rfl) ?_
  refine D_ 29 rfl rfl rfl _ (y_call rfl rfl rfl cf29 (fun _ w hM => ReleasesFault_any A q c S w (hS.below hM.below))) ?_
  refine D_tail ?_
  refine S_buildSlice 30 30 rfl rfl rfl rfl rfl Tryz.underlying100 inf30 rfl (by decide) (by decide) rfl rfl (by decide) rfl (_) rfl ?_
  intro b30
  refine S_ 31 rfl rfl rfl _ (y_as (v' := .int .i64 (threeNo s e S)) (by rw [first_3]; rfl) (y_call rfl rfl rfl cf12 (fun _ w hM => firstG_any _ 3 _ [stNo s, evNo e, allNo S] w ⟨own_reads hM (i := 30) rfl, rfl⟩ (by decide)))) ?_
  refine S_ 12 rfl rfl rfl _ (y_assign rfl rfl) ?_
  refine S_go (fun _ _ h => h) ?_
  refine T_seq ?_
  refine T_seq ?_
  refine T_region ?_
  refine S_ 32 rfl rfl rfl _ (y_move rfl rfl) ?_
  refine S_ 33 rfl rfl rfl _ (y_bin rfl rfl rfl (fun _ => b_lss)) ?_
  refine S_ 34 rfl rfl rfl _ (y_move rfl rfl) ?_
  refine Sg_ 35 rfl rfl rfl rfl rfl rfl _ (y_move rfl rfl) ?_
  refine Sg_ 36 rfl rfl rfl rfl rfl rfl _ (y_bin rfl rfl rfl (fun _ => b_gtr)) ?_
  refine S_ 37 rfl rfl rfl _ (y_or rfl rfl rfl) ?_
  refine S_go (fun _ _ h => h) ?_
  refine T_cond rfl (fun h37 => ?_) (fun h37 => ?_)
  · skip
    have h37 : outB ppl 0 1000000 = true := h37
    refine T_region ?_
    refine S_ 38 rfl rfl rfl _ (y_move rfl rfl) ?_
    refine S_buildSlice 39 39 rfl rfl rfl rfl rfl Tryz.underlying100 inf30 rfl (by decide) (by decide) rfl rfl (by decide) rfl (_) rfl ?_
    intro b39
    refine S_ 40 rfl rfl rfl _ (y_as (v' := .int .i64 (fst (threeNo s e S) 2)) (by rw [first_2]) (y_call rfl rfl rfl cf12 (fun _ w hM => firstG_any _ 2 _ [threeNo s e S, 2] w ⟨own_reads hM (i := 39) rfl, rfl⟩ (by decide)))) ?_
    refine S_ 12 rfl rfl rfl _ (y_assign rfl rfl) ?_
    refine S_go (fun _ _ h => h) ?_
    refine T_seq ?_
    refine T_region ?_
    refine S_alloc 13 13 rfl rfl rfl rfl z52 ?_
    intro b13
    refine S_go (fun _ _ h => h) ?_
    refine T_seq ?_
    refine T_region ?_
    refine S_ 14 rfl rfl rfl _ (y_assign rfl rfl) ?_
    refine S_go (fun _ _ h => h) ?_
    refine T_seq ?_
    refine T_seq ?_
    refine T_region ?_
    refine S_ 41 rfl rfl rfl _ (y_move rfl rfl) ?_
    refine S_ 42 rfl rfl rfl _ (y_bin rfl rfl rfl (fun _ => b_eql)) ?_
    refine S_go (fun _ _ h => h) ?_
    refine T_cond rfl (fun h42 => ?_) (fun h42 => ?_)
    · try simp only [decide_eq_true_eq, decide_eq_false_iff_not, Bool.or_eq_true, Bool.or_eq_false_iff, Bool.and_eq_true, Bool.and_eq_false_iff, Bool.not_eq_true', Bool.not_eq_false', Bool.not_eq_true, Bool.not_eq_false, Bool.not_true, Bool.not_false, Int.not_lt, Int.not_le, not_or, not_and, Classical.not_not] at h42
      exfalso
      unfold fst at h42
      split at h42
      · exact ‹threeNo s e S ≠ 0› h42
      · omega
    · try simp only [decide_eq_true_eq, decide_eq_false_iff_not, Bool.or_eq_true, Bool.or_eq_false_iff, Bool.and_eq_true, Bool.and_eq_false_iff, Bool.not_eq_true', Bool.not_eq_false', Bool.not_eq_true, Bool.not_eq_false, Bool.not_true, Bool.not_false, Int.not_lt, Int.not_le, not_or, not_and, Classical.not_not] at h42
      have hsb := seenS_bad (s := s) (e := e) (S := S) (ppl := ppl) (by rw [hsn, if_pos h37]; exact h42)
      refine T_skip_go (fun _ _ h => h) ?_
      refine T_seq ?_
      refine T_region ?_
      refine S_ 51 rfl rfl rfl _ (y_loadA 9 rfl rfl rfl Tryz.underlying52 rfl sz52) ?_
      refine S_ 52 rfl rfl rfl _ (y_move rfl rfl) ?_
      refine S_ 53 rfl rfl rfl _ (y_loadA 13 rfl rfl rfl Tryz.underlying52 rfl sz52) ?_
      refine S_ 54 rfl rfl rfl _ (y_move rfl rfl) ?_
      refine S_ 55 rfl rfl rfl _ (y_call rfl rfl rfl cf31 (fun _ w _ => toldSt_any (seenS s e S ppl) pst0 _ _ w (by rw [hsn, if_pos h37]) (fun h => (seenS_bad (by rw [hsn, if_pos h37]; exact h)).1) (fun h => absurd h h42))) ?_
      refine S_ 56 rfl rfl rfl _ (y_move rfl rfl) ?_
      refine Sg_ 57 rfl rfl rfl rfl rfl rfl _ (y_move rfl rfl) ?_
      refine Sg_ 58 rfl rfl rfl rfl rfl rfl _ (y_move rfl rfl) ?_
      refine Sg_ 59 rfl rfl rfl rfl rfl rfl _ (y_bin rfl rfl rfl (fun _ => b_eqlb Tryz.underlying4)) ?_
      refine S_ 60 rfl rfl rfl _ (y_and rfl rfl rfl) ?_
      refine S_ 8 rfl rfl rfl _ (y_assign rfl rfl) ?_
      refine S_go (fun _ _ h => h) ?_
      refine T_ret (fun a w hF hM => hRb a w (post1 rfl rfl (fun w hM => ?_) a w hF hM))
      exact ⟨by simp [hsb.2], hM.below⟩
  · skip
    have h37 : outB ppl 0 1000000 = false := h37
    have hs1 : seenNo s e S ppl = threeNo s e S := by
      rw [hsn, if_neg (by rw [h37]; simp)]; unfold fst; split
      · rfl
      · omega
    refine T_skip_go (fun _ _ h => h) ?_
    refine T_seq ?_
    refine T_region ?_
    refine S_alloc 13 13 rfl rfl rfl rfl z52 ?_
    intro b13
    refine S_go (fun _ _ h => h) ?_
    refine T_seq ?_
    refine T_region ?_
    refine S_ 14 rfl rfl rfl _ (y_assign rfl rfl) ?_
    refine S_go (fun _ _ h => h) ?_
    refine T_seq ?_
    refine T_seq ?_
    refine T_region ?_
    refine S_ 41 rfl rfl rfl _ (y_move rfl rfl) ?_
    refine S_ 42 rfl rfl rfl _ (y_bin rfl rfl rfl (fun _ => b_eql)) ?_
    refine S_go (fun _ _ h => h) ?_
    refine T_cond rfl (fun h42 => ?_) (fun h42 => ?_)
    · try simp only [decide_eq_true_eq, decide_eq_false_iff_not, Bool.or_eq_true, Bool.or_eq_false_iff, Bool.and_eq_true, Bool.and_eq_false_iff, Bool.not_eq_true', Bool.not_eq_false', Bool.not_eq_true, Bool.not_eq_false, Bool.not_true, Bool.not_false, Int.not_lt, Int.not_le, not_or, not_and, Classical.not_not] at h42
      have h42 : threeNo s e S = 0 := h42
      have hs0 : seenNo s e S ppl = 0 := hs1.trans h42
      obtain ⟨hst, h43⟩ := fst0 h42
      obtain ⟨hev, hal⟩ := fst0 h43
      obtain ⟨hq1, hall⟩ := all_ok hal
      have hq2 : q ≤ 2000 := by have := hS.len; omega
      have hin := (st_parts hst).2.2.2.1
      refine T_region ?_
      refine S_ 44 rfl rfl rfl _ (y_loadA 4 rfl rfl rfl Tryz.underlying52 rfl sz52) ?_
      refine S_ 45 rfl rfl rfl _ (y_loadA 5 rfl rfl rfl Tryz.underlying29 rfl sz29) ?_
      refine S_ 46 rfl rfl rfl _ (y_move rfl rfl) ?_
      refine S_ 47 rfl rfl rfl _ (y_move rfl rfl) ?_
      refine S_ 48 rfl rfl rfl _ (y_call rfl rfl rfl cf30 (fun _ w hM => SeenState_any s e A q c S ppl w (hS.below hM.below) hq2 hall hin (st_num hst hev))) ?_
      refine S_ 43 rfl rfl rfl _ (y_move rfl rfl) ?_
      refine S_ 49 rfl rfl rfl _ (y_extract rfl rfl rfl) ?_
      refine S_ 50 rfl rfl rfl _ (y_extract rfl rfl rfl) ?_
      refine S_store 13 rfl rfl rfl rfl rfl rfl sz52 rfl rfl ?_
      refine S_ 14 rfl rfl rfl _ (y_assign rfl rfl) ?_
      refine S_go (fun _ _ h => h) ?_
      refine T_seq ?_
      refine T_region ?_
      refine S_ 51 rfl rfl rfl _ (y_loadA 9 rfl rfl rfl Tryz.underlying52 rfl sz52) ?_
      refine S_ 52 rfl rfl rfl _ (y_move rfl rfl) ?_
      refine S_ 53 rfl rfl rfl _ (y_loadA 13 rfl rfl rfl Tryz.underlying52 rfl sz52) ?_
      refine S_ 54 rfl rfl rfl _ (y_move rfl rfl) ?_
      refine S_ 55 rfl rfl rfl _ (y_call rfl rfl rfl cf31 (fun _ w _ => toldSt_any (seenS s e S ppl) (afterS s e.at_ e.rel e.wt (S.map verV) ppl) _ _ w (by rw [hs0, h42]) (fun h => absurd h42 h) (fun _ => (seenS_good hs0).1.symm))) ?_
      refine S_ 56 rfl rfl rfl _ (y_move rfl rfl) ?_
      refine Sg_ 57 rfl rfl rfl rfl rfl rfl _ (y_move rfl rfl) ?_
      refine Sg_ 58 rfl rfl rfl rfl rfl rfl _ (y_move rfl rfl) ?_
      refine Sg_ 59 rfl rfl rfl rfl rfl rfl _ (y_bin rfl rfl rfl (fun _ => b_eqlb Tryz.underlying4)) ?_
      refine S_ 60 rfl rfl rfl _ (y_and rfl rfl rfl) ?_
      refine S_ 8 rfl rfl rfl _ (y_assign rfl rfl) ?_
      refine S_go (fun _ _ h => h) ?_
      refine T_ret (fun a w hF hM => hRb a w (post1 rfl rfl (fun w hM => ?_) a w hF hM))
      exact ⟨by simp [(seenS_good hs0).2], hM.below⟩
    · try simp only [decide_eq_true_eq, decide_eq_false_iff_not, Bool.or_eq_true, Bool.or_eq_false_iff, Bool.and_eq_true, Bool.and_eq_false_iff, Bool.not_eq_true', Bool.not_eq_false', Bool.not_eq_true, Bool.not_eq_false, Bool.not_true, Bool.not_false, Int.not_lt, Int.not_le, not_or, not_and, Classical.not_not] at h42
      have h42 : ¬ threeNo s e S = 0 := h42
      have hsb := seenS_bad (s := s) (e := e) (S := S) (ppl := ppl) (by rw [hs1]; exact h42)
      refine T_skip_go (fun _ _ h => h) ?_
      refine T_seq ?_
      refine T_region ?_
      refine S_ 51 rfl rfl rfl _ (y_loadA 9 rfl rfl rfl Tryz.underlying52 rfl sz52) ?_
      refine S_ 52 rfl rfl rfl _ (y_move rfl rfl) ?_
      refine S_ 53 rfl rfl rfl _ (y_loadA 13 rfl rfl rfl Tryz.underlying52 rfl sz52) ?_
      refine S_ 54 rfl rfl rfl _ (y_move rfl rfl) ?_
      refine S_ 55 rfl rfl rfl _ (y_call rfl rfl rfl cf31 (fun _ w _ => toldSt_any (seenS s e S ppl) pst0 _ _ w hs1 (fun h => (seenS_bad (by rw [hs1]; exact h)).1) (fun h => absurd h h42))) ?_
      refine S_ 56 rfl rfl rfl _ (y_move rfl rfl) ?_
      refine Sg_ 57 rfl rfl rfl rfl rfl rfl _ (y_move rfl rfl) ?_
      refine Sg_ 58 rfl rfl rfl rfl rfl rfl _ (y_move rfl rfl) ?_
      refine Sg_ 59 rfl rfl rfl rfl rfl rfl _ (y_bin rfl rfl rfl (fun _ => b_eqlb Tryz.underlying4)) ?_
      refine S_ 60 rfl rfl rfl _ (y_and rfl rfl rfl) ?_
      refine S_ 8 rfl rfl rfl _ (y_assign rfl rfl) ?_
      refine S_go (fun _ _ h => h) ?_
      refine T_ret (fun a w hF hM => hRb a w (post1 rfl rfl (fun w hM => ?_) a w hF hM))
      exact ⟨by simp [hsb.2], hM.below⟩
end Go.Proofs.YtpmlgnbbkpplhaaGreatDoor
end
section
namespace Go.Proofs.YtpmlgnbbkpplhaaGreatDoor
set_option linter.unusedSimpArgs false
set_option linter.unusedVariables false
set_option maxRecDepth 20000
open Go.RowKit Go.Eng
section
variable {H : Type} {enc : TypeId × Value → H} {w : World}
def IntOk (n : Int) : Prop := (Lit.int .i64 n).wf = true
def ShortS (s : List UInt8) : Prop := s.length ≤ reachBytes
theorem reach_len : reachBytes ≤ 4611686018427387904 := by decide
def strEnc (l : List UInt8) : List Value := [str l]
theorem op_s : Opn enc Tryz.prog w 9 strEnc ShortS (fun l d => d = .lit (.string l)) := opn_str Tryz.underlying9
theorem op_i : Opn enc Tryz.prog w 3 (fun n : Int => [Value.int .i64 n]) IntOk (fun n d => d = .lit (.int .i64 n)) := opn_int Tryz.underlying3
theorem op_b : Opn enc Tryz.prog w 4 (fun b : Bool => [Value.bool b]) (fun _ => True) (fun b d => d = .lit (.bool b)) := opn_bool Tryz.underlying4
def slV {X : Type} (s : Sl X) : List Value := [.slice s.A s.q s.c]
def frmG (f : Frm) : Prop := ShortS f.m ∧ ShortS f.f ∧ ShortS f.fi
theorem op_frm : Opn enc Tryz.prog w 119 Frm.enc frmG (fun _ _ => True) :=
  (opn_struct Tryz.underlying119 co119 (opf_cons op_s rfl co9 (opf_cons op_s rfl co9 (opf_cons op_s rfl co9 (opf_cons op_i rfl co3 (opf_cons op_i rfl co3 (opf_cons op_b rfl co4 opf_nil))))))).map
    (fun p => (⟨p.1, p.2.1, p.2.2.1, p.2.2.2.1, p.2.2.2.2.1, p.2.2.2.2.2.1⟩ : Frm)) (fun _ => rfl) (fun _ h => ⟨h.1, h.2.1, h.2.2.1⟩) (fun _ _ _ => trivial)
theorem op_frms : Opn enc Tryz.prog w 112 slV (FrmsOk w) (fun _ _ => True) :=
  (opn_slice Tryz.underlying112 co119 (by decide) (by rw [bo119]; decide) (fun _ => rfl) op_frm).map (fun s => s) (fun _ => rfl)
    (fun s h => ⟨h.1, Nat.le_trans h.2.1 reach_len, fun f hf => ⟨Nat.le_trans (h.2.2 f hf).1 reach_len, Nat.le_trans (h.2.2 f hf).2.1 reach_len, Nat.le_trans (h.2.2 f hf).2.2 reach_len⟩⟩) (fun _ _ _ => trivial)
theorem op_flt : Opn enc Tryz.prog w 114 Flt.enc (FltOk w) (fun _ _ => True) :=
  (opn_struct Tryz.underlying114 co114 (opf_cons op_s rfl co9 (opf_cons op_s rfl co9 (opf_cons op_frms rfl co112 opf_nil)))).map
    (fun p => (⟨p.1, p.2.1, p.2.2.1⟩ : Flt)) (fun _ => rfl) (fun _ h => ⟨Nat.le_trans h.1 reach_len, Nat.le_trans h.2.1 reach_len, h.2.2.1⟩) (fun _ _ _ => trivial)
theorem op_flts : Opn enc Tryz.prog w 25 slV (FltsOk w) (fun _ _ => True) :=
  (opn_slice Tryz.underlying25 co114 (by decide) (by rw [bo114]; decide) (fun _ => rfl) op_flt).map (fun s => s) (fun _ => rfl)
    (fun s h => ⟨h.1, Nat.le_trans h.2.1 reach_len, h.2.2⟩) (fun _ _ _ => trivial)
theorem op_tag : Opn enc Tryz.prog w 104 STag.enc (fun t => ShortS t.n ∧ ShortS t.v) (fun _ _ => True) :=
  (opn_struct Tryz.underlying104 co104 (opf_cons op_s rfl co9 (opf_cons op_s rfl co9 opf_nil))).map
    (fun p => (⟨p.1, p.2.1⟩ : STag)) (fun _ => rfl) (fun _ h => ⟨h.1, h.2.1⟩) (fun _ _ _ => trivial)
theorem op_tags : Opn enc Tryz.prog w 26 slV (TagsOk w) (fun _ _ => True) :=
  (opn_slice Tryz.underlying26 co104 (by decide) (by rw [bo104]; decide) (fun _ => rfl) op_tag).map (fun s => s) (fun _ => rfl)
    (fun s h => ⟨h.1, Nat.le_trans h.2.1 reach_len, fun t ht => ⟨Nat.le_trans (h.2.2 t ht).1 reach_len, Nat.le_trans (h.2.2 t ht).2 reach_len⟩⟩) (fun _ _ _ => trivial)
theorem op_crumb : Opn enc Tryz.prog w 107 SCrumb.enc (fun c => IntOk c.at_ ∧ ShortS c.k ∧ ShortS c.t) (fun _ _ => True) :=
  (opn_struct Tryz.underlying107 co107 (opf_cons op_i rfl co3 (opf_cons op_s rfl co9 (opf_cons op_s rfl co9 opf_nil)))).map
    (fun p => (⟨p.1, p.2.1, p.2.2.1⟩ : SCrumb)) (fun _ => rfl) (fun _ h => ⟨h.1, h.2.1, h.2.2.1⟩) (fun _ _ _ => trivial)
theorem op_crumbs : Opn enc Tryz.prog w 27 slV (CrumbsOk w) (fun _ _ => True) :=
  (opn_slice Tryz.underlying27 co107 (by decide) (by rw [bo107]; decide) (fun _ => rfl) op_crumb).map (fun s => s) (fun _ => rfl)
    (fun s h => ⟨h.1, Nat.le_trans h.2.1 reach_len, fun t ht => ⟨Nat.le_trans (h.2.2 t ht).2.1 reach_len, Nat.le_trans (h.2.2 t ht).2.2 reach_len⟩⟩) (fun _ _ _ => trivial)
theorem op_evt : Opn enc Tryz.prog w 29 Evt.enc (Evt.Ok w) (fun _ _ => True) :=
  (opn_struct Tryz.underlying29 co29 (opf_cons op_s rfl co9 (opf_cons op_i rfl co3 (opf_cons op_i rfl co3 (opf_cons op_flts rfl co25 (opf_cons op_tags rfl co26 (opf_cons op_crumbs rfl co27 (opf_cons op_s rfl co9 (opf_cons op_s rfl co9 (opf_cons op_i rfl co3 opf_nil)))))))))).map
    (fun p => (⟨p.1, p.2.1, p.2.2.1, p.2.2.2.1, p.2.2.2.2.1, p.2.2.2.2.2.1, p.2.2.2.2.2.2.1, p.2.2.2.2.2.2.2.1, p.2.2.2.2.2.2.2.2.1⟩ : Evt)) (fun _ => rfl)
    (fun p h => by
      obtain ⟨h1, _, _, h4, h5, h6, h7, h8, _⟩ := h
      exact ⟨h4, h5, h6, Nat.le_trans h1 reach_len, Nat.le_trans h7 reach_len, Nat.le_trans h8 reach_len⟩) (fun _ _ _ => trivial)
end
end Go.Proofs.YtpmlgnbbkpplhaaGreatDoor
end
section
namespace Go.Proofs.YtpmlgnbbkpplhaaGreatDoor
set_option linter.unusedSimpArgs false
set_option linter.unusedVariables false
set_option maxRecDepth 20000
open Go.ChangeShapes Go.WideShapes Go.RowKit
theorem ownNone : ownKnob Tryz.prog.godebug = none := by kernel_rfl
theorem laidOut : laidOutB Tryz.prog = true := by kernel_rfl
def firstCells : Array Value := (Go.Pinned.utf8FirstZ.map fun n : Nat => Value.int .u8 (n : Int)).toArray
def tabCells (k : IntKind) (zs : List Int) : Array Value := (zs.map fun n => Value.int k n).toArray
def rangeZ : List Int := [128, 191, 160, 191, 128, 159, 144, 191, 128, 143, 0, 0, 0, 0, 0, 0, 0, 0, 0, 0, 0, 0, 0, 0, 0, 0, 0, 0, 0, 0, 0, 0]
def tz32Z : List Int := [0, 1, 28, 2, 29, 14, 24, 3, 30, 22, 20, 15, 25, 17, 4, 8, 31, 27, 13, 23, 21, 19, 16, 7, 26, 12, 18, 6, 11, 5, 10, 9]
def tz64Z : List Int := [0, 1, 56, 2, 57, 49, 28, 3, 61, 58, 42, 50, 38, 29, 17, 4, 62, 47, 59, 36, 45, 43, 51, 22, 53, 39, 33, 30, 24, 18, 12, 5, 63, 55, 48, 27, 60, 41, 37, 16, 46, 35, 44, 21, 52, 32, 23, 11, 54, 26, 40, 15, 34, 20, 31, 10, 25, 14, 19, 9, 13, 8, 7, 6]
def pow10Z : List Int := [1, 10, 100, 1000, 10000, 100000, 1000000, 10000000, 100000000, 1000000000, 10000000000, 100000000000, 1000000000000, 10000000000000, 100000000000000, 1000000000000000, 10000000000000000, 100000000000000000, 1000000000000000000, 10000000000000000000]
def layCells (cs : Array Value) : Obj → Obj
  | .cells _ t frozen => .cells cs t frozen
  | o => o
end Go.Proofs.YtpmlgnbbkpplhaaGreatDoor
end
section
namespace Go.Proofs.YtpmlgnbbkpplhaaGreatDoor
set_option linter.unusedSimpArgs false
set_option linter.unusedVariables false
set_option maxRecDepth 20000
open Go.ChangeShapes Go.WideShapes Go.RowKit
noncomputable def low2 : Nat := (World.holding Tryz.prog default ⟨#[], #[], []⟩).heap.size
def rangeT : List UInt8 := [118, 97, 108, 117, 101, 32, 111, 117, 116, 32, 111, 102, 32, 114, 97, 110, 103, 101]
def syntaxT : List UInt8 := [105, 110, 118, 97, 108, 105, 100, 32, 115, 121, 110, 116, 97, 120]
noncomputable def laidWorld2 (os : Os) (args : Array Value) : World :=
  { World.holding Tryz.prog os ⟨#[.cells #[.string ⟨rangeT.toArray⟩] 299, .cells #[.string ⟨syntaxT.toArray⟩] 299], args, []⟩ with heap := (((((((World.holding Tryz.prog os ⟨#[.cells #[.string ⟨rangeT.toArray⟩] 299, .cells #[.string ⟨syntaxT.toArray⟩] 299], args, []⟩).heap.modify 1 (layCells firstCells)).modify 2 (layCells (tabCells .u8 rangeZ))).modify 6 (layCells (tabCells .u8 tz32Z))).modify 7 (layCells (tabCells .u8 tz64Z))).modify 3 (layCells (tabCells .u64 pow10Z))).modify 5 (layCells #[.iface 297 (.pointer (some ⟨low2, 0, none⟩))])).modify 4 (layCells #[.iface 297 (.pointer (some ⟨low2 + 1, 0, none⟩))]) }
end Go.Proofs.YtpmlgnbbkpplhaaGreatDoor
end
