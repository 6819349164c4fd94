/- Part 7, merged by a program. LinesOf, SharesOf, sizes, Differ, TablesDiffer walked. Conditions: those of each theorem. symbol.Write and the reference's TableBytes make the same bytes of a right table. Conditions: those of each theorem. sizes, Differ and the reference's TablesDiffer walked: both say the same of two right tables. Conditions: those of each theorem. -/
import Derived.Test.YtkkngcdikbhkjaaGreatDoorUnb
import Derived.Test.YtkkngcdikbhkjaaGreatDoorUnr
import Derived.Test.YtkkngcdikbhkjaaGreatDoorMov
import Derived.Test.YtkkngcdikbhkjaaGreatDoorArr
import Derived.Test.YtkkngcdikbhkjaaGreatDoorTail
import Derived.Test.YtkkngcdikbhkjaaGreatDoorPk6
section
namespace Go.Proofs.YtkkngcdikbhkjaaGreatDoor
set_option linter.unusedSimpArgs false
set_option linter.unusedVariables false
set_option maxRecDepth 20000
open Go.RowKit Go.Eng
theorem LinesOf_any (t : Tab) (file : List UInt8) (ln : Int) (w : World) (hok : t.Ok w) (h0 : tabNo t = 0) :
    Calls Tryz.prog 67 #[.agg #[str t.id, .int .i64 t.size, .slice t.fi.A t.fi.q t.fi.c, .slice t.fu.A t.fu.q t.fu.c, .slice t.ro.A t.ro.q t.ro.c, .slice t.ca.A t.ca.q t.ca.c], str file, .int .i64 ln] w fun e w' => ∃ A c, e = .returned (.tuple #[.slice A (linesOut t file ln).length c, .int .i64 (linesNo t file ln)]) ∧
      w'.ownsRow w.heap.size 137 2 (.slice A (linesOut t file ln).length c) (linesOut t file ln).length ((linesOut t file ln).flatMap SSpan.enc) ∧ Below w.heap.size w w' := by
  have hq := hok.small
  have ht := hok.ro.t
  have hr := rows_of h0
  refine enter_args (args := [.agg #[str t.id, .int .i64 t.size, .slice t.fi.A t.fi.q t.fi.c, .slice t.fu.A t.fu.q t.fu.c, .slice t.ro.A t.ro.q t.ro.c, .slice t.ca.A t.ca.q t.ca.c], str file, .int .i64 ln]) (F := _) Tryz.func67 rfl Tryz.ntmps67 rfl rfl ?_
  intro Rb hRb hRn
  refine T_seq ?_
  refine T_region ?_
  refine S_box 3 3 rfl rfl rfl rfl rfl ?_
  intro b3
  refine S_nilSlice 6 (e := 137) (size := 2) ?_
  refine S_ 6 rfl rfl rfl _ (y_assign rfl rfl) ?_
  refine S_ 7 rfl rfl rfl _ (y_assign rfl rfl) ?_
  refine S_go (fun _ _ h => h) ?_
  refine T_seq ?_
  refine T_region ?_
  refine S_ 14 rfl rfl rfl _ (y_fieldAddr rfl rfl fa62_2) ?_
  refine S_ 15 rfl rfl rfl _ (y_load 3 rfl rfl rfl rfl Tryz.underlying57 rfl) ?_
  refine S_ 16 rfl rfl rfl _ (y_move rfl rfl) ?_
  refine S_ 17 rfl rfl rfl _ (y_call rfl rfl rfl cf130 (fun _ w hM => IndexS_any _ _ _ _ _ w (hok.fi.t.below hM.below) (by omega))) ?_
  refine S_ 8 rfl rfl rfl _ (y_assign rfl rfl) ?_
  refine S_go (fun _ _ h => h) ?_
  refine T_seq ?_
  refine T_block ?_
  refine T_seq ?_
  refine T_region ?_
  refine S_ 19 rfl rfl rfl _ (y_move rfl rfl) ?_
  refine S_ 20 rfl rfl rfl _ (y_bin rfl rfl rfl (fun _ => b_lss)) ?_
  refine S_ 18 rfl rfl rfl _ (y_assign rfl rfl) ?_
  refine S_go (fun _ _ h => h) ?_
  refine T_cond rfl (fun h18 => ?_) (fun h18 => ?_)
  · try simp only [decide_eq_true_eq, decide_eq_false_iff_not, Bool.or_eq_true, Bool.or_eq_false_iff, Bool.and_eq_true, Bool.and_eq_false_iff, Bool.not_eq_true', Bool.not_eq_false', Bool.not_eq_true, Bool.not_eq_false, Bool.not_true, Bool.not_false, Int.not_lt, Int.not_le, not_or, not_and, Classical.not_not] at h18
    refine T_seq ?_
    refine T_region ?_
    refine S_nilSlice 6 (e := 137) (size := 2) ?_
    refine S_ 6 rfl rfl rfl _ (y_assign rfl rfl) ?_
    refine S_ 7 rfl rfl rfl _ (y_assign rfl rfl) ?_
    refine S_go (fun _ _ h => h) ?_
    refine T_ret (fun a w hF hM => hRb a w (post2 rfl rfl rfl (fun w hM => ?_) a w hF hM))
    have e : linesNo t file ln = 7 := fst_b h0 (if_pos h18)
    have e2 : linesOut t file ln = [] := by rw [linesOut, e, if_neg (by decide)]
    rw [e, e2]
    exact ⟨none, 0, rfl, hM.sat 6 _ rfl, hM.below⟩
  · try simp only [decide_eq_true_eq, decide_eq_false_iff_not, Bool.or_eq_true, Bool.or_eq_false_iff, Bool.and_eq_true, Bool.and_eq_false_iff, Bool.not_eq_true', Bool.not_eq_false', Bool.not_eq_true, Bool.not_eq_false, Bool.not_true, Bool.not_false, Int.not_lt, Int.not_le, not_or, not_and, Classical.not_not] at h18
    refine T_seq ?_
    refine T_region ?_
    refine S_ 22 rfl rfl rfl _ (y_move rfl rfl) ?_
    refine S_ 23 rfl rfl rfl _ (y_call rfl rfl rfl cf83 (fun _ w _ => out_any _ _ _ w)) ?_
    refine S_ 21 rfl rfl rfl _ (y_assign rfl rfl) ?_
    refine S_go (fun _ _ h => h) ?_
    refine T_cond rfl (fun h21 => ?_) (fun h21 => ?_)
    · skip
      refine T_seq ?_
      refine T_region ?_
      refine S_nilSlice 6 (e := 137) (size := 2) ?_
      refine S_ 6 rfl rfl rfl _ (y_assign rfl rfl) ?_
      refine S_ 7 rfl rfl rfl _ (y_assign rfl rfl) ?_
      refine S_go (fun _ _ h => h) ?_
      refine T_ret (fun a w hF hM => hRb a w (post2 rfl rfl rfl (fun w hM => ?_) a w hF hM))
      have e : linesNo t file ln = 2 := fst_b h0 ((if_neg (by omega)).trans (if_t h21))
      have e2 : linesOut t file ln = [] := by rw [linesOut, e, if_neg (by decide)]
      rw [e, e2]
      exact ⟨none, 0, rfl, hM.sat 6 _ rfl, hM.below⟩
    · skip
      refine T_skip_go (fun _ _ h => h) ?_
      refine T_seq ?_
      refine T_region ?_
      refine S_nilSlice 9 (e := 137) (size := 2) ?_
      refine S_ 9 rfl rfl rfl _ (y_assign rfl rfl) ?_
      refine S_go (fun _ _ h => h) ?_
      refine T_seq ?_
      refine T_seq ?_
      refine T_region ?_
      refine S_ 24 rfl rfl rfl _ (y_fieldAddr rfl rfl fa62_4) ?_
      refine S_ 25 rfl rfl rfl _ (y_load 3 rfl rfl rfl rfl Tryz.underlying59 rfl) ?_
      refine S_ 26 rfl rfl rfl _ (y_len_slice rfl rfl Tryz.underlying59) ?_
      refine S_ 27 rfl rfl rfl _ (y_move rfl rfl) ?_
      refine S_go (fun _ _ h => h) ?_
      refine T_block ?_
      refine T_loopK5 (kf := [(9, 13), (27, 84)]) (kl := [(9, 13), (27, 84)]) (fun (i : Nat) (out : List SSpan) (q : Nat) (A : Option Addr) (c : Nat) => [(27, true, .int .i64 (i : Int)), (9, true, .slice A q c)]) (fun (i : Nat) (out : List SSpan) (q : Nat) (A : Option Addr) (c : Nat) => [(9, .own 137 2 (.slice A q c) q (out.flatMap SSpan.enc))]) (fun (i : Nat) (out : List SSpan) (q : Nat) (A : Option Addr) (c : Nat) => i ≤ t.ro.q ∧ spansOf t.size (findI (eqS file) t.fi.l 0) ln t.ro.l [] = spansOf t.size (findI (eqS file) t.fi.l 0) ln (t.ro.l.drop i) out ∧ q ≤ i ∧ out.length = q) (fun (i : Nat) (out : List SSpan) (q : Nat) (A : Option Addr) (c : Nat) => t.ro.q - i) 0 [] 0 none 0 (by repeat (first | exact kf_nil | (apply kf_in; focus rfl) | (apply kf_out; focus rfl))) (by repeat (first | exact kl_nil | exact kl_rest (by assumption) rfl | (apply kl_in; focus rfl) | (apply kl_out; focus rfl))) ?_ ?_ ?_ ?_
      · exact ⟨by omega, rfl, by simp, rfl⟩
      · exact ⟨rfl, rfl, trivial⟩
      · exact ⟨rfl, trivial⟩
      rintro i out q A c ⟨hp1, hp2, hp3, hp4⟩
      refine T_seq ?_
      refine T_region ?_
      refine S_ 28 rfl rfl rfl _ (y_bin rfl rfl rfl (fun _ => b_lss)) ?_
      refine S_go (fun _ _ h => h) ?_
      refine T_seq ?_
      refine T_cond rfl (fun h28 => ?_) (fun h28 => ?_)
      · try simp only [decide_eq_true_eq, decide_eq_false_iff_not, Bool.or_eq_true, Bool.or_eq_false_iff, Bool.and_eq_true, Bool.and_eq_false_iff, Bool.not_eq_true', Bool.not_eq_false', Bool.not_eq_true, Bool.not_eq_false, Bool.not_true, Bool.not_false, Int.not_lt, Int.not_le, not_or, not_and, Classical.not_not] at h28
        obtain ⟨r, hx1, hx2⟩ := ht.at (i := i) (by omega)
        refine T_skip_go (fun _ _ h => h) ?_
        refine T_seq ?_
        refine T_block ?_
        refine T_seq ?_
        refine T_region ?_
        refine S_ 29 rfl rfl rfl _ (y_move rfl rfl) ?_
        refine S_ 30 rfl rfl rfl _ (y_indexAddr rfl rfl rfl Tryz.underlying59 sz198 (fun hg => ht.isSome (by omega)) (fun _ => by omega)) ?_
        refine S_ 31 rfl rfl rfl _ (y_loadT rfl rfl ht (fun _ => rfl) (fun _ => hx1) Tryz.underlying198 rfl sz198) ?_
        refine S_alloc 11 11 rfl rfl rfl rfl z198 ?_
        intro b11
        refine S_ 10 rfl rfl rfl _ (y_assign rfl rfl) ?_
        refine S_store 11 rfl rfl rfl rfl rfl rfl sz198 rfl rfl ?_
        refine S_go (fun _ _ h => h) ?_
        refine T_seq ?_
        refine T_seq ?_
        refine T_region ?_
        refine S_ 32 rfl rfl rfl _ (y_fieldAddr rfl rfl fa198_1) ?_
        refine S_ 33 rfl rfl rfl _ (y_load 11 rfl rfl rfl rfl Tryz.underlying3 rfl) ?_
        refine S_ 34 rfl rfl rfl _ (y_move rfl rfl) ?_
        refine S_ 35 rfl rfl rfl _ (y_bin rfl rfl rfl (fun _ => b_neq)) ?_
        refine S_ 36 rfl rfl rfl _ (y_move rfl rfl) ?_
        refine Sg_ 37 rfl rfl rfl rfl rfl rfl _ (y_fieldAddr rfl rfl fa198_2) ?_
        refine Sg_ 38 rfl rfl rfl rfl rfl rfl _ (y_load 11 rfl rfl rfl rfl Tryz.underlying3 rfl) ?_
        refine Sg_ 39 rfl rfl rfl rfl rfl rfl _ (y_move rfl rfl) ?_
        refine Sg_ 40 rfl rfl rfl rfl rfl rfl _ (y_bin rfl rfl rfl (fun _ => b_neq)) ?_
        refine S_ 41 rfl rfl rfl _ (y_as (v' := .bool (otherB (findI (eqS file) t.fi.l 0) ln r)) (by exact rfl) (y_or rfl rfl rfl)) ?_
        refine S_go (fun _ _ h => h) ?_
        refine T_cond rfl (fun h41 => ?_) (fun h41 => ?_)
        · skip
          refine T_exit_go (fun _ _ h => h) ?_
          refine T_region ?_
          refine S_ 84 rfl rfl rfl _ (y_bin rfl rfl rfl (fun hg => b_add (by omega))) ?_
          refine S_ 27 rfl rfl rfl _ (y_move rfl rfl) ?_
          refine S_nil (nextK5 (kf := [(9, 13), (27, 84)]) (kl := [(9, 13), (27, 84)]) (i + 1) out q A c (by repeat (first | exact kf_nil | (apply kf_in; focus rfl) | (apply kf_out; focus rfl))) (by repeat (first | exact kl_nil | exact kl_rest (by assumption) rfl | (apply kl_in; focus rfl) | (apply kl_out; focus rfl))) ?_ ?_ ?_ ?_)
          · omega
          · exact ⟨by omega, by rw [hp2, hx2, spansOf, if_t h41], by omega, hp4⟩
          · exact ⟨rfl, rfl, trivial⟩
          · exact ⟨rfl, trivial⟩
        · skip
          refine T_skip_go (fun _ _ h => h) ?_
          refine T_seq ?_
          refine T_region ?_
          refine S_ 42 rfl rfl rfl _ (y_fieldAddr rfl rfl fa62_1) ?_
          refine S_ 43 rfl rfl rfl _ (y_load 3 rfl rfl rfl rfl Tryz.underlying3 rfl) ?_
          refine S_ 12 rfl rfl rfl _ (y_assign rfl rfl) ?_
          refine S_go (fun _ _ h => h) ?_
          refine T_seq ?_
          refine T_seq ?_
          refine T_region ?_
          refine S_ 44 rfl rfl rfl _ (y_move rfl rfl) ?_
          refine S_ 45 rfl rfl rfl _ (y_bin rfl rfl rfl (fun hg => b_add (by omega))) ?_
          refine S_ 46 rfl rfl rfl _ (y_fieldAddr rfl rfl fa62_4) ?_
          refine S_ 47 rfl rfl rfl _ (y_load 3 rfl rfl rfl rfl Tryz.underlying59 rfl) ?_
          refine S_ 48 rfl rfl rfl _ (y_len_slice rfl rfl Tryz.underlying59) ?_
          refine S_ 49 rfl rfl rfl _ (y_bin rfl rfl rfl (fun _ => b_lss)) ?_
          refine S_go (fun _ _ h => h) ?_
          refine T_cond rfl (fun h49 => ?_) (fun h49 => ?_)
          · try simp only [decide_eq_true_eq, decide_eq_false_iff_not, Bool.or_eq_true, Bool.or_eq_false_iff, Bool.and_eq_true, Bool.and_eq_false_iff, Bool.not_eq_true', Bool.not_eq_false', Bool.not_eq_true, Bool.not_eq_false, Bool.not_true, Bool.not_false, Int.not_lt, Int.not_le, not_or, not_and, Classical.not_not] at h49
            obtain ⟨r2, hy1, hy2⟩ := ht.at (i := i + 1) (by omega)
            have hend : rowEnd t.size (t.ro.l.drop (i + 1)) = r2.pos := by rw [hy2]; rfl
            refine T_region ?_
            refine S_ 50 rfl rfl rfl _ (y_fieldAddr rfl rfl fa62_4) ?_
            refine S_ 51 rfl rfl rfl _ (y_load 3 rfl rfl rfl rfl Tryz.underlying59 rfl) ?_
            refine S_ 52 rfl rfl rfl _ (y_move rfl rfl) ?_
            refine S_ 53 rfl rfl rfl _ (y_bin rfl rfl rfl (fun hg => b_addv (((i + 1 : Nat) : Int)) (by omega) (by omega))) ?_
            refine S_ 54 rfl rfl rfl _ (y_indexAddr rfl rfl rfl Tryz.underlying59 sz198 (fun hg => ht.isSome (by omega)) (fun _ => by omega)) ?_
            refine S_ 55 rfl rfl rfl _ (y_fieldEl rfl rfl ht.rd (fun _ => by omega) fa198_0) ?_
            refine S_ 56 rfl rfl rfl _ (y_load_fT rfl rfl ht (fun _ => rfl) (fun _ => hy1) rfl Tryz.underlying3 rfl) ?_
            refine S_ 12 rfl rfl rfl _ (y_assign rfl rfl) ?_
            refine S_go (fun _ _ h => h) ?_
            refine T_seq ?_
            refine T_region ?_
            obtain ⟨k, hk⟩ : ∃ k : SSpan, 0 < q → out[q - 1]? = some k := by
              by_cases h0 : 0 < q
              · exact ⟨out[q - 1], fun _ => by simp [hp4]⟩
              · exact ⟨⟨0, 0⟩, fun h => absurd h h0⟩
            refine S_ 57 rfl rfl rfl _ (y_move rfl rfl) ?_
            refine S_ 58 rfl rfl rfl _ (y_len_slice rfl rfl Tryz.underlying122) ?_
            refine S_ 59 rfl rfl rfl _ (y_bin rfl rfl rfl (fun hg => b_sub (by omega))) ?_
            refine S_ 13 rfl rfl rfl _ (y_assign rfl rfl) ?_
            refine S_go (fun _ _ h => h) ?_
            refine T_seq ?_
            refine T_draws (by kernel_rfl) (by kernel_rfl) ?_
            refine D_ 60 rfl rfl rfl _ (y_move rfl rfl) ?_
            refine D_ 61 rfl rfl rfl _ (y_bin rfl rfl rfl (fun _ => b_geq)) ?_
            refine D_ 62 rfl rfl rfl _ (y_move rfl rfl) ?_
            refine Dg_ 63 rfl rfl rfl rfl rfl rfl _ (y_move rfl rfl) ?_
            refine Dg_ 64 rfl rfl rfl rfl rfl rfl _ (y_move rfl rfl) ?_
            refine Dg_ 65 rfl rfl rfl rfl rfl rfl _ (y_indexOwnI (j := q - 1) 9 rfl rfl rfl (fun hg => by simp only [Bool.true_and, Bool.and_eq_true, beq_iff_eq, decide_eq_true_eq, decide_eq_false_iff_not, Int.not_lt, Int.not_le] at hg; omega) rfl Tryz.underlying122 sz137 (fun hg => by simp only [Bool.true_and, Bool.and_eq_true, beq_iff_eq, decide_eq_true_eq, decide_eq_false_iff_not, Int.not_lt, Int.not_le] at hg; omega)) ?_
            refine Dg_ 66 rfl rfl rfl rfl rfl rfl _ (y_fieldOwn 9 rfl rfl rfl (fun hg => by simp only [Bool.true_and, Bool.and_eq_true, beq_iff_eq, decide_eq_true_eq, decide_eq_false_iff_not, Int.not_lt, Int.not_le] at hg; omega) fa137_1) ?_
            refine Dg_ 67 rfl rfl rfl rfl rfl rfl _ (y_load_cellOwn 9 rfl rfl rfl (fun hg => by simp only [Bool.true_and, Bool.and_eq_true, beq_iff_eq, decide_eq_true_eq, decide_eq_false_iff_not, Int.not_lt, Int.not_le] at hg; omega) (v := .int .i64 k.tu) (fun hg => flat_at (enc := SSpan.enc) (size := 2) (fun _ => rfl) (hk (by simp only [Bool.true_and, Bool.and_eq_true, beq_iff_eq, decide_eq_true_eq, decide_eq_false_iff_not, Int.not_lt, Int.not_le] at hg; omega)) 1 (.int .i64 k.tu) rfl) Tryz.underlying3 rfl) ?_
            refine Dg_ 68 rfl rfl rfl rfl rfl rfl _ (y_fieldAddr rfl rfl fa198_0) ?_
            refine Dg_ 69 rfl rfl rfl rfl rfl rfl _ (y_load 11 rfl rfl rfl rfl Tryz.underlying3 rfl) ?_
            refine Dg_ 70 rfl rfl rfl rfl rfl rfl _ (y_bin rfl rfl rfl (fun _ => b_eql)) ?_
            refine D_ 71 rfl rfl rfl _ (y_and rfl rfl rfl) ?_
            refine D_go (fun _ _ h => h) ?_
            refine T_cond rfl (fun h71 => ?_) (fun h71 => ?_)
            · try simp only [decide_eq_true_eq, decide_eq_false_iff_not, Bool.or_eq_true, Bool.or_eq_false_iff, Bool.and_eq_true, Bool.and_eq_false_iff, Bool.not_eq_true', Bool.not_eq_false', Bool.not_eq_true, Bool.not_eq_false, Bool.not_true, Bool.not_false, Int.not_lt, Int.not_le, not_or, not_and, Classical.not_not] at h71
              refine T_region ?_
              refine S_ 72 rfl rfl rfl _ (y_move rfl rfl) ?_
              refine S_ 73 rfl rfl rfl _ (y_move rfl rfl) ?_
              refine S_ 74 rfl rfl rfl _ (y_move rfl rfl) ?_
              refine S_ 75 rfl rfl rfl _ (y_indexOwnI (j := q - 1) 9 rfl rfl rfl (fun _ => by omega) rfl Tryz.underlying122 sz137 (fun _ => by omega)) ?_
              refine S_ 76 rfl rfl rfl _ (y_fieldOwn 9 rfl rfl rfl (fun _ => by omega) fa137_1) ?_
              refine S_storeOwn 9 rfl rfl rfl rfl rfl rfl sz3 rfl rfl ?_ (xs' := (out.set (q - 1) ⟨k.fr, r2.pos⟩).flatMap SSpan.enc) ?_ ?_
              · (rw [flat_len (e := SSpan.enc) (size := 2) (fun _ => rfl)]; omega)
              · exact flat_set (enc := SSpan.enc) (size := 2) (off := 1) (fun _ => rfl) (hk (by omega)) (by decide) rfl
              refine S_go (fun _ _ h => h) ?_
              refine T_region ?_
              refine S_ 84 rfl rfl rfl _ (y_bin rfl rfl rfl (fun hg => b_add (by omega))) ?_
              refine S_ 27 rfl rfl rfl _ (y_move rfl rfl) ?_
              refine S_nil (nextK5 (kf := [(9, 13), (27, 84)]) (kl := [(9, 13), (27, 84)]) (i + 1) (out.set (q - 1) ⟨k.fr, r2.pos⟩) q A c (by repeat (first | exact kf_nil | (apply kf_in; focus rfl) | (apply kf_out; focus rfl))) (by repeat (first | exact kl_nil | exact kl_rest (by assumption) rfl | (apply kl_in; focus rfl) | (apply kl_out; focus rfl))) ?_ ?_ ?_ ?_)
              · omega
              · exact ⟨by omega, by rw [hp2, hx2, spansOf, if_f h41, hend, addSpan_join (k := k) (by rw [hp4]; exact hk (by omega)) (by omega), hp4], by omega, by simp [hp4]⟩
              · exact ⟨rfl, rfl, trivial⟩
              · exact ⟨rfl, trivial⟩
            · try simp only [decide_eq_true_eq, decide_eq_false_iff_not, Bool.or_eq_true, Bool.or_eq_false_iff, Bool.and_eq_true, Bool.and_eq_false_iff, Bool.not_eq_true', Bool.not_eq_false', Bool.not_eq_true, Bool.not_eq_false, Bool.not_true, Bool.not_false, Int.not_lt, Int.not_le, not_or, not_and, Classical.not_not] at h71
              refine T_region ?_
              refine S_ 77 rfl rfl rfl _ (y_move rfl rfl) ?_
              refine S_ 78 rfl rfl rfl _ (y_fieldAddr rfl rfl fa198_0) ?_
              refine S_ 79 rfl rfl rfl _ (y_load 11 rfl rfl rfl rfl Tryz.underlying3 rfl) ?_
              refine S_ 80 rfl rfl rfl _ (y_move rfl rfl) ?_
              refine S_ 81 rfl rfl rfl _ (y_build (zv := .agg #[.int .i64 0, .int .i64 0]) (pl := [(0, 1), (1, 1)]) (out := [_, _]) rfl rfl Tryz.underlying137 z137 (by kernel_rfl) rfl) ?_
              refine S_buildSlice 82 82 rfl rfl rfl rfl rfl Tryz.underlying122 inf137 rfl (by decide) (by decide) rfl rfl (by decide) rfl (_) rfl ?_
              intro b82
              obtain ⟨i83, hi83, hz83, hs83, hy83⟩ := info_parts inf137
              refine S_append 83 9 82 rfl rfl rfl rfl rfl rfl rfl rfl Tryz.underlying122 hi83 hz83 hs83 hy83 rfl (by decide) (by decide) rfl ?_ ?_ (q + 1) ((out ++ [(⟨r.pos, r2.pos⟩ : SSpan)]).flatMap SSpan.enc) ?_ ?_ ?_
              · (simp only [maxLen]; omega)
              · omega
              · rfl
              · simp [List.flatMap_append, SSpan.enc]; rfl
              intro A83 c83
              refine S_ 9 rfl rfl rfl _ (y_assign rfl rfl) ?_
              refine S_go (fun _ _ h => h) ?_
              refine T_region ?_
              refine S_ 84 rfl rfl rfl _ (y_bin rfl rfl rfl (fun hg => b_add (by omega))) ?_
              refine S_ 27 rfl rfl rfl _ (y_move rfl rfl) ?_
              refine S_nil (nextK5 (kf := [(9, 13), (27, 84)]) (kl := [(9, 13), (27, 84)]) (i + 1) (out ++ [⟨r.pos, r2.pos⟩]) (q + 1) A83 c83 (by repeat (first | exact kf_nil | (apply kf_in; focus rfl) | (apply kf_out; focus rfl))) (by repeat (first | exact kl_nil | exact kl_rest (by assumption) rfl | (apply kl_in; focus rfl) | (apply kl_out; focus rfl))) ?_ ?_ ?_ ?_)
              · omega
              · exact ⟨by omega, by rw [hp2, hx2, spansOf, if_f h41, hend, addSpan_new (k := k) (by rw [hp4]; exact hk) (by rw [hp4]; omega)], by omega, by simp [hp4]⟩
              · exact ⟨rfl, rfl, trivial⟩
              · exact ⟨rfl, trivial⟩
          · try simp only [decide_eq_true_eq, decide_eq_false_iff_not, Bool.or_eq_true, Bool.or_eq_false_iff, Bool.and_eq_true, Bool.and_eq_false_iff, Bool.not_eq_true', Bool.not_eq_false', Bool.not_eq_true, Bool.not_eq_false, Bool.not_true, Bool.not_false, Int.not_lt, Int.not_le, not_or, not_and, Classical.not_not] at h49
            have hend : rowEnd t.size (t.ro.l.drop (i + 1)) = t.size := by rw [ht.end (by omega)]; rfl
            refine T_skip_go (fun _ _ h => h) ?_
            refine T_seq ?_
            refine T_region ?_
            obtain ⟨k, hk⟩ : ∃ k : SSpan, 0 < q → out[q - 1]? = some k := by
              by_cases h0 : 0 < q
              · exact ⟨out[q - 1], fun _ => by simp [hp4]⟩
              · exact ⟨⟨0, 0⟩, fun h => absurd h h0⟩
            refine S_ 57 rfl rfl rfl _ (y_move rfl rfl) ?_
            refine S_ 58 rfl rfl rfl _ (y_len_slice rfl rfl Tryz.underlying122) ?_
            refine S_ 59 rfl rfl rfl _ (y_bin rfl rfl rfl (fun hg => b_sub (by omega))) ?_
            refine S_ 13 rfl rfl rfl _ (y_assign rfl rfl) ?_
            refine S_go (fun _ _ h => h) ?_
            refine T_seq ?_
            refine T_draws (by kernel_rfl) (by kernel_rfl) ?_
            refine D_ 60 rfl rfl rfl _ (y_move rfl rfl) ?_
            refine D_ 61 rfl rfl rfl _ (y_bin rfl rfl rfl (fun _ => b_geq)) ?_
            refine D_ 62 rfl rfl rfl _ (y_move rfl rfl) ?_
            refine Dg_ 63 rfl rfl rfl rfl rfl rfl _ (y_move rfl rfl) ?_
            refine Dg_ 64 rfl rfl rfl rfl rfl rfl _ (y_move rfl rfl) ?_
            refine Dg_ 65 rfl rfl rfl rfl rfl rfl _ (y_indexOwnI (j := q - 1) 9 rfl rfl rfl (fun hg => by simp only [Bool.true_and, Bool.and_eq_true, beq_iff_eq, decide_eq_true_eq, decide_eq_false_iff_not, Int.not_lt, Int.not_le] at hg; omega) rfl Tryz.underlying122 sz137 (fun hg => by simp only [Bool.true_and, Bool.and_eq_true, beq_iff_eq, decide_eq_true_eq, decide_eq_false_iff_not, Int.not_lt, Int.not_le] at hg; omega)) ?_
            refine Dg_ 66 rfl rfl rfl rfl rfl rfl _ (y_fieldOwn 9 rfl rfl rfl (fun hg => by simp only [Bool.true_and, Bool.and_eq_true, beq_iff_eq, decide_eq_true_eq, decide_eq_false_iff_not, Int.not_lt, Int.not_le] at hg; omega) fa137_1) ?_
            refine Dg_ 67 rfl rfl rfl rfl rfl rfl _ (y_load_cellOwn 9 rfl rfl rfl (fun hg => by simp only [Bool.true_and, Bool.and_eq_true, beq_iff_eq, decide_eq_true_eq, decide_eq_false_iff_not, Int.not_lt, Int.not_le] at hg; omega) (v := .int .i64 k.tu) (fun hg => flat_at (enc := SSpan.enc) (size := 2) (fun _ => rfl) (hk (by simp only [Bool.true_and, Bool.and_eq_true, beq_iff_eq, decide_eq_true_eq, decide_eq_false_iff_not, Int.not_lt, Int.not_le] at hg; omega)) 1 (.int .i64 k.tu) rfl) Tryz.underlying3 rfl) ?_
            refine Dg_ 68 rfl rfl rfl rfl rfl rfl _ (y_fieldAddr rfl rfl fa198_0) ?_
            refine Dg_ 69 rfl rfl rfl rfl rfl rfl _ (y_load 11 rfl rfl rfl rfl Tryz.underlying3 rfl) ?_
            refine Dg_ 70 rfl rfl rfl rfl rfl rfl _ (y_bin rfl rfl rfl (fun _ => b_eql)) ?_
            refine D_ 71 rfl rfl rfl _ (y_and rfl rfl rfl) ?_
            refine D_go (fun _ _ h => h) ?_
            refine T_cond rfl (fun h71 => ?_) (fun h71 => ?_)
            · try simp only [decide_eq_true_eq, decide_eq_false_iff_not, Bool.or_eq_true, Bool.or_eq_false_iff, Bool.and_eq_true, Bool.and_eq_false_iff, Bool.not_eq_true', Bool.not_eq_false', Bool.not_eq_true, Bool.not_eq_false, Bool.not_true, Bool.not_false, Int.not_lt, Int.not_le, not_or, not_and, Classical.not_not] at h71
              refine T_region ?_
              refine S_ 72 rfl rfl rfl _ (y_move rfl rfl) ?_
              refine S_ 73 rfl rfl rfl _ (y_move rfl rfl) ?_
              refine S_ 74 rfl rfl rfl _ (y_move rfl rfl) ?_
              refine S_ 75 rfl rfl rfl _ (y_indexOwnI (j := q - 1) 9 rfl rfl rfl (fun _ => by omega) rfl Tryz.underlying122 sz137 (fun _ => by omega)) ?_
              refine S_ 76 rfl rfl rfl _ (y_fieldOwn 9 rfl rfl rfl (fun _ => by omega) fa137_1) ?_
              refine S_storeOwn 9 rfl rfl rfl rfl rfl rfl sz3 rfl rfl ?_ (xs' := (out.set (q - 1) ⟨k.fr, t.size⟩).flatMap SSpan.enc) ?_ ?_
              · (rw [flat_len (e := SSpan.enc) (size := 2) (fun _ => rfl)]; omega)
              · exact flat_set (enc := SSpan.enc) (size := 2) (off := 1) (fun _ => rfl) (hk (by omega)) (by decide) rfl
              refine S_go (fun _ _ h => h) ?_
              refine T_region ?_
              refine S_ 84 rfl rfl rfl _ (y_bin rfl rfl rfl (fun hg => b_add (by omega))) ?_
              refine S_ 27 rfl rfl rfl _ (y_move rfl rfl) ?_
              refine S_nil (nextK5 (kf := [(9, 13), (27, 84)]) (kl := [(9, 13), (27, 84)]) (i + 1) (out.set (q - 1) ⟨k.fr, t.size⟩) q A c (by repeat (first | exact kf_nil | (apply kf_in; focus rfl) | (apply kf_out; focus rfl))) (by repeat (first | exact kl_nil | exact kl_rest (by assumption) rfl | (apply kl_in; focus rfl) | (apply kl_out; focus rfl))) ?_ ?_ ?_ ?_)
              · omega
              · exact ⟨by omega, by rw [hp2, hx2, spansOf, if_f h41, hend, addSpan_join (k := k) (by rw [hp4]; exact hk (by omega)) (by omega), hp4], by omega, by simp [hp4]⟩
              · exact ⟨rfl, rfl, trivial⟩
              · exact ⟨rfl, trivial⟩
            · try simp only [decide_eq_true_eq, decide_eq_false_iff_not, Bool.or_eq_true, Bool.or_eq_false_iff, Bool.and_eq_true, Bool.and_eq_false_iff, Bool.not_eq_true', Bool.not_eq_false', Bool.not_eq_true, Bool.not_eq_false, Bool.not_true, Bool.not_false, Int.not_lt, Int.not_le, not_or, not_and, Classical.not_not] at h71
              refine T_region ?_
              refine S_ 77 rfl rfl rfl _ (y_move rfl rfl) ?_
              refine S_ 78 rfl rfl rfl _ (y_fieldAddr rfl rfl fa198_0) ?_
              refine S_ 79 rfl rfl rfl _ (y_load 11 rfl rfl rfl rfl Tryz.underlying3 rfl) ?_
              refine S_ 80 rfl rfl rfl _ (y_move rfl rfl) ?_
              refine S_ 81 rfl rfl rfl _ (y_build (zv := .agg #[.int .i64 0, .int .i64 0]) (pl := [(0, 1), (1, 1)]) (out := [_, _]) rfl rfl Tryz.underlying137 z137 (by kernel_rfl) rfl) ?_
              refine S_buildSlice 82 82 rfl rfl rfl rfl rfl Tryz.underlying122 inf137 rfl (by decide) (by decide) rfl rfl (by decide) rfl (_) rfl ?_
              intro b82
              obtain ⟨i83, hi83, hz83, hs83, hy83⟩ := info_parts inf137
              refine S_append 83 9 82 rfl rfl rfl rfl rfl rfl rfl rfl Tryz.underlying122 hi83 hz83 hs83 hy83 rfl (by decide) (by decide) rfl ?_ ?_ (q + 1) ((out ++ [(⟨r.pos, t.size⟩ : SSpan)]).flatMap SSpan.enc) ?_ ?_ ?_
              · (simp only [maxLen]; omega)
              · omega
              · rfl
              · simp [List.flatMap_append, SSpan.enc]; rfl
              intro A83 c83
              refine S_ 9 rfl rfl rfl _ (y_assign rfl rfl) ?_
              refine S_go (fun _ _ h => h) ?_
              refine T_region ?_
              refine S_ 84 rfl rfl rfl _ (y_bin rfl rfl rfl (fun hg => b_add (by omega))) ?_
              refine S_ 27 rfl rfl rfl _ (y_move rfl rfl) ?_
              refine S_nil (nextK5 (kf := [(9, 13), (27, 84)]) (kl := [(9, 13), (27, 84)]) (i + 1) (out ++ [⟨r.pos, t.size⟩]) (q + 1) A83 c83 (by repeat (first | exact kf_nil | (apply kf_in; focus rfl) | (apply kf_out; focus rfl))) (by repeat (first | exact kl_nil | exact kl_rest (by assumption) rfl | (apply kl_in; focus rfl) | (apply kl_out; focus rfl))) ?_ ?_ ?_ ?_)
              · omega
              · exact ⟨by omega, by rw [hp2, hx2, spansOf, if_f h41, hend, addSpan_new (k := k) (by rw [hp4]; exact hk) (by rw [hp4]; omega)], by omega, by simp [hp4]⟩
              · exact ⟨rfl, rfl, trivial⟩
              · exact ⟨rfl, trivial⟩
      · try simp only [decide_eq_true_eq, decide_eq_false_iff_not, Bool.or_eq_true, Bool.or_eq_false_iff, Bool.and_eq_true, Bool.and_eq_false_iff, Bool.not_eq_true', Bool.not_eq_false', Bool.not_eq_true, Bool.not_eq_false, Bool.not_true, Bool.not_false, Int.not_lt, Int.not_le, not_or, not_and, Classical.not_not] at h28
        refine T_exit_go (fun _ _ h => h) ?_
        refine T_seq ?_
        refine T_region ?_
        refine S_ 85 rfl rfl rfl _ (y_move rfl rfl) ?_
        refine S_ 6 rfl rfl rfl _ (y_assign rfl rfl) ?_
        refine S_ 7 rfl rfl rfl _ (y_assign rfl rfl) ?_
        refine S_go (fun _ _ h => h) ?_
        refine T_ret (fun a w hF hM => hRb a w (post2 rfl rfl rfl (fun w hM => ?_) a w hF hM))
        have e : linesNo t file ln = 0 := fst_b h0 ((if_neg (by omega)).trans (if_f h21))
        have e2 : linesOut t file ln = out := by rw [linesOut, if_pos e, hp2, ht.end (by omega)]; rfl
        rw [e, e2, hp4]
        exact ⟨A, c, rfl, hM.sat 9 _ rfl, hM.below⟩
/-! ### SharesOf -/
theorem sharesOf1_any (a b : SShare) (w : World) : Calls Tryz.prog 179 #[.agg a.enc.toArray, .agg b.enc.toArray] w fun e w' => e = .returned (.int .i64 (cfS a b)) ∧ Below w.heap.size w w' := by
  refine enter_args (args := [.agg #[str a.name, .int .i64 a.n], .agg #[str b.name, .int .i64 b.n]]) (F := _) Tryz.func179 rfl Tryz.ntmps179 rfl rfl ?_
  intro Rb hRb hRn
  refine T_seq ?_
  refine T_region ?_
  refine S_box 2 2 rfl rfl rfl rfl rfl ?_
  intro b2
  refine S_box 3 3 rfl rfl rfl rfl rfl ?_
  intro b3
  refine S_ 4 rfl rfl rfl _ (y_assign rfl rfl) ?_
  refine S_go (fun _ _ h => h) ?_
  refine T_seq ?_
  refine T_drawsTail 10 (by kernel_rfl) (by kernel_rfl) ?_
  refine D_ 5 rfl rfl rfl _ (y_fieldAddr rfl rfl fa140_1) ?_
  refine D_ 6 rfl rfl rfl _ (y_load 3 rfl rfl rfl rfl Tryz.underlying3 rfl) ?_
  refine D_ 7 rfl rfl rfl _ (y_fieldAddr rfl rfl fa140_1) ?_
  refine D_ 8 rfl rfl rfl _ (y_load 2 rfl rfl rfl rfl Tryz.underlying3 rfl) ?_
  refine D_ 9 rfl rfl rfl _ (y_call rfl rfl rfl cf148 (fun _ w _ => cmpJ_any _ _ w)) ?_
  refine D_ 10 rfl rfl rfl _ (y_fieldAddr rfl rfl fa140_0) ?_
  refine D_ 11 rfl rfl rfl _ (y_load 2 rfl rfl rfl rfl Tryz.underlying9 rfl) ?_
  refine D_ 12 rfl rfl rfl _ (y_fieldAddr rfl rfl fa140_0) ?_
  refine D_ 13 rfl rfl rfl _ (y_load 3 rfl rfl rfl rfl Tryz.underlying9 rfl) ?_
  refine D_ 14 rfl rfl rfl _ (y_call rfl rfl rfl cf154 (fun _ w _ => cmpB_any _ _ w)) ?_
  refine D_tail ?_
  refine S_buildSlice 15 15 rfl rfl rfl rfl rfl Tryz.underlying212 inf3 rfl (by decide) (by decide) rfl rfl (by decide) rfl (_) rfl ?_
  intro b15
  refine S_ 16 rfl rfl rfl _ (y_call rfl rfl rfl cf153 (fun _ w hM => or_any _ _ (cmpJ b.n a.n) (cmpB a.name b.name) w ⟨own_reads hM (i := 15) rfl, rfl⟩)) ?_
  refine S_ 4 rfl rfl rfl _ (y_assign rfl rfl) ?_
  refine S_go (fun _ _ h => h) ?_
  refine T_ret (fun a w hF hM => hRb a w (post1 rfl rfl (fun w hM => ?_) a w hF hM))
  exact ⟨rfl, hM.below⟩
theorem sortsShares2 {w0 : World} {K : HL} (hK : FromK K) (A : Option Addr) (q c : Nat) (l : List SShare) (w : World) (hlen : l.length = q) (hq : q ≤ 1000000) (hM : Mem w0 ([(0, .own 140 2 (.slice A q c) q (l.flatMap SShare.enc))] ++ K) w) :
    Calls Tryz.prog 170 #[.slice A q c, .func (.func 179) #[] #[]] w fun e w' => ∃ l' : List SShare, e = .returned (.tuple #[]) ∧ l' = l.mergeSort leS ∧ Mem w0 ([(0, .own 140 2 (.slice A q c) q (l'.flatMap SShare.enc))] ++ K) w' := by
  have h := sort_own Tryz.laysSort170 (k := 2) (enc := SShare.enc) Tryz.isAgg140 Tryz.sizeOf140 (fun _ => rfl)
    (fun x v hv => by simp only [SShare.enc, List.mem_cons, List.not_mem_nil, or_false] at hv; rcases hv with rfl | rfl <;> rfl) cfS swoS 179 #[] cf179 hK 140 A q c l w hlen (by omega) (fun w' _ x y => sharesOf1_any x y w') hM
  refine Calls.mono h ?_
  rintro e w' ⟨l', rfl, rfl, hM'⟩
  exact ⟨_, rfl, pdqL_total swoS (fun x y h1 h2 => ltS_total h1 h2) l, hM'⟩
/-- the edges in order, each once -/
def edgL (t : Tab) : List Int := cptG [] (srtI (edges t))
theorem edg_ok (t : Tab) : (edgL t).Pairwise (· < ·) ∧ (∀ e, e ∈ edgL t ↔ e ∈ edges t) ∧ (edgL t).length ≤ (edges t).length := by
  obtain ⟨h1, h2⟩ := cptG_ok (lt := fun x y : Int => x < y) (fun x y h1 h2 => by omega) (fun x y z h1 h2 => by omega) (srtI (edges t)) [] List.Pairwise.nil (by simpa using srtI_sorted (edges t))
  refine ⟨h1, fun e => ?_, ?_⟩
  · rw [edgL, h2, (srtI_perm _).mem_iff]; simp
  · have := cptG_len (srtI (edges t)) []
    rw [(srtI_perm _).length_eq] at this
    simpa [edgL] using this
/-- what the reference's shares are -/
def RefSh (t : Tab) (l : List SShare) : Prop := ∃ M D : List (Nm × Int), EdgeOk (ownr t) t.size.toNat M ∧ M.Perm D ∧ l = (D.map mkS).mergeSort leS ∧ M.length ≤ 10000
theorem sortedU {α : Type} {R : α → α → Prop} : ∀ {l m : List α}, l.Perm m → l.Pairwise R → m.Pairwise R → (∀ x y, R x y → R y x → x = y) → l = m
  | [], m, hp, _, _, _ => (List.Perm.eq_nil hp.symm).symm
  | a :: r, m, hp, hl, hm, ha => by
    cases m with
    | nil => exact absurd hp.eq_nil (by simp)
    | cons b s =>
      have e : a = b := by
        have h1 : a ∈ b :: s := hp.subset (List.mem_cons_self ..)
        have h2 : b ∈ a :: r := hp.symm.subset (List.mem_cons_self ..)
        rcases List.mem_cons.1 h1 with h1 | h1
        · exact h1
        · rcases List.mem_cons.1 h2 with h2 | h2
          · exact h2.symm
          · exact ha a b ((List.pairwise_cons.1 hl).1 b h2) ((List.pairwise_cons.1 hm).1 a h1)
      subst e
      rw [sortedU ((List.perm_cons a).1 hp) (List.pairwise_cons.1 hl).2 (List.pairwise_cons.1 hm).2 ha]
theorem leS_sorted (l : List SShare) : (l.mergeSort leS).Pairwise fun x y => leS x y = true :=
  List.pairwise_mergeSort (le := leS) (fun a b c h1 h2 => by
    unfold leS at *
    simp only [Bool.not_eq_true'] at *
    exact ltS_ntrans h2 h1) (fun a b => by
    unfold leS
    cases h1 : ltS b a with
    | false => rfl
    | true =>
      cases h2 : ltS a b with
      | false => rfl
      | true => have := ltS_trans h1 h2; rw [ltS_irrefl] at this; cases this) l
theorem sort_perm {a b : List SShare} (h : a.Perm b) : a.mergeSort leS = b.mergeSort leS := by
  refine sortedU (((List.mergeSort_perm a leS).trans h).trans (List.mergeSort_perm b leS).symm) (leS_sorted a) (leS_sorted b) fun x y h1 h2 => ?_
  unfold leS at h1 h2
  exact ltS_total (by simpa using h2) (by simpa using h1)
theorem shares_same {t : Tab} {l m : List SShare} (h0 : tabNo t = 0) (h1 : ShOk leS t l) (h2 : RefSh t m) : l = m := by
  unfold ShOk at h1
  rw [if_neg (by simp [h0])] at h1
  obtain ⟨M1, D1, a1, _, a3, a4, _⟩ := h1
  obtain ⟨M2, D2, b1, b2, b3, _⟩ := h2
  rw [a4, b3]
  refine sort_perm (List.Perm.map _ ?_)
  exact ((a3.symm.filter _).trans (maps_perm a1 b1)).trans b2
theorem take_flat {α β : Type} {f : α → List β} {l : List α} {i : Nat} {a : α} (h : l[i]? = some a) : (l.take (i + 1)).flatMap f = (l.take i).flatMap f ++ f a := by
  rw [take_succ_at h, List.flatMap_append]; simp
set_option maxHeartbeats 3200000 in
theorem SharesOf_any {w0 : World} {K : HL} (hK : FromK K) (t : Tab) (w : World) (hok : t.Ok w0) (h0 : tabNo t = 0) (hM0 : Mem w0 ([] ++ K) w) :
    Calls Tryz.prog 68 #[.agg #[str t.id, .int .i64 t.size, .slice t.fi.A t.fi.q t.fi.c, .slice t.fu.A t.fu.q t.fu.c, .slice t.ro.A t.ro.q t.ro.c, .slice t.ca.A t.ca.q t.ca.c]] w fun e w' => ∃ z : List SShare × Option Addr × Nat, e = .returned (.slice z.2.1 z.1.length z.2.2) ∧ RefSh t z.1 ∧ Mem w0 ([(12, shIt z.2.1 z.2.2 z.1)] ++ K) w' := by
  have hq := hok.small
  have hft := hok.fu.t
  have hct := hok.ca.t
  have hfl := hft.len
  have hcl := hct.len
  have hr := rows_of h0
  have hsz := size_of_out hr.1.2
  have hein := edges_in h0
  have hel := edges_len t
  obtain ⟨hE1, hE2, hE3⟩ := edg_ok t
  refine enterM_args (args := [.agg #[str t.id, .int .i64 t.size, .slice t.fi.A t.fi.q t.fi.c, .slice t.fu.A t.fu.q t.fu.c, .slice t.ro.A t.ro.q t.ro.c, .slice t.ca.A t.ca.q t.ca.c]]) (F := _) hM0 Tryz.func68 rfl Tryz.ntmps68 rfl rfl ?_
  intro Rb hRb hRn
  refine T_seq ?_
  refine T_region ?_
  refine S_box 1 1 rfl rfl rfl rfl rfl ?_
  intro b1
  refine S_nilSlice 2 (e := 140) (size := 2) ?_
  refine S_ 2 rfl rfl rfl _ (y_assign rfl rfl) ?_
  refine S_go (fun _ _ h => h) ?_
  refine T_seq ?_
  refine T_region ?_
  refine S_nilSlice 3 (e := 3) (size := 1) ?_
  refine S_ 3 rfl rfl rfl _ (y_assign rfl rfl) ?_
  refine S_go (fun _ _ h => h) ?_
  refine T_seq ?_
  refine T_seq ?_
  refine T_region ?_
  refine S_ 15 rfl rfl rfl _ (y_fieldAddr rfl rfl fa62_3) ?_
  refine S_ 16 rfl rfl rfl _ (y_load 1 rfl rfl rfl rfl Tryz.underlying58 rfl) ?_
  refine S_ 17 rfl rfl rfl _ (y_len_slice rfl rfl Tryz.underlying58) ?_
  refine S_ 18 rfl rfl rfl _ (y_move rfl rfl) ?_
  refine S_go (fun _ _ h => h) ?_
  refine T_block ?_
  refine T_loopK5 (kf := [(3, 3), (5, 5), (18, 29)]) (kl := [(3, 3), (5, 5), (18, 29)]) (fun (i : Nat) (E : List Int) (q : Nat) (A : Option Addr) (c : Nat) => [(18, true, .int .i64 (i : Int)), (3, true, .slice A q c)]) (fun (i : Nat) (E : List Int) (q : Nat) (A : Option Addr) (c : Nat) => [(3, .own 3 1 (.slice A q c) q (E.flatMap intEnc))]) (fun (i : Nat) (E : List Int) (q : Nat) (A : Option Addr) (c : Nat) => i ≤ t.fu.q ∧ E = (t.fu.l.take i).flatMap edgeF ∧ E.length = q ∧ q = 2 * i) (fun (i : Nat) (E : List Int) (q : Nat) (A : Option Addr) (c : Nat) => t.fu.q - i) 0 [] 0 none 0 (by repeat (first | exact kf_nil | (apply kf_in; focus rfl) | (apply kf_out; focus rfl))) (by repeat (first | exact kl_nil | exact kl_rest (by assumption) rfl | (apply kl_in; focus rfl) | (apply kl_out; focus rfl))) ?_ ?_ ?_ ?_
  · exact ⟨by omega, rfl, rfl, rfl⟩
  · exact ⟨rfl, rfl, trivial⟩
  · exact ⟨rfl, trivial⟩
  rintro i E q A c ⟨hp0, hp1, hp2, hp3⟩
  refine T_seq ?_
  refine T_region ?_
  refine S_ 19 rfl rfl rfl _ (y_bin rfl rfl rfl (fun _ => b_lss)) ?_
  refine S_go (fun _ _ h => h) ?_
  refine T_seq ?_
  refine T_cond rfl (fun h19 => ?_) (fun h19 => ?_)
  · try simp only [decide_eq_true_eq, decide_eq_false_iff_not, Bool.or_eq_true, Bool.or_eq_false_iff, Bool.and_eq_true, Bool.and_eq_false_iff, Bool.not_eq_true', Bool.not_eq_false', Bool.not_eq_true, Bool.not_eq_false, Bool.not_true, Bool.not_false, Int.not_lt, Int.not_le, not_or, not_and, Classical.not_not] at h19
    obtain ⟨g, hx1, hx2⟩ := hft.at (i := i) (by omega)
    refine T_skip_go (fun _ _ h => h) ?_
    refine T_seq ?_
    refine T_block ?_
    refine T_seq ?_
    refine T_region ?_
    refine S_ 20 rfl rfl rfl _ (y_indexAddr rfl rfl rfl Tryz.underlying58 sz196 (fun hg => hft.isSome (by omega)) (fun _ => by omega)) ?_
    refine S_ 21 rfl rfl rfl _ (y_loadT rfl rfl hft (fun _ => rfl) (fun _ => hx1) Tryz.underlying196 rfl sz196) ?_
    refine S_alloc 5 5 rfl rfl rfl rfl z196 ?_
    intro b5
    refine S_store 5 rfl rfl rfl rfl rfl rfl sz196 rfl rfl ?_
    refine S_go (fun _ _ h => h) ?_
    refine T_region ?_
    refine S_ 22 rfl rfl rfl _ (y_move rfl rfl) ?_
    refine S_ 23 rfl rfl rfl _ (y_fieldAddr rfl rfl fa196_1) ?_
    refine S_ 24 rfl rfl rfl _ (y_load 5 rfl rfl rfl rfl Tryz.underlying3 rfl) ?_
    refine S_ 25 rfl rfl rfl _ (y_fieldAddr rfl rfl fa196_2) ?_
    refine S_ 26 rfl rfl rfl _ (y_load 5 rfl rfl rfl rfl Tryz.underlying3 rfl) ?_
    refine S_buildSlice 27 27 rfl rfl rfl rfl rfl Tryz.underlying212 inf3 rfl (by decide) (by decide) rfl rfl (by decide) rfl (_) rfl ?_
    intro b27
    obtain ⟨i28, hi28, hz28, hs28, hy28⟩ := info_parts inf3
    refine S_append 28 3 27 rfl rfl rfl rfl rfl rfl rfl rfl Tryz.underlying212 hi28 hz28 hs28 hy28 rfl (by decide) (by decide) rfl ?_ ?_ (q + 2) ((E ++ edgeF g).flatMap intEnc) ?_ ?_ ?_
    · (simp only [maxLen]; omega)
    · omega
    · rfl
    · simp [List.flatMap_append, edgeF, intEnc]; rfl
    intro A28 c28
    refine S_ 3 rfl rfl rfl _ (y_assign rfl rfl) ?_
    refine S_go (fun _ _ h => h) ?_
    refine T_region ?_
    refine S_ 29 rfl rfl rfl _ (y_bin rfl rfl rfl (fun hg => b_add (by omega))) ?_
    refine S_ 18 rfl rfl rfl _ (y_move rfl rfl) ?_
    refine S_nil (nextK5 (kf := [(3, 3), (5, 5), (18, 29)]) (kl := [(3, 3), (5, 5), (18, 29)]) (i + 1) (E ++ edgeF g) (q + 2) A28 c28 (by repeat (first | exact kf_nil | (apply kf_in; focus rfl) | (apply kf_out; focus rfl))) (by repeat (first | exact kl_nil | exact kl_rest (by assumption) rfl | (apply kl_in; focus rfl) | (apply kl_out; focus rfl))) ?_ ?_ ?_ ?_)
    · omega
    · exact ⟨by omega, by rw [hp1, take_flat hx1], by rw [List.length_append, hp2]; rfl, by omega⟩
    · exact ⟨rfl, rfl, trivial⟩
    · exact ⟨rfl, trivial⟩
  · try simp only [decide_eq_true_eq, decide_eq_false_iff_not, Bool.or_eq_true, Bool.or_eq_false_iff, Bool.and_eq_true, Bool.and_eq_false_iff, Bool.not_eq_true', Bool.not_eq_false', Bool.not_eq_true, Bool.not_eq_false, Bool.not_true, Bool.not_false, Int.not_lt, Int.not_le, not_or, not_and, Classical.not_not] at h19
    refine T_exit_go (fun _ _ h => h) ?_
    refine T_seq ?_
    refine T_seq ?_
    refine T_region ?_
    refine S_ 30 rfl rfl rfl _ (y_fieldAddr rfl rfl fa62_5) ?_
    refine S_ 31 rfl rfl rfl _ (y_load 1 rfl rfl rfl rfl Tryz.underlying60 rfl) ?_
    refine S_ 32 rfl rfl rfl _ (y_len_slice rfl rfl Tryz.underlying60) ?_
    refine S_ 33 rfl rfl rfl _ (y_move rfl rfl) ?_
    refine S_go (fun _ _ h => h) ?_
    refine T_block ?_
    refine T_loopK5 (kf := [(3, 3), (7, 7), (33, 44)]) (kl := [(3, 3), (7, 7), (33, 44)]) (fun (j : Nat) (E2 : List Int) (q : Nat) (A : Option Addr) (c : Nat) => [(33, true, .int .i64 (j : Int)), (3, true, .slice A q c)]) (fun (j : Nat) (E2 : List Int) (q : Nat) (A : Option Addr) (c : Nat) => [(3, .own 3 1 (.slice A q c) q (E2.flatMap intEnc))]) (fun (j : Nat) (E2 : List Int) (q : Nat) (A : Option Addr) (c : Nat) => j ≤ t.ca.q ∧ E2 = E ++ (t.ca.l.take j).flatMap edgeC ∧ E2.length = q ∧ q = 2 * t.fu.q + 2 * j) (fun (j : Nat) (E2 : List Int) (q : Nat) (A : Option Addr) (c : Nat) => t.ca.q - j) 0 E q A c (by repeat (first | exact kf_nil | (apply kf_in; focus rfl) | (apply kf_out; focus rfl))) (by repeat (first | exact kl_nil | exact kl_rest (by assumption) rfl | (apply kl_in; focus rfl) | (apply kl_out; focus rfl))) ?_ ?_ ?_ ?_
    · exact ⟨by omega, by simp, hp2, by omega⟩
    · exact ⟨rfl, rfl, trivial⟩
    · exact ⟨rfl, trivial⟩
    rintro j E2 q A c ⟨hr0, hr1, hr2, hr3⟩
    refine T_seq ?_
    refine T_region ?_
    refine S_ 34 rfl rfl rfl _ (y_bin rfl rfl rfl (fun _ => b_lss)) ?_
    refine S_go (fun _ _ h => h) ?_
    refine T_seq ?_
    refine T_cond rfl (fun h34 => ?_) (fun h34 => ?_)
    · try simp only [decide_eq_true_eq, decide_eq_false_iff_not, Bool.or_eq_true, Bool.or_eq_false_iff, Bool.and_eq_true, Bool.and_eq_false_iff, Bool.not_eq_true', Bool.not_eq_false', Bool.not_eq_true, Bool.not_eq_false, Bool.not_true, Bool.not_false, Int.not_lt, Int.not_le, not_or, not_and, Classical.not_not] at h34
      obtain ⟨c0, hc1, hc2⟩ := hct.at (i := j) (by omega)
      refine T_skip_go (fun _ _ h => h) ?_
      refine T_seq ?_
      refine T_block ?_
      refine T_seq ?_
      refine T_region ?_
      refine S_ 35 rfl rfl rfl _ (y_indexAddr rfl rfl rfl Tryz.underlying60 sz200 (fun hg => hct.isSome (by omega)) (fun _ => by omega)) ?_
      refine S_ 36 rfl rfl rfl _ (y_loadT rfl rfl hct (fun _ => rfl) (fun _ => hc1) Tryz.underlying200 rfl sz200) ?_
      refine S_alloc 7 7 rfl rfl rfl rfl z200 ?_
      intro b7
      refine S_store 7 rfl rfl rfl rfl rfl rfl sz200 rfl rfl ?_
      refine S_go (fun _ _ h => h) ?_
      refine T_region ?_
      refine S_ 37 rfl rfl rfl _ (y_move rfl rfl) ?_
      refine S_ 38 rfl rfl rfl _ (y_fieldAddr rfl rfl fa200_1) ?_
      refine S_ 39 rfl rfl rfl _ (y_load 7 rfl rfl rfl rfl Tryz.underlying3 rfl) ?_
      refine S_ 40 rfl rfl rfl _ (y_fieldAddr rfl rfl fa200_2) ?_
      refine S_ 41 rfl rfl rfl _ (y_load 7 rfl rfl rfl rfl Tryz.underlying3 rfl) ?_
      refine S_buildSlice 42 42 rfl rfl rfl rfl rfl Tryz.underlying212 inf3 rfl (by decide) (by decide) rfl rfl (by decide) rfl (_) rfl ?_
      intro b42
      obtain ⟨i43, hi43, hz43, hs43, hy43⟩ := info_parts inf3
      refine S_append 43 3 42 rfl rfl rfl rfl rfl rfl rfl rfl Tryz.underlying212 hi43 hz43 hs43 hy43 rfl (by decide) (by decide) rfl ?_ ?_ (q + 2) ((E2 ++ edgeC c0).flatMap intEnc) ?_ ?_ ?_
      · (simp only [maxLen]; omega)
      · omega
      · rfl
      · simp [List.flatMap_append, edgeC, intEnc]; rfl
      intro A43 c43
      refine S_ 3 rfl rfl rfl _ (y_assign rfl rfl) ?_
      refine S_go (fun _ _ h => h) ?_
      refine T_region ?_
      refine S_ 44 rfl rfl rfl _ (y_bin rfl rfl rfl (fun hg => b_add (by omega))) ?_
      refine S_ 33 rfl rfl rfl _ (y_move rfl rfl) ?_
      refine S_nil (nextK5 (kf := [(3, 3), (7, 7), (33, 44)]) (kl := [(3, 3), (7, 7), (33, 44)]) (j + 1) (E2 ++ edgeC c0) (q + 2) A43 c43 (by repeat (first | exact kf_nil | (apply kf_in; focus rfl) | (apply kf_out; focus rfl))) (by repeat (first | exact kl_nil | exact kl_rest (by assumption) rfl | (apply kl_in; focus rfl) | (apply kl_out; focus rfl))) ?_ ?_ ?_ ?_)
      · omega
      · exact ⟨by omega, by rw [hr1, take_flat hc1, List.append_assoc], by rw [List.length_append, hr2]; rfl, by omega⟩
      · exact ⟨rfl, rfl, trivial⟩
      · exact ⟨rfl, trivial⟩
    · try simp only [decide_eq_true_eq, decide_eq_false_iff_not, Bool.or_eq_true, Bool.or_eq_false_iff, Bool.and_eq_true, Bool.and_eq_false_iff, Bool.not_eq_true', Bool.not_eq_false', Bool.not_eq_true, Bool.not_eq_false, Bool.not_true, Bool.not_false, Int.not_lt, Int.not_le, not_or, not_and, Classical.not_not] at h34
      have hEe : E2 = edges t := by rw [hr1, hp1, List.take_of_length_le (by omega), List.take_of_length_le (by omega)]; rfl
      subst hEe
      have hEq : (edges t).length = q := hr2
      have hSq : (srtI (edges t)).length = q := by rw [(srtI_perm _).length_eq, hEq]
      refine T_exit_go (fun _ _ h => h) ?_
      refine T_seq ?_
      refine T_region ?_
      refine S_ 45 rfl rfl rfl _ (y_move rfl rfl) ?_
      refine S_callM 46 [(0, 3)] (X := Unit) rfl rfl rfl rfl rfl rfl rfl cf177 rfl (fun _ => .tuple #[]) (fun _ => True) (fun _ => [(0, .own 3 1 (.slice A q c) q ((srtI (edges t)).flatMap intEnc))]) (fun _ => rfl) (fun _ => rfl) (fun K1 hK1 w1 hM => SortInt_any A q c (edges t) w1 hEq (by omega) hM) ?_
      intro u46 _
      refine S_go (fun _ _ h => h) ?_
      refine T_seq ?_
      refine T_region ?_
      refine S_ 47 rfl rfl rfl _ (y_move rfl rfl) ?_
      refine S_callM 48 [(0, 3)] (X := Unit) rfl rfl rfl rfl rfl rfl rfl cf178 rfl (fun _ => .slice A (edgL t).length c) (fun _ => True) (fun _ => [(0, .own 3 1 (.slice A (edgL t).length c) (edgL t).length ((edgL t).flatMap intEnc))]) (fun _ => rfl) (fun _ => rfl) (fun K1 hK1 w1 hM => CptInt_any A q c (srtI (edges t)) w1 hSq (by omega) hM) ?_
      intro u48 _
      refine S_ 3 rfl rfl rfl _ (y_assign rfl rfl) ?_
      refine S_go (fun _ _ h => h) ?_
      refine T_seq ?_
      refine T_region ?_
      refine S_makeMap 49 49 (fun l : List UInt8 => str l) rfl rfl rfl rfl ?_
      intro b49
      refine S_ 8 rfl rfl rfl _ (y_assign rfl rfl) ?_
      refine S_go (fun _ _ h => h) ?_
      refine T_seq ?_
      refine T_seq ?_
      refine T_region ?_
      refine S_ 9 rfl rfl rfl _ (y_assign rfl rfl) ?_
      refine S_go (fun _ _ h => h) ?_
      refine T_block ?_
      refine T_loopK2 (kf := [(9, 11), (50, 84)]) (kl := [(9, 11), (49, 84)]) (fun (i : Nat) (M : List (Nm × Int)) => [(9, true, .int .i64 (i : Int))]) (fun (i : Nat) (M : List (Nm × Int)) => [(49, .blk b49 (IsMap (fun l : List UInt8 => str l) (M.map mi)))]) (fun (i : Nat) (M : List (Nm × Int)) => 1 ≤ i ∧ (i ≤ (edgL t).length ∨ i = 1) ∧ (∀ a, (edgL t)[i - 1]? = some a → EdgeOk (ownr t) a.toNat M) ∧ ((edgL t).length = 0 → M = []) ∧ M.length ≤ i) (fun (i : Nat) (M : List (Nm × Int)) => (edgL t).length - i) 1 [] (by repeat (first | exact kf_nil | (apply kf_in; focus rfl) | (apply kf_out; focus rfl))) (by repeat (first | exact kl_nil | exact kl_rest (by assumption) rfl | (apply kl_in; focus rfl) | (apply kl_out; focus rfl))) ?_ ?_ ?_ ?_
      · exact ⟨Nat.le_refl _, .inr rfl, fun a ha => (EdgeOk.nil (f := ownr t)).skip (a := 0) (b := a) (Int.le_refl _) (hein a ((hE2 a).1 (mem_at ha))).1 fun x _ h2 => ownr_first hE1 hE2 ha x h2, fun _ => rfl, by simp⟩
      · exact ⟨rfl, trivial⟩
      · exact ⟨rfl, trivial⟩
      rintro i M ⟨hs0, hs1, hs2, hs3, hs4⟩
      refine T_seq ?_
      refine T_seq ?_
      refine T_region ?_
      refine S_ 50 rfl rfl rfl _ (y_move rfl rfl) ?_
      refine S_ 51 rfl rfl rfl _ (y_move rfl rfl) ?_
      refine S_ 52 rfl rfl rfl _ (y_len_slice rfl rfl Tryz.underlying212) ?_
      refine S_ 53 rfl rfl rfl _ (y_bin rfl rfl rfl (fun _ => b_lss)) ?_
      refine S_go (fun _ _ h => h) ?_
      refine T_cond rfl (fun h53 => ?_) (fun h53 => ?_)
      · try simp only [decide_eq_true_eq, decide_eq_false_iff_not, Bool.or_eq_true, Bool.or_eq_false_iff, Bool.and_eq_true, Bool.and_eq_false_iff, Bool.not_eq_true', Bool.not_eq_false', Bool.not_eq_true, Bool.not_eq_false, Bool.not_true, Bool.not_false, Int.not_lt, Int.not_le, not_or, not_and, Classical.not_not] at h53
        have hil : i < (edgL t).length := by omega
        obtain ⟨a, hEa⟩ : ∃ a, (edgL t)[i - 1]? = some a := ⟨_, List.getElem?_eq_getElem (by omega)⟩
        obtain ⟨b, hEb⟩ : ∃ b, (edgL t)[i]? = some b := ⟨_, List.getElem?_eq_getElem hil⟩
        obtain ⟨hab, hst⟩ := ownr_step hE1 hE2 hEa (show (edgL t)[i - 1 + 1]? = some b by rw [show i - 1 + 1 = i by omega]; exact hEb)
        have ha0 := hein a ((hE2 a).1 (mem_at hEa))
        have hb0 := hein b ((hE2 b).1 (mem_at hEb))
        have hMa := hs2 a hEa
        have hout : outB a 0 (t.size - 1) = false := by simp only [outB, Bool.or_eq_false_iff, decide_eq_false_iff_not]; omega
        have hra : refAt t a = atOut t a := by rw [refAt, if_f hout]
        have hno : refAtNo t a = if findI (SFunc.has a) t.fu.l 0 < 0 then 7 else 0 := by rw [refAtNo, if_f hout]
        have hoa := ownr_at h0 a
        refine T_skip_go (fun _ _ h => h) ?_
        refine T_seq ?_
        refine T_block ?_
        refine T_seq ?_
        refine T_perm [0, 1, 2, 3, 4, 5, 6, 7, 8, 9, 10, 11] [true, true, true, true, true, true, false, true, true, true, true, true] [0, 0, 0, 4, 14, 30, 63, 127, 255, 255, 511, 2047] [(0, [1]), (4, [3]), (5, [3])] (by kernel_rfl) (by kernel_rfl) (by kernel_rfl) rfl (by kernel_rfl) ?_
        refine Rf_ 0 57 rfl rfl rfl rfl rfl _ ⟨rfl, trivial⟩ (Y.z (y_loadA 1 rfl rfl rfl Tryz.underlying62 rfl sz62) rfl) ?_
        refine Rf_ 1 58 rfl rfl rfl rfl rfl _ trivial (Y.z (y_move rfl rfl) rfl) ?_
        refine Rf_ 2 59 rfl rfl rfl rfl rfl _ trivial (Y.z (y_move rfl rfl) rfl) ?_
        refine Rf_ 3 60 rfl rfl rfl rfl rfl _ trivial (Y.z (y_bin rfl rfl rfl (fun hg => b_subv (((i - 1 : Nat) : Int)) (by omega) (by omega))) rfl) ?_
        refine Rf_ 4 61 rfl rfl rfl rfl rfl _ ⟨rfl, trivial⟩ (Y.z (y_indexOwnI (j := i - 1) 3 rfl rfl rfl (fun _ => by omega) rfl Tryz.underlying212 sz3 (fun _ => by omega)) rfl) ?_
        refine Rf_ 5 62 rfl rfl rfl rfl rfl _ ⟨rfl, trivial⟩ (Y.z (y_loadO1 3 (val := (fun n : Int => Value.int .i64 n)) rfl rfl rfl rfl (fun _ => hEa) Tryz.underlying3 rfl) rfl) ?_
        refine R_chain 6 rfl rfl ?_
        refine S_callOwn 63 63 rfl rfl rfl rfl rfl rfl rfl cf66 (fun A c => .tuple #[.slice A (refAt t a).length c, .int .i64 (refAtNo t a)]) 134 3 ((refAt t a).length) ((refAt t a).flatMap SPlace.enc) (fun w1 hM => PlacesAt_any t a w1 (hok.below hM.below) h0) ?_
        intro A63 c63
        refine R_next ⟨.inl rfl, .inl rfl, .inl rfl, trivial⟩ ?_
        refine Rf_ 7 56 rfl rfl rfl rfl rfl _ trivial (Y.z (y_move rfl rfl) rfl) ?_
        refine Rf_ 8 64 rfl rfl rfl rfl rfl _ trivial (Y.z (y_extract rfl rfl rfl) rfl) ?_
        refine Rf_ 9 65 rfl rfl rfl rfl rfl _ trivial (Y.z (y_extract rfl rfl rfl) rfl) ?_
        refine Rf_ 10 10 rfl rfl rfl rfl rfl _ trivial (Y.z (y_assign rfl rfl) rfl) ?_
        refine Rf_ 11 11 rfl rfl rfl rfl rfl _ trivial (Y.z (y_assign rfl rfl) rfl) ?_
        refine R_go (fun _ _ h => h) ?_
        refine T_seq ?_
        refine T_region ?_
        refine S_ 66 rfl rfl rfl _ (y_move rfl rfl) ?_
        refine S_ 67 rfl rfl rfl _ (y_bin rfl rfl rfl (fun _ => b_eql)) ?_
        refine S_go (fun _ _ h => h) ?_
        refine T_cond rfl (fun h67 => ?_) (fun h67 => ?_)
        · skip
          have h67 : refAtNo t a = 0 := by simpa using h67
          have hn0 : 0 ≤ findI (SFunc.has a) t.fu.l 0 := by rw [hno] at h67; split at h67 <;> omega
          obtain ⟨n, fn, hfi, hfn, _⟩ := findI_at (p := SFunc.has a) t.fu.l 0 (Int.le_refl _) hn0
          obtain ⟨qs, lp, hat, _, _⟩ := atOut_last (x := a) (n := n) h0 (by omega) hfn
          obtain ⟨p, hp0, hpo⟩ : ∃ p, (refAt t a)[0]? = some p ∧ ownr t a = some p.fn := by
            rw [hra]
            rw [hat] at hoa ⊢
            cases qs with
            | nil => exact ⟨lp, rfl, hoa.symm⟩
            | cons z zs => exact ⟨z, rfl, hoa.symm⟩
          have hpl : 0 < (refAt t a).length := (List.getElem?_eq_some_iff.1 hp0).1
          have hgm := hMa.map.get p.fn
          have hgc := cnt_le (ownr t) p.fn a.toNat
          have hMb := hMa.add (nm := p.fn) ha0.1 hab fun x h1 h2 => by rw [hst x h1 h2, hpo]
          refine T_drawsTail 17 (by kernel_rfl) (by kernel_rfl) ?_
          refine D_ 68 rfl rfl rfl _ (y_move rfl rfl) ?_
          refine D_ 69 rfl rfl rfl _ (y_move rfl rfl) ?_
          refine D_ 70 rfl rfl rfl _ (y_indexOwnI (j := 0) 63 rfl rfl rfl (fun _ => rfl) rfl Tryz.underlying119 sz134 (fun _ => hpl)) ?_
          refine D_ 71 rfl rfl rfl _ (y_fieldOwn 63 rfl rfl rfl (fun _ => hpl) fa134_0) ?_
          refine D_ 72 rfl rfl rfl _ (y_load_cellOwn 63 rfl rfl rfl (fun _ => hpl) (fun _ => flat_at (enc := SPlace.enc) (size := 3) (fun _ => rfl) hp0 0 (str p.fn) rfl) Tryz.underlying9 rfl) ?_
          refine D_ 73 rfl rfl rfl _ (y_as (v' := .int .i64 (gi M p.fn)) (by exact mget_mi _ _) (y_lookup 49 (enc := fun l : List UInt8 => str l) rfl rfl rfl rfl Tryz.underlying204 Tryz.underlying9 rfl same_str z3)) ?_
          refine D_ 74 rfl rfl rfl _ (y_move rfl rfl) ?_
          refine D_ 75 rfl rfl rfl _ (y_move rfl rfl) ?_
          refine D_ 76 rfl rfl rfl _ (y_indexOwn 3 rfl rfl rfl rfl Tryz.underlying212 sz3 (fun _ => by omega)) ?_
          refine D_ 77 rfl rfl rfl _ (y_loadO1 3 (val := (fun n : Int => Value.int .i64 n)) rfl rfl rfl rfl (fun _ => hEb) Tryz.underlying3 rfl) ?_
          refine D_ 78 rfl rfl rfl _ (y_move rfl rfl) ?_
          refine D_ 79 rfl rfl rfl _ (y_move rfl rfl) ?_
          refine D_ 80 rfl rfl rfl _ (y_bin rfl rfl rfl (fun hg => b_subv (((i - 1 : Nat) : Int)) (by omega) (by omega))) ?_
          refine D_ 81 rfl rfl rfl _ (y_indexOwnI (j := i - 1) 3 rfl rfl rfl (fun _ => by omega) rfl Tryz.underlying212 sz3 (fun _ => by omega)) ?_
          refine D_ 82 rfl rfl rfl _ (y_loadO1 3 (val := (fun n : Int => Value.int .i64 n)) rfl rfl rfl rfl (fun _ => hEa) Tryz.underlying3 rfl) ?_
          refine D_ 83 rfl rfl rfl _ (y_bin rfl rfl rfl (fun hg => b_sub (by omega))) ?_
          refine D_ 84 rfl rfl rfl _ (y_bin rfl rfl rfl (fun hg => b_add (by omega))) ?_
          refine D_tail ?_
          refine S_mapUpdate 49 (enc := fun l : List UInt8 => str l) rfl rfl rfl rfl rfl rfl rfl Tryz.underlying204 Tryz.underlying9 rfl same_str fits_str (mput_mi _ _ _) ?_
          refine S_go (fun _ _ h => h) ?_
          refine T_region ?_
          refine S_ 54 rfl rfl rfl _ (y_move rfl rfl) ?_
          refine S_ 55 rfl rfl rfl _ (y_bin rfl rfl rfl (fun hg => b_addv (((i + 1 : Nat) : Int)) (by omega) (by omega))) ?_
          refine S_ 9 rfl rfl rfl _ (y_assign rfl rfl) ?_
          refine S_nil (nextK2 (kf := [(9, 11), (50, 84)]) (kl := [(9, 11), (49, 84)]) (i + 1) (pi' M p.fn (gi M p.fn + (b - a))) (by repeat (first | exact kf_nil | (apply kf_in; focus rfl) | (apply kf_out; focus rfl))) (by repeat (first | exact kl_nil | exact kl_rest (by assumption) rfl | (apply kl_in; focus rfl) | (apply kl_out; focus rfl))) ?_ ?_ ?_ ?_)
          · omega
          · exact ⟨by omega, .inl (by omega), fun b2 hb2 => by
              have : b2 = b := by rw [show i + 1 - 1 = i by omega, hEb] at hb2; exact (Option.some.inj hb2).symm
              rw [this]; exact hMb, fun h => by omega, by have := len_put p.fn (gi M p.fn + (b - a)) M; omega⟩
          · exact ⟨rfl, trivial⟩
          · exact ⟨rfl, trivial⟩
        · skip
          have h67 : ¬ refAtNo t a = 0 := by simpa using h67
          have hn0 : findI (SFunc.has a) t.fu.l 0 < 0 := by
            refine Classical.byContradiction fun hh => h67 ?_
            rw [hno, if_neg hh]
          have hpo : ownr t a = none := by rw [← hoa, atOut]; simp only [if_pos hn0]; rfl
          have hMb := hMa.skip ha0.1 (Int.le_of_lt hab) fun x h1 h2 => by rw [hst x h1 h2, hpo]
          refine T_skip_go (fun _ _ h => h) ?_
          refine T_region ?_
          refine S_ 54 rfl rfl rfl _ (y_move rfl rfl) ?_
          refine S_ 55 rfl rfl rfl _ (y_bin rfl rfl rfl (fun hg => b_addv (((i + 1 : Nat) : Int)) (by omega) (by omega))) ?_
          refine S_ 9 rfl rfl rfl _ (y_assign rfl rfl) ?_
          refine S_nil (nextK2 (kf := [(9, 11), (50, 84)]) (kl := [(9, 11), (49, 84)]) (i + 1) M (by repeat (first | exact kf_nil | (apply kf_in; focus rfl) | (apply kf_out; focus rfl))) (by repeat (first | exact kl_nil | exact kl_rest (by assumption) rfl | (apply kl_in; focus rfl) | (apply kl_out; focus rfl))) ?_ ?_ ?_ ?_)
          · omega
          · exact ⟨by omega, .inl (by omega), fun b2 hb2 => by
              have : b2 = b := by rw [show i + 1 - 1 = i by omega, hEb] at hb2; exact (Option.some.inj hb2).symm
              rw [this]; exact hMb, fun h => by omega, by omega⟩
          · exact ⟨rfl, trivial⟩
          · exact ⟨rfl, trivial⟩
      · try simp only [decide_eq_true_eq, decide_eq_false_iff_not, Bool.or_eq_true, Bool.or_eq_false_iff, Bool.and_eq_true, Bool.and_eq_false_iff, Bool.not_eq_true', Bool.not_eq_false', Bool.not_eq_true, Bool.not_eq_false, Bool.not_true, Bool.not_false, Int.not_lt, Int.not_le, not_or, not_and, Classical.not_not] at h53
        refine T_exit_go (fun _ _ h => h) ?_
        refine T_seq ?_
        refine T_region ?_
        have hMlen : M.length ≤ 10000 := by omega
        have hfinM : EdgeOk (ownr t) t.size.toNat M := by
          by_cases hz : (edgL t).length = 0
          · rw [hs3 hz]
            have hnone : ∀ x, ownr t x = none := fun x => ownr_low fun e he => by have := (hE2 e).2 he; rw [List.eq_nil_of_length_eq_zero hz] at this; cases this
            exact (EdgeOk.nil (f := ownr t)).skip (a := 0) (b := t.size) (Int.le_refl _) (by omega) fun x _ _ => hnone x
          · obtain ⟨a, ha⟩ : ∃ a, (edgL t)[i - 1]? = some a := ⟨_, List.getElem?_eq_getElem (by omega)⟩
            have hi : i - 1 = (edgL t).length - 1 := by omega
            have ha0 := hein a ((hE2 a).1 (mem_at ha))
            exact (hs2 a ha).skip ha0.1 ha0.2 fun x h1 _ => ownr_last hE1 hE2 (by rw [← hi]; exact ha) x h1
        refine S_nilSlice 12 (e := 140) (size := 2) ?_
        refine S_ 12 rfl rfl rfl _ (y_assign rfl rfl) ?_
        refine S_go (fun _ _ h => h) ?_
        refine T_seq ?_
        refine T_seq ?_
        refine T_region ?_
        refine S_ 85 rfl rfl rfl _ (y_move rfl rfl) ?_
        refine S_range 86 49 86 (fun p : Nm × Int => str p.1) (fun p : Nm × Int => Value.int .i64 p.2) (M) (by rw [List.map_map]; rfl) rfl rfl rfl rfl rfl rfl Tryz.underlying204 ?_
        intro r86 es86 ck86
        refine S_go (fun _ _ h => h) ?_
        refine T_block ?_
        refine T_loopK6 (kf := [(12, 14), (87, 97)]) (kl := [(12, 14), (86, 97)]) (fun (rem : List (Nm × Int)) (last : Option (Nm × Int)) (out : List SShare) (q : Nat) (A : Option Addr) (c : Nat) => [(12, true, .slice A q c)]) (fun (rem : List (Nm × Int)) (last : Option (Nm × Int)) (out : List SShare) (q : Nat) (A : Option Addr) (c : Nat) => [(86, .blk r86 (IsIt (fun p : Nm × Int => str p.1) (fun p : Nm × Int => Value.int .i64 p.2) b49 es86 ck86 rem last)), (12, .own 140 2 (.slice A q c) q (out.flatMap SShare.enc))]) (fun (rem : List (Nm × Int)) (last : Option (Nm × Int)) (out : List SShare) (q : Nat) (A : Option Addr) (c : Nat) => (∃ D, M.Perm (D ++ rem) ∧ out = D.map mkS) ∧ out.length = q ∧ q + rem.length ≤ M.length) (fun (rem : List (Nm × Int)) (last : Option (Nm × Int)) (out : List SShare) (q : Nat) (A : Option Addr) (c : Nat) => rem.length) M none [] 0 none 0 (by repeat (first | exact kf_nil | (apply kf_in; focus rfl) | (apply kf_out; focus rfl))) (by repeat (first | exact kl_nil | exact kl_rest (by assumption) rfl | (apply kl_in; focus rfl) | (apply kl_out; focus rfl))) ?_ ?_ ?_ ?_
        · exact ⟨⟨[], List.Perm.refl _, rfl⟩, rfl, by simp⟩
        · exact ⟨rfl, trivial⟩
        · exact ⟨rfl, rfl, trivial⟩
        rintro rem last out q A c ⟨hs1, hs2, hs3⟩
        refine T_seq ?_
        refine T_region ?_
        refine S_next 87 49 86 rfl rfl rfl rfl rfl rfl rfl ?_
        intro e87 ps87 hn87 hs87
        refine S_ 88 rfl rfl rfl _ (y_extract (v := .bool e87.isSome) rfl rfl (by cases e87 <;> rfl)) ?_
        refine S_go (fun _ _ h => h) ?_
        refine T_seq ?_
        refine T_cond rfl (fun h88 => ?_) (fun h88 => ?_)
        · skip
          obtain ⟨pp, rfl⟩ := Option.isSome_iff_exists.1 h88
          have hpm := hs87 pp rfl
          refine T_skip_go (fun _ _ h => h) ?_
          refine T_block ?_
          refine T_seq ?_
          refine T_region ?_
          refine S_ 89 rfl rfl rfl _ (y_entry 49 86 rfl rfl rfl rfl) ?_
          refine S_ 90 rfl rfl rfl _ (y_as (v' := str pp.1) (by exact rfl) (y_extract rfl rfl rfl)) ?_
          refine S_ 91 rfl rfl rfl _ (y_as (v' := .int .i64 pp.2) (by exact rfl) (y_extract rfl rfl rfl)) ?_
          refine S_ 13 rfl rfl rfl _ (y_assign rfl rfl) ?_
          refine S_ 14 rfl rfl rfl _ (y_assign rfl rfl) ?_
          refine S_go (fun _ _ h => h) ?_
          refine T_region ?_
          refine S_ 92 rfl rfl rfl _ (y_move rfl rfl) ?_
          refine S_ 93 rfl rfl rfl _ (y_move rfl rfl) ?_
          refine S_ 94 rfl rfl rfl _ (y_move rfl rfl) ?_
          refine S_ 95 rfl rfl rfl _ (y_build (zv := .agg #[.string ⟨#[]⟩, .int .i64 0]) (pl := [(0, 1), (1, 1)]) (out := [_, _]) rfl rfl Tryz.underlying140 z140 (by kernel_rfl) rfl) ?_
          refine S_buildSlice 96 96 rfl rfl rfl rfl rfl Tryz.underlying125 inf140 rfl (by decide) (by decide) rfl rfl (by decide) rfl (_) rfl ?_
          intro b96
          obtain ⟨i97, hi97, hz97, hs97, hy97⟩ := info_parts inf140
          refine S_append 97 12 96 rfl rfl rfl rfl rfl rfl rfl rfl Tryz.underlying125 hi97 hz97 hs97 hy97 rfl (by decide) (by decide) rfl ?_ ?_ (q + 1) ((out ++ [mkS pp]).flatMap SShare.enc) ?_ ?_ ?_
          · (simp only [maxLen]; omega)
          · omega
          · rfl
          · simp [List.flatMap_append, SShare.enc, mkS]; rfl
          intro A97 c97
          refine S_ 12 rfl rfl rfl _ (y_assign rfl rfl) ?_
          refine S_nil (nextK6 (kf := [(12, 14), (87, 97)]) (kl := [(12, 14), (86, 97)]) ps87 (some pp) (out ++ [mkS pp]) (q + 1) A97 c97 (by repeat (first | exact kf_nil | (apply kf_in; focus rfl) | (apply kf_out; focus rfl))) (by repeat (first | exact kl_nil | exact kl_rest (by assumption) rfl | (apply kl_in; focus rfl) | (apply kl_out; focus rfl))) ?_ ?_ ?_ ?_)
          · have := hpm.length_eq; simp at this; omega
          · have := hpm.length_eq
            simp at this
            obtain ⟨D, d1, d2⟩ := hs1
            exact ⟨⟨D ++ [pp], d1.trans (by rw [List.append_assoc]; exact List.Perm.append_left D hpm), by rw [List.map_append, d2]; rfl⟩, by simp [hs2], by omega⟩
          · exact ⟨rfl, trivial⟩
          · exact ⟨rfl, rfl, trivial⟩
        · skip
          have hq0 : e87 = none := by simpa using h88
          have hr0 := hn87 hq0
          refine T_exit_go (fun _ _ h => h) ?_
          refine T_seq ?_
          refine T_region ?_
          refine S_ 98 rfl rfl rfl _ (y_move rfl rfl) ?_
          refine S_callM 99 [(0, 12)] (X := List SShare) rfl rfl rfl rfl rfl rfl rfl cf170 rfl (fun _ => .tuple #[]) (fun l => l = out.mergeSort leS) (fun l => [(0, .own 140 2 (.slice A q c) q (l.flatMap SShare.enc))]) (fun _ => rfl) (fun _ => rfl) (fun K1 hK1 w1 hM => sortsShares2 hK1 A q c out w1 hs2 (by omega) hM) ?_
          intro sl hsl
          refine S_go (fun _ _ h => h) ?_
          refine T_seq ?_
          refine T_region ?_
          refine S_ 100 rfl rfl rfl _ (y_move rfl rfl) ?_
          refine S_ 2 rfl rfl rfl _ (y_assign rfl rfl) ?_
          refine S_go (fun _ _ h => h) ?_
          refine T_ret (fun a w hF hM => hRb a w (post1 rfl rfl (fun w hM => ?_) a w hF hM))
          have hln : sl.length = q := by rw [hsl, List.length_mergeSort, hs2]
          have e9 : shIt A c sl = .own 140 2 (.slice A q c) q (sl.flatMap SShare.enc) := by unfold shIt; rw [hln]
          refine ⟨(sl, A, c), by rw [hln], ?_, ?_⟩
          · obtain ⟨D, d1, d2⟩ := hs1
            rw [hr0, List.append_nil] at d1
            exact ⟨M, D, hfinM, d1, by rw [hsl, d2], hMlen⟩
          · rw [e9]
            exact hM.keep (ks := [(0, 999)]) (by repeat (first | exact kl_rest (by assumption) rfl | (apply kl_in; focus rfl))) _ ⟨rfl, trivial⟩
end Go.Proofs.YtkkngcdikbhkjaaGreatDoor
end
section
namespace Go.Proofs.YtkkngcdikbhkjaaGreatDoor
set_option linter.unusedSimpArgs false
set_option linter.unusedVariables false
set_option maxRecDepth 20000
open Go.RowKit Go.Eng
theorem headB_le {t : Tab} (h : idOk t.id = true) (h1 : t.size ≤ 4294967296) (h2 : t.fi.q ≤ 200) : (headB t).length ≤ 38 ∧ 4 ≤ (headB t).length := by
  have hid : (t.id.length : Int) = 16 := by simp only [idOk, Bool.and_eq_true, decide_eq_true_eq] at h; exact h.1
  have e1 := digI_le (n := t.size) (by omega)
  have e2 := digI_le (n := t.fi.q) (by omega)
  simp only [headB, magic, List.length_append, List.length_cons, List.length_nil]; omega
/-- what all walks on a right table use -/
structure RightT (t : Tab) : Prop where
  size : 1 ≤ t.size ∧ t.size ≤ 4294967296
  qs : t.fi.q ≤ 200 ∧ t.fu.q ≤ 1000 ∧ t.ro.q ≤ 5000 ∧ t.ca.q ≤ 1000
  head : (headB t).length ≤ 38 ∧ 4 ≤ (headB t).length
  files : ∀ s ∈ t.fi.l, s.length ≤ 200
  funcs : ∀ (i : Nat) (f : SFunc), t.fu.l[i]? = some f → f.name.length ≤ 200 ∧ 0 ≤ f.fr ∧ f.fr < f.tu ∧ f.tu ≤ t.size
  rise : ∀ (i : Nat) (f g : SFunc), t.fu.l[i]? = some f → t.fu.l[i + 1]? = some g → f.tu ≤ g.fr
  rows : ∀ (i : Nat) (r : SRow), t.ro.l[i]? = some r → 0 ≤ r.pos ∧ r.pos < t.size ∧ -1 ≤ r.fi ∧ r.fi ≤ 199 ∧ 0 ≤ r.ln ∧ r.ln ≤ 9999999
  rrise : Rising t.ro.l
  calls : ∀ (i : Nat) (c : SCall), t.ca.l[i]? = some c → c.name.length ≤ 200 ∧ 0 ≤ c.fr ∧ c.fr < c.tu ∧ c.tu ≤ t.size ∧ 0 ≤ c.fi ∧ c.fi ≤ 199 ∧ 1 ≤ c.ln ∧ c.ln ≤ 9999999
  crise : ∀ (i : Nat) (c g : SCall), t.ca.l[i]? = some c → t.ca.l[i + 1]? = some g → c.fr ≤ g.fr
theorem rightT {t : Tab} (h : tabNo t = 0) : RightT t := by
  have hr := rows_of h
  have hs := size_of_out hr.1.2
  have hp := tab_parts h
  have hf := funcs_right _ _ hp.2
  have hro := rows_right _ _ (tab_rows h)
  have hca := calls_right _ _ _ (tab_calls h)
  have hcr := calls_rise _ _ _ (tab_calls h)
  refine ⟨hs, hr.2, headB_le hr.1.1 hs.2 hr.2.1, files_len _ _ hp.1, fun i f hi => ?_, fun i f g hi hg => (hf i f hi).2.2.2 g hg, fun i r hi => ?_, hro.2, fun i c hi => ?_, fun i c g hi hg => (hcr i c hi).2 g hg⟩
  · obtain ⟨x1, x2, _⟩ := hf i f hi
    have := span_in x2
    exact ⟨name_len x1, by omega, by omega, by omega⟩
  · have := row_in (hro.1 i r hi).1
    have := hr.2.1
    omega
  · obtain ⟨x1, x2, _⟩ := hca i c hi
    have := call_in x2
    have := hr.2.1
    exact ⟨name_len x1, by omega, by omega, by omega, by omega, by omega, by omega, by omega⟩
end Go.Proofs.YtkkngcdikbhkjaaGreatDoor
end
section
namespace Go.Proofs.YtkkngcdikbhkjaaGreatDoor
set_option linter.unusedSimpArgs false
set_option linter.unusedVariables false
set_option maxRecDepth 20000
open Go.RowKit Go.Eng
abbrev szIt (b : Nat) (M : List (Nm × Int)) : It := .blk b (IsMap (fun l : List UInt8 => str l) (M.map mi))
def szT (t : Tab) : List (Nm × Int) := szM t.fu.l []
theorem inB_nil : InB 0 [] := fun s => by simp [gi]
theorem funcs_size {t : Tab} (h0 : tabNo t = 0) : t.size ≤ 4294967296 ∧ t.fu.q ≤ 1000 ∧ ∀ g ∈ t.fu.l, (0 ≤ g.fr ∧ g.fr < g.tu ∧ g.tu ≤ t.size) ∧ g.name.length ≤ 200 := by
  have hR := rightT h0
  refine ⟨hR.size.2, hR.qs.2.1, fun g hg => ?_⟩
  obtain ⟨i, hi, he⟩ := List.mem_iff_getElem.1 hg
  have := hR.funcs i g (by rw [← he]; exact List.getElem?_eq_getElem hi)
  exact ⟨this.2, this.1⟩
set_option maxHeartbeats 800000 in
theorem sizes_any {w0 : World} {K : HL} (hK : FromK K) (t : Tab) (w : World) (hok : t.Ok w0) (h0 : tabNo t = 0) (hM0 : Mem w0 ([] ++ K) w) :
    Calls Tryz.prog 172 #[.agg #[str t.id, .int .i64 t.size, .slice t.fi.A t.fi.q t.fi.c, .slice t.fu.A t.fu.q t.fu.c, .slice t.ro.A t.ro.q t.ro.c, .slice t.ca.A t.ca.q t.ca.c]] w fun e w' => ∃ b : Nat, e = .returned (.map (some b)) ∧ InB 4294967296000 (szT t) ∧ Mem w0 ([(6, szIt b (szT t))] ++ K) w' := by
  have hft := hok.fu.t
  have hfl := hft.len
  obtain ⟨hsz, hfq, hfs⟩ := funcs_size h0
  refine enterM_args (args := [.agg #[str t.id, .int .i64 t.size, .slice t.fi.A t.fi.q t.fi.c, .slice t.fu.A t.fu.q t.fu.c, .slice t.ro.A t.ro.q t.ro.c, .slice t.ca.A t.ca.q t.ca.c]]) (F := _) hM0 Tryz.func172 rfl Tryz.ntmps172 rfl rfl ?_
  intro Rb hRb hRn
  refine T_seq ?_
  refine T_region ?_
  refine S_box 1 1 rfl rfl rfl rfl rfl ?_
  intro b1
  refine S_ 2 rfl rfl rfl _ (y_assign rfl rfl) ?_
  refine S_go (fun _ _ h => h) ?_
  refine T_seq ?_
  refine T_region ?_
  refine S_makeMap 6 6 (fun l : List UInt8 => str l) rfl rfl rfl rfl ?_
  intro b6
  refine S_ 3 rfl rfl rfl _ (y_assign rfl rfl) ?_
  refine S_go (fun _ _ h => h) ?_
  refine T_seq ?_
  refine T_seq ?_
  refine T_region ?_
  refine S_ 7 rfl rfl rfl _ (y_fieldAddr rfl rfl fa62_3) ?_
  refine S_ 8 rfl rfl rfl _ (y_load 1 rfl rfl rfl rfl Tryz.underlying58 rfl) ?_
  refine S_ 9 rfl rfl rfl _ (y_len_slice rfl rfl Tryz.underlying58) ?_
  refine S_ 10 rfl rfl rfl _ (y_move rfl rfl) ?_
  refine S_go (fun _ _ h => h) ?_
  refine T_block ?_
  refine T_loopK2 (kf := [(5, 5), (10, 24)]) (kl := [(5, 6), (10, 24)]) (fun (i : Nat) (M : List (Nm × Int)) => [(10, true, .int .i64 (i : Int))]) (fun (i : Nat) (M : List (Nm × Int)) => [(6, .blk b6 (IsMap (fun l : List UInt8 => str l) (M.map mi)))]) (fun (i : Nat) (M : List (Nm × Int)) => i ≤ t.fu.q ∧ szM (t.fu.l.drop i) M = szT t ∧ InB ((i : Int) * 4294967296) M ∧ M.length ≤ i) (fun (i : Nat) (M : List (Nm × Int)) => t.fu.q - i) 0 [] (by repeat (first | exact kf_nil | (apply kf_in; focus rfl) | (apply kf_out; focus rfl))) (by repeat (first | exact kl_nil | exact kl_rest (by assumption) rfl | (apply kl_in; focus rfl) | (apply kl_out; focus rfl))) ?_ ?_ ?_ ?_
  · exact ⟨by omega, rfl, inB_nil.mono (by omega), by simp⟩
  · exact ⟨rfl, trivial⟩
  · exact ⟨rfl, trivial⟩
  rintro i M ⟨hp1, hp2, hp3, hp4⟩
  refine T_seq ?_
  refine T_region ?_
  refine S_ 11 rfl rfl rfl _ (y_bin rfl rfl rfl (fun _ => b_lss)) ?_
  refine S_go (fun _ _ h => h) ?_
  refine T_seq ?_
  refine T_cond rfl (fun h11 => ?_) (fun h11 => ?_)
  · try simp only [decide_eq_true_eq, decide_eq_false_iff_not, Bool.or_eq_true, Bool.or_eq_false_iff, Bool.and_eq_true, Bool.and_eq_false_iff, Bool.not_eq_true', Bool.not_eq_false', Bool.not_eq_true, Bool.not_eq_false, Bool.not_true, Bool.not_false, Int.not_lt, Int.not_le, not_or, not_and, Classical.not_not] at h11
    obtain ⟨g, hx1, hx2⟩ := hft.at (i := i) (by omega)
    have hgs := (hfs g (mem_at hx1)).1
    have hgi := hp3 g.name
    refine T_skip_go (fun _ _ h => h) ?_
    refine T_seq ?_
    refine T_block ?_
    refine T_seq ?_
    refine T_region ?_
    refine S_ 12 rfl rfl rfl _ (y_indexAddr rfl rfl rfl Tryz.underlying58 sz196 (fun hg => hft.isSome (by omega)) (fun _ => by omega)) ?_
    refine S_ 13 rfl rfl rfl _ (y_loadT rfl rfl hft (fun _ => rfl) (fun _ => hx1) Tryz.underlying196 rfl sz196) ?_
    refine S_alloc 5 5 rfl rfl rfl rfl z196 ?_
    intro b5
    refine S_store 5 rfl rfl rfl rfl rfl rfl sz196 rfl rfl ?_
    refine S_go (fun _ _ h => h) ?_
    refine T_region ?_
    refine S_ 14 rfl rfl rfl _ (y_move rfl rfl) ?_
    refine S_ 15 rfl rfl rfl _ (y_fieldAddr rfl rfl fa196_0) ?_
    refine S_ 16 rfl rfl rfl _ (y_load 5 rfl rfl rfl rfl Tryz.underlying9 rfl) ?_
    refine S_ 17 rfl rfl rfl _ (y_as (v' := .int .i64 (gi M g.name)) (by exact mget_mi _ _) (y_lookup 6 (enc := fun l : List UInt8 => str l) rfl rfl rfl rfl Tryz.underlying204 Tryz.underlying9 rfl same_str z3)) ?_
    refine S_ 18 rfl rfl rfl _ (y_fieldAddr rfl rfl fa196_2) ?_
    refine S_ 19 rfl rfl rfl _ (y_load 5 rfl rfl rfl rfl Tryz.underlying3 rfl) ?_
    refine S_ 20 rfl rfl rfl _ (y_fieldAddr rfl rfl fa196_1) ?_
    refine S_ 21 rfl rfl rfl _ (y_load 5 rfl rfl rfl rfl Tryz.underlying3 rfl) ?_
    refine S_ 22 rfl rfl rfl _ (y_bin rfl rfl rfl (fun hg => b_sub (by omega))) ?_
    refine S_ 23 rfl rfl rfl _ (y_bin rfl rfl rfl (fun hg => b_add (by omega))) ?_
    refine S_mapUpdate 6 (enc := fun l : List UInt8 => str l) rfl rfl rfl rfl rfl rfl rfl Tryz.underlying204 Tryz.underlying9 rfl same_str fits_str (mput_mi _ _ _) ?_
    refine S_go (fun _ _ h => h) ?_
    refine T_region ?_
    refine S_ 24 rfl rfl rfl _ (y_bin rfl rfl rfl (fun hg => b_add (by omega))) ?_
    refine S_ 10 rfl rfl rfl _ (y_move rfl rfl) ?_
    refine S_nil (nextK2 (kf := [(5, 5), (10, 24)]) (kl := [(5, 6), (10, 24)]) (i + 1) (pi' M g.name (gi M g.name + (g.tu - g.fr))) (by repeat (first | exact kf_nil | (apply kf_in; focus rfl) | (apply kf_out; focus rfl))) (by repeat (first | exact kl_nil | exact kl_rest (by assumption) rfl | (apply kl_in; focus rfl) | (apply kl_out; focus rfl))) ?_ ?_ ?_ ?_)
    · omega
    · exact ⟨by omega, by rw [← hp2, hx2, szM], (hp3.put (by omega)).mono (by omega), by have := len_put g.name (gi M g.name + (g.tu - g.fr)) M; omega⟩
    · exact ⟨rfl, trivial⟩
    · exact ⟨rfl, trivial⟩
  · try simp only [decide_eq_true_eq, decide_eq_false_iff_not, Bool.or_eq_true, Bool.or_eq_false_iff, Bool.and_eq_true, Bool.and_eq_false_iff, Bool.not_eq_true', Bool.not_eq_false', Bool.not_eq_true, Bool.not_eq_false, Bool.not_true, Bool.not_false, Int.not_lt, Int.not_le, not_or, not_and, Classical.not_not] at h11
    refine T_exit_go (fun _ _ h => h) ?_
    refine T_seq ?_
    refine T_region ?_
    refine S_ 25 rfl rfl rfl _ (y_move rfl rfl) ?_
    refine S_ 2 rfl rfl rfl _ (y_assign rfl rfl) ?_
    refine S_go (fun _ _ h => h) ?_
    refine T_ret (fun a w hF hM => hRb a w (post1 rfl rfl (fun w hM => ?_) a w hF hM))
    have e : szT t = M := by rw [← hp2, hft.end (by omega)]; rfl
    refine ⟨b6, rfl, ?_, ?_⟩
    · rw [e]; exact hp3.mono (by omega)
    · rw [e]
      exact hM.keep (ks := [(0, 999)]) (by repeat (first | exact kl_rest (by assumption) rfl | (apply kl_in; focus rfl))) _ ⟨rfl, trivial⟩
def namesF (t u : Tab) : List Nm := t.fu.l.map SFunc.name ++ u.fu.l.map SFunc.name
def difNs (t u : Tab) : List Nm := cptG [] (srtS (namesF t u))
def difO (t u : Tab) : List Nm := difL (szT t) (szT u) (difNs t u)
def difNo (t u : Tab) : Int := fst (tabNo t) (tabNo u)
def difA (t u : Tab) : List Nm := if difNo t u = 0 then difO t u else []
theorem szT_keys (t : Tab) (k : Nm) : k ∈ (szT t).map Prod.fst ↔ k ∈ t.fu.l.map SFunc.name := by rw [szT, szM_keys]; simp
theorem cpt_names {a b : List Nm} (h : ∀ x, x ∈ a ↔ x ∈ b) : cptG [] (srtS a) = cptG [] (srtS b) :=
  strict_mem bl_irrefl (fun x y h1 h2 => bl_total h1 h2) (fun x y z h1 h2 => bl_trans h1 h2) (srtS_sorted a) (srtS_sorted b) fun x => by rw [(srtS_perm a).mem_iff, (srtS_perm b).mem_iff]; exact h x
theorem difNs_of {t u : Tab} {N : List Nm} {D1 D2 : List (Nm × Int)} (h1 : (szT t).Perm D1) (h2 : (szT u).Perm D2) (hN : N = D1.map Prod.fst ++ D2.map Prod.fst) : cptG [] (srtS N) = difNs t u := by
  refine cpt_names fun x => ?_
  rw [hN, List.mem_append, (h1.symm.map Prod.fst).mem_iff, (h2.symm.map Prod.fst).mem_iff, szT_keys, szT_keys, namesF, List.mem_append]
theorem difNs_mem {t u : Tab} {x : Nm} (h : x ∈ difNs t u) : x ∈ namesF t u := by
  have := (cptG_ok (lt := fun x y : Nm => x < y) (fun x y h1 h2 => bl_total h1 h2) (fun x y z h1 h2 => bl_trans h1 h2) (srtS (namesF t u)) [] List.Pairwise.nil (by simpa using srtS_sorted (namesF t u))).2 x
  rw [difNs, this, (srtS_perm _).mem_iff] at h
  simpa using h
theorem difNs_len (t u : Tab) : (difNs t u).length ≤ t.fu.l.length + u.fu.l.length := by
  have := cptG_len (srtS (namesF t u)) []
  rw [(srtS_perm _).length_eq, namesF, List.length_append, List.length_map, List.length_map] at this
  simpa [difNs, namesF] using this
theorem dif1_len (x y : Int) (n : Nm) : (dif1 x y n).length ≤ 1 := by unfold dif1; split <;> (try split) <;> (try split) <;> simp
theorem dif_next {a b : List (Nm × Int)} {Ns : List Nm} {k : Nat} {n : Nm} {out R : List Nm} (h : Ns[k]? = some n) (hp : out ++ difL a b (Ns.drop k) = R) : (out ++ dif1 (gi a n) (gi b n) n) ++ difL a b (Ns.drop (k + 1)) = R := by
  rw [← hp]
  have : Ns.drop k = n :: Ns.drop (k + 1) := by
    rw [List.drop_eq_getElem_cons (List.getElem?_eq_some_iff.1 h).1, (List.getElem?_eq_some_iff.1 h).2]
  rw [this, difL, difL, List.flatMap_cons, List.append_assoc]
set_option maxHeartbeats 3200000 in
theorem Differ_any (t u : Tab) (w : World) (hok : t.Ok w) (hou : u.Ok w) (hP : P10 w) :
    Calls Tryz.prog 65 #[.agg #[str t.id, .int .i64 t.size, .slice t.fi.A t.fi.q t.fi.c, .slice t.fu.A t.fu.q t.fu.c, .slice t.ro.A t.ro.q t.ro.c, .slice t.ca.A t.ca.q t.ca.c], .agg #[str u.id, .int .i64 u.size, .slice u.fi.A u.fi.q u.fi.c, .slice u.fu.A u.fu.q u.fu.c, .slice u.ro.A u.ro.q u.ro.c, .slice u.ca.A u.ca.q u.ca.c]] w fun e w' => ∃ A c, e = .returned (.tuple #[.slice A (difA t u).length c, .int .i64 (difNo t u)]) ∧
      w'.ownsRow w.heap.size 9 1 (.slice A (difA t u).length c) (difA t u).length ((difA t u).flatMap strEnc) ∧ Below w.heap.size w w' := by
  have hq := hok.small
  have hqu := hou.small
  refine enter_args (args := [.agg #[str t.id, .int .i64 t.size, .slice t.fi.A t.fi.q t.fi.c, .slice t.fu.A t.fu.q t.fu.c, .slice t.ro.A t.ro.q t.ro.c, .slice t.ca.A t.ca.q t.ca.c], .agg #[str u.id, .int .i64 u.size, .slice u.fi.A u.fi.q u.fi.c, .slice u.fu.A u.fu.q u.fu.c, .slice u.ro.A u.ro.q u.ro.c, .slice u.ca.A u.ca.q u.ca.c]]) (F := _) Tryz.func65 rfl Tryz.ntmps65 rfl rfl ?_
  intro Rb hRb hRn
  refine T_seq ?_
  refine T_region ?_
  refine S_box 2 2 rfl rfl rfl rfl rfl ?_
  intro b2
  refine S_box 3 3 rfl rfl rfl rfl rfl ?_
  intro b3
  refine S_nilSlice 4 (e := 9) (size := 1) ?_
  refine S_ 4 rfl rfl rfl _ (y_assign rfl rfl) ?_
  refine S_ 5 rfl rfl rfl _ (y_assign rfl rfl) ?_
  refine S_go (fun _ _ h => h) ?_
  refine T_seq ?_
  refine T_seq ?_
  refine T_region ?_
  refine S_ 18 rfl rfl rfl _ (y_loadA 2 rfl rfl rfl Tryz.underlying62 rfl sz62) ?_
  refine S_ 19 rfl rfl rfl _ (y_call rfl rfl rfl cf123 (fun _ w hM => CheckTable_any t w (hok.below hM.below))) ?_
  refine S_ 6 rfl rfl rfl _ (y_assign rfl rfl) ?_
  refine S_go (fun _ _ h => h) ?_
  refine T_seq ?_
  refine T_region ?_
  refine S_ 20 rfl rfl rfl _ (y_move rfl rfl) ?_
  refine S_ 21 rfl rfl rfl _ (y_bin rfl rfl rfl (fun _ => b_neq)) ?_
  refine S_go (fun _ _ h => h) ?_
  refine T_cond rfl (fun h21 => ?_) (fun h21 => ?_)
  · skip
    have h20 : tabNo t ≠ 0 := by simpa using h21
    refine T_seq ?_
    refine T_region ?_
    refine S_ 22 rfl rfl rfl _ (y_move rfl rfl) ?_
    refine S_nilSlice 4 (e := 9) (size := 1) ?_
    refine S_ 4 rfl rfl rfl _ (y_assign rfl rfl) ?_
    refine S_ 5 rfl rfl rfl _ (y_assign rfl rfl) ?_
    refine S_go (fun _ _ h => h) ?_
    refine T_ret (fun a w hF hM => hRb a w (post2 rfl rfl rfl (fun w hM => ?_) a w hF hM))
    have e : difNo t u = tabNo t := fst_a rfl h20
    have e2 : difA t u = [] := by rw [difA, e, if_neg h20]
    rw [e, e2]
    exact ⟨none, 0, rfl, hM.sat 4 _ rfl, hM.below⟩
  · skip
    have h20 : tabNo t = 0 := by simpa using h21
    obtain ⟨hst, hqt, hft⟩ := funcs_size h20
    have htl := hok.fu.t.len
    refine T_skip_go (fun _ _ h => h) ?_
    refine T_seq ?_
    refine T_seq ?_
    refine T_region ?_
    refine S_ 23 rfl rfl rfl _ (y_loadA 3 rfl rfl rfl Tryz.underlying62 rfl sz62) ?_
    refine S_ 24 rfl rfl rfl _ (y_call rfl rfl rfl cf123 (fun _ w hM => CheckTable_any u w (hou.below hM.below))) ?_
    refine S_ 7 rfl rfl rfl _ (y_assign rfl rfl) ?_
    refine S_go (fun _ _ h => h) ?_
    refine T_seq ?_
    refine T_region ?_
    refine S_ 25 rfl rfl rfl _ (y_move rfl rfl) ?_
    refine S_ 26 rfl rfl rfl _ (y_bin rfl rfl rfl (fun _ => b_neq)) ?_
    refine S_go (fun _ _ h => h) ?_
    refine T_cond rfl (fun h26 => ?_) (fun h26 => ?_)
    · skip
      have h25 : tabNo u ≠ 0 := by simpa using h26
      refine T_seq ?_
      refine T_region ?_
      refine S_ 27 rfl rfl rfl _ (y_move rfl rfl) ?_
      refine S_nilSlice 4 (e := 9) (size := 1) ?_
      refine S_ 4 rfl rfl rfl _ (y_assign rfl rfl) ?_
      refine S_ 5 rfl rfl rfl _ (y_assign rfl rfl) ?_
      refine S_go (fun _ _ h => h) ?_
      refine T_ret (fun a w hF hM => hRb a w (post2 rfl rfl rfl (fun w hM => ?_) a w hF hM))
      have e : difNo t u = tabNo u := fst_b h20 rfl
      have e2 : difA t u = [] := by rw [difA, e, if_neg h25]
      rw [e, e2]
      exact ⟨none, 0, rfl, hM.sat 4 _ rfl, hM.below⟩
    · skip
      have h25 : tabNo u = 0 := by simpa using h26
      obtain ⟨hsu, hqu2, hfu⟩ := funcs_size h25
      have hul := hou.fu.t.len
      have hlt : (szT t).length ≤ t.fu.l.length := by have := szM_len t.fu.l []; simpa [szT] using this
      have hlu : (szT u).length ≤ u.fu.l.length := by have := szM_len u.fu.l []; simpa [szT] using this
      have hNl := difNs_len t u
      refine T_skip_go (fun _ _ h => h) ?_
      refine T_seq ?_
      refine T_perm [0, 2, 1, 3, 4, 5] [true, false, true, false, true, true] [0, 1, 0, 7, 15, 31] [(0, [2]), (2, [3])] (by kernel_rfl) (by kernel_rfl) (by kernel_rfl) rfl (by kernel_rfl) ?_
      refine Rf_ 0 28 rfl rfl rfl rfl rfl _ ⟨rfl, trivial⟩ (Y.z (y_loadA 2 rfl rfl rfl Tryz.underlying62 rfl sz62) rfl) ?_
      refine Rf_ 2 30 rfl rfl rfl rfl rfl _ ⟨rfl, trivial⟩ (Y.z (y_loadA 3 rfl rfl rfl Tryz.underlying62 rfl sz62) rfl) ?_
      refine R_chain 1 rfl rfl ?_
      refine S_callN 29 [] [(6, 929)] (X := Nat) rfl rfl rfl rfl rfl rfl rfl cf172 rfl (fun b => .map (some b)) (fun _ => InB 4294967296000 (szT t)) (fun b => [(6, szIt b (szT t))]) (fun _ => rfl) (fun _ => rfl) (fun K1 hK1 w1 hM => sizes_any hK1 t w1 hok h20 hM) ?_
      intro b29 hBt
      refine R_next ⟨.inl rfl, .inr ⟨rfl, trivial⟩, trivial⟩ ?_
      refine R_chain 3 rfl rfl ?_
      refine S_callN 31 [] [(6, 931)] (X := Nat) rfl rfl rfl rfl rfl rfl rfl cf172 rfl (fun b => .map (some b)) (fun _ => InB 4294967296000 (szT u)) (fun b => [(6, szIt b (szT u))]) (fun _ => rfl) (fun _ => rfl) (fun K1 hK1 w1 hM => sizes_any hK1 u w1 hou h25 hM) ?_
      intro b31 hBu
      refine R_next ⟨.inl rfl, .inl rfl, trivial⟩ ?_
      refine Rf_ 4 8 rfl rfl rfl rfl rfl _ trivial (Y.z (y_assign rfl rfl) rfl) ?_
      refine Rf_ 5 9 rfl rfl rfl rfl rfl _ trivial (Y.z (y_assign rfl rfl) rfl) ?_
      refine R_go (fun _ _ h => h) ?_
      refine T_seq ?_
      refine T_region ?_
      refine S_nilSlice 10 (e := 9) (size := 1) ?_
      refine S_ 10 rfl rfl rfl _ (y_assign rfl rfl) ?_
      refine S_go (fun _ _ h => h) ?_
      refine T_seq ?_
      refine T_seq ?_
      refine T_region ?_
      refine S_ 32 rfl rfl rfl _ (y_move rfl rfl) ?_
      refine S_rangeM 33 929 33 (fun p : Nm × Int => str p.1) (fun p : Nm × Int => Value.int .i64 p.2) (szT t) (by rw [List.map_map]; rfl) rfl rfl rfl rfl rfl rfl (kt := 9) Tryz.underlying204 ?_
      intro r33 es33 ck33 hes33
      refine S_go (fun _ _ h => h) ?_
      refine T_block ?_
      refine T_loopK6 (kf := [(10, 11), (34, 41)]) (kl := [(10, 11), (33, 41)]) (fun (rem : List (Nm × Int)) (last : Option (Nm × Int)) (N : List Nm) (q : Nat) (A : Option Addr) (c : Nat) => [(10, true, .slice A q c)]) (fun (rem : List (Nm × Int)) (last : Option (Nm × Int)) (N : List Nm) (q : Nat) (A : Option Addr) (c : Nat) => [(33, .blk r33 (IsIt (fun p : Nm × Int => str p.1) (fun p : Nm × Int => Value.int .i64 p.2) b29 es33 ck33 rem last)), (10, .own 9 1 (.slice A q c) q (N.flatMap strEnc))]) (fun (rem : List (Nm × Int)) (last : Option (Nm × Int)) (N : List Nm) (q : Nat) (A : Option Addr) (c : Nat) => (∃ D, (szT t).Perm (D ++ rem) ∧ N = D.map Prod.fst) ∧ N.length = q ∧ q + rem.length ≤ (szT t).length) (fun (rem : List (Nm × Int)) (last : Option (Nm × Int)) (N : List Nm) (q : Nat) (A : Option Addr) (c : Nat) => rem.length) (szT t) none [] 0 none 0 (by repeat (first | exact kf_nil | (apply kf_in; focus rfl) | (apply kf_out; focus rfl))) (by repeat (first | exact kl_nil | exact kl_rest (by assumption) rfl | (apply kl_in; focus rfl) | (apply kl_out; focus rfl))) ?_ ?_ ?_ ?_
      · exact ⟨⟨[], List.Perm.refl _, rfl⟩, rfl, by simp⟩
      · exact ⟨rfl, trivial⟩
      · exact ⟨rfl, rfl, trivial⟩
      rintro rem last N q A c ⟨hm0, hl2, hl3⟩
      refine T_seq ?_
      refine T_region ?_
      refine S_next 34 929 33 rfl rfl rfl rfl rfl rfl rfl ?_
      intro e34 ps34 hn34 hs34
      refine S_ 35 rfl rfl rfl _ (y_extract (v := .bool e34.isSome) rfl rfl (by cases e34 <;> rfl)) ?_
      refine S_go (fun _ _ h => h) ?_
      refine T_seq ?_
      refine T_cond rfl (fun h35 => ?_) (fun h35 => ?_)
      · skip
        obtain ⟨p, rfl⟩ := Option.isSome_iff_exists.1 h35
        have hpm := hs34 p rfl
        refine T_skip_go (fun _ _ h => h) ?_
        refine T_block ?_
        refine T_seq ?_
        refine T_region ?_
        refine S_ 36 rfl rfl rfl _ (y_entry 929 33 rfl rfl rfl rfl) ?_
        refine S_ 37 rfl rfl rfl _ (y_as (v' := str p.1) (by exact rfl) (y_extract rfl rfl rfl)) ?_
        refine S_ 11 rfl rfl rfl _ (y_assign rfl rfl) ?_
        refine S_go (fun _ _ h => h) ?_
        refine T_region ?_
        refine S_ 38 rfl rfl rfl _ (y_move rfl rfl) ?_
        refine S_ 39 rfl rfl rfl _ (y_move rfl rfl) ?_
        refine S_buildSlice 40 40 rfl rfl rfl rfl rfl Tryz.underlying57 inf9 rfl (by decide) (by decide) rfl rfl (by decide) rfl (_) rfl ?_
        intro b40
        obtain ⟨i41, hi41, hz41, hs41, hy41⟩ := info_parts inf9
        refine S_append 41 10 40 rfl rfl rfl rfl rfl rfl rfl rfl Tryz.underlying57 hi41 hz41 hs41 hy41 rfl (by decide) (by decide) rfl ?_ ?_ (q + 1) ((N ++ [p.1]).flatMap strEnc) ?_ ?_ ?_
        · (simp only [maxLen]; omega)
        · omega
        · rfl
        · simp [List.flatMap_append, strEnc]; rfl
        intro A41 c41
        refine S_ 10 rfl rfl rfl _ (y_assign rfl rfl) ?_
        refine S_nil (nextK6 (kf := [(10, 11), (34, 41)]) (kl := [(10, 11), (33, 41)]) ps34 (some p) (N ++ [p.1]) (q + 1) A41 c41 (by repeat (first | exact kf_nil | (apply kf_in; focus rfl) | (apply kf_out; focus rfl))) (by repeat (first | exact kl_nil | exact kl_rest (by assumption) rfl | (apply kl_in; focus rfl) | (apply kl_out; focus rfl))) ?_ ?_ ?_ ?_)
        · have := hpm.length_eq; simp at this; omega
        · have := hpm.length_eq
          simp at this
          obtain ⟨D, d1, d2⟩ := hm0
          exact ⟨⟨D ++ [p], d1.trans (by rw [List.append_assoc]; exact List.Perm.append_left D hpm), by rw [List.map_append, d2]; rfl⟩, by simp [hl2], by omega⟩
        · exact ⟨rfl, trivial⟩
        · exact ⟨rfl, rfl, trivial⟩
      · skip
        have hq0 : e34 = none := by simpa using h35
        have hr0 := hn34 hq0
        refine T_exit_go (fun _ _ h => h) ?_
        refine T_seq ?_
        refine T_seq ?_
        refine T_region ?_
        refine S_remap 929 rfl hes33 ?_
        refine S_ 42 rfl rfl rfl _ (y_move rfl rfl) ?_
        refine S_rangeM 43 931 43 (fun p : Nm × Int => str p.1) (fun p : Nm × Int => Value.int .i64 p.2) (szT u) (by rw [List.map_map]; rfl) rfl rfl rfl rfl rfl rfl (kt := 9) Tryz.underlying204 ?_
        intro r43 es43 ck43 hes43
        refine S_go (fun _ _ h => h) ?_
        refine T_block ?_
        refine T_loopK6 (kf := [(10, 10), (12, 12), (44, 51)]) (kl := [(10, 10), (12, 12), (43, 51)]) (fun (rem : List (Nm × Int)) (last : Option (Nm × Int)) (N2 : List Nm) (q : Nat) (A : Option Addr) (c : Nat) => [(10, true, .slice A q c)]) (fun (rem : List (Nm × Int)) (last : Option (Nm × Int)) (N2 : List Nm) (q : Nat) (A : Option Addr) (c : Nat) => [(43, .blk r43 (IsIt (fun p : Nm × Int => str p.1) (fun p : Nm × Int => Value.int .i64 p.2) b31 es43 ck43 rem last)), (10, .own 9 1 (.slice A q c) q (N2.flatMap strEnc))]) (fun (rem : List (Nm × Int)) (last : Option (Nm × Int)) (N2 : List Nm) (q : Nat) (A : Option Addr) (c : Nat) => (∃ D, (szT u).Perm (D ++ rem) ∧ N2 = N ++ D.map Prod.fst) ∧ N2.length = q ∧ q + rem.length ≤ (szT t).length + (szT u).length) (fun (rem : List (Nm × Int)) (last : Option (Nm × Int)) (N2 : List Nm) (q : Nat) (A : Option Addr) (c : Nat) => rem.length) (szT u) none N q A c (by repeat (first | exact kf_nil | (apply kf_in; focus rfl) | (apply kf_out; focus rfl))) (by repeat (first | exact kl_nil | exact kl_rest (by assumption) rfl | (apply kl_in; focus rfl) | (apply kl_out; focus rfl))) ?_ ?_ ?_ ?_
        · exact ⟨⟨[], List.Perm.refl _, by simp⟩, hl2, by omega⟩
        · exact ⟨rfl, trivial⟩
        · exact ⟨rfl, rfl, trivial⟩
        rintro rem2 last2 N2 q A c ⟨hm1, hm2, hm3⟩
        refine T_seq ?_
        refine T_region ?_
        refine S_next 44 931 43 rfl rfl rfl rfl rfl rfl rfl ?_
        intro e44 ps44 hn44 hs44
        refine S_ 45 rfl rfl rfl _ (y_extract (v := .bool e44.isSome) rfl rfl (by cases e44 <;> rfl)) ?_
        refine S_go (fun _ _ h => h) ?_
        refine T_seq ?_
        refine T_cond rfl (fun h45 => ?_) (fun h45 => ?_)
        · skip
          obtain ⟨p, rfl⟩ := Option.isSome_iff_exists.1 h45
          have hpm := hs44 p rfl
          refine T_skip_go (fun _ _ h => h) ?_
          refine T_block ?_
          refine T_seq ?_
          refine T_region ?_
          refine S_ 46 rfl rfl rfl _ (y_entry 931 43 rfl rfl rfl rfl) ?_
          refine S_ 47 rfl rfl rfl _ (y_as (v' := str p.1) (by exact rfl) (y_extract rfl rfl rfl)) ?_
          refine S_ 12 rfl rfl rfl _ (y_assign rfl rfl) ?_
          refine S_go (fun _ _ h => h) ?_
          refine T_region ?_
          refine S_ 48 rfl rfl rfl _ (y_move rfl rfl) ?_
          refine S_ 49 rfl rfl rfl _ (y_move rfl rfl) ?_
          refine S_buildSlice 50 50 rfl rfl rfl rfl rfl Tryz.underlying57 inf9 rfl (by decide) (by decide) rfl rfl (by decide) rfl (_) rfl ?_
          intro b50
          obtain ⟨i51, hi51, hz51, hs51, hy51⟩ := info_parts inf9
          refine S_append 51 10 50 rfl rfl rfl rfl rfl rfl rfl rfl Tryz.underlying57 hi51 hz51 hs51 hy51 rfl (by decide) (by decide) rfl ?_ ?_ (q + 1) ((N2 ++ [p.1]).flatMap strEnc) ?_ ?_ ?_
          · (simp only [maxLen]; omega)
          · omega
          · rfl
          · simp [List.flatMap_append, strEnc]; rfl
          intro A51 c51
          refine S_ 10 rfl rfl rfl _ (y_assign rfl rfl) ?_
          refine S_nil (nextK6 (kf := [(10, 10), (12, 12), (44, 51)]) (kl := [(10, 10), (12, 12), (43, 51)]) ps44 (some p) (N2 ++ [p.1]) (q + 1) A51 c51 (by repeat (first | exact kf_nil | (apply kf_in; focus rfl) | (apply kf_out; focus rfl))) (by repeat (first | exact kl_nil | exact kl_rest (by assumption) rfl | (apply kl_in; focus rfl) | (apply kl_out; focus rfl))) ?_ ?_ ?_ ?_)
          · have := hpm.length_eq; simp at this; omega
          · have := hpm.length_eq
            simp at this
            obtain ⟨D, d1, d2⟩ := hm1
            exact ⟨⟨D ++ [p], d1.trans (by rw [List.append_assoc]; exact List.Perm.append_left D hpm), by rw [List.map_append, d2, List.append_assoc]; rfl⟩, by simp [hm2], by omega⟩
          · exact ⟨rfl, trivial⟩
          · exact ⟨rfl, rfl, trivial⟩
        · skip
          have hq1 : e44 = none := by simpa using h45
          have hr1 := hn44 hq1
          have hcN : cptG [] (srtS N2) = difNs t u := by
            obtain ⟨D1, d1, d2⟩ := hm0
            obtain ⟨D2, d3, d4⟩ := hm1
            rw [hr0, List.append_nil] at d1
            rw [hr1, List.append_nil] at d3
            exact difNs_of d1 d3 (by rw [d4, d2])
          refine T_exit_go (fun _ _ h => h) ?_
          refine T_seq ?_
          refine T_region ?_
          refine S_remap 931 rfl hes43 ?_
          refine S_ 52 rfl rfl rfl _ (y_move rfl rfl) ?_
          refine S_callM 53 [(0, 10)] (X := Unit) rfl rfl rfl rfl rfl rfl rfl cf173 rfl (fun _ => .tuple #[]) (fun _ => True) (fun _ => [(0, .own 9 1 (.slice A q c) q ((srtS N2).flatMap strEnc))]) (fun _ => rfl) (fun _ => rfl) (fun K1 hK1 w1 hM => SortStr_any A q c N2 w1 hm2 (by omega) hM) ?_
          intro u53 _
          refine S_go (fun _ _ h => h) ?_
          refine T_seq ?_
          refine T_region ?_
          refine S_nilSlice 13 (e := 9) (size := 1) ?_
          refine S_ 13 rfl rfl rfl _ (y_assign rfl rfl) ?_
          refine S_go (fun _ _ h => h) ?_
          refine T_seq ?_
          refine T_seq ?_
          refine T_region ?_
          refine S_ 54 rfl rfl rfl _ (y_move rfl rfl) ?_
          refine S_callM 55 [(0, 10)] (X := Unit) rfl rfl rfl rfl rfl rfl rfl cf174 rfl (fun _ => .slice A (difNs t u).length c) (fun _ => True) (fun _ => [(0, .own 9 1 (.slice A (difNs t u).length c) (difNs t u).length ((difNs t u).flatMap strEnc))]) (fun _ => rfl) (fun _ => rfl) (fun K1 hK1 w1 hM => by
            have h := CptStr_any A q c (srtS N2) w1 (by rw [(srtS_perm _).length_eq, hm2]) (by omega) hM
            rw [hcN] at h
            exact h) ?_
          intro u55 _
          refine S_ 56 rfl rfl rfl _ (y_len_slice rfl rfl Tryz.underlying57) ?_
          refine S_ 57 rfl rfl rfl _ (y_move rfl rfl) ?_
          refine S_go (fun _ _ h => h) ?_
          refine T_block ?_
          refine T_loopK5 (kf := [(13, 13), (15, 17), (57, 108)]) (kl := [(13, 13), (15, 17), (57, 108)]) (fun (k : Nat) (out : List Nm) (q : Nat) (A : Option Addr) (c : Nat) => [(57, true, .int .i64 (k : Int)), (13, true, .slice A q c)]) (fun (k : Nat) (out : List Nm) (q : Nat) (A : Option Addr) (c : Nat) => [(13, .own 9 1 (.slice A q c) q (out.flatMap strEnc))]) (fun (k : Nat) (out : List Nm) (q : Nat) (A : Option Addr) (c : Nat) => k ≤ (difNs t u).length ∧ out ++ difL (szT t) (szT u) ((difNs t u).drop k) = difO t u ∧ out.length = q ∧ q ≤ k) (fun (k : Nat) (out : List Nm) (q : Nat) (A : Option Addr) (c : Nat) => (difNs t u).length - k) 0 [] 0 none 0 (by repeat (first | exact kf_nil | (apply kf_in; focus rfl) | (apply kf_out; focus rfl))) (by repeat (first | exact kl_nil | exact kl_rest (by assumption) rfl | (apply kl_in; focus rfl) | (apply kl_out; focus rfl))) ?_ ?_ ?_ ?_
          · exact ⟨by omega, rfl, rfl, by omega⟩
          · exact ⟨rfl, rfl, trivial⟩
          · exact ⟨rfl, trivial⟩
          rintro k out q A c ⟨hk1, hk2, hk3, hk4⟩
          refine T_seq ?_
          refine T_region ?_
          refine S_ 58 rfl rfl rfl _ (y_bin rfl rfl rfl (fun _ => b_lss)) ?_
          refine S_go (fun _ _ h => h) ?_
          refine T_seq ?_
          refine T_cond rfl (fun h58 => ?_) (fun h58 => ?_)
          · try simp only [decide_eq_true_eq, decide_eq_false_iff_not, Bool.or_eq_true, Bool.or_eq_false_iff, Bool.and_eq_true, Bool.and_eq_false_iff, Bool.not_eq_true', Bool.not_eq_false', Bool.not_eq_true, Bool.not_eq_false, Bool.not_true, Bool.not_false, Int.not_lt, Int.not_le, not_or, not_and, Classical.not_not] at h58
            obtain ⟨n, hn1⟩ : ∃ n, (difNs t u)[k]? = some n := ⟨_, List.getElem?_eq_getElem (by omega)⟩
            have hnl : n.length ≤ 200 := by
              have h := difNs_mem (mem_at hn1)
              rw [namesF] at h
              rcases List.mem_append.1 h with h | h
              · obtain ⟨g, hg, rfl⟩ := List.mem_map.1 h; exact (hft g hg).2
              · obtain ⟨g, hg, rfl⟩ := List.mem_map.1 h; exact (hfu g hg).2
            have ht1 := hBt n
            have hu1 := hBu n
            have hi1 := Lib.itoa_length_le (gi (szT t) n) (by omega) (by omega)
            have hi2 := Lib.itoa_length_le (gi (szT u) n) (by omega) (by omega)
            refine T_skip_go (fun _ _ h => h) ?_
            refine T_seq ?_
            refine T_block ?_
            refine T_seq ?_
            refine T_region ?_
            refine S_ 59 rfl rfl rfl _ (y_indexOwn 10 rfl rfl rfl rfl Tryz.underlying57 sz9 (fun _ => by omega)) ?_
            refine S_ 60 rfl rfl rfl _ (y_loadO1 10 (val := (fun l : List UInt8 => str l)) rfl rfl rfl rfl (fun _ => hn1) Tryz.underlying9 rfl) ?_
            refine S_ 15 rfl rfl rfl _ (y_assign rfl rfl) ?_
            refine S_go (fun _ _ h => h) ?_
            refine T_seq ?_
            refine T_draws (by kernel_rfl) (by kernel_rfl) ?_
            refine D_ 61 rfl rfl rfl _ (y_move rfl rfl) ?_
            refine D_ 62 rfl rfl rfl _ (y_move rfl rfl) ?_
            refine D_ 63 rfl rfl rfl _ (y_as (v' := .int .i64 (gi (szT t) n)) (by exact mget_mi _ _) (y_lookup 929 (enc := fun l : List UInt8 => str l) rfl rfl rfl rfl Tryz.underlying204 Tryz.underlying9 rfl same_str z3)) ?_
            refine D_ 64 rfl rfl rfl _ (y_move rfl rfl) ?_
            refine D_ 65 rfl rfl rfl _ (y_move rfl rfl) ?_
            refine D_ 66 rfl rfl rfl _ (y_as (v' := .int .i64 (gi (szT u) n)) (by exact mget_mi _ _) (y_lookup 931 (enc := fun l : List UInt8 => str l) rfl rfl rfl rfl Tryz.underlying204 Tryz.underlying9 rfl same_str z3)) ?_
            refine D_ 16 rfl rfl rfl _ (y_assign rfl rfl) ?_
            refine D_ 17 rfl rfl rfl _ (y_assign rfl rfl) ?_
            refine D_go (fun _ _ h => h) ?_
            refine T_block ?_
            refine T_seq ?_
            refine T_region ?_
            refine S_ 68 rfl rfl rfl _ (y_move rfl rfl) ?_
            refine S_ 69 rfl rfl rfl _ (y_bin rfl rfl rfl (fun _ => b_eql)) ?_
            refine S_ 67 rfl rfl rfl _ (y_assign rfl rfl) ?_
            refine S_go (fun _ _ h => h) ?_
            refine T_cond rfl (fun h67 => ?_) (fun h67 => ?_)
            · try simp only [decide_eq_true_eq, decide_eq_false_iff_not, Bool.or_eq_true, Bool.or_eq_false_iff, Bool.and_eq_true, Bool.and_eq_false_iff, Bool.not_eq_true', Bool.not_eq_false', Bool.not_eq_true, Bool.not_eq_false, Bool.not_true, Bool.not_false, Int.not_lt, Int.not_le, not_or, not_and, Classical.not_not] at h67
              have hd1 : dif1 (gi (szT t) n) (gi (szT u) n) n = [[43, 32] ++ n ++ [32] ++ Lib.itoa (gi (szT u) n)] := if_pos h67
              refine T_region ?_
              refine S_ 70 rfl rfl rfl _ (y_move rfl rfl) ?_
              refine S_ 71 rfl rfl rfl _ (y_move rfl rfl) ?_
              refine S_ 72 rfl rfl rfl _ (y_bin rfl rfl rfl (fun hg => b_adds (by first | omega | (simp only [List.length_append, List.length_cons, List.length_nil]; omega)))) ?_
              refine S_ 73 rfl rfl rfl _ (y_bin rfl rfl rfl (fun hg => b_adds (by first | omega | (simp only [List.length_append, List.length_cons, List.length_nil]; omega)))) ?_
              refine S_ 74 rfl rfl rfl _ (y_move rfl rfl) ?_
              refine S_ 75 rfl rfl rfl _ (y_call rfl rfl rfl cf124 (fun _ w hM => Itoa_any _ (by omega) (by omega) w (hP.below hM.below))) ?_
              refine S_ 76 rfl rfl rfl _ (y_bin rfl rfl rfl (fun hg => b_adds (by first | omega | (simp only [List.length_append, List.length_cons, List.length_nil]; omega)))) ?_
              refine S_buildSlice 77 77 rfl rfl rfl rfl rfl Tryz.underlying57 inf9 rfl (by decide) (by decide) rfl rfl (by decide) rfl (_) rfl ?_
              intro b77
              obtain ⟨i78, hi78, hz78, hs78, hy78⟩ := info_parts inf9
              refine S_append 78 13 77 rfl rfl rfl rfl rfl rfl rfl rfl Tryz.underlying57 hi78 hz78 hs78 hy78 rfl (by decide) (by decide) rfl ?_ ?_ (q + 1) ((out ++ [[43, 32] ++ n ++ [32] ++ Lib.itoa (gi (szT u) n)]).flatMap strEnc) ?_ ?_ ?_
              · (simp only [maxLen]; omega)
              · omega
              · rfl
              · simp [List.flatMap_append, strEnc]; rfl
              intro A78 c78
              refine S_ 13 rfl rfl rfl _ (y_assign rfl rfl) ?_
              refine S_go (fun _ _ h => h) ?_
              refine T_region ?_
              refine S_ 108 rfl rfl rfl _ (y_bin rfl rfl rfl (fun hg => b_add (by omega))) ?_
              refine S_ 57 rfl rfl rfl _ (y_move rfl rfl) ?_
              refine S_nil (nextK5 (kf := [(13, 13), (15, 17), (57, 108)]) (kl := [(13, 13), (15, 17), (57, 108)]) (k + 1) (out ++ dif1 (gi (szT t) n) (gi (szT u) n) n) (q + 1) A78 c78 (by repeat (first | exact kf_nil | (apply kf_in; focus rfl) | (apply kf_out; focus rfl))) (by repeat (first | exact kl_nil | exact kl_rest (by assumption) rfl | (apply kl_in; focus rfl) | (apply kl_out; focus rfl))) ?_ ?_ ?_ ?_)
              · omega
              · exact ⟨by omega, dif_next hn1 hk2, by rw [List.length_append, hk3, hd1]; rfl, by omega⟩
              · exact ⟨rfl, rfl, trivial⟩
              · exact ⟨by rw [hd1]; rfl, trivial⟩
            · try simp only [decide_eq_true_eq, decide_eq_false_iff_not, Bool.or_eq_true, Bool.or_eq_false_iff, Bool.and_eq_true, Bool.and_eq_false_iff, Bool.not_eq_true', Bool.not_eq_false', Bool.not_eq_true, Bool.not_eq_false, Bool.not_true, Bool.not_false, Int.not_lt, Int.not_le, not_or, not_and, Classical.not_not] at h67
              refine T_seq ?_
              refine T_region ?_
              refine S_ 80 rfl rfl rfl _ (y_move rfl rfl) ?_
              refine S_ 81 rfl rfl rfl _ (y_bin rfl rfl rfl (fun _ => b_eql)) ?_
              refine S_ 79 rfl rfl rfl _ (y_assign rfl rfl) ?_
              refine S_go (fun _ _ h => h) ?_
              refine T_cond rfl (fun h79 => ?_) (fun h79 => ?_)
              · try simp only [decide_eq_true_eq, decide_eq_false_iff_not, Bool.or_eq_true, Bool.or_eq_false_iff, Bool.and_eq_true, Bool.and_eq_false_iff, Bool.not_eq_true', Bool.not_eq_false', Bool.not_eq_true, Bool.not_eq_false, Bool.not_true, Bool.not_false, Int.not_lt, Int.not_le, not_or, not_and, Classical.not_not] at h79
                have hd1 : dif1 (gi (szT t) n) (gi (szT u) n) n = [[45, 32] ++ n ++ [32] ++ Lib.itoa (gi (szT t) n)] := (if_neg h67).trans (if_pos h79)
                refine T_region ?_
                refine S_ 82 rfl rfl rfl _ (y_move rfl rfl) ?_
                refine S_ 83 rfl rfl rfl _ (y_move rfl rfl) ?_
                refine S_ 84 rfl rfl rfl _ (y_bin rfl rfl rfl (fun hg => b_adds (by first | omega | (simp only [List.length_append, List.length_cons, List.length_nil]; omega)))) ?_
                refine S_ 85 rfl rfl rfl _ (y_bin rfl rfl rfl (fun hg => b_adds (by first | omega | (simp only [List.length_append, List.length_cons, List.length_nil]; omega)))) ?_
                refine S_ 86 rfl rfl rfl _ (y_move rfl rfl) ?_
                refine S_ 87 rfl rfl rfl _ (y_call rfl rfl rfl cf124 (fun _ w hM => Itoa_any _ (by omega) (by omega) w (hP.below hM.below))) ?_
                refine S_ 88 rfl rfl rfl _ (y_bin rfl rfl rfl (fun hg => b_adds (by first | omega | (simp only [List.length_append, List.length_cons, List.length_nil]; omega)))) ?_
                refine S_buildSlice 89 89 rfl rfl rfl rfl rfl Tryz.underlying57 inf9 rfl (by decide) (by decide) rfl rfl (by decide) rfl (_) rfl ?_
                intro b89
                obtain ⟨i90, hi90, hz90, hs90, hy90⟩ := info_parts inf9
                refine S_append 90 13 89 rfl rfl rfl rfl rfl rfl rfl rfl Tryz.underlying57 hi90 hz90 hs90 hy90 rfl (by decide) (by decide) rfl ?_ ?_ (q + 1) ((out ++ [[45, 32] ++ n ++ [32] ++ Lib.itoa (gi (szT t) n)]).flatMap strEnc) ?_ ?_ ?_
                · (simp only [maxLen]; omega)
                · omega
                · rfl
                · simp [List.flatMap_append, strEnc]; rfl
                intro A90 c90
                refine S_ 13 rfl rfl rfl _ (y_assign rfl rfl) ?_
                refine S_go (fun _ _ h => h) ?_
                refine T_region ?_
                refine S_ 108 rfl rfl rfl _ (y_bin rfl rfl rfl (fun hg => b_add (by omega))) ?_
                refine S_ 57 rfl rfl rfl _ (y_move rfl rfl) ?_
                refine S_nil (nextK5 (kf := [(13, 13), (15, 17), (57, 108)]) (kl := [(13, 13), (15, 17), (57, 108)]) (k + 1) (out ++ dif1 (gi (szT t) n) (gi (szT u) n) n) (q + 1) A90 c90 (by repeat (first | exact kf_nil | (apply kf_in; focus rfl) | (apply kf_out; focus rfl))) (by repeat (first | exact kl_nil | exact kl_rest (by assumption) rfl | (apply kl_in; focus rfl) | (apply kl_out; focus rfl))) ?_ ?_ ?_ ?_)
                · omega
                · exact ⟨by omega, dif_next hn1 hk2, by rw [List.length_append, hk3, hd1]; rfl, by omega⟩
                · exact ⟨rfl, rfl, trivial⟩
                · exact ⟨by rw [hd1]; rfl, trivial⟩
              · try simp only [decide_eq_true_eq, decide_eq_false_iff_not, Bool.or_eq_true, Bool.or_eq_false_iff, Bool.and_eq_true, Bool.and_eq_false_iff, Bool.not_eq_true', Bool.not_eq_false', Bool.not_eq_true, Bool.not_eq_false, Bool.not_true, Bool.not_false, Int.not_lt, Int.not_le, not_or, not_and, Classical.not_not] at h79
                refine T_seq ?_
                refine T_region ?_
                refine S_ 92 rfl rfl rfl _ (y_move rfl rfl) ?_
                refine S_ 93 rfl rfl rfl _ (y_move rfl rfl) ?_
                refine S_ 94 rfl rfl rfl _ (y_bin rfl rfl rfl (fun _ => b_neq)) ?_
                refine S_ 91 rfl rfl rfl _ (y_assign rfl rfl) ?_
                refine S_go (fun _ _ h => h) ?_
                refine T_cond rfl (fun h91 => ?_) (fun h91 => ?_)
                · try simp only [decide_eq_true_eq, decide_eq_false_iff_not, Bool.or_eq_true, Bool.or_eq_false_iff, Bool.and_eq_true, Bool.and_eq_false_iff, Bool.not_eq_true', Bool.not_eq_false', Bool.not_eq_true, Bool.not_eq_false, Bool.not_true, Bool.not_false, Int.not_lt, Int.not_le, not_or, not_and, Classical.not_not] at h91
                  have hd1 : dif1 (gi (szT t) n) (gi (szT u) n) n = [[126, 32] ++ n ++ [32] ++ Lib.itoa (gi (szT t) n) ++ [32] ++ Lib.itoa (gi (szT u) n)] := (if_neg h67).trans ((if_neg h79).trans (if_pos h91))
                  refine T_region ?_
                  refine S_ 95 rfl rfl rfl _ (y_move rfl rfl) ?_
                  refine S_ 96 rfl rfl rfl _ (y_move rfl rfl) ?_
                  refine S_ 97 rfl rfl rfl _ (y_bin rfl rfl rfl (fun hg => b_adds (by first | omega | (simp only [List.length_append, List.length_cons, List.length_nil]; omega)))) ?_
                  refine S_ 98 rfl rfl rfl _ (y_bin rfl rfl rfl (fun hg => b_adds (by first | omega | (simp only [List.length_append, List.length_cons, List.length_nil]; omega)))) ?_
                  refine S_ 99 rfl rfl rfl _ (y_move rfl rfl) ?_
                  refine S_ 100 rfl rfl rfl _ (y_call rfl rfl rfl cf124 (fun _ w hM => Itoa_any _ (by omega) (by omega) w (hP.below hM.below))) ?_
                  refine S_ 101 rfl rfl rfl _ (y_bin rfl rfl rfl (fun hg => b_adds (by first | omega | (simp only [List.length_append, List.length_cons, List.length_nil]; omega)))) ?_
                  refine S_ 102 rfl rfl rfl _ (y_bin rfl rfl rfl (fun hg => b_adds (by first | omega | (simp only [List.length_append, List.length_cons, List.length_nil]; omega)))) ?_
                  refine S_ 103 rfl rfl rfl _ (y_move rfl rfl) ?_
                  refine S_ 104 rfl rfl rfl _ (y_call rfl rfl rfl cf124 (fun _ w hM => Itoa_any _ (by omega) (by omega) w (hP.below hM.below))) ?_
                  refine S_ 105 rfl rfl rfl _ (y_bin rfl rfl rfl (fun hg => b_adds (by first | omega | (simp only [List.length_append, List.length_cons, List.length_nil]; omega)))) ?_
                  refine S_buildSlice 106 106 rfl rfl rfl rfl rfl Tryz.underlying57 inf9 rfl (by decide) (by decide) rfl rfl (by decide) rfl (_) rfl ?_
                  intro b106
                  obtain ⟨i107, hi107, hz107, hs107, hy107⟩ := info_parts inf9
                  refine S_append 107 13 106 rfl rfl rfl rfl rfl rfl rfl rfl Tryz.underlying57 hi107 hz107 hs107 hy107 rfl (by decide) (by decide) rfl ?_ ?_ (q + 1) ((out ++ [[126, 32] ++ n ++ [32] ++ Lib.itoa (gi (szT t) n) ++ [32] ++ Lib.itoa (gi (szT u) n)]).flatMap strEnc) ?_ ?_ ?_
                  · (simp only [maxLen]; omega)
                  · omega
                  · rfl
                  · simp [List.flatMap_append, strEnc]; rfl
                  intro A107 c107
                  refine S_ 13 rfl rfl rfl _ (y_assign rfl rfl) ?_
                  refine S_go (fun _ _ h => h) ?_
                  refine T_region ?_
                  refine S_ 108 rfl rfl rfl _ (y_bin rfl rfl rfl (fun hg => b_add (by omega))) ?_
                  refine S_ 57 rfl rfl rfl _ (y_move rfl rfl) ?_
                  refine S_nil (nextK5 (kf := [(13, 13), (15, 17), (57, 108)]) (kl := [(13, 13), (15, 17), (57, 108)]) (k + 1) (out ++ dif1 (gi (szT t) n) (gi (szT u) n) n) (q + 1) A107 c107 (by repeat (first | exact kf_nil | (apply kf_in; focus rfl) | (apply kf_out; focus rfl))) (by repeat (first | exact kl_nil | exact kl_rest (by assumption) rfl | (apply kl_in; focus rfl) | (apply kl_out; focus rfl))) ?_ ?_ ?_ ?_)
                  · omega
                  · exact ⟨by omega, dif_next hn1 hk2, by rw [List.length_append, hk3, hd1]; rfl, by omega⟩
                  · exact ⟨rfl, rfl, trivial⟩
                  · exact ⟨by rw [hd1]; rfl, trivial⟩
                · try simp only [decide_eq_true_eq, decide_eq_false_iff_not, Bool.or_eq_true, Bool.or_eq_false_iff, Bool.and_eq_true, Bool.and_eq_false_iff, Bool.not_eq_true', Bool.not_eq_false', Bool.not_eq_true, Bool.not_eq_false, Bool.not_true, Bool.not_false, Int.not_lt, Int.not_le, not_or, not_and, Classical.not_not] at h91
                  have hd1 : dif1 (gi (szT t) n) (gi (szT u) n) n = [] := (if_neg h67).trans ((if_neg h79).trans (if_neg (by simpa using h91)))
                  refine T_skip_go (fun _ _ h => h) ?_
                  refine T_region ?_
                  refine S_ 108 rfl rfl rfl _ (y_bin rfl rfl rfl (fun hg => b_add (by omega))) ?_
                  refine S_ 57 rfl rfl rfl _ (y_move rfl rfl) ?_
                  refine S_nil (nextK5 (kf := [(13, 13), (15, 17), (57, 108)]) (kl := [(13, 13), (15, 17), (57, 108)]) (k + 1) out q A c (by repeat (first | exact kf_nil | (apply kf_in; focus rfl) | (apply kf_out; focus rfl))) (by repeat (first | exact kl_nil | exact kl_rest (by assumption) rfl | (apply kl_in; focus rfl) | (apply kl_out; focus rfl))) ?_ ?_ ?_ ?_)
                  · omega
                  · exact ⟨by omega, by have := dif_next hn1 hk2; rw [hd1, List.append_nil] at this; exact this, hk3, by omega⟩
                  · exact ⟨rfl, rfl, trivial⟩
                  · exact ⟨rfl, trivial⟩
          · try simp only [decide_eq_true_eq, decide_eq_false_iff_not, Bool.or_eq_true, Bool.or_eq_false_iff, Bool.and_eq_true, Bool.and_eq_false_iff, Bool.not_eq_true', Bool.not_eq_false', Bool.not_eq_true, Bool.not_eq_false, Bool.not_true, Bool.not_false, Int.not_lt, Int.not_le, not_or, not_and, Classical.not_not] at h58
            refine T_exit_go (fun _ _ h => h) ?_
            refine T_seq ?_
            refine T_region ?_
            refine S_ 109 rfl rfl rfl _ (y_move rfl rfl) ?_
            refine S_ 4 rfl rfl rfl _ (y_assign rfl rfl) ?_
            refine S_ 5 rfl rfl rfl _ (y_assign rfl rfl) ?_
            refine S_go (fun _ _ h => h) ?_
            refine T_ret (fun a w hF hM => hRb a w (post2 rfl rfl rfl (fun w hM => ?_) a w hF hM))
            have e : difNo t u = 0 := fst_b h20 h25
            have e2 : difA t u = out := by rw [difA, if_pos e, ← hk2, List.drop_eq_nil_of_le (by omega)]; simp [difL]
            rw [e, e2, hk3]
            exact ⟨A, c, rfl, hM.sat 13 _ rfl, hM.below⟩
end Go.Proofs.YtkkngcdikbhkjaaGreatDoor
end
