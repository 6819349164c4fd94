/- Part 2, merged by a program. Events are checked: the program's Check and the reference's EventFault. Conditions: those of each theorem. -/
import Derived.Test.YtfmbgaaonfgenaaGreatDoorOpsB
import Derived.Test.YtfmbgaaonfgenaaGreatDoorPk1
namespace Go.Proofs.YtfmbgaaonfgenaaGreatDoor
set_option linter.unusedSimpArgs false
set_option linter.unusedVariables false
set_option maxRecDepth 20000
open Go.RowKit Go.Eng
theorem TrimName_any (s : List UInt8) (hs : s.length ≤ 1000) (w : World) :
    Calls Tryz.prog 72 #[str s, str nameBs] w fun e w' => e = .returned (str (Lib.trimS s nameBs)) ∧ Below w.heap.size w w' :=
  Any.strings_Trim_laid Tryz.lays160 (by kernel_rfl) ⟨s.toArray⟩ ⟨nameBs.toArray⟩ w (by rw [Lib.size_eq]; simp; omega) (by decide) (ascii_of_all (by decide))
theorem isDigest_any (s : List UInt8) (w : World) :
    Calls Tryz.prog 194 #[str s] w fun e w' => e = .returned (.bool (idOk s)) ∧ Below w.heap.size w w' := by
  refine enter_args (args := [str s]) (F := _) Tryz.func194 rfl Tryz.ntmps194 rfl rfl ?_
  intro Rb hRb hRn
  refine T_seq ?_
  refine T_region ?_
  refine S_ 2 rfl rfl rfl _ (y_assign rfl rfl) ?_
  refine S_go (fun _ _ h => h) ?_
  refine T_seq ?_
  refine T_region ?_
  refine S_ 3 rfl rfl rfl _ (y_move rfl rfl) ?_
  refine S_ 4 rfl rfl rfl _ (y_len_str rfl rfl Tryz.underlying9) ?_
  refine S_ 5 rfl rfl rfl _ (y_bin rfl rfl rfl (fun _ => b_eql)) ?_
  refine S_ 6 rfl rfl rfl _ (y_move rfl rfl) ?_
  refine Sg_ 7 rfl rfl rfl rfl rfl rfl _ (y_move rfl rfl) ?_
  refine Sg_ 8 rfl rfl rfl rfl rfl rfl _ (y_call rfl rfl rfl cf72 (fun hg w _ => TrimHex_any s (by simp only [Bool.true_and, Bool.and_eq_true, beq_iff_eq, decide_eq_true_eq, decide_eq_false_iff_not, Int.not_lt, Int.not_le] at hg; omega) w)) ?_
  refine Sg_ 9 rfl rfl rfl rfl rfl rfl _ (y_bin rfl rfl rfl (fun _ => b_eqls)) ?_
  refine S_ 10 rfl rfl rfl _ (y_and rfl rfl rfl) ?_
  refine S_ 2 rfl rfl rfl _ (y_assign rfl rfl) ?_
  refine S_go (fun _ _ h => h) ?_
  refine T_ret (fun a w hF hM => hRb a w (post1 rfl rfl (fun w hM => ?_) a w hF hM))
  exact ⟨rfl, hM.below⟩
theorem eoutside_any (n lo hi : Int) (w : World) :
    Calls Tryz.prog 118 #[.int .i64 n, .int .i64 lo, .int .i64 hi] w fun e w' => e = .returned (.bool (decide (n < lo) || decide (hi < n))) ∧ Below w.heap.size w w' := by
  refine enter_args (args := [.int .i64 n, .int .i64 lo, .int .i64 hi]) (F := _) Tryz.func118 rfl Tryz.ntmps118 rfl rfl ?_
  intro Rb hRb hRn
  refine T_seq ?_
  refine T_region ?_
  refine S_ 6 rfl rfl rfl _ (y_assign rfl rfl) ?_
  refine S_go (fun _ _ h => h) ?_
  refine T_seq ?_
  refine T_region ?_
  refine S_ 7 rfl rfl rfl _ (y_move rfl rfl) ?_
  refine S_ 8 rfl rfl rfl _ (y_move rfl rfl) ?_
  refine S_ 9 rfl rfl rfl _ (y_bin rfl rfl rfl (fun _ => b_lss)) ?_
  refine S_ 10 rfl rfl rfl _ (y_move rfl rfl) ?_
  refine Sg_ 11 rfl rfl rfl rfl rfl rfl _ (y_move rfl rfl) ?_
  refine Sg_ 12 rfl rfl rfl rfl rfl rfl _ (y_move rfl rfl) ?_
  refine Sg_ 13 rfl rfl rfl rfl rfl rfl _ (y_bin rfl rfl rfl (fun _ => b_gtr)) ?_
  refine S_ 14 rfl rfl rfl _ (y_or rfl rfl rfl) ?_
  refine S_ 6 rfl rfl rfl _ (y_assign rfl rfl) ?_
  refine S_go (fun _ _ h => h) ?_
  refine T_ret (fun a w hF hM => hRb a w (post1 rfl rfl (fun w hM => ?_) a w hF hM))
  exact ⟨rfl, hM.below⟩
theorem IsName_any (s : List UInt8) (w : World) :
    Calls Tryz.prog 100 #[str s] w fun e w' => e = .returned (.bool (nameOk s)) ∧ Below w.heap.size w w' := by
  refine enter_args (args := [str s]) (F := _) Tryz.func100 rfl Tryz.ntmps100 rfl rfl ?_
  intro Rb hRb hRn
  refine T_seq ?_
  refine T_region ?_
  refine S_ 2 rfl rfl rfl _ (y_assign rfl rfl) ?_
  refine S_go (fun _ _ h => h) ?_
  refine T_seq ?_
  refine T_seq ?_
  refine T_region ?_
  refine S_ 3 rfl rfl rfl _ (y_move rfl rfl) ?_
  refine S_ 4 rfl rfl rfl _ (y_len_str rfl rfl Tryz.underlying9) ?_
  refine S_ 5 rfl rfl rfl _ (y_bin rfl rfl rfl (fun _ => b_lss)) ?_
  refine S_ 6 rfl rfl rfl _ (y_move rfl rfl) ?_
  refine Sg_ 7 rfl rfl rfl rfl rfl rfl _ (y_move rfl rfl) ?_
  refine Sg_ 8 rfl rfl rfl rfl rfl rfl _ (y_len_str rfl rfl Tryz.underlying9) ?_
  refine Sg_ 9 rfl rfl rfl rfl rfl rfl _ (y_bin rfl rfl rfl (fun _ => b_gtr)) ?_
  refine S_ 10 rfl rfl rfl _ (y_or rfl rfl rfl) ?_
  refine S_ 11 rfl rfl rfl _ (y_move rfl rfl) ?_
  refine Sg_ 12 rfl rfl rfl rfl rfl rfl _ (y_move rfl rfl) ?_
  refine Sg_ 13 rfl rfl rfl rfl rfl rfl _ (y_index_str (j := 0) rfl rfl rfl Tryz.underlying9 (fun hg => List.length_pos_iff.2 (fun e => by subst e; simp at hg))) ?_
  refine Sg_ 14 rfl rfl rfl rfl rfl rfl _ (y_bin rfl rfl rfl (fun _ => b_lss)) ?_
  refine S_ 15 rfl rfl rfl _ (y_or rfl rfl rfl) ?_
  refine S_ 16 rfl rfl rfl _ (y_move rfl rfl) ?_
  refine Sg_ 17 rfl rfl rfl rfl rfl rfl _ (y_move rfl rfl) ?_
  refine Sg_ 18 rfl rfl rfl rfl rfl rfl _ (y_index_str (j := 0) rfl rfl rfl Tryz.underlying9 (fun hg => List.length_pos_iff.2 (fun e => by subst e; simp at hg))) ?_
  refine Sg_ 19 rfl rfl rfl rfl rfl rfl _ (y_bin rfl rfl rfl (fun _ => b_gtr)) ?_
  refine S_ 20 rfl rfl rfl _ (y_or rfl rfl rfl) ?_
  refine S_go (fun _ _ h => h) ?_
  refine T_cond rfl (fun h20 => ?_) (fun h20 => ?_)
  · skip
    refine T_seq ?_
    refine T_region ?_
    refine S_ 2 rfl rfl rfl _ (y_assign rfl rfl) ?_
    refine S_go (fun _ _ h => h) ?_
    refine T_ret (fun a w hF hM => hRb a w (post1 rfl rfl (fun w hM => ?_) a w hF hM))
    exact ⟨by rw [name_t h20], hM.below⟩
  · skip
    have hn := name_f h20
    have hl := hn.1
    refine T_skip_go (fun _ _ h => h) ?_
    refine T_seq ?_
    refine T_region ?_
    refine S_ 21 rfl rfl rfl _ (y_move rfl rfl) ?_
    refine S_ 22 rfl rfl rfl _ (y_call rfl rfl rfl cf72 (fun _ w _ => TrimName_any s (by omega) w)) ?_
    refine S_ 23 rfl rfl rfl _ (y_bin rfl rfl rfl (fun _ => b_eqls)) ?_
    refine S_ 2 rfl rfl rfl _ (y_assign rfl rfl) ?_
    refine S_go (fun _ _ h => h) ?_
    refine T_ret (fun a w hF hM => hRb a w (post1 rfl rfl (fun w hM => ?_) a w hF hM))
    exact ⟨by rw [← hn.2], hM.below⟩
theorem NameOk_any (s : List UInt8) (w : World) :
    Calls Tryz.prog 51 #[str s] w fun e w' => e = .returned (.bool (nameOk s)) ∧ Below w.heap.size w w' := by
  refine enter_args (args := [str s]) (F := _) Tryz.func51 rfl Tryz.ntmps51 rfl rfl ?_
  intro Rb hRb hRn
  refine T_seq ?_
  refine T_region ?_
  refine S_ 2 rfl rfl rfl _ (y_assign rfl rfl) ?_
  refine S_go (fun _ _ h => h) ?_
  refine T_seq ?_
  refine T_region ?_
  refine S_ 3 rfl rfl rfl _ (y_move rfl rfl) ?_
  refine S_ 4 rfl rfl rfl _ (y_bin rfl rfl rfl (fun _ => b_neqs)) ?_
  refine S_ 5 rfl rfl rfl _ (y_move rfl rfl) ?_
  refine Sg_ 6 rfl rfl rfl rfl rfl rfl _ (y_move rfl rfl) ?_
  refine Sg_ 7 rfl rfl rfl rfl rfl rfl _ (y_len_str rfl rfl Tryz.underlying9) ?_
  refine Sg_ 8 rfl rfl rfl rfl rfl rfl _ (y_bin rfl rfl rfl (fun _ => b_leq)) ?_
  refine S_ 9 rfl rfl rfl _ (y_and rfl rfl rfl) ?_
  refine S_ 10 rfl rfl rfl _ (y_move rfl rfl) ?_
  refine Sg_ 11 rfl rfl rfl rfl rfl rfl _ (y_move rfl rfl) ?_
  refine Sg_ 12 rfl rfl rfl rfl rfl rfl _ (y_index_str (j := 0) rfl rfl rfl Tryz.underlying9 (fun hg => List.length_pos_iff.2 (fun e => by subst e; simp at hg))) ?_
  refine Sg_ 13 rfl rfl rfl rfl rfl rfl _ (y_bin rfl rfl rfl (fun _ => b_geq)) ?_
  refine S_ 14 rfl rfl rfl _ (y_and rfl rfl rfl) ?_
  refine S_ 15 rfl rfl rfl _ (y_move rfl rfl) ?_
  refine Sg_ 16 rfl rfl rfl rfl rfl rfl _ (y_move rfl rfl) ?_
  refine Sg_ 17 rfl rfl rfl rfl rfl rfl _ (y_index_str (j := 0) rfl rfl rfl Tryz.underlying9 (fun hg => List.length_pos_iff.2 (fun e => by subst e; simp at hg))) ?_
  refine Sg_ 18 rfl rfl rfl rfl rfl rfl _ (y_bin rfl rfl rfl (fun _ => b_leq)) ?_
  refine S_ 19 rfl rfl rfl _ (y_and rfl rfl rfl) ?_
  refine S_ 20 rfl rfl rfl _ (y_move rfl rfl) ?_
  refine Sg_ 21 rfl rfl rfl rfl rfl rfl _ (y_move rfl rfl) ?_
  refine Sg_ 22 rfl rfl rfl rfl rfl rfl _ (y_call rfl rfl rfl cf72 (fun hg w _ => TrimName_any s (by simp only [Bool.true_and, Bool.and_eq_true, beq_iff_eq, decide_eq_true_eq, decide_eq_false_iff_not, Int.not_lt, Int.not_le] at hg; omega) w)) ?_
  refine Sg_ 23 rfl rfl rfl rfl rfl rfl _ (y_bin rfl rfl rfl (fun _ => b_eqls)) ?_
  refine S_ 24 rfl rfl rfl _ (y_and rfl rfl rfl) ?_
  refine S_ 2 rfl rfl rfl _ (y_assign rfl rfl) ?_
  refine S_go (fun _ _ h => h) ?_
  refine T_ret (fun a w hF hM => hRb a w (post1 rfl rfl (fun w hM => ?_) a w hF hM))
  exact ⟨rfl, hM.below⟩
theorem checkValue_any (s : List UInt8) (hs : s.length ≤ 4611686018427387904) (w : World) :
    Calls Tryz.prog 117 #[str s] w fun e w' => e = .returned (.int .i64 (valNo s)) ∧ Below w.heap.size w w' := by
  refine enter_args (args := [str s]) (F := _) Tryz.func117 rfl Tryz.ntmps117 rfl rfl ?_
  intro Rb hRb hRn
  refine T_seq ?_
  refine T_region ?_
  refine S_ 2 rfl rfl rfl _ (y_assign rfl rfl) ?_
  refine S_go (fun _ _ h => h) ?_
  refine T_seq ?_
  refine T_seq ?_
  refine T_region ?_
  refine S_ 4 rfl rfl rfl _ (y_move rfl rfl) ?_
  refine S_ 5 rfl rfl rfl _ (y_len_str rfl rfl Tryz.underlying9) ?_
  refine S_ 6 rfl rfl rfl _ (y_bin rfl rfl rfl (fun _ => b_gtr)) ?_
  refine S_go (fun _ _ h => h) ?_
  refine T_cond rfl (fun h6 => ?_) (fun h6 => ?_)
  · try simp only [decide_eq_true_eq, decide_eq_false_iff_not, Bool.or_eq_true, Bool.or_eq_false_iff, Bool.and_eq_true, Bool.and_eq_false_iff, Bool.not_eq_true', Bool.not_eq_false', Bool.not_eq_true, Bool.not_eq_false, Bool.not_true, Bool.not_false, Int.not_lt, Int.not_le, not_or, not_and, Classical.not_not] at h6
    refine T_seq ?_
    refine T_region ?_
    refine S_ 2 rfl rfl rfl _ (y_assign rfl rfl) ?_
    refine S_go (fun _ _ h => h) ?_
    refine T_ret (fun a w hF hM => hRb a w (post1 rfl rfl (fun w hM => ?_) a w hF hM))
    exact ⟨by rw [valNo, if_pos (by omega)], hM.below⟩
  · try simp only [decide_eq_true_eq, decide_eq_false_iff_not, Bool.or_eq_true, Bool.or_eq_false_iff, Bool.and_eq_true, Bool.and_eq_false_iff, Bool.not_eq_true', Bool.not_eq_false', Bool.not_eq_true, Bool.not_eq_false, Bool.not_true, Bool.not_false, Int.not_lt, Int.not_le, not_or, not_and, Classical.not_not] at h6
    refine T_skip_go (fun _ _ h => h) ?_
    refine T_seq ?_
    refine T_seq ?_
    refine T_region ?_
    refine S_ 7 rfl rfl rfl _ (y_move rfl rfl) ?_
    refine S_ 8 rfl rfl rfl _ (y_len_str rfl rfl Tryz.underlying9) ?_
    refine S_ 9 rfl rfl rfl _ (y_move rfl rfl) ?_
    refine S_go (fun _ _ h => h) ?_
    refine T_block ?_
    refine T_loopK1 (kf := [(2, 3), (9, 22)]) (kl := [(2, 3), (9, 22)]) (fun (i : Nat) => [(9, true, .int .i64 (i : Int))]) (fun (i : Nat) => []) (fun (i : Nat) => i ≤ s.length ∧ s.any valBad = (s.drop i).any valBad) (fun (i : Nat) => s.length - i) 0 (by repeat (first | exact kf_nil | (apply kf_in; focus rfl) | (apply kf_out; focus rfl))) (by repeat (first | exact kl_nil | exact kl_rest (by assumption) rfl | (apply kl_in; focus rfl) | (apply kl_out; focus rfl))) ?_ ?_ ?_ ?_
    · exact ⟨by omega, rfl⟩
    · exact ⟨rfl, trivial⟩
    · exact trivial
    rintro i ⟨hp1, hp2⟩
    refine T_seq ?_
    refine T_region ?_
    refine S_ 10 rfl rfl rfl _ (y_bin rfl rfl rfl (fun _ => b_lss)) ?_
    refine S_go (fun _ _ h => h) ?_
    refine T_seq ?_
    refine T_cond rfl (fun h10 => ?_) (fun h10 => ?_)
    · try simp only [decide_eq_true_eq, decide_eq_false_iff_not, Bool.or_eq_true, Bool.or_eq_false_iff, Bool.and_eq_true, Bool.and_eq_false_iff, Bool.not_eq_true', Bool.not_eq_false', Bool.not_eq_true, Bool.not_eq_false, Bool.not_true, Bool.not_false, Int.not_lt, Int.not_le, not_or, not_and, Classical.not_not] at h10
      refine T_skip_go (fun _ _ h => h) ?_
      refine T_seq ?_
      refine T_block ?_
      refine T_seq ?_
      refine T_region ?_
      refine S_ 11 rfl rfl rfl _ (y_move rfl rfl) ?_
      refine S_ 3 rfl rfl rfl _ (y_assign rfl rfl) ?_
      refine S_go (fun _ _ h => h) ?_
      refine T_seq ?_
      refine T_region ?_
      refine S_ 12 rfl rfl rfl _ (y_move rfl rfl) ?_
      refine S_ 13 rfl rfl rfl _ (y_move rfl rfl) ?_
      refine S_ 14 rfl rfl rfl _ (y_index_str rfl rfl rfl Tryz.underlying9 (fun _ => by omega)) ?_
      refine S_ 15 rfl rfl rfl _ (y_bin rfl rfl rfl (fun _ => b_lss)) ?_
      refine S_ 16 rfl rfl rfl _ (y_move rfl rfl) ?_
      refine Sg_ 17 rfl rfl rfl rfl rfl rfl _ (y_move rfl rfl) ?_
      refine Sg_ 18 rfl rfl rfl rfl rfl rfl _ (y_move rfl rfl) ?_
      refine Sg_ 19 rfl rfl rfl rfl rfl rfl _ (y_index_str rfl rfl rfl Tryz.underlying9 (fun hg => by simp only [Bool.true_and, Bool.and_eq_true, beq_iff_eq, decide_eq_true_eq, decide_eq_false_iff_not, Int.not_lt, Int.not_le] at hg; omega)) ?_
      refine Sg_ 20 rfl rfl rfl rfl rfl rfl _ (y_bin rfl rfl rfl (fun _ => b_gtr)) ?_
      refine S_ 21 rfl rfl rfl _ (y_as (v' := .bool (valBad (s.getD i 0))) (by exact rfl) (y_or rfl rfl rfl)) ?_
      refine S_go (fun _ _ h => h) ?_
      refine T_cond rfl (fun h21 => ?_) (fun h21 => ?_)
      · skip
        refine T_seq ?_
        refine T_region ?_
        refine S_ 2 rfl rfl rfl _ (y_assign rfl rfl) ?_
        refine S_go (fun _ _ h => h) ?_
        refine T_ret (fun a w hF hM => hRb a w (post1 rfl rfl (fun w hM => ?_) a w hF hM))
        exact ⟨by rw [valNo, if_neg (by omega), if_pos (by rw [hp2, drop_str (by omega), any_t h21])], hM.below⟩
      · skip
        refine T_skip_go (fun _ _ h => h) ?_
        refine T_region ?_
        refine S_ 22 rfl rfl rfl _ (y_bin rfl rfl rfl (fun hg => b_add (by omega))) ?_
        refine S_ 9 rfl rfl rfl _ (y_move rfl rfl) ?_
        refine S_nil (nextK1 (kf := [(2, 3), (9, 22)]) (kl := [(2, 3), (9, 22)]) (i + 1) (by repeat (first | exact kf_nil | (apply kf_in; focus rfl) | (apply kf_out; focus rfl))) (by repeat (first | exact kl_nil | exact kl_rest (by assumption) rfl | (apply kl_in; focus rfl) | (apply kl_out; focus rfl))) ?_ ?_ ?_ ?_)
        · omega
        · exact ⟨by omega, by rw [hp2, drop_str (by omega), any_f h21]⟩
        · exact ⟨rfl, trivial⟩
        · exact trivial
    · try simp only [decide_eq_true_eq, decide_eq_false_iff_not, Bool.or_eq_true, Bool.or_eq_false_iff, Bool.and_eq_true, Bool.and_eq_false_iff, Bool.not_eq_true', Bool.not_eq_false', Bool.not_eq_true, Bool.not_eq_false, Bool.not_true, Bool.not_false, Int.not_lt, Int.not_le, not_or, not_and, Classical.not_not] at h10
      refine T_exit_go (fun _ _ h => h) ?_
      refine T_seq ?_
      refine T_region ?_
      refine S_ 2 rfl rfl rfl _ (y_assign rfl rfl) ?_
      refine S_go (fun _ _ h => h) ?_
      refine T_ret (fun a w hF hM => hRb a w (post1 rfl rfl (fun w hM => ?_) a w hF hM))
      exact ⟨by rw [valNo, if_neg (by omega), if_neg (by rw [hp2, List.drop_eq_nil_of_le (by omega)]; simp)], hM.below⟩
theorem wordFault_any (s : List UInt8) (hs : s.length ≤ 4611686018427387904) (w : World) :
    Calls Tryz.prog 52 #[str s] w fun e w' => e = .returned (.int .i64 (valNo s)) ∧ Below w.heap.size w w' := by
  refine enter_args (args := [str s]) (F := _) Tryz.func52 rfl Tryz.ntmps52 rfl rfl ?_
  intro Rb hRb hRn
  refine T_seq ?_
  refine T_region ?_
  refine S_ 2 rfl rfl rfl _ (y_assign rfl rfl) ?_
  refine S_go (fun _ _ h => h) ?_
  refine T_seq ?_
  refine T_seq ?_
  refine T_region ?_
  refine S_ 4 rfl rfl rfl _ (y_move rfl rfl) ?_
  refine S_ 5 rfl rfl rfl _ (y_len_str rfl rfl Tryz.underlying9) ?_
  refine S_ 6 rfl rfl rfl _ (y_bin rfl rfl rfl (fun _ => b_gtr)) ?_
  refine S_go (fun _ _ h => h) ?_
  refine T_cond rfl (fun h6 => ?_) (fun h6 => ?_)
  · try simp only [decide_eq_true_eq, decide_eq_false_iff_not, Bool.or_eq_true, Bool.or_eq_false_iff, Bool.and_eq_true, Bool.and_eq_false_iff, Bool.not_eq_true', Bool.not_eq_false', Bool.not_eq_true, Bool.not_eq_false, Bool.not_true, Bool.not_false, Int.not_lt, Int.not_le, not_or, not_and, Classical.not_not] at h6
    refine T_seq ?_
    refine T_region ?_
    refine S_ 2 rfl rfl rfl _ (y_assign rfl rfl) ?_
    refine S_go (fun _ _ h => h) ?_
    refine T_ret (fun a w hF hM => hRb a w (post1 rfl rfl (fun w hM => ?_) a w hF hM))
    exact ⟨by rw [valNo, if_pos (by omega)], hM.below⟩
  · try simp only [decide_eq_true_eq, decide_eq_false_iff_not, Bool.or_eq_true, Bool.or_eq_false_iff, Bool.and_eq_true, Bool.and_eq_false_iff, Bool.not_eq_true', Bool.not_eq_false', Bool.not_eq_true, Bool.not_eq_false, Bool.not_true, Bool.not_false, Int.not_lt, Int.not_le, not_or, not_and, Classical.not_not] at h6
    refine T_skip_go (fun _ _ h => h) ?_
    refine T_seq ?_
    refine T_seq ?_
    refine T_region ?_
    refine S_ 7 rfl rfl rfl _ (y_move rfl rfl) ?_
    refine S_ 8 rfl rfl rfl _ (y_len_str rfl rfl Tryz.underlying9) ?_
    refine S_ 9 rfl rfl rfl _ (y_move rfl rfl) ?_
    refine S_go (fun _ _ h => h) ?_
    refine T_block ?_
    refine T_loopK1 (kf := [(2, 3), (9, 22)]) (kl := [(2, 3), (9, 22)]) (fun (i : Nat) => [(9, true, .int .i64 (i : Int))]) (fun (i : Nat) => []) (fun (i : Nat) => i ≤ s.length ∧ s.any valBad = (s.drop i).any valBad) (fun (i : Nat) => s.length - i) 0 (by repeat (first | exact kf_nil | (apply kf_in; focus rfl) | (apply kf_out; focus rfl))) (by repeat (first | exact kl_nil | exact kl_rest (by assumption) rfl | (apply kl_in; focus rfl) | (apply kl_out; focus rfl))) ?_ ?_ ?_ ?_
    · exact ⟨by omega, rfl⟩
    · exact ⟨rfl, trivial⟩
    · exact trivial
    rintro i ⟨hp1, hp2⟩
    refine T_seq ?_
    refine T_region ?_
    refine S_ 10 rfl rfl rfl _ (y_bin rfl rfl rfl (fun _ => b_lss)) ?_
    refine S_go (fun _ _ h => h) ?_
    refine T_seq ?_
    refine T_cond rfl (fun h10 => ?_) (fun h10 => ?_)
    · try simp only [decide_eq_true_eq, decide_eq_false_iff_not, Bool.or_eq_true, Bool.or_eq_false_iff, Bool.and_eq_true, Bool.and_eq_false_iff, Bool.not_eq_true', Bool.not_eq_false', Bool.not_eq_true, Bool.not_eq_false, Bool.not_true, Bool.not_false, Int.not_lt, Int.not_le, not_or, not_and, Classical.not_not] at h10
      refine T_skip_go (fun _ _ h => h) ?_
      refine T_seq ?_
      refine T_block ?_
      refine T_seq ?_
      refine T_region ?_
      refine S_ 11 rfl rfl rfl _ (y_move rfl rfl) ?_
      refine S_ 3 rfl rfl rfl _ (y_assign rfl rfl) ?_
      refine S_go (fun _ _ h => h) ?_
      refine T_seq ?_
      refine T_region ?_
      refine S_ 12 rfl rfl rfl _ (y_move rfl rfl) ?_
      refine S_ 13 rfl rfl rfl _ (y_move rfl rfl) ?_
      refine S_ 14 rfl rfl rfl _ (y_index_str rfl rfl rfl Tryz.underlying9 (fun _ => by omega)) ?_
      refine S_ 15 rfl rfl rfl _ (y_bin rfl rfl rfl (fun _ => b_lss)) ?_
      refine S_ 16 rfl rfl rfl _ (y_move rfl rfl) ?_
      refine Sg_ 17 rfl rfl rfl rfl rfl rfl _ (y_move rfl rfl) ?_
      refine Sg_ 18 rfl rfl rfl rfl rfl rfl _ (y_move rfl rfl) ?_
      refine Sg_ 19 rfl rfl rfl rfl rfl rfl _ (y_index_str rfl rfl rfl Tryz.underlying9 (fun hg => by simp only [Bool.true_and, Bool.and_eq_true, beq_iff_eq, decide_eq_true_eq, decide_eq_false_iff_not, Int.not_lt, Int.not_le] at hg; omega)) ?_
      refine Sg_ 20 rfl rfl rfl rfl rfl rfl _ (y_bin rfl rfl rfl (fun _ => b_gtr)) ?_
      refine S_ 21 rfl rfl rfl _ (y_as (v' := .bool (valBad (s.getD i 0))) (by exact rfl) (y_or rfl rfl rfl)) ?_
      refine S_go (fun _ _ h => h) ?_
      refine T_cond rfl (fun h21 => ?_) (fun h21 => ?_)
      · skip
        refine T_seq ?_
        refine T_region ?_
        refine S_ 2 rfl rfl rfl _ (y_assign rfl rfl) ?_
        refine S_go (fun _ _ h => h) ?_
        refine T_ret (fun a w hF hM => hRb a w (post1 rfl rfl (fun w hM => ?_) a w hF hM))
        exact ⟨by rw [valNo, if_neg (by omega), if_pos (by rw [hp2, drop_str (by omega), any_t h21])], hM.below⟩
      · skip
        refine T_skip_go (fun _ _ h => h) ?_
        refine T_region ?_
        refine S_ 22 rfl rfl rfl _ (y_bin rfl rfl rfl (fun hg => b_add (by omega))) ?_
        refine S_ 9 rfl rfl rfl _ (y_move rfl rfl) ?_
        refine S_nil (nextK1 (kf := [(2, 3), (9, 22)]) (kl := [(2, 3), (9, 22)]) (i + 1) (by repeat (first | exact kf_nil | (apply kf_in; focus rfl) | (apply kf_out; focus rfl))) (by repeat (first | exact kl_nil | exact kl_rest (by assumption) rfl | (apply kl_in; focus rfl) | (apply kl_out; focus rfl))) ?_ ?_ ?_ ?_)
        · omega
        · exact ⟨by omega, by rw [hp2, drop_str (by omega), any_f h21]⟩
        · exact ⟨rfl, trivial⟩
        · exact trivial
    · try simp only [decide_eq_true_eq, decide_eq_false_iff_not, Bool.or_eq_true, Bool.or_eq_false_iff, Bool.and_eq_true, Bool.and_eq_false_iff, Bool.not_eq_true', Bool.not_eq_false', Bool.not_eq_true, Bool.not_eq_false, Bool.not_true, Bool.not_false, Int.not_lt, Int.not_le, not_or, not_and, Classical.not_not] at h10
      refine T_exit_go (fun _ _ h => h) ?_
      refine T_seq ?_
      refine T_region ?_
      refine S_ 2 rfl rfl rfl _ (y_assign rfl rfl) ?_
      refine S_go (fun _ _ h => h) ?_
      refine T_ret (fun a w hF hM => hRb a w (post1 rfl rfl (fun w hM => ?_) a w hF hM))
      exact ⟨by rw [valNo, if_neg (by omega), if_neg (by rw [hp2, List.drop_eq_nil_of_le (by omega)]; simp)], hM.below⟩
theorem checkSay_any (s : List UInt8) (hs : s.length ≤ 4611686018427387904) (w : World) :
    Calls Tryz.prog 196 #[str s] w fun e w' => e = .returned (.int .i64 (sayNo s)) ∧ Below w.heap.size w w' := by
  refine enter_args (args := [str s]) (F := _) Tryz.func196 rfl Tryz.ntmps196 rfl rfl ?_
  intro Rb hRb hRn
  refine T_seq ?_
  refine T_region ?_
  refine S_ 2 rfl rfl rfl _ (y_assign rfl rfl) ?_
  refine S_go (fun _ _ h => h) ?_
  refine T_seq ?_
  refine T_seq ?_
  refine T_region ?_
  refine S_ 4 rfl rfl rfl _ (y_move rfl rfl) ?_
  refine S_ 5 rfl rfl rfl _ (y_len_str rfl rfl Tryz.underlying9) ?_
  refine S_ 6 rfl rfl rfl _ (y_bin rfl rfl rfl (fun _ => b_gtr)) ?_
  refine S_go (fun _ _ h => h) ?_
  refine T_cond rfl (fun h6 => ?_) (fun h6 => ?_)
  · try simp only [decide_eq_true_eq, decide_eq_false_iff_not, Bool.or_eq_true, Bool.or_eq_false_iff, Bool.and_eq_true, Bool.and_eq_false_iff, Bool.not_eq_true', Bool.not_eq_false', Bool.not_eq_true, Bool.not_eq_false, Bool.not_true, Bool.not_false, Int.not_lt, Int.not_le, not_or, not_and, Classical.not_not] at h6
    refine T_seq ?_
    refine T_region ?_
    refine S_ 2 rfl rfl rfl _ (y_assign rfl rfl) ?_
    refine S_go (fun _ _ h => h) ?_
    refine T_ret (fun a w hF hM => hRb a w (post1 rfl rfl (fun w hM => ?_) a w hF hM))
    exact ⟨by rw [sayNo, if_pos (by omega)], hM.below⟩
  · try simp only [decide_eq_true_eq, decide_eq_false_iff_not, Bool.or_eq_true, Bool.or_eq_false_iff, Bool.and_eq_true, Bool.and_eq_false_iff, Bool.not_eq_true', Bool.not_eq_false', Bool.not_eq_true, Bool.not_eq_false, Bool.not_true, Bool.not_false, Int.not_lt, Int.not_le, not_or, not_and, Classical.not_not] at h6
    refine T_skip_go (fun _ _ h => h) ?_
    refine T_seq ?_
    refine T_seq ?_
    refine T_region ?_
    refine S_ 7 rfl rfl rfl _ (y_move rfl rfl) ?_
    refine S_ 8 rfl rfl rfl _ (y_len_str rfl rfl Tryz.underlying9) ?_
    refine S_ 9 rfl rfl rfl _ (y_move rfl rfl) ?_
    refine S_go (fun _ _ h => h) ?_
    refine T_block ?_
    refine T_loopK1 (kf := [(2, 3), (9, 22)]) (kl := [(2, 3), (9, 22)]) (fun (i : Nat) => [(9, true, .int .i64 (i : Int))]) (fun (i : Nat) => []) (fun (i : Nat) => i ≤ s.length ∧ s.any sayBad = (s.drop i).any sayBad) (fun (i : Nat) => s.length - i) 0 (by repeat (first | exact kf_nil | (apply kf_in; focus rfl) | (apply kf_out; focus rfl))) (by repeat (first | exact kl_nil | exact kl_rest (by assumption) rfl | (apply kl_in; focus rfl) | (apply kl_out; focus rfl))) ?_ ?_ ?_ ?_
    · exact ⟨by omega, rfl⟩
    · exact ⟨rfl, trivial⟩
    · exact trivial
    rintro i ⟨hp1, hp2⟩
    refine T_seq ?_
    refine T_region ?_
    refine S_ 10 rfl rfl rfl _ (y_bin rfl rfl rfl (fun _ => b_lss)) ?_
    refine S_go (fun _ _ h => h) ?_
    refine T_seq ?_
    refine T_cond rfl (fun h10 => ?_) (fun h10 => ?_)
    · try simp only [decide_eq_true_eq, decide_eq_false_iff_not, Bool.or_eq_true, Bool.or_eq_false_iff, Bool.and_eq_true, Bool.and_eq_false_iff, Bool.not_eq_true', Bool.not_eq_false', Bool.not_eq_true, Bool.not_eq_false, Bool.not_true, Bool.not_false, Int.not_lt, Int.not_le, not_or, not_and, Classical.not_not] at h10
      refine T_skip_go (fun _ _ h => h) ?_
      refine T_seq ?_
      refine T_block ?_
      refine T_seq ?_
      refine T_region ?_
      refine S_ 11 rfl rfl rfl _ (y_move rfl rfl) ?_
      refine S_ 3 rfl rfl rfl _ (y_assign rfl rfl) ?_
      refine S_go (fun _ _ h => h) ?_
      refine T_seq ?_
      refine T_region ?_
      refine S_ 12 rfl rfl rfl _ (y_move rfl rfl) ?_
      refine S_ 13 rfl rfl rfl _ (y_move rfl rfl) ?_
      refine S_ 14 rfl rfl rfl _ (y_index_str rfl rfl rfl Tryz.underlying9 (fun _ => by omega)) ?_
      refine S_ 15 rfl rfl rfl _ (y_bin rfl rfl rfl (fun _ => b_lss)) ?_
      refine S_ 16 rfl rfl rfl _ (y_move rfl rfl) ?_
      refine Sg_ 17 rfl rfl rfl rfl rfl rfl _ (y_move rfl rfl) ?_
      refine Sg_ 18 rfl rfl rfl rfl rfl rfl _ (y_move rfl rfl) ?_
      refine Sg_ 19 rfl rfl rfl rfl rfl rfl _ (y_index_str rfl rfl rfl Tryz.underlying9 (fun hg => by simp only [Bool.true_and, Bool.and_eq_true, beq_iff_eq, decide_eq_true_eq, decide_eq_false_iff_not, Int.not_lt, Int.not_le] at hg; omega)) ?_
      refine Sg_ 20 rfl rfl rfl rfl rfl rfl _ (y_bin rfl rfl rfl (fun _ => b_eql)) ?_
      refine S_ 21 rfl rfl rfl _ (y_as (v' := .bool (sayBad (s.getD i 0))) (by exact rfl) (y_or rfl rfl rfl)) ?_
      refine S_go (fun _ _ h => h) ?_
      refine T_cond rfl (fun h21 => ?_) (fun h21 => ?_)
      · skip
        refine T_seq ?_
        refine T_region ?_
        refine S_ 2 rfl rfl rfl _ (y_assign rfl rfl) ?_
        refine S_go (fun _ _ h => h) ?_
        refine T_ret (fun a w hF hM => hRb a w (post1 rfl rfl (fun w hM => ?_) a w hF hM))
        exact ⟨by rw [sayNo, if_neg (by omega), if_pos (by rw [hp2, drop_str (by omega), any_t h21])], hM.below⟩
      · skip
        refine T_skip_go (fun _ _ h => h) ?_
        refine T_region ?_
        refine S_ 22 rfl rfl rfl _ (y_bin rfl rfl rfl (fun hg => b_add (by omega))) ?_
        refine S_ 9 rfl rfl rfl _ (y_move rfl rfl) ?_
        refine S_nil (nextK1 (kf := [(2, 3), (9, 22)]) (kl := [(2, 3), (9, 22)]) (i + 1) (by repeat (first | exact kf_nil | (apply kf_in; focus rfl) | (apply kf_out; focus rfl))) (by repeat (first | exact kl_nil | exact kl_rest (by assumption) rfl | (apply kl_in; focus rfl) | (apply kl_out; focus rfl))) ?_ ?_ ?_ ?_)
        · omega
        · exact ⟨by omega, by rw [hp2, drop_str (by omega), any_f h21]⟩
        · exact ⟨rfl, trivial⟩
        · exact trivial
    · try simp only [decide_eq_true_eq, decide_eq_false_iff_not, Bool.or_eq_true, Bool.or_eq_false_iff, Bool.and_eq_true, Bool.and_eq_false_iff, Bool.not_eq_true', Bool.not_eq_false', Bool.not_eq_true, Bool.not_eq_false, Bool.not_true, Bool.not_false, Int.not_lt, Int.not_le, not_or, not_and, Classical.not_not] at h10
      refine T_exit_go (fun _ _ h => h) ?_
      refine T_seq ?_
      refine T_region ?_
      refine S_ 2 rfl rfl rfl _ (y_assign rfl rfl) ?_
      refine S_go (fun _ _ h => h) ?_
      refine T_ret (fun a w hF hM => hRb a w (post1 rfl rfl (fun w hM => ?_) a w hF hM))
      exact ⟨by rw [sayNo, if_neg (by omega), if_neg (by rw [hp2, List.drop_eq_nil_of_le (by omega)]; simp)], hM.below⟩
theorem sayFault_any (s : List UInt8) (hs : s.length ≤ 4611686018427387904) (w : World) :
    Calls Tryz.prog 54 #[str s] w fun e w' => e = .returned (.int .i64 (sayNo s)) ∧ Below w.heap.size w w' := by
  refine enter_args (args := [str s]) (F := _) Tryz.func54 rfl Tryz.ntmps54 rfl rfl ?_
  intro Rb hRb hRn
  refine T_seq ?_
  refine T_region ?_
  refine S_ 2 rfl rfl rfl _ (y_assign rfl rfl) ?_
  refine S_go (fun _ _ h => h) ?_
  refine T_seq ?_
  refine T_seq ?_
  refine T_region ?_
  refine S_ 4 rfl rfl rfl _ (y_move rfl rfl) ?_
  refine S_ 5 rfl rfl rfl _ (y_len_str rfl rfl Tryz.underlying9) ?_
  refine S_ 6 rfl rfl rfl _ (y_bin rfl rfl rfl (fun _ => b_gtr)) ?_
  refine S_go (fun _ _ h => h) ?_
  refine T_cond rfl (fun h6 => ?_) (fun h6 => ?_)
  · try simp only [decide_eq_true_eq, decide_eq_false_iff_not, Bool.or_eq_true, Bool.or_eq_false_iff, Bool.and_eq_true, Bool.and_eq_false_iff, Bool.not_eq_true', Bool.not_eq_false', Bool.not_eq_true, Bool.not_eq_false, Bool.not_true, Bool.not_false, Int.not_lt, Int.not_le, not_or, not_and, Classical.not_not] at h6
    refine T_seq ?_
    refine T_region ?_
    refine S_ 2 rfl rfl rfl _ (y_assign rfl rfl) ?_
    refine S_go (fun _ _ h => h) ?_
    refine T_ret (fun a w hF hM => hRb a w (post1 rfl rfl (fun w hM => ?_) a w hF hM))
    exact ⟨by rw [sayNo, if_pos (by omega)], hM.below⟩
  · try simp only [decide_eq_true_eq, decide_eq_false_iff_not, Bool.or_eq_true, Bool.or_eq_false_iff, Bool.and_eq_true, Bool.and_eq_false_iff, Bool.not_eq_true', Bool.not_eq_false', Bool.not_eq_true, Bool.not_eq_false, Bool.not_true, Bool.not_false, Int.not_lt, Int.not_le, not_or, not_and, Classical.not_not] at h6
    refine T_skip_go (fun _ _ h => h) ?_
    refine T_seq ?_
    refine T_seq ?_
    refine T_region ?_
    refine S_ 7 rfl rfl rfl _ (y_move rfl rfl) ?_
    refine S_ 8 rfl rfl rfl _ (y_len_str rfl rfl Tryz.underlying9) ?_
    refine S_ 9 rfl rfl rfl _ (y_move rfl rfl) ?_
    refine S_go (fun _ _ h => h) ?_
    refine T_block ?_
    refine T_loopK1 (kf := [(2, 3), (9, 22)]) (kl := [(2, 3), (9, 22)]) (fun (i : Nat) => [(9, true, .int .i64 (i : Int))]) (fun (i : Nat) => []) (fun (i : Nat) => i ≤ s.length ∧ s.any sayBad = (s.drop i).any sayBad) (fun (i : Nat) => s.length - i) 0 (by repeat (first | exact kf_nil | (apply kf_in; focus rfl) | (apply kf_out; focus rfl))) (by repeat (first | exact kl_nil | exact kl_rest (by assumption) rfl | (apply kl_in; focus rfl) | (apply kl_out; focus rfl))) ?_ ?_ ?_ ?_
    · exact ⟨by omega, rfl⟩
    · exact ⟨rfl, trivial⟩
    · exact trivial
    rintro i ⟨hp1, hp2⟩
    refine T_seq ?_
    refine T_region ?_
    refine S_ 10 rfl rfl rfl _ (y_bin rfl rfl rfl (fun _ => b_lss)) ?_
    refine S_go (fun _ _ h => h) ?_
    refine T_seq ?_
    refine T_cond rfl (fun h10 => ?_) (fun h10 => ?_)
    · try simp only [decide_eq_true_eq, decide_eq_false_iff_not, Bool.or_eq_true, Bool.or_eq_false_iff, Bool.and_eq_true, Bool.and_eq_false_iff, Bool.not_eq_true', Bool.not_eq_false', Bool.not_eq_true, Bool.not_eq_false, Bool.not_true, Bool.not_false, Int.not_lt, Int.not_le, not_or, not_and, Classical.not_not] at h10
      refine T_skip_go (fun _ _ h => h) ?_
      refine T_seq ?_
      refine T_block ?_
      refine T_seq ?_
      refine T_region ?_
      refine S_ 11 rfl rfl rfl _ (y_move rfl rfl) ?_
      refine S_ 3 rfl rfl rfl _ (y_assign rfl rfl) ?_
      refine S_go (fun _ _ h => h) ?_
      refine T_seq ?_
      refine T_region ?_
      refine S_ 12 rfl rfl rfl _ (y_move rfl rfl) ?_
      refine S_ 13 rfl rfl rfl _ (y_move rfl rfl) ?_
      refine S_ 14 rfl rfl rfl _ (y_index_str rfl rfl rfl Tryz.underlying9 (fun _ => by omega)) ?_
      refine S_ 15 rfl rfl rfl _ (y_bin rfl rfl rfl (fun _ => b_lss)) ?_
      refine S_ 16 rfl rfl rfl _ (y_move rfl rfl) ?_
      refine Sg_ 17 rfl rfl rfl rfl rfl rfl _ (y_move rfl rfl) ?_
      refine Sg_ 18 rfl rfl rfl rfl rfl rfl _ (y_move rfl rfl) ?_
      refine Sg_ 19 rfl rfl rfl rfl rfl rfl _ (y_index_str rfl rfl rfl Tryz.underlying9 (fun hg => by simp only [Bool.true_and, Bool.and_eq_true, beq_iff_eq, decide_eq_true_eq, decide_eq_false_iff_not, Int.not_lt, Int.not_le] at hg; omega)) ?_
      refine Sg_ 20 rfl rfl rfl rfl rfl rfl _ (y_bin rfl rfl rfl (fun _ => b_eql)) ?_
      refine S_ 21 rfl rfl rfl _ (y_as (v' := .bool (sayBad (s.getD i 0))) (by exact rfl) (y_or rfl rfl rfl)) ?_
      refine S_go (fun _ _ h => h) ?_
      refine T_cond rfl (fun h21 => ?_) (fun h21 => ?_)
      · skip
        refine T_seq ?_
        refine T_region ?_
        refine S_ 2 rfl rfl rfl _ (y_assign rfl rfl) ?_
        refine S_go (fun _ _ h => h) ?_
        refine T_ret (fun a w hF hM => hRb a w (post1 rfl rfl (fun w hM => ?_) a w hF hM))
        exact ⟨by rw [sayNo, if_neg (by omega), if_pos (by rw [hp2, drop_str (by omega), any_t h21])], hM.below⟩
      · skip
        refine T_skip_go (fun _ _ h => h) ?_
        refine T_region ?_
        refine S_ 22 rfl rfl rfl _ (y_bin rfl rfl rfl (fun hg => b_add (by omega))) ?_
        refine S_ 9 rfl rfl rfl _ (y_move rfl rfl) ?_
        refine S_nil (nextK1 (kf := [(2, 3), (9, 22)]) (kl := [(2, 3), (9, 22)]) (i + 1) (by repeat (first | exact kf_nil | (apply kf_in; focus rfl) | (apply kf_out; focus rfl))) (by repeat (first | exact kl_nil | exact kl_rest (by assumption) rfl | (apply kl_in; focus rfl) | (apply kl_out; focus rfl))) ?_ ?_ ?_ ?_)
        · omega
        · exact ⟨by omega, by rw [hp2, drop_str (by omega), any_f h21]⟩
        · exact ⟨rfl, trivial⟩
        · exact trivial
    · try simp only [decide_eq_true_eq, decide_eq_false_iff_not, Bool.or_eq_true, Bool.or_eq_false_iff, Bool.and_eq_true, Bool.and_eq_false_iff, Bool.not_eq_true', Bool.not_eq_false', Bool.not_eq_true, Bool.not_eq_false, Bool.not_true, Bool.not_false, Int.not_lt, Int.not_le, not_or, not_and, Classical.not_not] at h10
      refine T_exit_go (fun _ _ h => h) ?_
      refine T_seq ?_
      refine T_region ?_
      refine S_ 2 rfl rfl rfl _ (y_assign rfl rfl) ?_
      refine S_go (fun _ _ h => h) ?_
      refine T_ret (fun a w hF hM => hRb a w (post1 rfl rfl (fun w hM => ?_) a w hF hM))
      exact ⟨by rw [sayNo, if_neg (by omega), if_neg (by rw [hp2, List.drop_eq_nil_of_le (by omega)]; simp)], hM.below⟩
theorem CheckFault_any (f : Flt) (w : World) (hf : FltOk w f) :
    Calls Tryz.prog 195 #[f.val] w fun e w' => e = .returned (.int .i64 (fltNo f)) ∧ Below w.heap.size w w' := by
  have hk := hf.k
  have htl := hf.t
  refine enter_args (args := [.agg #[str f.k, str f.t, .slice f.fr.A f.fr.q f.fr.c]]) (F := _) Tryz.func195 rfl Tryz.ntmps195 rfl rfl ?_
  intro Rb hRb hRn
  refine T_seq ?_
  refine T_region ?_
  refine S_box 1 1 rfl rfl rfl rfl rfl ?_
  intro b1
  refine S_ 2 rfl rfl rfl _ (y_assign rfl rfl) ?_
  refine S_go (fun _ _ h => h) ?_
  refine T_seq ?_
  refine T_block ?_
  refine T_seq ?_
  refine T_region ?_
  refine S_ 5 rfl rfl rfl _ (y_fieldAddr rfl rfl fa50_0) ?_
  refine S_ 6 rfl rfl rfl _ (y_load 1 rfl rfl rfl rfl Tryz.underlying9 rfl) ?_
  refine S_ 7 rfl rfl rfl _ (y_len_str rfl rfl Tryz.underlying9) ?_
  refine S_ 8 rfl rfl rfl _ (y_bin rfl rfl rfl (fun _ => b_gtr)) ?_
  refine S_ 4 rfl rfl rfl _ (y_assign rfl rfl) ?_
  refine S_go (fun _ _ h => h) ?_
  refine T_cond rfl (fun h4 => ?_) (fun h4 => ?_)
  · try simp only [decide_eq_true_eq, decide_eq_false_iff_not, Bool.or_eq_true, Bool.or_eq_false_iff, Bool.and_eq_true, Bool.and_eq_false_iff, Bool.not_eq_true', Bool.not_eq_false', Bool.not_eq_true, Bool.not_eq_false, Bool.not_true, Bool.not_false, Int.not_lt, Int.not_le, not_or, not_and, Classical.not_not] at h4
    refine T_seq ?_
    refine T_region ?_
    refine S_ 2 rfl rfl rfl _ (y_assign rfl rfl) ?_
    refine S_go (fun _ _ h => h) ?_
    refine T_ret (fun a w hF hM => hRb a w (post1 rfl rfl (fun w hM => ?_) a w hF hM))
    exact ⟨by rw [fltNo, if_pos (by omega)], hM.below⟩
  · try simp only [decide_eq_true_eq, decide_eq_false_iff_not, Bool.or_eq_true, Bool.or_eq_false_iff, Bool.and_eq_true, Bool.and_eq_false_iff, Bool.not_eq_true', Bool.not_eq_false', Bool.not_eq_true, Bool.not_eq_false, Bool.not_true, Bool.not_false, Int.not_lt, Int.not_le, not_or, not_and, Classical.not_not] at h4
    refine T_seq ?_
    refine T_region ?_
    refine S_ 10 rfl rfl rfl _ (y_fieldAddr rfl rfl fa50_0) ?_
    refine S_ 11 rfl rfl rfl _ (y_load 1 rfl rfl rfl rfl Tryz.underlying9 rfl) ?_
    refine S_ 12 rfl rfl rfl _ (y_call rfl rfl rfl cf236 (fun hg w _ => isWord_any _ _ (by first | omega | (have := hsz; omega)) w)) ?_
    refine S_ 13 rfl rfl rfl _ (y_not rfl rfl) ?_
    refine S_ 9 rfl rfl rfl _ (y_assign rfl rfl) ?_
    refine S_go (fun _ _ h => h) ?_
    refine T_cond rfl (fun h9 => ?_) (fun h9 => ?_)
    · try simp only [decide_eq_true_eq, decide_eq_false_iff_not, Bool.or_eq_true, Bool.or_eq_false_iff, Bool.and_eq_true, Bool.and_eq_false_iff, Bool.not_eq_true', Bool.not_eq_false', Bool.not_eq_true, Bool.not_eq_false, Bool.not_true, Bool.not_false, Int.not_lt, Int.not_le, not_or, not_and, Classical.not_not] at h9
      refine T_seq ?_
      refine T_region ?_
      refine S_ 2 rfl rfl rfl _ (y_assign rfl rfl) ?_
      refine S_go (fun _ _ h => h) ?_
      refine T_ret (fun a w hF hM => hRb a w (post1 rfl rfl (fun w hM => ?_) a w hF hM))
      exact ⟨by rw [fltNo, if_neg (by omega), if_pos h9], hM.below⟩
    · try simp only [decide_eq_true_eq, decide_eq_false_iff_not, Bool.or_eq_true, Bool.or_eq_false_iff, Bool.and_eq_true, Bool.and_eq_false_iff, Bool.not_eq_true', Bool.not_eq_false', Bool.not_eq_true, Bool.not_eq_false, Bool.not_true, Bool.not_false, Int.not_lt, Int.not_le, not_or, not_and, Classical.not_not] at h9
      refine T_seq ?_
      refine T_region ?_
      refine S_ 15 rfl rfl rfl _ (y_fieldAddr rfl rfl fa50_0) ?_
      refine S_ 16 rfl rfl rfl _ (y_load 1 rfl rfl rfl rfl Tryz.underlying9 rfl) ?_
      refine S_ 17 rfl rfl rfl _ (y_bin rfl rfl rfl (fun _ => b_eqls)) ?_
      refine S_ 14 rfl rfl rfl _ (y_assign rfl rfl) ?_
      refine S_go (fun _ _ h => h) ?_
      refine T_cond rfl (fun h14 => ?_) (fun h14 => ?_)
      · try simp only [decide_eq_true_eq, decide_eq_false_iff_not, Bool.or_eq_true, Bool.or_eq_false_iff, Bool.and_eq_true, Bool.and_eq_false_iff, Bool.not_eq_true', Bool.not_eq_false', Bool.not_eq_true, Bool.not_eq_false, Bool.not_true, Bool.not_false, Int.not_lt, Int.not_le, not_or, not_and, Classical.not_not] at h14
        refine T_seq ?_
        refine T_region ?_
        refine S_ 2 rfl rfl rfl _ (y_assign rfl rfl) ?_
        refine S_go (fun _ _ h => h) ?_
        refine T_ret (fun a w hF hM => hRb a w (post1 rfl rfl (fun w hM => ?_) a w hF hM))
        exact ⟨by rw [fltNo, if_neg (by omega), if_neg (by rw [h9]; simp), if_pos h14], hM.below⟩
      · try simp only [decide_eq_true_eq, decide_eq_false_iff_not, Bool.or_eq_true, Bool.or_eq_false_iff, Bool.and_eq_true, Bool.and_eq_false_iff, Bool.not_eq_true', Bool.not_eq_false', Bool.not_eq_true, Bool.not_eq_false, Bool.not_true, Bool.not_false, Int.not_lt, Int.not_le, not_or, not_and, Classical.not_not] at h14
        refine T_seq ?_
        refine T_region ?_
        refine S_ 19 rfl rfl rfl _ (y_fieldAddr rfl rfl fa50_1) ?_
        refine S_ 20 rfl rfl rfl _ (y_load 1 rfl rfl rfl rfl Tryz.underlying9 rfl) ?_
        refine S_ 21 rfl rfl rfl _ (y_len_str rfl rfl Tryz.underlying9) ?_
        refine S_ 22 rfl rfl rfl _ (y_bin rfl rfl rfl (fun _ => b_gtr)) ?_
        refine S_ 18 rfl rfl rfl _ (y_assign rfl rfl) ?_
        refine S_go (fun _ _ h => h) ?_
        refine T_cond rfl (fun h18 => ?_) (fun h18 => ?_)
        · try simp only [decide_eq_true_eq, decide_eq_false_iff_not, Bool.or_eq_true, Bool.or_eq_false_iff, Bool.and_eq_true, Bool.and_eq_false_iff, Bool.not_eq_true', Bool.not_eq_false', Bool.not_eq_true, Bool.not_eq_false, Bool.not_true, Bool.not_false, Int.not_lt, Int.not_le, not_or, not_and, Classical.not_not] at h18
          refine T_seq ?_
          refine T_region ?_
          refine S_ 2 rfl rfl rfl _ (y_assign rfl rfl) ?_
          refine S_go (fun _ _ h => h) ?_
          refine T_ret (fun a w hF hM => hRb a w (post1 rfl rfl (fun w hM => ?_) a w hF hM))
          exact ⟨by rw [fltNo_say (by omega) h9 h14 (k := 4) (by rw [sayNo, if_pos (by omega)]) (by decide)], hM.below⟩
        · try simp only [decide_eq_true_eq, decide_eq_false_iff_not, Bool.or_eq_true, Bool.or_eq_false_iff, Bool.and_eq_true, Bool.and_eq_false_iff, Bool.not_eq_true', Bool.not_eq_false', Bool.not_eq_true, Bool.not_eq_false, Bool.not_true, Bool.not_false, Int.not_lt, Int.not_le, not_or, not_and, Classical.not_not] at h18
          refine T_skip_go (fun _ _ h => h) ?_
          refine T_seq ?_
          refine T_seq ?_
          refine T_region ?_
          refine S_ 23 rfl rfl rfl _ (y_fieldAddr rfl rfl fa50_1) ?_
          refine S_ 24 rfl rfl rfl _ (y_load 1 rfl rfl rfl rfl Tryz.underlying9 rfl) ?_
          refine S_ 25 rfl rfl rfl _ (y_len_str rfl rfl Tryz.underlying9) ?_
          refine S_ 26 rfl rfl rfl _ (y_move rfl rfl) ?_
          refine S_go (fun _ _ h => h) ?_
          refine T_block ?_
          refine T_loopK1 (kf := [(2, 3), (26, 41)]) (kl := [(2, 3), (26, 41)]) (fun (i : Nat) => [(26, true, .int .i64 (i : Int))]) (fun (i : Nat) => []) (fun (i : Nat) => i ≤ f.t.length ∧ f.t.any sayBad = (f.t.drop i).any sayBad) (fun (i : Nat) => f.t.length - i) 0 (by repeat (first | exact kf_nil | (apply kf_in; focus rfl) | (apply kf_out; focus rfl))) (by repeat (first | exact kl_nil | exact kl_rest (by assumption) rfl | (apply kl_in; focus rfl) | (apply kl_out; focus rfl))) ?_ ?_ ?_ ?_
          · exact ⟨by omega, rfl⟩
          · exact ⟨rfl, trivial⟩
          · exact trivial
          rintro i ⟨hp1, hp2⟩
          refine T_seq ?_
          refine T_region ?_
          refine S_ 27 rfl rfl rfl _ (y_bin rfl rfl rfl (fun _ => b_lss)) ?_
          refine S_go (fun _ _ h => h) ?_
          refine T_seq ?_
          refine T_cond rfl (fun h27 => ?_) (fun h27 => ?_)
          · try simp only [decide_eq_true_eq, decide_eq_false_iff_not, Bool.or_eq_true, Bool.or_eq_false_iff, Bool.and_eq_true, Bool.and_eq_false_iff, Bool.not_eq_true', Bool.not_eq_false', Bool.not_eq_true, Bool.not_eq_false, Bool.not_true, Bool.not_false, Int.not_lt, Int.not_le, not_or, not_and, Classical.not_not] at h27
            refine T_skip_go (fun _ _ h => h) ?_
            refine T_seq ?_
            refine T_block ?_
            refine T_seq ?_
            refine T_region ?_
            refine S_ 28 rfl rfl rfl _ (y_move rfl rfl) ?_
            refine S_ 3 rfl rfl rfl _ (y_assign rfl rfl) ?_
            refine S_go (fun _ _ h => h) ?_
            refine T_seq ?_
            refine T_region ?_
            refine S_ 29 rfl rfl rfl _ (y_fieldAddr rfl rfl fa50_1) ?_
            refine S_ 30 rfl rfl rfl _ (y_load 1 rfl rfl rfl rfl Tryz.underlying9 rfl) ?_
            refine S_ 31 rfl rfl rfl _ (y_move rfl rfl) ?_
            refine S_ 32 rfl rfl rfl _ (y_index_str rfl rfl rfl Tryz.underlying9 (fun _ => by omega)) ?_
            refine S_ 33 rfl rfl rfl _ (y_bin rfl rfl rfl (fun _ => b_lss)) ?_
            refine S_ 34 rfl rfl rfl _ (y_move rfl rfl) ?_
            refine Sg_ 35 rfl rfl rfl rfl rfl rfl _ (y_fieldAddr rfl rfl fa50_1) ?_
            refine Sg_ 36 rfl rfl rfl rfl rfl rfl _ (y_load 1 rfl rfl rfl rfl Tryz.underlying9 rfl) ?_
            refine Sg_ 37 rfl rfl rfl rfl rfl rfl _ (y_move rfl rfl) ?_
            refine Sg_ 38 rfl rfl rfl rfl rfl rfl _ (y_index_str rfl rfl rfl Tryz.underlying9 (fun hg => by simp only [Bool.true_and, Bool.and_eq_true, beq_iff_eq, decide_eq_true_eq, decide_eq_false_iff_not, Int.not_lt, Int.not_le] at hg; omega)) ?_
            refine Sg_ 39 rfl rfl rfl rfl rfl rfl _ (y_bin rfl rfl rfl (fun _ => b_eql)) ?_
            refine S_ 40 rfl rfl rfl _ (y_as (v' := .bool (sayBad (f.t.getD i 0))) (by exact rfl) (y_or rfl rfl rfl)) ?_
            refine S_go (fun _ _ h => h) ?_
            refine T_cond rfl (fun h40 => ?_) (fun h40 => ?_)
            · skip
              refine T_seq ?_
              refine T_region ?_
              refine S_ 2 rfl rfl rfl _ (y_assign rfl rfl) ?_
              refine S_go (fun _ _ h => h) ?_
              refine T_ret (fun a w hF hM => hRb a w (post1 rfl rfl (fun w hM => ?_) a w hF hM))
              exact ⟨by rw [fltNo_say (by omega) h9 h14 (k := 9) (by rw [sayNo, if_neg (by omega), if_pos (by rw [hp2, drop_str (by omega), any_t h40])]) (by decide)], hM.below⟩
            · skip
              refine T_skip_go (fun _ _ h => h) ?_
              refine T_region ?_
              refine S_ 41 rfl rfl rfl _ (y_bin rfl rfl rfl (fun hg => b_add (by omega))) ?_
              refine S_ 26 rfl rfl rfl _ (y_move rfl rfl) ?_
              refine S_nil (nextK1 (kf := [(2, 3), (26, 41)]) (kl := [(2, 3), (26, 41)]) (i + 1) (by repeat (first | exact kf_nil | (apply kf_in; focus rfl) | (apply kf_out; focus rfl))) (by repeat (first | exact kl_nil | exact kl_rest (by assumption) rfl | (apply kl_in; focus rfl) | (apply kl_out; focus rfl))) ?_ ?_ ?_ ?_)
              · omega
              · exact ⟨by omega, by rw [hp2, drop_str (by omega), any_f h40]⟩
              · exact ⟨rfl, trivial⟩
              · exact trivial
          · try simp only [decide_eq_true_eq, decide_eq_false_iff_not, Bool.or_eq_true, Bool.or_eq_false_iff, Bool.and_eq_true, Bool.and_eq_false_iff, Bool.not_eq_true', Bool.not_eq_false', Bool.not_eq_true, Bool.not_eq_false, Bool.not_true, Bool.not_false, Int.not_lt, Int.not_le, not_or, not_and, Classical.not_not] at h27
            refine T_exit_go (fun _ _ h => h) ?_
            refine T_seq ?_
            refine T_region ?_
            refine S_ 42 rfl rfl rfl _ (y_fieldAddr rfl rfl fa50_2) ?_
            refine S_ 43 rfl rfl rfl _ (y_load 1 rfl rfl rfl rfl Tryz.underlying48 rfl) ?_
            refine S_ 44 rfl rfl rfl _ (y_call rfl rfl rfl cf237 (fun _ w hM => checkFrames_any _ w (hf.fr.below hM.below))) ?_
            refine S_ 2 rfl rfl rfl _ (y_assign rfl rfl) ?_
            refine S_go (fun _ _ h => h) ?_
            refine T_ret (fun a w hF hM => hRb a w (post1 rfl rfl (fun w hM => ?_) a w hF hM))
            exact ⟨by rw [fltNo_frs (by omega) h9 h14 (by rw [sayNo, if_neg (by omega), if_neg (by rw [hp2, List.drop_eq_nil_of_le (by omega)]; simp)])], hM.below⟩
theorem sCheck_any (l : Sl Flt) (w : World) (hl : FltsOk w l) :
    Calls Tryz.prog 114 #[.slice l.A l.q l.c] w fun e w' => e = .returned (.int .i64 (faultsNo l)) ∧ Below w.heap.size w w' := by
  have ht := hl.ok.t
  have hq := hl.q
  refine enter_args (args := [.slice l.A l.q l.c]) (F := _) Tryz.func114 rfl Tryz.ntmps114 rfl rfl ?_
  intro Rb hRb hRn
  refine T_seq ?_
  refine T_region ?_
  refine S_ 2 rfl rfl rfl _ (y_assign rfl rfl) ?_
  refine S_go (fun _ _ h => h) ?_
  refine T_seq ?_
  refine T_block ?_
  refine T_seq ?_
  refine T_region ?_
  refine S_ 7 rfl rfl rfl _ (y_move rfl rfl) ?_
  refine S_ 8 rfl rfl rfl _ (y_len_slice rfl rfl Tryz.underlying25) ?_
  refine S_ 9 rfl rfl rfl _ (y_bin rfl rfl rfl (fun _ => b_eql)) ?_
  refine S_ 6 rfl rfl rfl _ (y_assign rfl rfl) ?_
  refine S_go (fun _ _ h => h) ?_
  refine T_cond rfl (fun h6 => ?_) (fun h6 => ?_)
  · try simp only [decide_eq_true_eq, decide_eq_false_iff_not, Bool.or_eq_true, Bool.or_eq_false_iff, Bool.and_eq_true, Bool.and_eq_false_iff, Bool.not_eq_true', Bool.not_eq_false', Bool.not_eq_true, Bool.not_eq_false, Bool.not_true, Bool.not_false, Int.not_lt, Int.not_le, not_or, not_and, Classical.not_not] at h6
    refine T_seq ?_
    refine T_region ?_
    refine S_ 2 rfl rfl rfl _ (y_assign rfl rfl) ?_
    refine S_go (fun _ _ h => h) ?_
    refine T_ret (fun a w hF hM => hRb a w (post1 rfl rfl (fun w hM => ?_) a w hF hM))
    exact ⟨by rw [faultsNo, if_pos (by omega)], hM.below⟩
  · try simp only [decide_eq_true_eq, decide_eq_false_iff_not, Bool.or_eq_true, Bool.or_eq_false_iff, Bool.and_eq_true, Bool.and_eq_false_iff, Bool.not_eq_true', Bool.not_eq_false', Bool.not_eq_true, Bool.not_eq_false, Bool.not_true, Bool.not_false, Int.not_lt, Int.not_le, not_or, not_and, Classical.not_not] at h6
    refine T_seq ?_
    refine T_region ?_
    refine S_ 11 rfl rfl rfl _ (y_move rfl rfl) ?_
    refine S_ 12 rfl rfl rfl _ (y_len_slice rfl rfl Tryz.underlying25) ?_
    refine S_ 13 rfl rfl rfl _ (y_bin rfl rfl rfl (fun _ => b_gtr)) ?_
    refine S_ 10 rfl rfl rfl _ (y_assign rfl rfl) ?_
    refine S_go (fun _ _ h => h) ?_
    refine T_cond rfl (fun h10 => ?_) (fun h10 => ?_)
    · try simp only [decide_eq_true_eq, decide_eq_false_iff_not, Bool.or_eq_true, Bool.or_eq_false_iff, Bool.and_eq_true, Bool.and_eq_false_iff, Bool.not_eq_true', Bool.not_eq_false', Bool.not_eq_true, Bool.not_eq_false, Bool.not_true, Bool.not_false, Int.not_lt, Int.not_le, not_or, not_and, Classical.not_not] at h10
      refine T_seq ?_
      refine T_region ?_
      refine S_ 2 rfl rfl rfl _ (y_assign rfl rfl) ?_
      refine S_go (fun _ _ h => h) ?_
      refine T_ret (fun a w hF hM => hRb a w (post1 rfl rfl (fun w hM => ?_) a w hF hM))
      exact ⟨by rw [faultsNo, if_neg (by omega), if_pos (by omega)], hM.below⟩
    · try simp only [decide_eq_true_eq, decide_eq_false_iff_not, Bool.or_eq_true, Bool.or_eq_false_iff, Bool.and_eq_true, Bool.and_eq_false_iff, Bool.not_eq_true', Bool.not_eq_false', Bool.not_eq_true, Bool.not_eq_false, Bool.not_true, Bool.not_false, Int.not_lt, Int.not_le, not_or, not_and, Classical.not_not] at h10
      refine T_skip_go (fun _ _ h => h) ?_
      refine T_seq ?_
      refine T_seq ?_
      refine T_region ?_
      refine S_ 14 rfl rfl rfl _ (y_move rfl rfl) ?_
      refine S_ 15 rfl rfl rfl _ (y_len_slice rfl rfl Tryz.underlying25) ?_
      refine S_ 16 rfl rfl rfl _ (y_move rfl rfl) ?_
      refine S_go (fun _ _ h => h) ?_
      refine T_block ?_
      refine T_loopK1 (kf := [(2, 2), (4, 5), (16, 25)]) (kl := [(2, 2), (4, 5), (16, 25)]) (fun (i : Nat) => [(16, true, .int .i64 (i : Int))]) (fun (i : Nat) => []) (fun (i : Nat) => i ≤ l.q ∧ fltsNo l.l = fltsNo (l.l.drop i)) (fun (i : Nat) => l.q - i) 0 (by repeat (first | exact kf_nil | (apply kf_in; focus rfl) | (apply kf_out; focus rfl))) (by repeat (first | exact kl_nil | exact kl_rest (by assumption) rfl | (apply kl_in; focus rfl) | (apply kl_out; focus rfl))) ?_ ?_ ?_ ?_
      · exact ⟨by omega, rfl⟩
      · exact ⟨rfl, trivial⟩
      · exact trivial
      rintro i ⟨hp1, hp2⟩
      refine T_seq ?_
      refine T_region ?_
      refine S_ 17 rfl rfl rfl _ (y_bin rfl rfl rfl (fun _ => b_lss)) ?_
      refine S_go (fun _ _ h => h) ?_
      refine T_seq ?_
      refine T_cond rfl (fun h17 => ?_) (fun h17 => ?_)
      · try simp only [decide_eq_true_eq, decide_eq_false_iff_not, Bool.or_eq_true, Bool.or_eq_false_iff, Bool.and_eq_true, Bool.and_eq_false_iff, Bool.not_eq_true', Bool.not_eq_false', Bool.not_eq_true, Bool.not_eq_false, Bool.not_true, Bool.not_false, Int.not_lt, Int.not_le, not_or, not_and, Classical.not_not] at h17
        obtain ⟨x, hx1, hx2⟩ := ht.at (i := i) (by omega)
        refine T_skip_go (fun _ _ h => h) ?_
        refine T_seq ?_
        refine T_block ?_
        refine T_seq ?_
        refine T_region ?_
        refine S_ 18 rfl rfl rfl _ (y_indexAddr rfl rfl rfl Tryz.underlying25 sz50 (fun hg => ht.isSome (by omega)) (fun _ => by omega)) ?_
        refine S_ 19 rfl rfl rfl _ (y_loadT rfl rfl ht (fun _ => rfl) (fun _ => hx1) Tryz.underlying50 rfl sz50) ?_
        refine S_alloc 4 4 rfl rfl rfl rfl z50 ?_
        intro b4
        refine S_store 4 rfl rfl rfl rfl rfl rfl sz50 rfl rfl ?_
        refine S_go (fun _ _ h => h) ?_
        refine T_seq ?_
        refine T_region ?_
        refine S_ 20 rfl rfl rfl _ (y_loadA 4 rfl rfl rfl Tryz.underlying50 rfl sz50) ?_
        refine S_ 21 rfl rfl rfl _ (y_call rfl rfl rfl cf195 (fun _ w hM => CheckFault_any x w ((hl.n x (mem_at hx1)).below hM.below))) ?_
        refine S_ 5 rfl rfl rfl _ (y_assign rfl rfl) ?_
        refine S_go (fun _ _ h => h) ?_
        refine T_seq ?_
        refine T_region ?_
        refine S_ 22 rfl rfl rfl _ (y_move rfl rfl) ?_
        refine S_ 23 rfl rfl rfl _ (y_bin rfl rfl rfl (fun _ => b_neq)) ?_
        refine S_go (fun _ _ h => h) ?_
        refine T_cond rfl (fun h23 => ?_) (fun h23 => ?_)
        · try simp only [decide_eq_true_eq, decide_eq_false_iff_not, Bool.or_eq_true, Bool.or_eq_false_iff, Bool.and_eq_true, Bool.and_eq_false_iff, Bool.not_eq_true', Bool.not_eq_false', Bool.not_eq_true, Bool.not_eq_false, Bool.not_true, Bool.not_false, Int.not_lt, Int.not_le, not_or, not_and, Classical.not_not] at h23
          refine T_seq ?_
          refine T_region ?_
          refine S_ 24 rfl rfl rfl _ (y_move rfl rfl) ?_
          refine S_ 2 rfl rfl rfl _ (y_assign rfl rfl) ?_
          refine S_go (fun _ _ h => h) ?_
          refine T_ret (fun a w hF hM => hRb a w (post1 rfl rfl (fun w hM => ?_) a w hF hM))
          exact ⟨by rw [faultsNo, if_neg (by omega), if_neg (by omega), hp2, hx2, fltsNo, if_pos h23], hM.below⟩
        · try simp only [decide_eq_true_eq, decide_eq_false_iff_not, Bool.or_eq_true, Bool.or_eq_false_iff, Bool.and_eq_true, Bool.and_eq_false_iff, Bool.not_eq_true', Bool.not_eq_false', Bool.not_eq_true, Bool.not_eq_false, Bool.not_true, Bool.not_false, Int.not_lt, Int.not_le, not_or, not_and, Classical.not_not] at h23
          refine T_skip_go (fun _ _ h => h) ?_
          refine T_region ?_
          refine S_ 25 rfl rfl rfl _ (y_bin rfl rfl rfl (fun hg => b_add (by omega))) ?_
          refine S_ 16 rfl rfl rfl _ (y_move rfl rfl) ?_
          refine S_nil (nextK1 (kf := [(2, 2), (4, 5), (16, 25)]) (kl := [(2, 2), (4, 5), (16, 25)]) (i + 1) (by repeat (first | exact kf_nil | (apply kf_in; focus rfl) | (apply kf_out; focus rfl))) (by repeat (first | exact kl_nil | exact kl_rest (by assumption) rfl | (apply kl_in; focus rfl) | (apply kl_out; focus rfl))) ?_ ?_ ?_ ?_)
          · omega
          · exact ⟨by omega, by rw [hp2, hx2, fltsNo, if_neg (by simpa using h23)]⟩
          · exact ⟨rfl, trivial⟩
          · exact trivial
      · try simp only [decide_eq_true_eq, decide_eq_false_iff_not, Bool.or_eq_true, Bool.or_eq_false_iff, Bool.and_eq_true, Bool.and_eq_false_iff, Bool.not_eq_true', Bool.not_eq_false', Bool.not_eq_true, Bool.not_eq_false, Bool.not_true, Bool.not_false, Int.not_lt, Int.not_le, not_or, not_and, Classical.not_not] at h17
        refine T_exit_go (fun _ _ h => h) ?_
        refine T_seq ?_
        refine T_region ?_
        refine S_ 2 rfl rfl rfl _ (y_assign rfl rfl) ?_
        refine S_go (fun _ _ h => h) ?_
        refine T_ret (fun a w hF hM => hRb a w (post1 rfl rfl (fun w hM => ?_) a w hF hM))
        exact ⟨by rw [faultsNo, if_neg (by omega), if_neg (by omega), hp2, ht.end (by omega)]; rfl, hM.below⟩
theorem FaultsFault_any (l : Sl Flt) (w : World) (hl : FltsOk w l) :
    Calls Tryz.prog 50 #[.slice l.A l.q l.c] w fun e w' => e = .returned (.int .i64 (faultsNo l)) ∧ Below w.heap.size w w' := by
  have ht := hl.ok.t
  have hq := hl.q
  refine enter_args (args := [.slice l.A l.q l.c]) (F := _) Tryz.func50 rfl Tryz.ntmps50 rfl rfl ?_
  intro Rb hRb hRn
  refine T_seq ?_
  refine T_region ?_
  refine S_ 2 rfl rfl rfl _ (y_assign rfl rfl) ?_
  refine S_go (fun _ _ h => h) ?_
  refine T_seq ?_
  refine T_seq ?_
  refine T_region ?_
  refine S_ 8 rfl rfl rfl _ (y_move rfl rfl) ?_
  refine S_ 9 rfl rfl rfl _ (y_len_slice rfl rfl Tryz.underlying25) ?_
  refine S_ 10 rfl rfl rfl _ (y_bin rfl rfl rfl (fun _ => b_eql)) ?_
  refine S_go (fun _ _ h => h) ?_
  refine T_cond rfl (fun h10 => ?_) (fun h10 => ?_)
  · try simp only [decide_eq_true_eq, decide_eq_false_iff_not, Bool.or_eq_true, Bool.or_eq_false_iff, Bool.and_eq_true, Bool.and_eq_false_iff, Bool.not_eq_true', Bool.not_eq_false', Bool.not_eq_true, Bool.not_eq_false, Bool.not_true, Bool.not_false, Int.not_lt, Int.not_le, not_or, not_and, Classical.not_not] at h10
    refine T_seq ?_
    refine T_region ?_
    refine S_ 2 rfl rfl rfl _ (y_assign rfl rfl) ?_
    refine S_go (fun _ _ h => h) ?_
    refine T_ret (fun a w hF hM => hRb a w (post1 rfl rfl (fun w hM => ?_) a w hF hM))
    exact ⟨by rw [faultsNo, if_pos (by omega)], hM.below⟩
  · try simp only [decide_eq_true_eq, decide_eq_false_iff_not, Bool.or_eq_true, Bool.or_eq_false_iff, Bool.and_eq_true, Bool.and_eq_false_iff, Bool.not_eq_true', Bool.not_eq_false', Bool.not_eq_true, Bool.not_eq_false, Bool.not_true, Bool.not_false, Int.not_lt, Int.not_le, not_or, not_and, Classical.not_not] at h10
    refine T_skip_go (fun _ _ h => h) ?_
    refine T_seq ?_
    refine T_seq ?_
    refine T_region ?_
    refine S_ 11 rfl rfl rfl _ (y_move rfl rfl) ?_
    refine S_ 12 rfl rfl rfl _ (y_len_slice rfl rfl Tryz.underlying25) ?_
    refine S_ 13 rfl rfl rfl _ (y_bin rfl rfl rfl (fun _ => b_gtr)) ?_
    refine S_go (fun _ _ h => h) ?_
    refine T_cond rfl (fun h13 => ?_) (fun h13 => ?_)
    · try simp only [decide_eq_true_eq, decide_eq_false_iff_not, Bool.or_eq_true, Bool.or_eq_false_iff, Bool.and_eq_true, Bool.and_eq_false_iff, Bool.not_eq_true', Bool.not_eq_false', Bool.not_eq_true, Bool.not_eq_false, Bool.not_true, Bool.not_false, Int.not_lt, Int.not_le, not_or, not_and, Classical.not_not] at h13
      refine T_seq ?_
      refine T_region ?_
      refine S_ 2 rfl rfl rfl _ (y_assign rfl rfl) ?_
      refine S_go (fun _ _ h => h) ?_
      refine T_ret (fun a w hF hM => hRb a w (post1 rfl rfl (fun w hM => ?_) a w hF hM))
      exact ⟨by rw [faultsNo, if_neg (by omega), if_pos (by omega)], hM.below⟩
    · try simp only [decide_eq_true_eq, decide_eq_false_iff_not, Bool.or_eq_true, Bool.or_eq_false_iff, Bool.and_eq_true, Bool.and_eq_false_iff, Bool.not_eq_true', Bool.not_eq_false', Bool.not_eq_true, Bool.not_eq_false, Bool.not_true, Bool.not_false, Int.not_lt, Int.not_le, not_or, not_and, Classical.not_not] at h13
      refine T_skip_go (fun _ _ h => h) ?_
      refine T_seq ?_
      refine T_seq ?_
      refine T_region ?_
      refine S_ 14 rfl rfl rfl _ (y_move rfl rfl) ?_
      refine S_ 15 rfl rfl rfl _ (y_len_slice rfl rfl Tryz.underlying25) ?_
      refine S_ 16 rfl rfl rfl _ (y_move rfl rfl) ?_
      refine S_go (fun _ _ h => h) ?_
      refine T_block ?_
      refine T_loopK1 (kf := [(2, 2), (4, 7), (16, 65)]) (kl := [(2, 2), (4, 7), (16, 65)]) (fun (i : Nat) => [(16, true, .int .i64 (i : Int))]) (fun (i : Nat) => []) (fun (i : Nat) => i ≤ l.q ∧ fltsNo l.l = fltsNo (l.l.drop i)) (fun (i : Nat) => l.q - i) 0 (by repeat (first | exact kf_nil | (apply kf_in; focus rfl) | (apply kf_out; focus rfl))) (by repeat (first | exact kl_nil | exact kl_rest (by assumption) rfl | (apply kl_in; focus rfl) | (apply kl_out; focus rfl))) ?_ ?_ ?_ ?_
      · exact ⟨by omega, rfl⟩
      · exact ⟨rfl, trivial⟩
      · exact trivial
      rintro i ⟨hp1, hp2⟩
      refine T_seq ?_
      refine T_region ?_
      refine S_ 17 rfl rfl rfl _ (y_bin rfl rfl rfl (fun _ => b_lss)) ?_
      refine S_go (fun _ _ h => h) ?_
      refine T_seq ?_
      refine T_cond rfl (fun h17 => ?_) (fun h17 => ?_)
      · try simp only [decide_eq_true_eq, decide_eq_false_iff_not, Bool.or_eq_true, Bool.or_eq_false_iff, Bool.and_eq_true, Bool.and_eq_false_iff, Bool.not_eq_true', Bool.not_eq_false', Bool.not_eq_true, Bool.not_eq_false, Bool.not_true, Bool.not_false, Int.not_lt, Int.not_le, not_or, not_and, Classical.not_not] at h17
        obtain ⟨x, hx1, hx2⟩ := ht.at (i := i) (by omega)
        have hf := hl.n x (mem_at hx1)
        have hk := hf.k
        have htl := hf.t
        refine T_skip_go (fun _ _ h => h) ?_
        refine T_seq ?_
        refine T_block ?_
        refine T_seq ?_
        refine T_region ?_
        refine S_ 18 rfl rfl rfl _ (y_indexAddr rfl rfl rfl Tryz.underlying25 sz50 (fun hg => ht.isSome (by omega)) (fun _ => by omega)) ?_
        refine S_ 19 rfl rfl rfl _ (y_loadT rfl rfl ht (fun _ => rfl) (fun _ => hx1) Tryz.underlying50 rfl sz50) ?_
        refine S_alloc 4 4 rfl rfl rfl rfl z50 ?_
        intro b4
        refine S_store 4 rfl rfl rfl rfl rfl rfl sz50 rfl rfl ?_
        refine S_go (fun _ _ h => h) ?_
        refine T_seq ?_
        refine T_seq ?_
        refine T_region ?_
        refine S_ 20 rfl rfl rfl _ (y_fieldAddr rfl rfl fa50_0) ?_
        refine S_ 21 rfl rfl rfl _ (y_load 4 rfl rfl rfl rfl Tryz.underlying9 rfl) ?_
        refine S_ 22 rfl rfl rfl _ (y_len_str rfl rfl Tryz.underlying9) ?_
        refine S_ 23 rfl rfl rfl _ (y_bin rfl rfl rfl (fun _ => b_gtr)) ?_
        refine S_go (fun _ _ h => h) ?_
        refine T_cond rfl (fun h23 => ?_) (fun h23 => ?_)
        · try simp only [decide_eq_true_eq, decide_eq_false_iff_not, Bool.or_eq_true, Bool.or_eq_false_iff, Bool.and_eq_true, Bool.and_eq_false_iff, Bool.not_eq_true', Bool.not_eq_false', Bool.not_eq_true, Bool.not_eq_false, Bool.not_true, Bool.not_false, Int.not_lt, Int.not_le, not_or, not_and, Classical.not_not] at h23
          refine T_seq ?_
          refine T_region ?_
          refine S_ 2 rfl rfl rfl _ (y_assign rfl rfl) ?_
          refine S_go (fun _ _ h => h) ?_
          refine T_ret (fun a w hF hM => hRb a w (post1 rfl rfl (fun w hM => ?_) a w hF hM))
          exact ⟨by rw [faultsNo, if_neg (by omega), if_neg (by omega), hp2, hx2, fltsNo, show fltNo x = 4 from by rw [fltNo, if_pos (by omega)], if_pos (by decide)], hM.below⟩
        · try simp only [decide_eq_true_eq, decide_eq_false_iff_not, Bool.or_eq_true, Bool.or_eq_false_iff, Bool.and_eq_true, Bool.and_eq_false_iff, Bool.not_eq_true', Bool.not_eq_false', Bool.not_eq_true, Bool.not_eq_false, Bool.not_true, Bool.not_false, Int.not_lt, Int.not_le, not_or, not_and, Classical.not_not] at h23
          refine T_skip_go (fun _ _ h => h) ?_
          refine T_seq ?_
          refine T_seq ?_
          refine T_region ?_
          refine S_ 24 rfl rfl rfl _ (y_fieldAddr rfl rfl fa50_0) ?_
          refine S_ 25 rfl rfl rfl _ (y_load 4 rfl rfl rfl rfl Tryz.underlying9 rfl) ?_
          refine S_ 26 rfl rfl rfl _ (y_len_str rfl rfl Tryz.underlying9) ?_
          refine S_ 27 rfl rfl rfl _ (y_move rfl rfl) ?_
          refine S_go (fun _ _ h => h) ?_
          refine T_block ?_
          refine T_loopK1 (kf := [(2, 2), (5, 5), (27, 49)]) (kl := [(2, 2), (5, 5), (27, 49)]) (fun (j : Nat) => [(27, true, .int .i64 (j : Int))]) (fun (j : Nat) => []) (fun (j : Nat) => j ≤ x.k.length ∧ wordOk [58] x.k = wordOk [58] (x.k.drop j)) (fun (j : Nat) => x.k.length - j) 0 (by repeat (first | exact kf_nil | (apply kf_in; focus rfl) | (apply kf_out; focus rfl))) (by repeat (first | exact kl_nil | exact kl_rest (by assumption) rfl | (apply kl_in; focus rfl) | (apply kl_out; focus rfl))) ?_ ?_ ?_ ?_
          · exact ⟨by omega, rfl⟩
          · exact ⟨rfl, trivial⟩
          · exact trivial
          rintro j ⟨hr1, hr2⟩
          refine T_seq ?_
          refine T_region ?_
          refine S_ 28 rfl rfl rfl _ (y_bin rfl rfl rfl (fun _ => b_lss)) ?_
          refine S_go (fun _ _ h => h) ?_
          refine T_seq ?_
          refine T_cond rfl (fun h28 => ?_) (fun h28 => ?_)
          · try simp only [decide_eq_true_eq, decide_eq_false_iff_not, Bool.or_eq_true, Bool.or_eq_false_iff, Bool.and_eq_true, Bool.and_eq_false_iff, Bool.not_eq_true', Bool.not_eq_false', Bool.not_eq_true, Bool.not_eq_false, Bool.not_true, Bool.not_false, Int.not_lt, Int.not_le, not_or, not_and, Classical.not_not] at h28
            refine T_skip_go (fun _ _ h => h) ?_
            refine T_seq ?_
            refine T_block ?_
            refine T_seq ?_
            refine T_region ?_
            refine S_ 29 rfl rfl rfl _ (y_move rfl rfl) ?_
            refine S_ 5 rfl rfl rfl _ (y_assign rfl rfl) ?_
            refine S_go (fun _ _ h => h) ?_
            refine T_seq ?_
            refine T_region ?_
            refine S_ 30 rfl rfl rfl _ (y_fieldAddr rfl rfl fa50_0) ?_
            refine S_ 31 rfl rfl rfl _ (y_load 4 rfl rfl rfl rfl Tryz.underlying9 rfl) ?_
            refine S_ 32 rfl rfl rfl _ (y_move rfl rfl) ?_
            refine S_ 33 rfl rfl rfl _ (y_index_str rfl rfl rfl Tryz.underlying9 (fun _ => by omega)) ?_
            refine S_ 34 rfl rfl rfl _ (y_bin rfl rfl rfl (fun _ => b_lss)) ?_
            refine S_ 35 rfl rfl rfl _ (y_move rfl rfl) ?_
            refine Sg_ 36 rfl rfl rfl rfl rfl rfl _ (y_fieldAddr rfl rfl fa50_0) ?_
            refine Sg_ 37 rfl rfl rfl rfl rfl rfl _ (y_load 4 rfl rfl rfl rfl Tryz.underlying9 rfl) ?_
            refine Sg_ 38 rfl rfl rfl rfl rfl rfl _ (y_move rfl rfl) ?_
            refine Sg_ 39 rfl rfl rfl rfl rfl rfl _ (y_index_str rfl rfl rfl Tryz.underlying9 (fun hg => by simp only [Bool.true_and, Bool.and_eq_true, beq_iff_eq, decide_eq_true_eq, decide_eq_false_iff_not, Int.not_lt, Int.not_le] at hg; omega)) ?_
            refine Sg_ 40 rfl rfl rfl rfl rfl rfl _ (y_bin rfl rfl rfl (fun _ => b_gtr)) ?_
            refine S_ 41 rfl rfl rfl _ (y_or rfl rfl rfl) ?_
            refine S_ 42 rfl rfl rfl _ (y_move rfl rfl) ?_
            refine Sg_ 43 rfl rfl rfl rfl rfl rfl _ (y_fieldAddr rfl rfl fa50_0) ?_
            refine Sg_ 44 rfl rfl rfl rfl rfl rfl _ (y_load 4 rfl rfl rfl rfl Tryz.underlying9 rfl) ?_
            refine Sg_ 45 rfl rfl rfl rfl rfl rfl _ (y_move rfl rfl) ?_
            refine Sg_ 46 rfl rfl rfl rfl rfl rfl _ (y_index_str rfl rfl rfl Tryz.underlying9 (fun hg => by simp only [Bool.true_and, Bool.and_eq_true, beq_iff_eq, decide_eq_true_eq, decide_eq_false_iff_not, Int.not_lt, Int.not_le] at hg; omega)) ?_
            refine Sg_ 47 rfl rfl rfl rfl rfl rfl _ (y_bin rfl rfl rfl (fun _ => b_eql)) ?_
            refine S_ 48 rfl rfl rfl _ (y_as (v' := .bool (byteBad [58] (x.k.getD j 0))) (by rw [one58]) (y_or rfl rfl rfl)) ?_
            refine S_go (fun _ _ h => h) ?_
            refine T_cond rfl (fun h48 => ?_) (fun h48 => ?_)
            · skip
              refine T_seq ?_
              refine T_region ?_
              refine S_ 2 rfl rfl rfl _ (y_assign rfl rfl) ?_
              refine S_go (fun _ _ h => h) ?_
              refine T_ret (fun a w hF hM => hRb a w (post1 rfl rfl (fun w hM => ?_) a w hF hM))
              exact ⟨by rw [faultsNo, if_neg (by omega), if_neg (by omega), hp2, hx2, fltsNo, show fltNo x = 9 from by rw [fltNo, if_neg (by omega), if_pos (by rw [hr2, drop_str (by omega), wordOk_bad h48])], if_pos (by decide)], hM.below⟩
            · skip
              refine T_skip_go (fun _ _ h => h) ?_
              refine T_region ?_
              refine S_ 49 rfl rfl rfl _ (y_bin rfl rfl rfl (fun hg => b_add (by omega))) ?_
              refine S_ 27 rfl rfl rfl _ (y_move rfl rfl) ?_
              refine S_nil (nextK1 (kf := [(2, 2), (5, 5), (27, 49)]) (kl := [(2, 2), (5, 5), (27, 49)]) (j + 1) (by repeat (first | exact kf_nil | (apply kf_in; focus rfl) | (apply kf_out; focus rfl))) (by repeat (first | exact kl_nil | exact kl_rest (by assumption) rfl | (apply kl_in; focus rfl) | (apply kl_out; focus rfl))) ?_ ?_ ?_ ?_)
              · omega
              · exact ⟨by omega, by rw [hr2, drop_str (by omega), wordOk_next h48]⟩
              · exact ⟨rfl, trivial⟩
              · exact trivial
          · try simp only [decide_eq_true_eq, decide_eq_false_iff_not, Bool.or_eq_true, Bool.or_eq_false_iff, Bool.and_eq_true, Bool.and_eq_false_iff, Bool.not_eq_true', Bool.not_eq_false', Bool.not_eq_true, Bool.not_eq_false, Bool.not_true, Bool.not_false, Int.not_lt, Int.not_le, not_or, not_and, Classical.not_not] at h28
            have hw : wordOk [58] x.k = true := by rw [hr2, List.drop_eq_nil_of_le (by omega)]; rfl
            refine T_exit_go (fun _ _ h => h) ?_
            refine T_seq ?_
            refine T_seq ?_
            refine T_region ?_
            refine S_ 50 rfl rfl rfl _ (y_fieldAddr rfl rfl fa50_0) ?_
            refine S_ 51 rfl rfl rfl _ (y_load 4 rfl rfl rfl rfl Tryz.underlying9 rfl) ?_
            refine S_ 52 rfl rfl rfl _ (y_bin rfl rfl rfl (fun _ => b_eqls)) ?_
            refine S_go (fun _ _ h => h) ?_
            refine T_cond rfl (fun h52 => ?_) (fun h52 => ?_)
            · try simp only [decide_eq_true_eq, decide_eq_false_iff_not, Bool.or_eq_true, Bool.or_eq_false_iff, Bool.and_eq_true, Bool.and_eq_false_iff, Bool.not_eq_true', Bool.not_eq_false', Bool.not_eq_true, Bool.not_eq_false, Bool.not_true, Bool.not_false, Int.not_lt, Int.not_le, not_or, not_and, Classical.not_not] at h52
              refine T_seq ?_
              refine T_region ?_
              refine S_ 2 rfl rfl rfl _ (y_assign rfl rfl) ?_
              refine S_go (fun _ _ h => h) ?_
              refine T_ret (fun a w hF hM => hRb a w (post1 rfl rfl (fun w hM => ?_) a w hF hM))
              exact ⟨by rw [faultsNo, if_neg (by omega), if_neg (by omega), hp2, hx2, fltsNo, show fltNo x = 1 from by rw [fltNo, if_neg (by omega), if_neg (by rw [hw]; simp), if_pos h52], if_pos (by decide)], hM.below⟩
            · try simp only [decide_eq_true_eq, decide_eq_false_iff_not, Bool.or_eq_true, Bool.or_eq_false_iff, Bool.and_eq_true, Bool.and_eq_false_iff, Bool.not_eq_true', Bool.not_eq_false', Bool.not_eq_true, Bool.not_eq_false, Bool.not_true, Bool.not_false, Int.not_lt, Int.not_le, not_or, not_and, Classical.not_not] at h52
              refine T_skip_go (fun _ _ h => h) ?_
              refine T_seq ?_
              refine T_seq ?_
              refine T_region ?_
              refine S_ 53 rfl rfl rfl _ (y_fieldAddr rfl rfl fa50_1) ?_
              refine S_ 54 rfl rfl rfl _ (y_load 4 rfl rfl rfl rfl Tryz.underlying9 rfl) ?_
              refine S_ 55 rfl rfl rfl _ (y_call rfl rfl rfl cf54 (fun _ w _ => sayFault_any _ (by first | omega | (simp; done) | (simp; omega) | (simp only; omega)) w)) ?_
              refine S_ 6 rfl rfl rfl _ (y_assign rfl rfl) ?_
              refine S_go (fun _ _ h => h) ?_
              refine T_seq ?_
              refine T_region ?_
              refine S_ 56 rfl rfl rfl _ (y_move rfl rfl) ?_
              refine S_ 57 rfl rfl rfl _ (y_bin rfl rfl rfl (fun _ => b_neq)) ?_
              refine S_go (fun _ _ h => h) ?_
              refine T_cond rfl (fun h57 => ?_) (fun h57 => ?_)
              · try simp only [decide_eq_true_eq, decide_eq_false_iff_not, Bool.or_eq_true, Bool.or_eq_false_iff, Bool.and_eq_true, Bool.and_eq_false_iff, Bool.not_eq_true', Bool.not_eq_false', Bool.not_eq_true, Bool.not_eq_false, Bool.not_true, Bool.not_false, Int.not_lt, Int.not_le, not_or, not_and, Classical.not_not] at h57
                refine T_seq ?_
                refine T_region ?_
                refine S_ 58 rfl rfl rfl _ (y_move rfl rfl) ?_
                refine S_ 2 rfl rfl rfl _ (y_assign rfl rfl) ?_
                refine S_go (fun _ _ h => h) ?_
                refine T_ret (fun a w hF hM => hRb a w (post1 rfl rfl (fun w hM => ?_) a w hF hM))
                exact ⟨by rw [faultsNo, if_neg (by omega), if_neg (by omega), hp2, hx2, fltsNo, fltNo_say (by omega) hw h52 rfl h57, if_pos h57], hM.below⟩
              · try simp only [decide_eq_true_eq, decide_eq_false_iff_not, Bool.or_eq_true, Bool.or_eq_false_iff, Bool.and_eq_true, Bool.and_eq_false_iff, Bool.not_eq_true', Bool.not_eq_false', Bool.not_eq_true, Bool.not_eq_false, Bool.not_true, Bool.not_false, Int.not_lt, Int.not_le, not_or, not_and, Classical.not_not] at h57
                refine T_skip_go (fun _ _ h => h) ?_
                refine T_seq ?_
                refine T_region ?_
                refine S_ 59 rfl rfl rfl _ (y_fieldAddr rfl rfl fa50_2) ?_
                refine S_ 60 rfl rfl rfl _ (y_load 4 rfl rfl rfl rfl Tryz.underlying48 rfl) ?_
                refine S_ 61 rfl rfl rfl _ (y_call rfl rfl rfl cf146 (fun _ w hM => FramesFault_any _ w (hf.fr.below hM.below))) ?_
                refine S_ 7 rfl rfl rfl _ (y_assign rfl rfl) ?_
                refine S_go (fun _ _ h => h) ?_
                refine T_seq ?_
                refine T_region ?_
                refine S_ 62 rfl rfl rfl _ (y_move rfl rfl) ?_
                refine S_ 63 rfl rfl rfl _ (y_bin rfl rfl rfl (fun _ => b_neq)) ?_
                refine S_go (fun _ _ h => h) ?_
                refine T_cond rfl (fun h63 => ?_) (fun h63 => ?_)
                · try simp only [decide_eq_true_eq, decide_eq_false_iff_not, Bool.or_eq_true, Bool.or_eq_false_iff, Bool.and_eq_true, Bool.and_eq_false_iff, Bool.not_eq_true', Bool.not_eq_false', Bool.not_eq_true, Bool.not_eq_false, Bool.not_true, Bool.not_false, Int.not_lt, Int.not_le, not_or, not_and, Classical.not_not] at h63
                  refine T_seq ?_
                  refine T_region ?_
                  refine S_ 64 rfl rfl rfl _ (y_move rfl rfl) ?_
                  refine S_ 2 rfl rfl rfl _ (y_assign rfl rfl) ?_
                  refine S_go (fun _ _ h => h) ?_
                  refine T_ret (fun a w hF hM => hRb a w (post1 rfl rfl (fun w hM => ?_) a w hF hM))
                  exact ⟨by rw [faultsNo, if_neg (by omega), if_neg (by omega), hp2, hx2, fltsNo, fltNo_frs (by omega) hw h52 (by simpa using h57), if_pos h63], hM.below⟩
                · try simp only [decide_eq_true_eq, decide_eq_false_iff_not, Bool.or_eq_true, Bool.or_eq_false_iff, Bool.and_eq_true, Bool.and_eq_false_iff, Bool.not_eq_true', Bool.not_eq_false', Bool.not_eq_true, Bool.not_eq_false, Bool.not_true, Bool.not_false, Int.not_lt, Int.not_le, not_or, not_and, Classical.not_not] at h63
                  refine T_skip_go (fun _ _ h => h) ?_
                  refine T_region ?_
                  refine S_ 65 rfl rfl rfl _ (y_bin rfl rfl rfl (fun hg => b_add (by omega))) ?_
                  refine S_ 16 rfl rfl rfl _ (y_move rfl rfl) ?_
                  refine S_nil (nextK1 (kf := [(2, 2), (4, 7), (16, 65)]) (kl := [(2, 2), (4, 7), (16, 65)]) (i + 1) (by repeat (first | exact kf_nil | (apply kf_in; focus rfl) | (apply kf_out; focus rfl))) (by repeat (first | exact kl_nil | exact kl_rest (by assumption) rfl | (apply kl_in; focus rfl) | (apply kl_out; focus rfl))) ?_ ?_ ?_ ?_)
                  · omega
                  · exact ⟨by omega, by rw [hp2, hx2, fltsNo, if_neg (by rw [fltNo_frs (by omega) hw h52 (by simpa using h57)]; simpa using h63)]⟩
                  · exact ⟨rfl, trivial⟩
                  · exact trivial
      · try simp only [decide_eq_true_eq, decide_eq_false_iff_not, Bool.or_eq_true, Bool.or_eq_false_iff, Bool.and_eq_true, Bool.and_eq_false_iff, Bool.not_eq_true', Bool.not_eq_false', Bool.not_eq_true, Bool.not_eq_false, Bool.not_true, Bool.not_false, Int.not_lt, Int.not_le, not_or, not_and, Classical.not_not] at h17
        refine T_exit_go (fun _ _ h => h) ?_
        refine T_seq ?_
        refine T_region ?_
        refine S_ 2 rfl rfl rfl _ (y_assign rfl rfl) ?_
        refine S_go (fun _ _ h => h) ?_
        refine T_ret (fun a w hF hM => hRb a w (post1 rfl rfl (fun w hM => ?_) a w hF hM))
        exact ⟨by rw [faultsNo, if_neg (by omega), if_neg (by omega), hp2, ht.end (by omega)]; rfl, hM.below⟩
theorem checkTags_any (l : Sl STag) (w : World) (hl : TagsOk w l) :
    Calls Tryz.prog 115 #[.slice l.A l.q l.c] w fun e w' => e = .returned (.int .i64 (if (40 : Int) < l.q then 4 else tagsNo none l.l)) ∧ Below w.heap.size w w' := by
  have ht := hl.ok.t
  have hq := hl.q
  refine enter_args (args := [.slice l.A l.q l.c]) (F := _) Tryz.func115 rfl Tryz.ntmps115 rfl rfl ?_
  intro Rb hRb hRn
  refine T_seq ?_
  refine T_region ?_
  refine S_ 2 rfl rfl rfl _ (y_assign rfl rfl) ?_
  refine S_go (fun _ _ h => h) ?_
  refine T_seq ?_
  refine T_seq ?_
  refine T_region ?_
  refine S_ 6 rfl rfl rfl _ (y_move rfl rfl) ?_
  refine S_ 7 rfl rfl rfl _ (y_len_slice rfl rfl Tryz.underlying26) ?_
  refine S_ 8 rfl rfl rfl _ (y_bin rfl rfl rfl (fun _ => b_gtr)) ?_
  refine S_go (fun _ _ h => h) ?_
  refine T_cond rfl (fun h8 => ?_) (fun h8 => ?_)
  · try simp only [decide_eq_true_eq, decide_eq_false_iff_not, Bool.or_eq_true, Bool.or_eq_false_iff, Bool.and_eq_true, Bool.and_eq_false_iff, Bool.not_eq_true', Bool.not_eq_false', Bool.not_eq_true, Bool.not_eq_false, Bool.not_true, Bool.not_false, Int.not_lt, Int.not_le, not_or, not_and, Classical.not_not] at h8
    refine T_seq ?_
    refine T_region ?_
    refine S_ 2 rfl rfl rfl _ (y_assign rfl rfl) ?_
    refine S_go (fun _ _ h => h) ?_
    refine T_ret (fun a w hF hM => hRb a w (post1 rfl rfl (fun w hM => ?_) a w hF hM))
    exact ⟨by rw [if_pos (by omega)], hM.below⟩
  · try simp only [decide_eq_true_eq, decide_eq_false_iff_not, Bool.or_eq_true, Bool.or_eq_false_iff, Bool.and_eq_true, Bool.and_eq_false_iff, Bool.not_eq_true', Bool.not_eq_false', Bool.not_eq_true, Bool.not_eq_false, Bool.not_true, Bool.not_false, Int.not_lt, Int.not_le, not_or, not_and, Classical.not_not] at h8
    refine T_skip_go (fun _ _ h => h) ?_
    refine T_seq ?_
    refine T_seq ?_
    refine T_region ?_
    refine S_ 9 rfl rfl rfl _ (y_move rfl rfl) ?_
    refine S_ 10 rfl rfl rfl _ (y_len_slice rfl rfl Tryz.underlying26) ?_
    refine S_ 11 rfl rfl rfl _ (y_move rfl rfl) ?_
    refine S_go (fun _ _ h => h) ?_
    refine T_block ?_
    refine T_loopK2 (kf := [(2, 5), (11, 39)]) (kl := [(2, 5), (11, 39)]) (fun (i : Nat) (b : STag) => [(11, true, .int .i64 (i : Int))]) (fun (i : Nat) (b : STag) => []) (fun (i : Nat) (b : STag) => i ≤ l.q ∧ tagsNo none l.l = tagsNo (prevN i b) (l.l.drop i) ∧ (0 < i → l.l[i - 1]? = some b)) (fun (i : Nat) (b : STag) => l.q - i) 0 ⟨[], []⟩ (by repeat (first | exact kf_nil | (apply kf_in; focus rfl) | (apply kf_out; focus rfl))) (by repeat (first | exact kl_nil | exact kl_rest (by assumption) rfl | (apply kl_in; focus rfl) | (apply kl_out; focus rfl))) ?_ ?_ ?_ ?_
    · exact ⟨by omega, rfl, by omega⟩
    · exact ⟨rfl, trivial⟩
    · exact trivial
    rintro i b ⟨hp1, hp2, hp3⟩
    refine T_seq ?_
    refine T_region ?_
    refine S_ 12 rfl rfl rfl _ (y_bin rfl rfl rfl (fun _ => b_lss)) ?_
    refine S_go (fun _ _ h => h) ?_
    refine T_seq ?_
    refine T_cond rfl (fun h12 => ?_) (fun h12 => ?_)
    · try simp only [decide_eq_true_eq, decide_eq_false_iff_not, Bool.or_eq_true, Bool.or_eq_false_iff, Bool.and_eq_true, Bool.and_eq_false_iff, Bool.not_eq_true', Bool.not_eq_false', Bool.not_eq_true, Bool.not_eq_false, Bool.not_true, Bool.not_false, Int.not_lt, Int.not_le, not_or, not_and, Classical.not_not] at h12
      obtain ⟨x, hx1, hx2⟩ := ht.at (i := i) (by omega)
      have hn := hl.n x (mem_at hx1)
      have hn2 := hn.2
      refine T_skip_go (fun _ _ h => h) ?_
      refine T_seq ?_
      refine T_block ?_
      refine T_seq ?_
      refine T_region ?_
      refine S_ 13 rfl rfl rfl _ (y_move rfl rfl) ?_
      refine S_ 14 rfl rfl rfl _ (y_indexAddr rfl rfl rfl Tryz.underlying26 sz104 (fun hg => ht.isSome (by omega)) (fun _ => by omega)) ?_
      refine S_ 15 rfl rfl rfl _ (y_loadT rfl rfl ht (fun _ => rfl) (fun _ => hx1) Tryz.underlying104 rfl sz104) ?_
      refine S_alloc 4 4 rfl rfl rfl rfl z104 ?_
      intro b4
      refine S_ 3 rfl rfl rfl _ (y_assign rfl rfl) ?_
      refine S_store 4 rfl rfl rfl rfl rfl rfl sz104 rfl rfl ?_
      refine S_go (fun _ _ h => h) ?_
      refine T_seq ?_
      refine T_seq ?_
      refine T_region ?_
      refine S_ 16 rfl rfl rfl _ (y_fieldAddr rfl rfl fa104_0) ?_
      refine S_ 17 rfl rfl rfl _ (y_load 4 rfl rfl rfl rfl Tryz.underlying9 rfl) ?_
      refine S_ 18 rfl rfl rfl _ (y_call rfl rfl rfl cf100 (fun _ w _ => IsName_any _ w)) ?_
      refine S_ 19 rfl rfl rfl _ (y_not rfl rfl) ?_
      refine S_go (fun _ _ h => h) ?_
      refine T_cond rfl (fun h19 => ?_) (fun h19 => ?_)
      · try simp only [decide_eq_true_eq, decide_eq_false_iff_not, Bool.or_eq_true, Bool.or_eq_false_iff, Bool.and_eq_true, Bool.and_eq_false_iff, Bool.not_eq_true', Bool.not_eq_false', Bool.not_eq_true, Bool.not_eq_false, Bool.not_true, Bool.not_false, Int.not_lt, Int.not_le, not_or, not_and, Classical.not_not] at h19
        refine T_seq ?_
        refine T_region ?_
        refine S_ 2 rfl rfl rfl _ (y_assign rfl rfl) ?_
        refine S_go (fun _ _ h => h) ?_
        refine T_ret (fun a w hF hM => hRb a w (post1 rfl rfl (fun w hM => ?_) a w hF hM))
        exact ⟨by rw [if_neg (by omega), hp2, hx2, tagsNo, if_pos h19], hM.below⟩
      · try simp only [decide_eq_true_eq, decide_eq_false_iff_not, Bool.or_eq_true, Bool.or_eq_false_iff, Bool.and_eq_true, Bool.and_eq_false_iff, Bool.not_eq_true', Bool.not_eq_false', Bool.not_eq_true, Bool.not_eq_false, Bool.not_true, Bool.not_false, Int.not_lt, Int.not_le, not_or, not_and, Classical.not_not] at h19
        refine T_skip_go (fun _ _ h => h) ?_
        refine T_seq ?_
        refine T_seq ?_
        refine T_draws (by kernel_rfl) (by kernel_rfl) ?_
        refine D_ 20 rfl rfl rfl _ (y_move rfl rfl) ?_
        refine D_ 21 rfl rfl rfl _ (y_bin rfl rfl rfl (fun _ => b_gtr)) ?_
        refine D_ 22 rfl rfl rfl _ (y_move rfl rfl) ?_
        refine Dg_ 23 rfl rfl rfl rfl rfl rfl _ (y_fieldAddr rfl rfl fa104_0) ?_
        refine Dg_ 24 rfl rfl rfl rfl rfl rfl _ (y_load 4 rfl rfl rfl rfl Tryz.underlying9 rfl) ?_
        refine Dg_ 25 rfl rfl rfl rfl rfl rfl _ (y_move rfl rfl) ?_
        refine Dg_ 26 rfl rfl rfl rfl rfl rfl _ (y_move rfl rfl) ?_
        refine Dg_ 27 rfl rfl rfl rfl rfl rfl _ (y_bin rfl rfl rfl (fun hg => b_subv (((i - 1 : Nat) : Int)) (by simp only [Bool.true_and, Bool.and_eq_true, beq_iff_eq, decide_eq_true_eq, decide_eq_false_iff_not, Int.not_lt, Int.not_le] at hg; omega) (by simp only [Bool.true_and, Bool.and_eq_true, beq_iff_eq, decide_eq_true_eq, decide_eq_false_iff_not, Int.not_lt, Int.not_le] at hg; omega))) ?_
        refine Dg_ 28 rfl rfl rfl rfl rfl rfl _ (y_indexAddr rfl rfl rfl Tryz.underlying26 sz104 (fun hg => ht.isSome (by simp only [Bool.true_and, Bool.and_eq_true, beq_iff_eq, decide_eq_true_eq, decide_eq_false_iff_not, Int.not_lt, Int.not_le] at hg; omega)) (fun hg => by simp only [Bool.true_and, Bool.and_eq_true, beq_iff_eq, decide_eq_true_eq, decide_eq_false_iff_not, Int.not_lt, Int.not_le] at hg; omega)) ?_
        refine Dg_ 29 rfl rfl rfl rfl rfl rfl _ (y_fieldEl rfl rfl ht.rd (fun hg => by simp only [Bool.true_and, Bool.and_eq_true, beq_iff_eq, decide_eq_true_eq, decide_eq_false_iff_not, Int.not_lt, Int.not_le] at hg; omega) fa104_0) ?_
        refine Dg_ 30 rfl rfl rfl rfl rfl rfl _ (y_load_fT rfl rfl ht (fun _ => rfl) (fun hg => hp3 (by simp only [Bool.true_and, Bool.and_eq_true, beq_iff_eq, decide_eq_true_eq, decide_eq_false_iff_not, Int.not_lt, Int.not_le] at hg; omega)) rfl Tryz.underlying9 rfl) ?_
        refine Dg_ 31 rfl rfl rfl rfl rfl rfl _ (y_bin rfl rfl rfl (fun _ => b_leqs)) ?_
        refine D_ 32 rfl rfl rfl _ (y_as (v' := .bool ((prevN i b).any fun s => Op.bytesLess x.n s || decide (x.n = s))) (by rw [prevN_any]) (y_and rfl rfl rfl)) ?_
        refine D_go (fun _ _ h => h) ?_
        refine T_cond rfl (fun h32 => ?_) (fun h32 => ?_)
        · skip
          refine T_seq ?_
          refine T_region ?_
          refine S_ 2 rfl rfl rfl _ (y_assign rfl rfl) ?_
          refine S_go (fun _ _ h => h) ?_
          refine T_ret (fun a w hF hM => hRb a w (post1 rfl rfl (fun w hM => ?_) a w hF hM))
          exact ⟨by rw [if_neg (by omega), hp2, hx2, tagsNo, if_neg (by rw [h19]; simp), if_t h32], hM.below⟩
        · skip
          refine T_skip_go (fun _ _ h => h) ?_
          refine T_seq ?_
          refine T_region ?_
          refine S_ 33 rfl rfl rfl _ (y_fieldAddr rfl rfl fa104_1) ?_
          refine S_ 34 rfl rfl rfl _ (y_load 4 rfl rfl rfl rfl Tryz.underlying9 rfl) ?_
          refine S_ 35 rfl rfl rfl _ (y_call rfl rfl rfl cf117 (fun _ w _ => checkValue_any _ (by first | omega | (simp; done) | (simp; omega) | (simp only; omega)) w)) ?_
          refine S_ 5 rfl rfl rfl _ (y_assign rfl rfl) ?_
          refine S_go (fun _ _ h => h) ?_
          refine T_seq ?_
          refine T_region ?_
          refine S_ 36 rfl rfl rfl _ (y_move rfl rfl) ?_
          refine S_ 37 rfl rfl rfl _ (y_bin rfl rfl rfl (fun _ => b_neq)) ?_
          refine S_go (fun _ _ h => h) ?_
          refine T_cond rfl (fun h37 => ?_) (fun h37 => ?_)
          · try simp only [decide_eq_true_eq, decide_eq_false_iff_not, Bool.or_eq_true, Bool.or_eq_false_iff, Bool.and_eq_true, Bool.and_eq_false_iff, Bool.not_eq_true', Bool.not_eq_false', Bool.not_eq_true, Bool.not_eq_false, Bool.not_true, Bool.not_false, Int.not_lt, Int.not_le, not_or, not_and, Classical.not_not] at h37
            refine T_seq ?_
            refine T_region ?_
            refine S_ 38 rfl rfl rfl _ (y_move rfl rfl) ?_
            refine S_ 2 rfl rfl rfl _ (y_assign rfl rfl) ?_
            refine S_go (fun _ _ h => h) ?_
            refine T_ret (fun a w hF hM => hRb a w (post1 rfl rfl (fun w hM => ?_) a w hF hM))
            exact ⟨by rw [if_neg (by omega), hp2, hx2, tagsNo, if_neg (by rw [h19]; simp), if_f h32, if_pos h37], hM.below⟩
          · try simp only [decide_eq_true_eq, decide_eq_false_iff_not, Bool.or_eq_true, Bool.or_eq_false_iff, Bool.and_eq_true, Bool.and_eq_false_iff, Bool.not_eq_true', Bool.not_eq_false', Bool.not_eq_true, Bool.not_eq_false, Bool.not_true, Bool.not_false, Int.not_lt, Int.not_le, not_or, not_and, Classical.not_not] at h37
            refine T_skip_go (fun _ _ h => h) ?_
            refine T_region ?_
            refine S_ 39 rfl rfl rfl _ (y_bin rfl rfl rfl (fun hg => b_add (by omega))) ?_
            refine S_ 11 rfl rfl rfl _ (y_move rfl rfl) ?_
            refine S_nil (nextK2 (kf := [(2, 5), (11, 39)]) (kl := [(2, 5), (11, 39)]) (i + 1) x (by repeat (first | exact kf_nil | (apply kf_in; focus rfl) | (apply kf_out; focus rfl))) (by repeat (first | exact kl_nil | exact kl_rest (by assumption) rfl | (apply kl_in; focus rfl) | (apply kl_out; focus rfl))) ?_ ?_ ?_ ?_)
            · omega
            · exact ⟨by omega, by rw [hp2, hx2, tagsNo, if_neg (by rw [h19]; simp), if_f h32, if_neg (by simpa using h37)]; rfl, fun _ => hx1⟩
            · exact ⟨rfl, trivial⟩
            · exact trivial
    · try simp only [decide_eq_true_eq, decide_eq_false_iff_not, Bool.or_eq_true, Bool.or_eq_false_iff, Bool.and_eq_true, Bool.and_eq_false_iff, Bool.not_eq_true', Bool.not_eq_false', Bool.not_eq_true, Bool.not_eq_false, Bool.not_true, Bool.not_false, Int.not_lt, Int.not_le, not_or, not_and, Classical.not_not] at h12
      refine T_exit_go (fun _ _ h => h) ?_
      refine T_seq ?_
      refine T_region ?_
      refine S_ 2 rfl rfl rfl _ (y_assign rfl rfl) ?_
      refine S_go (fun _ _ h => h) ?_
      refine T_ret (fun a w hF hM => hRb a w (post1 rfl rfl (fun w hM => ?_) a w hF hM))
      exact ⟨by rw [if_neg (by omega), hp2, ht.end (by omega), tagsNo_nil], hM.below⟩
theorem checkCrumbs_any (l : Sl SCrumb) (w : World) (hl : CrumbsOk w l) :
    Calls Tryz.prog 116 #[.slice l.A l.q l.c] w fun e w' => e = .returned (.int .i64 (if (50 : Int) < l.q then 4 else crumbsNo none l.l)) ∧ Below w.heap.size w w' := by
  have ht := hl.ok.t
  have hq := hl.q
  refine enter_args (args := [.slice l.A l.q l.c]) (F := _) Tryz.func116 rfl Tryz.ntmps116 rfl rfl ?_
  intro Rb hRb hRn
  refine T_seq ?_
  refine T_region ?_
  refine S_ 2 rfl rfl rfl _ (y_assign rfl rfl) ?_
  refine S_go (fun _ _ h => h) ?_
  refine T_seq ?_
  refine T_seq ?_
  refine T_region ?_
  refine S_ 6 rfl rfl rfl _ (y_move rfl rfl) ?_
  refine S_ 7 rfl rfl rfl _ (y_len_slice rfl rfl Tryz.underlying27) ?_
  refine S_ 8 rfl rfl rfl _ (y_bin rfl rfl rfl (fun _ => b_gtr)) ?_
  refine S_go (fun _ _ h => h) ?_
  refine T_cond rfl (fun h8 => ?_) (fun h8 => ?_)
  · try simp only [decide_eq_true_eq, decide_eq_false_iff_not, Bool.or_eq_true, Bool.or_eq_false_iff, Bool.and_eq_true, Bool.and_eq_false_iff, Bool.not_eq_true', Bool.not_eq_false', Bool.not_eq_true, Bool.not_eq_false, Bool.not_true, Bool.not_false, Int.not_lt, Int.not_le, not_or, not_and, Classical.not_not] at h8
    refine T_seq ?_
    refine T_region ?_
    refine S_ 2 rfl rfl rfl _ (y_assign rfl rfl) ?_
    refine S_go (fun _ _ h => h) ?_
    refine T_ret (fun a w hF hM => hRb a w (post1 rfl rfl (fun w hM => ?_) a w hF hM))
    exact ⟨by rw [if_pos (by omega)], hM.below⟩
  · try simp only [decide_eq_true_eq, decide_eq_false_iff_not, Bool.or_eq_true, Bool.or_eq_false_iff, Bool.and_eq_true, Bool.and_eq_false_iff, Bool.not_eq_true', Bool.not_eq_false', Bool.not_eq_true, Bool.not_eq_false, Bool.not_true, Bool.not_false, Int.not_lt, Int.not_le, not_or, not_and, Classical.not_not] at h8
    refine T_skip_go (fun _ _ h => h) ?_
    refine T_seq ?_
    refine T_seq ?_
    refine T_region ?_
    refine S_ 9 rfl rfl rfl _ (y_move rfl rfl) ?_
    refine S_ 10 rfl rfl rfl _ (y_len_slice rfl rfl Tryz.underlying27) ?_
    refine S_ 11 rfl rfl rfl _ (y_move rfl rfl) ?_
    refine S_go (fun _ _ h => h) ?_
    refine T_block ?_
    refine T_loopK2 (kf := [(2, 5), (11, 45)]) (kl := [(2, 5), (11, 45)]) (fun (i : Nat) (b : SCrumb) => [(11, true, .int .i64 (i : Int))]) (fun (i : Nat) (b : SCrumb) => []) (fun (i : Nat) (b : SCrumb) => i ≤ l.q ∧ crumbsNo none l.l = crumbsNo (prevA i b) (l.l.drop i) ∧ (0 < i → l.l[i - 1]? = some b)) (fun (i : Nat) (b : SCrumb) => l.q - i) 0 ⟨0, [], []⟩ (by repeat (first | exact kf_nil | (apply kf_in; focus rfl) | (apply kf_out; focus rfl))) (by repeat (first | exact kl_nil | exact kl_rest (by assumption) rfl | (apply kl_in; focus rfl) | (apply kl_out; focus rfl))) ?_ ?_ ?_ ?_
    · exact ⟨by omega, rfl, by omega⟩
    · exact ⟨rfl, trivial⟩
    · exact trivial
    rintro i b ⟨hp1, hp2, hp3⟩
    refine T_seq ?_
    refine T_region ?_
    refine S_ 12 rfl rfl rfl _ (y_bin rfl rfl rfl (fun _ => b_lss)) ?_
    refine S_go (fun _ _ h => h) ?_
    refine T_seq ?_
    refine T_cond rfl (fun h12 => ?_) (fun h12 => ?_)
    · try simp only [decide_eq_true_eq, decide_eq_false_iff_not, Bool.or_eq_true, Bool.or_eq_false_iff, Bool.and_eq_true, Bool.and_eq_false_iff, Bool.not_eq_true', Bool.not_eq_false', Bool.not_eq_true, Bool.not_eq_false, Bool.not_true, Bool.not_false, Int.not_lt, Int.not_le, not_or, not_and, Classical.not_not] at h12
      obtain ⟨x, hx1, hx2⟩ := ht.at (i := i) (by omega)
      have hn := hl.n x (mem_at hx1)
      have hn2 := hn.2
      refine T_skip_go (fun _ _ h => h) ?_
      refine T_seq ?_
      refine T_block ?_
      refine T_seq ?_
      refine T_region ?_
      refine S_ 13 rfl rfl rfl _ (y_move rfl rfl) ?_
      refine S_ 14 rfl rfl rfl _ (y_indexAddr rfl rfl rfl Tryz.underlying27 sz107 (fun hg => ht.isSome (by omega)) (fun _ => by omega)) ?_
      refine S_ 15 rfl rfl rfl _ (y_loadT rfl rfl ht (fun _ => rfl) (fun _ => hx1) Tryz.underlying107 rfl sz107) ?_
      refine S_alloc 4 4 rfl rfl rfl rfl z107 ?_
      intro b4
      refine S_ 3 rfl rfl rfl _ (y_assign rfl rfl) ?_
      refine S_store 4 rfl rfl rfl rfl rfl rfl sz107 rfl rfl ?_
      refine S_go (fun _ _ h => h) ?_
      refine T_seq ?_
      refine T_block ?_
      refine T_seq ?_
      refine T_region ?_
      refine S_ 17 rfl rfl rfl _ (y_fieldAddr rfl rfl fa107_0) ?_
      refine S_ 18 rfl rfl rfl _ (y_load 4 rfl rfl rfl rfl Tryz.underlying3 rfl) ?_
      refine S_ 19 rfl rfl rfl _ (y_call rfl rfl rfl cf118 (fun _ w _ => eoutside_any _ _ _ w)) ?_
      refine S_ 16 rfl rfl rfl _ (y_assign rfl rfl) ?_
      refine S_go (fun _ _ h => h) ?_
      refine T_cond rfl (fun h16 => ?_) (fun h16 => ?_)
      · skip
        refine T_seq ?_
        refine T_region ?_
        refine S_ 2 rfl rfl rfl _ (y_assign rfl rfl) ?_
        refine S_go (fun _ _ h => h) ?_
        refine T_ret (fun a w hF hM => hRb a w (post1 rfl rfl (fun w hM => ?_) a w hF hM))
        exact ⟨by rw [if_neg (by omega), hp2, hx2, crumbsNo, if_t h16], hM.below⟩
      · skip
        refine T_seq ?_
        refine T_draws (by kernel_rfl) (by kernel_rfl) ?_
        refine D_ 21 rfl rfl rfl _ (y_move rfl rfl) ?_
        refine D_ 22 rfl rfl rfl _ (y_bin rfl rfl rfl (fun _ => b_gtr)) ?_
        refine D_ 23 rfl rfl rfl _ (y_move rfl rfl) ?_
        refine Dg_ 24 rfl rfl rfl rfl rfl rfl _ (y_fieldAddr rfl rfl fa107_0) ?_
        refine Dg_ 25 rfl rfl rfl rfl rfl rfl _ (y_load 4 rfl rfl rfl rfl Tryz.underlying3 rfl) ?_
        refine Dg_ 26 rfl rfl rfl rfl rfl rfl _ (y_move rfl rfl) ?_
        refine Dg_ 27 rfl rfl rfl rfl rfl rfl _ (y_move rfl rfl) ?_
        refine Dg_ 28 rfl rfl rfl rfl rfl rfl _ (y_bin rfl rfl rfl (fun hg => b_subv (((i - 1 : Nat) : Int)) (by simp only [Bool.true_and, Bool.and_eq_true, beq_iff_eq, decide_eq_true_eq, decide_eq_false_iff_not, Int.not_lt, Int.not_le] at hg; omega) (by simp only [Bool.true_and, Bool.and_eq_true, beq_iff_eq, decide_eq_true_eq, decide_eq_false_iff_not, Int.not_lt, Int.not_le] at hg; omega))) ?_
        refine Dg_ 29 rfl rfl rfl rfl rfl rfl _ (y_indexAddr rfl rfl rfl Tryz.underlying27 sz107 (fun hg => ht.isSome (by simp only [Bool.true_and, Bool.and_eq_true, beq_iff_eq, decide_eq_true_eq, decide_eq_false_iff_not, Int.not_lt, Int.not_le] at hg; omega)) (fun hg => by simp only [Bool.true_and, Bool.and_eq_true, beq_iff_eq, decide_eq_true_eq, decide_eq_false_iff_not, Int.not_lt, Int.not_le] at hg; omega)) ?_
        refine Dg_ 30 rfl rfl rfl rfl rfl rfl _ (y_fieldEl rfl rfl ht.rd (fun hg => by simp only [Bool.true_and, Bool.and_eq_true, beq_iff_eq, decide_eq_true_eq, decide_eq_false_iff_not, Int.not_lt, Int.not_le] at hg; omega) fa107_0) ?_
        refine Dg_ 31 rfl rfl rfl rfl rfl rfl _ (y_load_fT rfl rfl ht (fun _ => rfl) (fun hg => hp3 (by simp only [Bool.true_and, Bool.and_eq_true, beq_iff_eq, decide_eq_true_eq, decide_eq_false_iff_not, Int.not_lt, Int.not_le] at hg; omega)) rfl Tryz.underlying3 rfl) ?_
        refine Dg_ 32 rfl rfl rfl rfl rfl rfl _ (y_bin rfl rfl rfl (fun _ => b_lss)) ?_
        refine D_ 33 rfl rfl rfl _ (y_as (v' := .bool ((prevA i b).any fun n => decide (x.at_ < n))) (by rw [prevA_any]) (y_and rfl rfl rfl)) ?_
        refine D_ 20 rfl rfl rfl _ (y_assign rfl rfl) ?_
        refine D_go (fun _ _ h => h) ?_
        refine T_cond rfl (fun h20 => ?_) (fun h20 => ?_)
        · skip
          refine T_seq ?_
          refine T_region ?_
          refine S_ 2 rfl rfl rfl _ (y_assign rfl rfl) ?_
          refine S_go (fun _ _ h => h) ?_
          refine T_ret (fun a w hF hM => hRb a w (post1 rfl rfl (fun w hM => ?_) a w hF hM))
          exact ⟨by rw [if_neg (by omega), hp2, hx2, crumbsNo, if_f h16, if_t h20], hM.below⟩
        · skip
          refine T_seq ?_
          refine T_region ?_
          refine S_ 35 rfl rfl rfl _ (y_fieldAddr rfl rfl fa107_1) ?_
          refine S_ 36 rfl rfl rfl _ (y_load 4 rfl rfl rfl rfl Tryz.underlying9 rfl) ?_
          refine S_ 37 rfl rfl rfl _ (y_call rfl rfl rfl cf100 (fun _ w _ => IsName_any _ w)) ?_
          refine S_ 38 rfl rfl rfl _ (y_not rfl rfl) ?_
          refine S_ 34 rfl rfl rfl _ (y_assign rfl rfl) ?_
          refine S_go (fun _ _ h => h) ?_
          refine T_cond rfl (fun h34 => ?_) (fun h34 => ?_)
          · try simp only [decide_eq_true_eq, decide_eq_false_iff_not, Bool.or_eq_true, Bool.or_eq_false_iff, Bool.and_eq_true, Bool.and_eq_false_iff, Bool.not_eq_true', Bool.not_eq_false', Bool.not_eq_true, Bool.not_eq_false, Bool.not_true, Bool.not_false, Int.not_lt, Int.not_le, not_or, not_and, Classical.not_not] at h34
            refine T_seq ?_
            refine T_region ?_
            refine S_ 2 rfl rfl rfl _ (y_assign rfl rfl) ?_
            refine S_go (fun _ _ h => h) ?_
            refine T_ret (fun a w hF hM => hRb a w (post1 rfl rfl (fun w hM => ?_) a w hF hM))
            exact ⟨by rw [if_neg (by omega), hp2, hx2, crumbsNo, if_f h16, if_f h20, if_pos h34], hM.below⟩
          · try simp only [decide_eq_true_eq, decide_eq_false_iff_not, Bool.or_eq_true, Bool.or_eq_false_iff, Bool.and_eq_true, Bool.and_eq_false_iff, Bool.not_eq_true', Bool.not_eq_false', Bool.not_eq_true, Bool.not_eq_false, Bool.not_true, Bool.not_false, Int.not_lt, Int.not_le, not_or, not_and, Classical.not_not] at h34
            refine T_skip_go (fun _ _ h => h) ?_
            refine T_seq ?_
            refine T_region ?_
            refine S_ 39 rfl rfl rfl _ (y_fieldAddr rfl rfl fa107_2) ?_
            refine S_ 40 rfl rfl rfl _ (y_load 4 rfl rfl rfl rfl Tryz.underlying9 rfl) ?_
            refine S_ 41 rfl rfl rfl _ (y_call rfl rfl rfl cf196 (fun _ w _ => checkSay_any _ (by first | omega | (simp; done) | (simp; omega) | (simp only; omega)) w)) ?_
            refine S_ 5 rfl rfl rfl _ (y_assign rfl rfl) ?_
            refine S_go (fun _ _ h => h) ?_
            refine T_seq ?_
            refine T_region ?_
            refine S_ 42 rfl rfl rfl _ (y_move rfl rfl) ?_
            refine S_ 43 rfl rfl rfl _ (y_bin rfl rfl rfl (fun _ => b_neq)) ?_
            refine S_go (fun _ _ h => h) ?_
            refine T_cond rfl (fun h43 => ?_) (fun h43 => ?_)
            · try simp only [decide_eq_true_eq, decide_eq_false_iff_not, Bool.or_eq_true, Bool.or_eq_false_iff, Bool.and_eq_true, Bool.and_eq_false_iff, Bool.not_eq_true', Bool.not_eq_false', Bool.not_eq_true, Bool.not_eq_false, Bool.not_true, Bool.not_false, Int.not_lt, Int.not_le, not_or, not_and, Classical.not_not] at h43
              refine T_seq ?_
              refine T_region ?_
              refine S_ 44 rfl rfl rfl _ (y_move rfl rfl) ?_
              refine S_ 2 rfl rfl rfl _ (y_assign rfl rfl) ?_
              refine S_go (fun _ _ h => h) ?_
              refine T_ret (fun a w hF hM => hRb a w (post1 rfl rfl (fun w hM => ?_) a w hF hM))
              exact ⟨by rw [if_neg (by omega), hp2, hx2, crumbsNo, if_f h16, if_f h20, if_neg (by rw [h34]; simp), if_pos h43], hM.below⟩
            · try simp only [decide_eq_true_eq, decide_eq_false_iff_not, Bool.or_eq_true, Bool.or_eq_false_iff, Bool.and_eq_true, Bool.and_eq_false_iff, Bool.not_eq_true', Bool.not_eq_false', Bool.not_eq_true, Bool.not_eq_false, Bool.not_true, Bool.not_false, Int.not_lt, Int.not_le, not_or, not_and, Classical.not_not] at h43
              refine T_skip_go (fun _ _ h => h) ?_
              refine T_region ?_
              refine S_ 45 rfl rfl rfl _ (y_bin rfl rfl rfl (fun hg => b_add (by omega))) ?_
              refine S_ 11 rfl rfl rfl _ (y_move rfl rfl) ?_
              refine S_nil (nextK2 (kf := [(2, 5), (11, 45)]) (kl := [(2, 5), (11, 45)]) (i + 1) x (by repeat (first | exact kf_nil | (apply kf_in; focus rfl) | (apply kf_out; focus rfl))) (by repeat (first | exact kl_nil | exact kl_rest (by assumption) rfl | (apply kl_in; focus rfl) | (apply kl_out; focus rfl))) ?_ ?_ ?_ ?_)
              · omega
              · exact ⟨by omega, by rw [hp2, hx2, crumbsNo, if_f h16, if_f h20, if_neg (by rw [h34]; simp), if_neg (by simpa using h43)]; rfl, fun _ => hx1⟩
              · exact ⟨rfl, trivial⟩
              · exact trivial
    · try simp only [decide_eq_true_eq, decide_eq_false_iff_not, Bool.or_eq_true, Bool.or_eq_false_iff, Bool.and_eq_true, Bool.and_eq_false_iff, Bool.not_eq_true', Bool.not_eq_false', Bool.not_eq_true, Bool.not_eq_false, Bool.not_true, Bool.not_false, Int.not_lt, Int.not_le, not_or, not_and, Classical.not_not] at h12
      refine T_exit_go (fun _ _ h => h) ?_
      refine T_seq ?_
      refine T_region ?_
      refine S_ 2 rfl rfl rfl _ (y_assign rfl rfl) ?_
      refine S_go (fun _ _ h => h) ?_
      refine T_ret (fun a w hF hM => hRb a w (post1 rfl rfl (fun w hM => ?_) a w hF hM))
      exact ⟨by rw [if_neg (by omega), hp2, ht.end (by omega), crumbsNo_nil], hM.below⟩
theorem checkHead_any (e : Evt) (w : World) :
    Calls Tryz.prog 113 #[e.val] w fun en w' => en = .returned (.int .i64 (headNo e.id e.at_ e.lv)) ∧ Below w.heap.size w w' := by
  refine enter_args (args := [.agg #[str e.id, .int .i64 e.at_, .int .i64 e.lv, .slice e.fa.A e.fa.q e.fa.c, .slice e.ta.A e.ta.q e.ta.c, .slice e.cr.A e.cr.q e.cr.c, str e.rel, str e.us, .int .i64 e.wt]]) (F := _) Tryz.func113 rfl Tryz.ntmps113 rfl rfl ?_
  intro Rb hRb hRn
  refine T_seq ?_
  refine T_region ?_
  refine S_box 1 1 rfl rfl rfl rfl rfl ?_
  intro b1
  refine S_ 2 rfl rfl rfl _ (y_assign rfl rfl) ?_
  refine S_go (fun _ _ h => h) ?_
  refine T_seq ?_
  refine T_seq ?_
  refine T_region ?_
  refine S_ 3 rfl rfl rfl _ (y_fieldAddr rfl rfl fa29_0) ?_
  refine S_ 4 rfl rfl rfl _ (y_load 1 rfl rfl rfl rfl Tryz.underlying9 rfl) ?_
  refine S_ 5 rfl rfl rfl _ (y_call rfl rfl rfl cf194 (fun _ w _ => isDigest_any _ w)) ?_
  refine S_ 6 rfl rfl rfl _ (y_not rfl rfl) ?_
  refine S_go (fun _ _ h => h) ?_
  refine T_cond rfl (fun h6 => ?_) (fun h6 => ?_)
  · try simp only [decide_eq_true_eq, decide_eq_false_iff_not, Bool.or_eq_true, Bool.or_eq_false_iff, Bool.and_eq_true, Bool.and_eq_false_iff, Bool.not_eq_true', Bool.not_eq_false', Bool.not_eq_true, Bool.not_eq_false, Bool.not_true, Bool.not_false, Int.not_lt, Int.not_le, not_or, not_and, Classical.not_not] at h6
    refine T_seq ?_
    refine T_region ?_
    refine S_ 2 rfl rfl rfl _ (y_assign rfl rfl) ?_
    refine S_go (fun _ _ h => h) ?_
    refine T_ret (fun a w hF hM => hRb a w (post1 rfl rfl (fun w hM => ?_) a w hF hM))
    exact ⟨by rw [headNo, if_pos h6], hM.below⟩
  · try simp only [decide_eq_true_eq, decide_eq_false_iff_not, Bool.or_eq_true, Bool.or_eq_false_iff, Bool.and_eq_true, Bool.and_eq_false_iff, Bool.not_eq_true', Bool.not_eq_false', Bool.not_eq_true, Bool.not_eq_false, Bool.not_true, Bool.not_false, Int.not_lt, Int.not_le, not_or, not_and, Classical.not_not] at h6
    refine T_skip_go (fun _ _ h => h) ?_
    refine T_seq ?_
    refine T_seq ?_
    refine T_region ?_
    refine S_ 7 rfl rfl rfl _ (y_fieldAddr rfl rfl fa29_1) ?_
    refine S_ 8 rfl rfl rfl _ (y_load 1 rfl rfl rfl rfl Tryz.underlying3 rfl) ?_
    refine S_ 9 rfl rfl rfl _ (y_call rfl rfl rfl cf118 (fun _ w _ => eoutside_any _ _ _ w)) ?_
    refine S_ 10 rfl rfl rfl _ (y_move rfl rfl) ?_
    refine Sg_ 11 rfl rfl rfl rfl rfl rfl _ (y_fieldAddr rfl rfl fa29_2) ?_
    refine Sg_ 12 rfl rfl rfl rfl rfl rfl _ (y_load 1 rfl rfl rfl rfl Tryz.underlying3 rfl) ?_
    refine Sg_ 13 rfl rfl rfl rfl rfl rfl _ (y_call rfl rfl rfl cf118 (fun _ w _ => eoutside_any _ _ _ w)) ?_
    refine S_ 14 rfl rfl rfl _ (y_or rfl rfl rfl) ?_
    refine S_go (fun _ _ h => h) ?_
    refine T_cond rfl (fun h14 => ?_) (fun h14 => ?_)
    · skip
      refine T_seq ?_
      refine T_region ?_
      refine S_ 2 rfl rfl rfl _ (y_assign rfl rfl) ?_
      refine S_go (fun _ _ h => h) ?_
      refine T_ret (fun a w hF hM => hRb a w (post1 rfl rfl (fun w hM => ?_) a w hF hM))
      exact ⟨by rw [headNo, if_neg (by rw [h6]; simp), if_t h14], hM.below⟩
    · skip
      refine T_skip_go (fun _ _ h => h) ?_
      refine T_seq ?_
      refine T_region ?_
      refine S_ 2 rfl rfl rfl _ (y_assign rfl rfl) ?_
      refine S_go (fun _ _ h => h) ?_
      refine T_ret (fun a w hF hM => hRb a w (post1 rfl rfl (fun w hM => ?_) a w hF hM))
      exact ⟨by rw [headNo, if_neg (by rw [h6]; simp), if_f h14], hM.below⟩
theorem HeadFault_any (e : Evt) (w : World) :
    Calls Tryz.prog 49 #[e.val] w fun en w' => en = .returned (.int .i64 (headNo e.id e.at_ e.lv)) ∧ Below w.heap.size w w' := by
  refine enter_args (args := [.agg #[str e.id, .int .i64 e.at_, .int .i64 e.lv, .slice e.fa.A e.fa.q e.fa.c, .slice e.ta.A e.ta.q e.ta.c, .slice e.cr.A e.cr.q e.cr.c, str e.rel, str e.us, .int .i64 e.wt]]) (F := _) Tryz.func49 rfl Tryz.ntmps49 rfl rfl ?_
  intro Rb hRb hRn
  refine T_seq ?_
  refine T_region ?_
  refine S_box 1 1 rfl rfl rfl rfl rfl ?_
  intro b1
  refine S_ 2 rfl rfl rfl _ (y_assign rfl rfl) ?_
  refine S_go (fun _ _ h => h) ?_
  refine T_seq ?_
  refine T_block ?_
  refine T_seq ?_
  refine T_region ?_
  refine S_ 4 rfl rfl rfl _ (y_fieldAddr rfl rfl fa29_0) ?_
  refine S_ 5 rfl rfl rfl _ (y_load 1 rfl rfl rfl rfl Tryz.underlying9 rfl) ?_
  refine S_ 6 rfl rfl rfl _ (y_call rfl rfl rfl cf145 (fun _ w _ => digits16_any _ w)) ?_
  refine S_ 7 rfl rfl rfl _ (y_not rfl rfl) ?_
  refine S_ 3 rfl rfl rfl _ (y_assign rfl rfl) ?_
  refine S_go (fun _ _ h => h) ?_
  refine T_cond rfl (fun h3 => ?_) (fun h3 => ?_)
  · try simp only [decide_eq_true_eq, decide_eq_false_iff_not, Bool.or_eq_true, Bool.or_eq_false_iff, Bool.and_eq_true, Bool.and_eq_false_iff, Bool.not_eq_true', Bool.not_eq_false', Bool.not_eq_true, Bool.not_eq_false, Bool.not_true, Bool.not_false, Int.not_lt, Int.not_le, not_or, not_and, Classical.not_not] at h3
    refine T_seq ?_
    refine T_region ?_
    refine S_ 2 rfl rfl rfl _ (y_assign rfl rfl) ?_
    refine S_go (fun _ _ h => h) ?_
    refine T_ret (fun a w hF hM => hRb a w (post1 rfl rfl (fun w hM => ?_) a w hF hM))
    exact ⟨by rw [headNo, if_pos h3], hM.below⟩
  · try simp only [decide_eq_true_eq, decide_eq_false_iff_not, Bool.or_eq_true, Bool.or_eq_false_iff, Bool.and_eq_true, Bool.and_eq_false_iff, Bool.not_eq_true', Bool.not_eq_false', Bool.not_eq_true, Bool.not_eq_false, Bool.not_true, Bool.not_false, Int.not_lt, Int.not_le, not_or, not_and, Classical.not_not] at h3
    refine T_seq ?_
    refine T_region ?_
    refine S_ 9 rfl rfl rfl _ (y_fieldAddr rfl rfl fa29_1) ?_
    refine S_ 10 rfl rfl rfl _ (y_load 1 rfl rfl rfl rfl Tryz.underlying3 rfl) ?_
    refine S_ 11 rfl rfl rfl _ (y_call rfl rfl rfl cf53 (fun _ w _ => out_any _ _ _ w)) ?_
    refine S_ 12 rfl rfl rfl _ (y_move rfl rfl) ?_
    refine Sg_ 13 rfl rfl rfl rfl rfl rfl _ (y_fieldAddr rfl rfl fa29_2) ?_
    refine Sg_ 14 rfl rfl rfl rfl rfl rfl _ (y_load 1 rfl rfl rfl rfl Tryz.underlying3 rfl) ?_
    refine Sg_ 15 rfl rfl rfl rfl rfl rfl _ (y_call rfl rfl rfl cf53 (fun _ w _ => out_any _ _ _ w)) ?_
    refine S_ 16 rfl rfl rfl _ (y_or rfl rfl rfl) ?_
    refine S_ 8 rfl rfl rfl _ (y_assign rfl rfl) ?_
    refine S_go (fun _ _ h => h) ?_
    refine T_cond rfl (fun h8 => ?_) (fun h8 => ?_)
    · skip
      refine T_seq ?_
      refine T_region ?_
      refine S_ 2 rfl rfl rfl _ (y_assign rfl rfl) ?_
      refine S_go (fun _ _ h => h) ?_
      refine T_ret (fun a w hF hM => hRb a w (post1 rfl rfl (fun w hM => ?_) a w hF hM))
      exact ⟨by rw [headNo, if_neg (by rw [h3]; simp), if_t h8], hM.below⟩
    · skip
      refine T_skip_go (fun _ _ h => h) ?_
      refine T_seq ?_
      refine T_region ?_
      refine S_ 2 rfl rfl rfl _ (y_assign rfl rfl) ?_
      refine S_go (fun _ _ h => h) ?_
      refine T_ret (fun a w hF hM => hRb a w (post1 rfl rfl (fun w hM => ?_) a w hF hM))
      exact ⟨by rw [headNo, if_neg (by rw [h3]; simp), if_f h8], hM.below⟩
theorem Check_any (e : Evt) (w : World) (he : e.Ok w) :
    Calls Tryz.prog 44 #[e.val] w fun en w' => en = .returned (.int .i64 (evNo e)) ∧ Below w.heap.size w w' := by
  have hus := he.us
  refine enter_args (args := [.agg #[str e.id, .int .i64 e.at_, .int .i64 e.lv, .slice e.fa.A e.fa.q e.fa.c, .slice e.ta.A e.ta.q e.ta.c, .slice e.cr.A e.cr.q e.cr.c, str e.rel, str e.us, .int .i64 e.wt]]) (F := _) Tryz.func44 rfl Tryz.ntmps44 rfl rfl ?_
  intro Rb hRb hRn
  refine T_seq ?_
  refine T_region ?_
  refine S_box 1 1 rfl rfl rfl rfl rfl ?_
  intro b1
  refine S_ 2 rfl rfl rfl _ (y_assign rfl rfl) ?_
  refine S_go (fun _ _ h => h) ?_
  refine T_seq ?_
  refine T_seq ?_
  refine T_region ?_
  refine S_ 8 rfl rfl rfl _ (y_loadA 1 rfl rfl rfl Tryz.underlying29 rfl sz29) ?_
  refine S_ 9 rfl rfl rfl _ (y_call rfl rfl rfl cf113 (fun _ w _ => checkHead_any e w)) ?_
  refine S_ 3 rfl rfl rfl _ (y_assign rfl rfl) ?_
  refine S_go (fun _ _ h => h) ?_
  refine T_seq ?_
  refine T_region ?_
  refine S_ 10 rfl rfl rfl _ (y_move rfl rfl) ?_
  refine S_ 11 rfl rfl rfl _ (y_bin rfl rfl rfl (fun _ => b_neq)) ?_
  refine S_go (fun _ _ h => h) ?_
  refine T_cond rfl (fun h11 => ?_) (fun h11 => ?_)
  · try simp only [decide_eq_true_eq, decide_eq_false_iff_not, Bool.or_eq_true, Bool.or_eq_false_iff, Bool.and_eq_true, Bool.and_eq_false_iff, Bool.not_eq_true', Bool.not_eq_false', Bool.not_eq_true, Bool.not_eq_false, Bool.not_true, Bool.not_false, Int.not_lt, Int.not_le, not_or, not_and, Classical.not_not] at h11
    refine T_seq ?_
    refine T_region ?_
    refine S_ 12 rfl rfl rfl _ (y_move rfl rfl) ?_
    refine S_ 2 rfl rfl rfl _ (y_assign rfl rfl) ?_
    refine S_go (fun _ _ h => h) ?_
    refine T_ret (fun a w hF hM => hRb a w (post1 rfl rfl (fun w hM => ?_) a w hF hM))
    exact ⟨by rw [evNo, fst_t h11], hM.below⟩
  · try simp only [decide_eq_true_eq, decide_eq_false_iff_not, Bool.or_eq_true, Bool.or_eq_false_iff, Bool.and_eq_true, Bool.and_eq_false_iff, Bool.not_eq_true', Bool.not_eq_false', Bool.not_eq_true, Bool.not_eq_false, Bool.not_true, Bool.not_false, Int.not_lt, Int.not_le, not_or, not_and, Classical.not_not] at h11
    refine T_skip_go (fun _ _ h => h) ?_
    refine T_seq ?_
    refine T_seq ?_
    refine T_region ?_
    refine S_ 13 rfl rfl rfl _ (y_fieldAddr rfl rfl fa29_3) ?_
    refine S_ 14 rfl rfl rfl _ (y_load 1 rfl rfl rfl rfl Tryz.underlying25 rfl) ?_
    refine S_ 15 rfl rfl rfl _ (y_call rfl rfl rfl cf114 (fun _ w hM => sCheck_any e.fa w (he.fa.below hM.below))) ?_
    refine S_ 4 rfl rfl rfl _ (y_assign rfl rfl) ?_
    refine S_go (fun _ _ h => h) ?_
    refine T_seq ?_
    refine T_region ?_
    refine S_ 16 rfl rfl rfl _ (y_move rfl rfl) ?_
    refine S_ 17 rfl rfl rfl _ (y_bin rfl rfl rfl (fun _ => b_neq)) ?_
    refine S_go (fun _ _ h => h) ?_
    refine T_cond rfl (fun h17 => ?_) (fun h17 => ?_)
    · try simp only [decide_eq_true_eq, decide_eq_false_iff_not, Bool.or_eq_true, Bool.or_eq_false_iff, Bool.and_eq_true, Bool.and_eq_false_iff, Bool.not_eq_true', Bool.not_eq_false', Bool.not_eq_true, Bool.not_eq_false, Bool.not_true, Bool.not_false, Int.not_lt, Int.not_le, not_or, not_and, Classical.not_not] at h17
      refine T_seq ?_
      refine T_region ?_
      refine S_ 18 rfl rfl rfl _ (y_move rfl rfl) ?_
      refine S_ 2 rfl rfl rfl _ (y_assign rfl rfl) ?_
      refine S_go (fun _ _ h => h) ?_
      refine T_ret (fun a w hF hM => hRb a w (post1 rfl rfl (fun w hM => ?_) a w hF hM))
      exact ⟨by rw [evNo, fst_f h11, fst_t h17], hM.below⟩
    · try simp only [decide_eq_true_eq, decide_eq_false_iff_not, Bool.or_eq_true, Bool.or_eq_false_iff, Bool.and_eq_true, Bool.and_eq_false_iff, Bool.not_eq_true', Bool.not_eq_false', Bool.not_eq_true, Bool.not_eq_false, Bool.not_true, Bool.not_false, Int.not_lt, Int.not_le, not_or, not_and, Classical.not_not] at h17
      refine T_skip_go (fun _ _ h => h) ?_
      refine T_seq ?_
      refine T_seq ?_
      refine T_region ?_
      refine S_ 19 rfl rfl rfl _ (y_fieldAddr rfl rfl fa29_4) ?_
      refine S_ 20 rfl rfl rfl _ (y_load 1 rfl rfl rfl rfl Tryz.underlying26 rfl) ?_
      refine S_ 21 rfl rfl rfl _ (y_call rfl rfl rfl cf115 (fun _ w hM => checkTags_any e.ta w (he.ta.below hM.below))) ?_
      refine S_ 5 rfl rfl rfl _ (y_assign rfl rfl) ?_
      refine S_go (fun _ _ h => h) ?_
      refine T_seq ?_
      refine T_region ?_
      refine S_ 22 rfl rfl rfl _ (y_move rfl rfl) ?_
      refine S_ 23 rfl rfl rfl _ (y_bin rfl rfl rfl (fun _ => b_neq)) ?_
      refine S_go (fun _ _ h => h) ?_
      refine T_cond rfl (fun h23 => ?_) (fun h23 => ?_)
      · try simp only [decide_eq_true_eq, decide_eq_false_iff_not, Bool.or_eq_true, Bool.or_eq_false_iff, Bool.and_eq_true, Bool.and_eq_false_iff, Bool.not_eq_true', Bool.not_eq_false', Bool.not_eq_true, Bool.not_eq_false, Bool.not_true, Bool.not_false, Int.not_lt, Int.not_le, not_or, not_and, Classical.not_not] at h23
        refine T_seq ?_
        refine T_region ?_
        refine S_ 24 rfl rfl rfl _ (y_move rfl rfl) ?_
        refine S_ 2 rfl rfl rfl _ (y_assign rfl rfl) ?_
        refine S_go (fun _ _ h => h) ?_
        refine T_ret (fun a w hF hM => hRb a w (post1 rfl rfl (fun w hM => ?_) a w hF hM))
        exact ⟨by rw [evNo, fst_f h11, fst_f h17, fst_t h23], hM.below⟩
      · try simp only [decide_eq_true_eq, decide_eq_false_iff_not, Bool.or_eq_true, Bool.or_eq_false_iff, Bool.and_eq_true, Bool.and_eq_false_iff, Bool.not_eq_true', Bool.not_eq_false', Bool.not_eq_true, Bool.not_eq_false, Bool.not_true, Bool.not_false, Int.not_lt, Int.not_le, not_or, not_and, Classical.not_not] at h23
        refine T_skip_go (fun _ _ h => h) ?_
        refine T_seq ?_
        refine T_seq ?_
        refine T_region ?_
        refine S_ 25 rfl rfl rfl _ (y_fieldAddr rfl rfl fa29_5) ?_
        refine S_ 26 rfl rfl rfl _ (y_load 1 rfl rfl rfl rfl Tryz.underlying27 rfl) ?_
        refine S_ 27 rfl rfl rfl _ (y_call rfl rfl rfl cf116 (fun _ w hM => checkCrumbs_any e.cr w (he.cr.below hM.below))) ?_
        refine S_ 6 rfl rfl rfl _ (y_assign rfl rfl) ?_
        refine S_go (fun _ _ h => h) ?_
        refine T_seq ?_
        refine T_region ?_
        refine S_ 28 rfl rfl rfl _ (y_move rfl rfl) ?_
        refine S_ 29 rfl rfl rfl _ (y_bin rfl rfl rfl (fun _ => b_neq)) ?_
        refine S_go (fun _ _ h => h) ?_
        refine T_cond rfl (fun h29 => ?_) (fun h29 => ?_)
        · try simp only [decide_eq_true_eq, decide_eq_false_iff_not, Bool.or_eq_true, Bool.or_eq_false_iff, Bool.and_eq_true, Bool.and_eq_false_iff, Bool.not_eq_true', Bool.not_eq_false', Bool.not_eq_true, Bool.not_eq_false, Bool.not_true, Bool.not_false, Int.not_lt, Int.not_le, not_or, not_and, Classical.not_not] at h29
          refine T_seq ?_
          refine T_region ?_
          refine S_ 30 rfl rfl rfl _ (y_move rfl rfl) ?_
          refine S_ 2 rfl rfl rfl _ (y_assign rfl rfl) ?_
          refine S_go (fun _ _ h => h) ?_
          refine T_ret (fun a w hF hM => hRb a w (post1 rfl rfl (fun w hM => ?_) a w hF hM))
          exact ⟨by rw [evNo, fst_f h11, fst_f h17, fst_f h23, fst_t h29], hM.below⟩
        · try simp only [decide_eq_true_eq, decide_eq_false_iff_not, Bool.or_eq_true, Bool.or_eq_false_iff, Bool.and_eq_true, Bool.and_eq_false_iff, Bool.not_eq_true', Bool.not_eq_false', Bool.not_eq_true, Bool.not_eq_false, Bool.not_true, Bool.not_false, Int.not_lt, Int.not_le, not_or, not_and, Classical.not_not] at h29
          refine T_skip_go (fun _ _ h => h) ?_
          refine T_seq ?_
          refine T_seq ?_
          refine T_region ?_
          refine S_ 31 rfl rfl rfl _ (y_fieldAddr rfl rfl fa29_6) ?_
          refine S_ 32 rfl rfl rfl _ (y_load 1 rfl rfl rfl rfl Tryz.underlying9 rfl) ?_
          refine S_ 33 rfl rfl rfl _ (y_bin rfl rfl rfl (fun _ => b_neqs)) ?_
          refine S_ 34 rfl rfl rfl _ (y_move rfl rfl) ?_
          refine Sg_ 35 rfl rfl rfl rfl rfl rfl _ (y_fieldAddr rfl rfl fa29_6) ?_
          refine Sg_ 36 rfl rfl rfl rfl rfl rfl _ (y_load 1 rfl rfl rfl rfl Tryz.underlying9 rfl) ?_
          refine Sg_ 37 rfl rfl rfl rfl rfl rfl _ (y_call rfl rfl rfl cf100 (fun _ w _ => IsName_any _ w)) ?_
          refine Sg_ 38 rfl rfl rfl rfl rfl rfl _ (y_not rfl rfl) ?_
          refine S_ 39 rfl rfl rfl _ (y_and rfl rfl rfl) ?_
          refine S_go (fun _ _ h => h) ?_
          refine T_cond rfl (fun h39 => ?_) (fun h39 => ?_)
          · skip
            refine T_seq ?_
            refine T_region ?_
            refine S_ 2 rfl rfl rfl _ (y_assign rfl rfl) ?_
            refine S_go (fun _ _ h => h) ?_
            refine T_ret (fun a w hF hM => hRb a w (post1 rfl rfl (fun w hM => ?_) a w hF hM))
            exact ⟨by rw [evNo, fst_f h11, fst_f h17, fst_f h23, fst_f h29, if_t h39], hM.below⟩
          · skip
            refine T_skip_go (fun _ _ h => h) ?_
            refine T_seq ?_
            refine T_seq ?_
            refine T_region ?_
            refine S_ 40 rfl rfl rfl _ (y_fieldAddr rfl rfl fa29_7) ?_
            refine S_ 41 rfl rfl rfl _ (y_load 1 rfl rfl rfl rfl Tryz.underlying9 rfl) ?_
            refine S_ 42 rfl rfl rfl _ (y_call rfl rfl rfl cf117 (fun _ w _ => checkValue_any _ (by first | omega | (simp; done) | (simp; omega) | (simp only; omega)) w)) ?_
            refine S_ 7 rfl rfl rfl _ (y_assign rfl rfl) ?_
            refine S_go (fun _ _ h => h) ?_
            refine T_seq ?_
            refine T_region ?_
            refine S_ 43 rfl rfl rfl _ (y_move rfl rfl) ?_
            refine S_ 44 rfl rfl rfl _ (y_bin rfl rfl rfl (fun _ => b_neq)) ?_
            refine S_go (fun _ _ h => h) ?_
            refine T_cond rfl (fun h44 => ?_) (fun h44 => ?_)
            · try simp only [decide_eq_true_eq, decide_eq_false_iff_not, Bool.or_eq_true, Bool.or_eq_false_iff, Bool.and_eq_true, Bool.and_eq_false_iff, Bool.not_eq_true', Bool.not_eq_false', Bool.not_eq_true, Bool.not_eq_false, Bool.not_true, Bool.not_false, Int.not_lt, Int.not_le, not_or, not_and, Classical.not_not] at h44
              refine T_seq ?_
              refine T_region ?_
              refine S_ 45 rfl rfl rfl _ (y_move rfl rfl) ?_
              refine S_ 2 rfl rfl rfl _ (y_assign rfl rfl) ?_
              refine S_go (fun _ _ h => h) ?_
              refine T_ret (fun a w hF hM => hRb a w (post1 rfl rfl (fun w hM => ?_) a w hF hM))
              exact ⟨by rw [evNo, fst_f h11, fst_f h17, fst_f h23, fst_f h29, if_f h39, fst_t h44], hM.below⟩
            · try simp only [decide_eq_true_eq, decide_eq_false_iff_not, Bool.or_eq_true, Bool.or_eq_false_iff, Bool.and_eq_true, Bool.and_eq_false_iff, Bool.not_eq_true', Bool.not_eq_false', Bool.not_eq_true, Bool.not_eq_false, Bool.not_true, Bool.not_false, Int.not_lt, Int.not_le, not_or, not_and, Classical.not_not] at h44
              refine T_skip_go (fun _ _ h => h) ?_
              refine T_seq ?_
              refine T_seq ?_
              refine T_region ?_
              refine S_ 46 rfl rfl rfl _ (y_fieldAddr rfl rfl fa29_8) ?_
              refine S_ 47 rfl rfl rfl _ (y_load 1 rfl rfl rfl rfl Tryz.underlying3 rfl) ?_
              refine S_ 48 rfl rfl rfl _ (y_call rfl rfl rfl cf118 (fun _ w _ => eoutside_any _ _ _ w)) ?_
              refine S_go (fun _ _ h => h) ?_
              refine T_cond rfl (fun h48 => ?_) (fun h48 => ?_)
              · skip
                refine T_seq ?_
                refine T_region ?_
                refine S_ 2 rfl rfl rfl _ (y_assign rfl rfl) ?_
                refine S_go (fun _ _ h => h) ?_
                refine T_ret (fun a w hF hM => hRb a w (post1 rfl rfl (fun w hM => ?_) a w hF hM))
                exact ⟨by rw [evNo, fst_f h11, fst_f h17, fst_f h23, fst_f h29, if_f h39, fst_f h44, if_t h48], hM.below⟩
              · skip
                refine T_skip_go (fun _ _ h => h) ?_
                refine T_seq ?_
                refine T_region ?_
                refine S_ 2 rfl rfl rfl _ (y_assign rfl rfl) ?_
                refine S_go (fun _ _ h => h) ?_
                refine T_ret (fun a w hF hM => hRb a w (post1 rfl rfl (fun w hM => ?_) a w hF hM))
                exact ⟨by rw [evNo, fst_f h11, fst_f h17, fst_f h23, fst_f h29, if_f h39, fst_f h44, if_f h48], hM.below⟩
theorem EventFault_any (e : Evt) (w : World) (he : e.Ok w) :
    Calls Tryz.prog 9 #[e.val] w fun en w' => en = .returned (.int .i64 (evNo e)) ∧ Below w.heap.size w w' := by
  have hus := he.us
  have ht := he.ta.ok.t
  have hq := he.ta.q
  have hu := he.cr.ok.t
  have hr := he.cr.q
  refine enter_args (args := [.agg #[str e.id, .int .i64 e.at_, .int .i64 e.lv, .slice e.fa.A e.fa.q e.fa.c, .slice e.ta.A e.ta.q e.ta.c, .slice e.cr.A e.cr.q e.cr.c, str e.rel, str e.us, .int .i64 e.wt]]) (F := _) Tryz.func9 rfl Tryz.ntmps9 rfl rfl ?_
  intro Rb hRb hRn
  refine T_seq ?_
  refine T_region ?_
  refine S_box 1 1 rfl rfl rfl rfl rfl ?_
  intro b1
  refine S_ 2 rfl rfl rfl _ (y_assign rfl rfl) ?_
  refine S_go (fun _ _ h => h) ?_
  refine T_seq ?_
  refine T_seq ?_
  refine T_region ?_
  refine S_ 12 rfl rfl rfl _ (y_loadA 1 rfl rfl rfl Tryz.underlying29 rfl sz29) ?_
  refine S_ 13 rfl rfl rfl _ (y_call rfl rfl rfl cf49 (fun _ w _ => HeadFault_any e w)) ?_
  refine S_ 3 rfl rfl rfl _ (y_assign rfl rfl) ?_
  refine S_go (fun _ _ h => h) ?_
  refine T_seq ?_
  refine T_region ?_
  refine S_ 14 rfl rfl rfl _ (y_move rfl rfl) ?_
  refine S_ 15 rfl rfl rfl _ (y_bin rfl rfl rfl (fun _ => b_neq)) ?_
  refine S_go (fun _ _ h => h) ?_
  refine T_cond rfl (fun h15 => ?_) (fun h15 => ?_)
  · try simp only [decide_eq_true_eq, decide_eq_false_iff_not, Bool.or_eq_true, Bool.or_eq_false_iff, Bool.and_eq_true, Bool.and_eq_false_iff, Bool.not_eq_true', Bool.not_eq_false', Bool.not_eq_true, Bool.not_eq_false, Bool.not_true, Bool.not_false, Int.not_lt, Int.not_le, not_or, not_and, Classical.not_not] at h15
    refine T_seq ?_
    refine T_region ?_
    refine S_ 16 rfl rfl rfl _ (y_move rfl rfl) ?_
    refine S_ 2 rfl rfl rfl _ (y_assign rfl rfl) ?_
    refine S_go (fun _ _ h => h) ?_
    refine T_ret (fun a w hF hM => hRb a w (post1 rfl rfl (fun w hM => ?_) a w hF hM))
    exact ⟨by rw [evNo, fst_t h15], hM.below⟩
  · try simp only [decide_eq_true_eq, decide_eq_false_iff_not, Bool.or_eq_true, Bool.or_eq_false_iff, Bool.and_eq_true, Bool.and_eq_false_iff, Bool.not_eq_true', Bool.not_eq_false', Bool.not_eq_true, Bool.not_eq_false, Bool.not_true, Bool.not_false, Int.not_lt, Int.not_le, not_or, not_and, Classical.not_not] at h15
    refine T_skip_go (fun _ _ h => h) ?_
    refine T_seq ?_
    refine T_seq ?_
    refine T_region ?_
    refine S_ 17 rfl rfl rfl _ (y_fieldAddr rfl rfl fa29_3) ?_
    refine S_ 18 rfl rfl rfl _ (y_load 1 rfl rfl rfl rfl Tryz.underlying25 rfl) ?_
    refine S_ 19 rfl rfl rfl _ (y_call rfl rfl rfl cf50 (fun _ w hM => FaultsFault_any e.fa w (he.fa.below hM.below))) ?_
    refine S_ 4 rfl rfl rfl _ (y_assign rfl rfl) ?_
    refine S_go (fun _ _ h => h) ?_
    refine T_seq ?_
    refine T_region ?_
    refine S_ 20 rfl rfl rfl _ (y_move rfl rfl) ?_
    refine S_ 21 rfl rfl rfl _ (y_bin rfl rfl rfl (fun _ => b_neq)) ?_
    refine S_go (fun _ _ h => h) ?_
    refine T_cond rfl (fun h21 => ?_) (fun h21 => ?_)
    · try simp only [decide_eq_true_eq, decide_eq_false_iff_not, Bool.or_eq_true, Bool.or_eq_false_iff, Bool.and_eq_true, Bool.and_eq_false_iff, Bool.not_eq_true', Bool.not_eq_false', Bool.not_eq_true, Bool.not_eq_false, Bool.not_true, Bool.not_false, Int.not_lt, Int.not_le, not_or, not_and, Classical.not_not] at h21
      refine T_seq ?_
      refine T_region ?_
      refine S_ 22 rfl rfl rfl _ (y_move rfl rfl) ?_
      refine S_ 2 rfl rfl rfl _ (y_assign rfl rfl) ?_
      refine S_go (fun _ _ h => h) ?_
      refine T_ret (fun a w hF hM => hRb a w (post1 rfl rfl (fun w hM => ?_) a w hF hM))
      exact ⟨by rw [evNo, fst_f h15, fst_t h21], hM.below⟩
    · try simp only [decide_eq_true_eq, decide_eq_false_iff_not, Bool.or_eq_true, Bool.or_eq_false_iff, Bool.and_eq_true, Bool.and_eq_false_iff, Bool.not_eq_true', Bool.not_eq_false', Bool.not_eq_true, Bool.not_eq_false, Bool.not_true, Bool.not_false, Int.not_lt, Int.not_le, not_or, not_and, Classical.not_not] at h21
      refine T_skip_go (fun _ _ h => h) ?_
      refine T_seq ?_
      refine T_seq ?_
      refine T_region ?_
      refine S_ 23 rfl rfl rfl _ (y_fieldAddr rfl rfl fa29_4) ?_
      refine S_ 24 rfl rfl rfl _ (y_load 1 rfl rfl rfl rfl Tryz.underlying26 rfl) ?_
      refine S_ 25 rfl rfl rfl _ (y_len_slice rfl rfl Tryz.underlying26) ?_
      refine S_ 26 rfl rfl rfl _ (y_bin rfl rfl rfl (fun _ => b_gtr)) ?_
      refine S_go (fun _ _ h => h) ?_
      refine T_cond rfl (fun h26 => ?_) (fun h26 => ?_)
      · try simp only [decide_eq_true_eq, decide_eq_false_iff_not, Bool.or_eq_true, Bool.or_eq_false_iff, Bool.and_eq_true, Bool.and_eq_false_iff, Bool.not_eq_true', Bool.not_eq_false', Bool.not_eq_true, Bool.not_eq_false, Bool.not_true, Bool.not_false, Int.not_lt, Int.not_le, not_or, not_and, Classical.not_not] at h26
        refine T_seq ?_
        refine T_region ?_
        refine S_ 2 rfl rfl rfl _ (y_assign rfl rfl) ?_
        refine S_go (fun _ _ h => h) ?_
        refine T_ret (fun a w hF hM => hRb a w (post1 rfl rfl (fun w hM => ?_) a w hF hM))
        exact ⟨by rw [evNo, fst_f h15, fst_f h21, if_pos (by omega), fst_t (by decide)], hM.below⟩
      · try simp only [decide_eq_true_eq, decide_eq_false_iff_not, Bool.or_eq_true, Bool.or_eq_false_iff, Bool.and_eq_true, Bool.and_eq_false_iff, Bool.not_eq_true', Bool.not_eq_false', Bool.not_eq_true, Bool.not_eq_false, Bool.not_true, Bool.not_false, Int.not_lt, Int.not_le, not_or, not_and, Classical.not_not] at h26
        refine T_skip_go (fun _ _ h => h) ?_
        refine T_seq ?_
        refine T_seq ?_
        refine T_region ?_
        refine S_ 27 rfl rfl rfl _ (y_fieldAddr rfl rfl fa29_4) ?_
        refine S_ 28 rfl rfl rfl _ (y_load 1 rfl rfl rfl rfl Tryz.underlying26 rfl) ?_
        refine S_ 29 rfl rfl rfl _ (y_len_slice rfl rfl Tryz.underlying26) ?_
        refine S_ 30 rfl rfl rfl _ (y_move rfl rfl) ?_
        refine S_go (fun _ _ h => h) ?_
        refine T_block ?_
        refine T_loopK2 (kf := [(2, 2), (5, 7), (30, 61)]) (kl := [(2, 2), (5, 7), (30, 61)]) (fun (i : Nat) (b : STag) => [(30, true, .int .i64 (i : Int))]) (fun (i : Nat) (b : STag) => []) (fun (i : Nat) (b : STag) => i ≤ e.ta.q ∧ tagsNo none e.ta.l = tagsNo (prevN i b) (e.ta.l.drop i) ∧ (0 < i → e.ta.l[i - 1]? = some b)) (fun (i : Nat) (b : STag) => e.ta.q - i) 0 ⟨[], []⟩ (by repeat (first | exact kf_nil | (apply kf_in; focus rfl) | (apply kf_out; focus rfl))) (by repeat (first | exact kl_nil | exact kl_rest (by assumption) rfl | (apply kl_in; focus rfl) | (apply kl_out; focus rfl))) ?_ ?_ ?_ ?_
        · exact ⟨by omega, rfl, by omega⟩
        · exact ⟨rfl, trivial⟩
        · exact trivial
        rintro i b ⟨hp1, hp2, hp3⟩
        refine T_seq ?_
        refine T_region ?_
        refine S_ 31 rfl rfl rfl _ (y_bin rfl rfl rfl (fun _ => b_lss)) ?_
        refine S_go (fun _ _ h => h) ?_
        refine T_seq ?_
        refine T_cond rfl (fun h31 => ?_) (fun h31 => ?_)
        · try simp only [decide_eq_true_eq, decide_eq_false_iff_not, Bool.or_eq_true, Bool.or_eq_false_iff, Bool.and_eq_true, Bool.and_eq_false_iff, Bool.not_eq_true', Bool.not_eq_false', Bool.not_eq_true, Bool.not_eq_false, Bool.not_true, Bool.not_false, Int.not_lt, Int.not_le, not_or, not_and, Classical.not_not] at h31
          obtain ⟨x, hx1, hx2⟩ := ht.at (i := i) (by omega)
          have hn := he.ta.n x (mem_at hx1)
          have hn2 := hn.2
          refine T_skip_go (fun _ _ h => h) ?_
          refine T_seq ?_
          refine T_block ?_
          refine T_seq ?_
          refine T_region ?_
          refine S_ 32 rfl rfl rfl _ (y_move rfl rfl) ?_
          refine S_ 33 rfl rfl rfl _ (y_indexAddr rfl rfl rfl Tryz.underlying26 sz104 (fun hg => ht.isSome (by omega)) (fun _ => by omega)) ?_
          refine S_ 34 rfl rfl rfl _ (y_loadT rfl rfl ht (fun _ => rfl) (fun _ => hx1) Tryz.underlying104 rfl sz104) ?_
          refine S_alloc 6 6 rfl rfl rfl rfl z104 ?_
          intro b6
          refine S_ 5 rfl rfl rfl _ (y_assign rfl rfl) ?_
          refine S_store 6 rfl rfl rfl rfl rfl rfl sz104 rfl rfl ?_
          refine S_go (fun _ _ h => h) ?_
          refine T_seq ?_
          refine T_block ?_
          refine T_seq ?_
          refine T_region ?_
          refine S_ 36 rfl rfl rfl _ (y_fieldAddr rfl rfl fa104_0) ?_
          refine S_ 37 rfl rfl rfl _ (y_load 6 rfl rfl rfl rfl Tryz.underlying9 rfl) ?_
          refine S_ 38 rfl rfl rfl _ (y_call rfl rfl rfl cf51 (fun _ w _ => NameOk_any _ w)) ?_
          refine S_ 39 rfl rfl rfl _ (y_not rfl rfl) ?_
          refine S_ 35 rfl rfl rfl _ (y_assign rfl rfl) ?_
          refine S_go (fun _ _ h => h) ?_
          refine T_cond rfl (fun h35 => ?_) (fun h35 => ?_)
          · try simp only [decide_eq_true_eq, decide_eq_false_iff_not, Bool.or_eq_true, Bool.or_eq_false_iff, Bool.and_eq_true, Bool.and_eq_false_iff, Bool.not_eq_true', Bool.not_eq_false', Bool.not_eq_true, Bool.not_eq_false, Bool.not_true, Bool.not_false, Int.not_lt, Int.not_le, not_or, not_and, Classical.not_not] at h35
            refine T_seq ?_
            refine T_region ?_
            refine S_ 2 rfl rfl rfl _ (y_assign rfl rfl) ?_
            refine S_go (fun _ _ h => h) ?_
            refine T_ret (fun a w hF hM => hRb a w (post1 rfl rfl (fun w hM => ?_) a w hF hM))
            exact ⟨by rw [evNo, fst_f h15, fst_f h21, if_neg (by omega), hp2, hx2, tagsNo, if_pos h35, fst_t (by decide)], hM.below⟩
          · try simp only [decide_eq_true_eq, decide_eq_false_iff_not, Bool.or_eq_true, Bool.or_eq_false_iff, Bool.and_eq_true, Bool.and_eq_false_iff, Bool.not_eq_true', Bool.not_eq_false', Bool.not_eq_true, Bool.not_eq_false, Bool.not_true, Bool.not_false, Int.not_lt, Int.not_le, not_or, not_and, Classical.not_not] at h35
            refine T_seq ?_
            refine T_draws (by kernel_rfl) (by kernel_rfl) ?_
            refine D_ 41 rfl rfl rfl _ (y_move rfl rfl) ?_
            refine D_ 42 rfl rfl rfl _ (y_bin rfl rfl rfl (fun _ => b_gtr)) ?_
            refine D_ 43 rfl rfl rfl _ (y_move rfl rfl) ?_
            refine Dg_ 44 rfl rfl rfl rfl rfl rfl _ (y_fieldAddr rfl rfl fa104_0) ?_
            refine Dg_ 45 rfl rfl rfl rfl rfl rfl _ (y_load 6 rfl rfl rfl rfl Tryz.underlying9 rfl) ?_
            refine Dg_ 46 rfl rfl rfl rfl rfl rfl _ (y_fieldAddr rfl rfl fa29_4) ?_
            refine Dg_ 47 rfl rfl rfl rfl rfl rfl _ (y_load 1 rfl rfl rfl rfl Tryz.underlying26 rfl) ?_
            refine Dg_ 48 rfl rfl rfl rfl rfl rfl _ (y_move rfl rfl) ?_
            refine Dg_ 49 rfl rfl rfl rfl rfl rfl _ (y_bin rfl rfl rfl (fun hg => b_subv (((i - 1 : Nat) : Int)) (by simp only [Bool.true_and, Bool.and_eq_true, beq_iff_eq, decide_eq_true_eq, decide_eq_false_iff_not, Int.not_lt, Int.not_le] at hg; omega) (by simp only [Bool.true_and, Bool.and_eq_true, beq_iff_eq, decide_eq_true_eq, decide_eq_false_iff_not, Int.not_lt, Int.not_le] at hg; omega))) ?_
            refine Dg_ 50 rfl rfl rfl rfl rfl rfl _ (y_indexAddr rfl rfl rfl Tryz.underlying26 sz104 (fun hg => ht.isSome (by simp only [Bool.true_and, Bool.and_eq_true, beq_iff_eq, decide_eq_true_eq, decide_eq_false_iff_not, Int.not_lt, Int.not_le] at hg; omega)) (fun hg => by simp only [Bool.true_and, Bool.and_eq_true, beq_iff_eq, decide_eq_true_eq, decide_eq_false_iff_not, Int.not_lt, Int.not_le] at hg; omega)) ?_
            refine Dg_ 51 rfl rfl rfl rfl rfl rfl _ (y_fieldEl rfl rfl ht.rd (fun hg => by simp only [Bool.true_and, Bool.and_eq_true, beq_iff_eq, decide_eq_true_eq, decide_eq_false_iff_not, Int.not_lt, Int.not_le] at hg; omega) fa104_0) ?_
            refine Dg_ 52 rfl rfl rfl rfl rfl rfl _ (y_load_fT rfl rfl ht (fun _ => rfl) (fun hg => hp3 (by simp only [Bool.true_and, Bool.and_eq_true, beq_iff_eq, decide_eq_true_eq, decide_eq_false_iff_not, Int.not_lt, Int.not_le] at hg; omega)) rfl Tryz.underlying9 rfl) ?_
            refine Dg_ 53 rfl rfl rfl rfl rfl rfl _ (y_bin rfl rfl rfl (fun _ => b_leqs)) ?_
            refine D_ 54 rfl rfl rfl _ (y_as (v' := .bool ((prevN i b).any fun s => Op.bytesLess x.n s || decide (x.n = s))) (by rw [prevN_any]) (y_and rfl rfl rfl)) ?_
            refine D_ 40 rfl rfl rfl _ (y_assign rfl rfl) ?_
            refine D_go (fun _ _ h => h) ?_
            refine T_cond rfl (fun h40 => ?_) (fun h40 => ?_)
            · skip
              refine T_seq ?_
              refine T_region ?_
              refine S_ 2 rfl rfl rfl _ (y_assign rfl rfl) ?_
              refine S_go (fun _ _ h => h) ?_
              refine T_ret (fun a w hF hM => hRb a w (post1 rfl rfl (fun w hM => ?_) a w hF hM))
              exact ⟨by rw [evNo, fst_f h15, fst_f h21, if_neg (by omega), hp2, hx2, tagsNo, if_neg (by rw [h35]; simp), if_t h40, fst_t (by decide)], hM.below⟩
            · skip
              refine T_skip_go (fun _ _ h => h) ?_
              refine T_seq ?_
              refine T_region ?_
              refine S_ 55 rfl rfl rfl _ (y_fieldAddr rfl rfl fa104_1) ?_
              refine S_ 56 rfl rfl rfl _ (y_load 6 rfl rfl rfl rfl Tryz.underlying9 rfl) ?_
              refine S_ 57 rfl rfl rfl _ (y_call rfl rfl rfl cf52 (fun _ w _ => wordFault_any _ (by first | omega | (simp; done) | (simp; omega) | (simp only; omega)) w)) ?_
              refine S_ 7 rfl rfl rfl _ (y_assign rfl rfl) ?_
              refine S_go (fun _ _ h => h) ?_
              refine T_seq ?_
              refine T_region ?_
              refine S_ 58 rfl rfl rfl _ (y_move rfl rfl) ?_
              refine S_ 59 rfl rfl rfl _ (y_bin rfl rfl rfl (fun _ => b_neq)) ?_
              refine S_go (fun _ _ h => h) ?_
              refine T_cond rfl (fun h59 => ?_) (fun h59 => ?_)
              · try simp only [decide_eq_true_eq, decide_eq_false_iff_not, Bool.or_eq_true, Bool.or_eq_false_iff, Bool.and_eq_true, Bool.and_eq_false_iff, Bool.not_eq_true', Bool.not_eq_false', Bool.not_eq_true, Bool.not_eq_false, Bool.not_true, Bool.not_false, Int.not_lt, Int.not_le, not_or, not_and, Classical.not_not] at h59
                refine T_seq ?_
                refine T_region ?_
                refine S_ 60 rfl rfl rfl _ (y_move rfl rfl) ?_
                refine S_ 2 rfl rfl rfl _ (y_assign rfl rfl) ?_
                refine S_go (fun _ _ h => h) ?_
                refine T_ret (fun a w hF hM => hRb a w (post1 rfl rfl (fun w hM => ?_) a w hF hM))
                exact ⟨by rw [evNo, fst_f h15, fst_f h21, if_neg (by omega), hp2, hx2, tagsNo, if_neg (by rw [h35]; simp), if_f h40, if_pos h59, fst_t h59], hM.below⟩
              · try simp only [decide_eq_true_eq, decide_eq_false_iff_not, Bool.or_eq_true, Bool.or_eq_false_iff, Bool.and_eq_true, Bool.and_eq_false_iff, Bool.not_eq_true', Bool.not_eq_false', Bool.not_eq_true, Bool.not_eq_false, Bool.not_true, Bool.not_false, Int.not_lt, Int.not_le, not_or, not_and, Classical.not_not] at h59
                refine T_skip_go (fun _ _ h => h) ?_
                refine T_region ?_
                refine S_ 61 rfl rfl rfl _ (y_bin rfl rfl rfl (fun hg => b_add (by omega))) ?_
                refine S_ 30 rfl rfl rfl _ (y_move rfl rfl) ?_
                refine S_nil (nextK2 (kf := [(2, 2), (5, 7), (30, 61)]) (kl := [(2, 2), (5, 7), (30, 61)]) (i + 1) x (by repeat (first | exact kf_nil | (apply kf_in; focus rfl) | (apply kf_out; focus rfl))) (by repeat (first | exact kl_nil | exact kl_rest (by assumption) rfl | (apply kl_in; focus rfl) | (apply kl_out; focus rfl))) ?_ ?_ ?_ ?_)
                · omega
                · exact ⟨by omega, by rw [hp2, hx2, tagsNo, if_neg (by rw [h35]; simp), if_f h40, if_neg (by simpa using h59)]; rfl, fun _ => hx1⟩
                · exact ⟨rfl, trivial⟩
                · exact trivial
        · try simp only [decide_eq_true_eq, decide_eq_false_iff_not, Bool.or_eq_true, Bool.or_eq_false_iff, Bool.and_eq_true, Bool.and_eq_false_iff, Bool.not_eq_true', Bool.not_eq_false', Bool.not_eq_true, Bool.not_eq_false, Bool.not_true, Bool.not_false, Int.not_lt, Int.not_le, not_or, not_and, Classical.not_not] at h31
          have h23 : (if (40 : Int) < e.ta.q then 4 else tagsNo none e.ta.l) = 0 := by rw [if_neg (by omega), hp2, ht.end (by omega), tagsNo_nil]
          refine T_exit_go (fun _ _ h => h) ?_
          refine T_seq ?_
          refine T_seq ?_
          refine T_region ?_
          refine S_ 62 rfl rfl rfl _ (y_fieldAddr rfl rfl fa29_5) ?_
          refine S_ 63 rfl rfl rfl _ (y_load 1 rfl rfl rfl rfl Tryz.underlying27 rfl) ?_
          refine S_ 64 rfl rfl rfl _ (y_len_slice rfl rfl Tryz.underlying27) ?_
          refine S_ 65 rfl rfl rfl _ (y_bin rfl rfl rfl (fun _ => b_gtr)) ?_
          refine S_go (fun _ _ h => h) ?_
          refine T_cond rfl (fun h65 => ?_) (fun h65 => ?_)
          · try simp only [decide_eq_true_eq, decide_eq_false_iff_not, Bool.or_eq_true, Bool.or_eq_false_iff, Bool.and_eq_true, Bool.and_eq_false_iff, Bool.not_eq_true', Bool.not_eq_false', Bool.not_eq_true, Bool.not_eq_false, Bool.not_true, Bool.not_false, Int.not_lt, Int.not_le, not_or, not_and, Classical.not_not] at h65
            refine T_seq ?_
            refine T_region ?_
            refine S_ 2 rfl rfl rfl _ (y_assign rfl rfl) ?_
            refine S_go (fun _ _ h => h) ?_
            refine T_ret (fun a w hF hM => hRb a w (post1 rfl rfl (fun w hM => ?_) a w hF hM))
            exact ⟨by rw [evNo, fst_f h15, fst_f h21, fst_f h23, if_pos (by omega), fst_t (by decide)], hM.below⟩
          · try simp only [decide_eq_true_eq, decide_eq_false_iff_not, Bool.or_eq_true, Bool.or_eq_false_iff, Bool.and_eq_true, Bool.and_eq_false_iff, Bool.not_eq_true', Bool.not_eq_false', Bool.not_eq_true, Bool.not_eq_false, Bool.not_true, Bool.not_false, Int.not_lt, Int.not_le, not_or, not_and, Classical.not_not] at h65
            refine T_skip_go (fun _ _ h => h) ?_
            refine T_seq ?_
            refine T_seq ?_
            refine T_region ?_
            refine S_ 66 rfl rfl rfl _ (y_fieldAddr rfl rfl fa29_5) ?_
            refine S_ 67 rfl rfl rfl _ (y_load 1 rfl rfl rfl rfl Tryz.underlying27 rfl) ?_
            refine S_ 68 rfl rfl rfl _ (y_len_slice rfl rfl Tryz.underlying27) ?_
            refine S_ 69 rfl rfl rfl _ (y_move rfl rfl) ?_
            refine S_go (fun _ _ h => h) ?_
            refine T_block ?_
            refine T_loopK2 (kf := [(2, 2), (8, 10), (69, 104)]) (kl := [(2, 2), (8, 10), (69, 104)]) (fun (j : Nat) (d : SCrumb) => [(69, true, .int .i64 (j : Int))]) (fun (j : Nat) (d : SCrumb) => []) (fun (j : Nat) (d : SCrumb) => j ≤ e.cr.q ∧ crumbsNo none e.cr.l = crumbsNo (prevA j d) (e.cr.l.drop j) ∧ (0 < j → e.cr.l[j - 1]? = some d)) (fun (j : Nat) (d : SCrumb) => e.cr.q - j) 0 ⟨0, [], []⟩ (by repeat (first | exact kf_nil | (apply kf_in; focus rfl) | (apply kf_out; focus rfl))) (by repeat (first | exact kl_nil | exact kl_rest (by assumption) rfl | (apply kl_in; focus rfl) | (apply kl_out; focus rfl))) ?_ ?_ ?_ ?_
            · exact ⟨by omega, rfl, by omega⟩
            · exact ⟨rfl, trivial⟩
            · exact trivial
            rintro j d ⟨hq1, hq2, hq3⟩
            refine T_seq ?_
            refine T_region ?_
            refine S_ 70 rfl rfl rfl _ (y_bin rfl rfl rfl (fun _ => b_lss)) ?_
            refine S_go (fun _ _ h => h) ?_
            refine T_seq ?_
            refine T_cond rfl (fun h70 => ?_) (fun h70 => ?_)
            · try simp only [decide_eq_true_eq, decide_eq_false_iff_not, Bool.or_eq_true, Bool.or_eq_false_iff, Bool.and_eq_true, Bool.and_eq_false_iff, Bool.not_eq_true', Bool.not_eq_false', Bool.not_eq_true, Bool.not_eq_false, Bool.not_true, Bool.not_false, Int.not_lt, Int.not_le, not_or, not_and, Classical.not_not] at h70
              obtain ⟨y, hy1, hy2⟩ := hu.at (i := j) (by omega)
              have hm := he.cr.n y (mem_at hy1)
              have hm2 := hm.2
              refine T_skip_go (fun _ _ h => h) ?_
              refine T_seq ?_
              refine T_block ?_
              refine T_seq ?_
              refine T_region ?_
              refine S_ 71 rfl rfl rfl _ (y_move rfl rfl) ?_
              refine S_ 72 rfl rfl rfl _ (y_indexAddr rfl rfl rfl Tryz.underlying27 sz107 (fun hg => hu.isSome (by omega)) (fun _ => by omega)) ?_
              refine S_ 73 rfl rfl rfl _ (y_loadT rfl rfl hu (fun _ => rfl) (fun _ => hy1) Tryz.underlying107 rfl sz107) ?_
              refine S_alloc 9 9 rfl rfl rfl rfl z107 ?_
              intro b9
              refine S_ 8 rfl rfl rfl _ (y_assign rfl rfl) ?_
              refine S_store 9 rfl rfl rfl rfl rfl rfl sz107 rfl rfl ?_
              refine S_go (fun _ _ h => h) ?_
              refine T_seq ?_
              refine T_block ?_
              refine T_seq ?_
              refine T_region ?_
              refine S_ 75 rfl rfl rfl _ (y_fieldAddr rfl rfl fa107_0) ?_
              refine S_ 76 rfl rfl rfl _ (y_load 9 rfl rfl rfl rfl Tryz.underlying3 rfl) ?_
              refine S_ 77 rfl rfl rfl _ (y_call rfl rfl rfl cf53 (fun _ w _ => out_any _ _ _ w)) ?_
              refine S_ 74 rfl rfl rfl _ (y_assign rfl rfl) ?_
              refine S_go (fun _ _ h => h) ?_
              refine T_cond rfl (fun h74 => ?_) (fun h74 => ?_)
              · skip
                refine T_seq ?_
                refine T_region ?_
                refine S_ 2 rfl rfl rfl _ (y_assign rfl rfl) ?_
                refine S_go (fun _ _ h => h) ?_
                refine T_ret (fun a w hF hM => hRb a w (post1 rfl rfl (fun w hM => ?_) a w hF hM))
                exact ⟨by rw [evNo, fst_f h15, fst_f h21, fst_f h23, if_neg (by omega), hq2, hy2, crumbsNo, if_t h74, fst_t (by decide)], hM.below⟩
              · skip
                refine T_seq ?_
                refine T_draws (by kernel_rfl) (by kernel_rfl) ?_
                refine D_ 79 rfl rfl rfl _ (y_move rfl rfl) ?_
                refine D_ 80 rfl rfl rfl _ (y_bin rfl rfl rfl (fun _ => b_gtr)) ?_
                refine D_ 81 rfl rfl rfl _ (y_move rfl rfl) ?_
                refine Dg_ 82 rfl rfl rfl rfl rfl rfl _ (y_fieldAddr rfl rfl fa107_0) ?_
                refine Dg_ 83 rfl rfl rfl rfl rfl rfl _ (y_load 9 rfl rfl rfl rfl Tryz.underlying3 rfl) ?_
                refine Dg_ 84 rfl rfl rfl rfl rfl rfl _ (y_fieldAddr rfl rfl fa29_5) ?_
                refine Dg_ 85 rfl rfl rfl rfl rfl rfl _ (y_load 1 rfl rfl rfl rfl Tryz.underlying27 rfl) ?_
                refine Dg_ 86 rfl rfl rfl rfl rfl rfl _ (y_move rfl rfl) ?_
                refine Dg_ 87 rfl rfl rfl rfl rfl rfl _ (y_bin rfl rfl rfl (fun hg => b_subv (((j - 1 : Nat) : Int)) (by simp only [Bool.true_and, Bool.and_eq_true, beq_iff_eq, decide_eq_true_eq, decide_eq_false_iff_not, Int.not_lt, Int.not_le] at hg; omega) (by simp only [Bool.true_and, Bool.and_eq_true, beq_iff_eq, decide_eq_true_eq, decide_eq_false_iff_not, Int.not_lt, Int.not_le] at hg; omega))) ?_
                refine Dg_ 88 rfl rfl rfl rfl rfl rfl _ (y_indexAddr rfl rfl rfl Tryz.underlying27 sz107 (fun hg => hu.isSome (by simp only [Bool.true_and, Bool.and_eq_true, beq_iff_eq, decide_eq_true_eq, decide_eq_false_iff_not, Int.not_lt, Int.not_le] at hg; omega)) (fun hg => by simp only [Bool.true_and, Bool.and_eq_true, beq_iff_eq, decide_eq_true_eq, decide_eq_false_iff_not, Int.not_lt, Int.not_le] at hg; omega)) ?_
                refine Dg_ 89 rfl rfl rfl rfl rfl rfl _ (y_fieldEl rfl rfl hu.rd (fun hg => by simp only [Bool.true_and, Bool.and_eq_true, beq_iff_eq, decide_eq_true_eq, decide_eq_false_iff_not, Int.not_lt, Int.not_le] at hg; omega) fa107_0) ?_
                refine Dg_ 90 rfl rfl rfl rfl rfl rfl _ (y_load_fT rfl rfl hu (fun _ => rfl) (fun hg => hq3 (by simp only [Bool.true_and, Bool.and_eq_true, beq_iff_eq, decide_eq_true_eq, decide_eq_false_iff_not, Int.not_lt, Int.not_le] at hg; omega)) rfl Tryz.underlying3 rfl) ?_
                refine Dg_ 91 rfl rfl rfl rfl rfl rfl _ (y_bin rfl rfl rfl (fun _ => b_lss)) ?_
                refine D_ 92 rfl rfl rfl _ (y_as (v' := .bool ((prevA j d).any fun n => decide (y.at_ < n))) (by rw [prevA_any]) (y_and rfl rfl rfl)) ?_
                refine D_ 78 rfl rfl rfl _ (y_assign rfl rfl) ?_
                refine D_go (fun _ _ h => h) ?_
                refine T_cond rfl (fun h78 => ?_) (fun h78 => ?_)
                · skip
                  refine T_seq ?_
                  refine T_region ?_
                  refine S_ 2 rfl rfl rfl _ (y_assign rfl rfl) ?_
                  refine S_go (fun _ _ h => h) ?_
                  refine T_ret (fun a w hF hM => hRb a w (post1 rfl rfl (fun w hM => ?_) a w hF hM))
                  exact ⟨by rw [evNo, fst_f h15, fst_f h21, fst_f h23, if_neg (by omega), hq2, hy2, crumbsNo, if_f h74, if_t h78, fst_t (by decide)], hM.below⟩
                · skip
                  refine T_seq ?_
                  refine T_region ?_
                  refine S_ 94 rfl rfl rfl _ (y_fieldAddr rfl rfl fa107_1) ?_
                  refine S_ 95 rfl rfl rfl _ (y_load 9 rfl rfl rfl rfl Tryz.underlying9 rfl) ?_
                  refine S_ 96 rfl rfl rfl _ (y_call rfl rfl rfl cf51 (fun _ w _ => NameOk_any _ w)) ?_
                  refine S_ 97 rfl rfl rfl _ (y_not rfl rfl) ?_
                  refine S_ 93 rfl rfl rfl _ (y_assign rfl rfl) ?_
                  refine S_go (fun _ _ h => h) ?_
                  refine T_cond rfl (fun h93 => ?_) (fun h93 => ?_)
                  · try simp only [decide_eq_true_eq, decide_eq_false_iff_not, Bool.or_eq_true, Bool.or_eq_false_iff, Bool.and_eq_true, Bool.and_eq_false_iff, Bool.not_eq_true', Bool.not_eq_false', Bool.not_eq_true, Bool.not_eq_false, Bool.not_true, Bool.not_false, Int.not_lt, Int.not_le, not_or, not_and, Classical.not_not] at h93
                    refine T_seq ?_
                    refine T_region ?_
                    refine S_ 2 rfl rfl rfl _ (y_assign rfl rfl) ?_
                    refine S_go (fun _ _ h => h) ?_
                    refine T_ret (fun a w hF hM => hRb a w (post1 rfl rfl (fun w hM => ?_) a w hF hM))
                    exact ⟨by rw [evNo, fst_f h15, fst_f h21, fst_f h23, if_neg (by omega), hq2, hy2, crumbsNo, if_f h74, if_f h78, if_pos h93, fst_t (by decide)], hM.below⟩
                  · try simp only [decide_eq_true_eq, decide_eq_false_iff_not, Bool.or_eq_true, Bool.or_eq_false_iff, Bool.and_eq_true, Bool.and_eq_false_iff, Bool.not_eq_true', Bool.not_eq_false', Bool.not_eq_true, Bool.not_eq_false, Bool.not_true, Bool.not_false, Int.not_lt, Int.not_le, not_or, not_and, Classical.not_not] at h93
                    refine T_skip_go (fun _ _ h => h) ?_
                    refine T_seq ?_
                    refine T_region ?_
                    refine S_ 98 rfl rfl rfl _ (y_fieldAddr rfl rfl fa107_2) ?_
                    refine S_ 99 rfl rfl rfl _ (y_load 9 rfl rfl rfl rfl Tryz.underlying9 rfl) ?_
                    refine S_ 100 rfl rfl rfl _ (y_call rfl rfl rfl cf54 (fun _ w _ => sayFault_any _ (by first | omega | (simp; done) | (simp; omega) | (simp only; omega)) w)) ?_
                    refine S_ 10 rfl rfl rfl _ (y_assign rfl rfl) ?_
                    refine S_go (fun _ _ h => h) ?_
                    refine T_seq ?_
                    refine T_region ?_
                    refine S_ 101 rfl rfl rfl _ (y_move rfl rfl) ?_
                    refine S_ 102 rfl rfl rfl _ (y_bin rfl rfl rfl (fun _ => b_neq)) ?_
                    refine S_go (fun _ _ h => h) ?_
                    refine T_cond rfl (fun h102 => ?_) (fun h102 => ?_)
                    · try simp only [decide_eq_true_eq, decide_eq_false_iff_not, Bool.or_eq_true, Bool.or_eq_false_iff, Bool.and_eq_true, Bool.and_eq_false_iff, Bool.not_eq_true', Bool.not_eq_false', Bool.not_eq_true, Bool.not_eq_false, Bool.not_true, Bool.not_false, Int.not_lt, Int.not_le, not_or, not_and, Classical.not_not] at h102
                      refine T_seq ?_
                      refine T_region ?_
                      refine S_ 103 rfl rfl rfl _ (y_move rfl rfl) ?_
                      refine S_ 2 rfl rfl rfl _ (y_assign rfl rfl) ?_
                      refine S_go (fun _ _ h => h) ?_
                      refine T_ret (fun a w hF hM => hRb a w (post1 rfl rfl (fun w hM => ?_) a w hF hM))
                      exact ⟨by rw [evNo, fst_f h15, fst_f h21, fst_f h23, if_neg (by omega), hq2, hy2, crumbsNo, if_f h74, if_f h78, if_neg (by rw [h93]; simp), if_pos h102, fst_t h102], hM.below⟩
                    · try simp only [decide_eq_true_eq, decide_eq_false_iff_not, Bool.or_eq_true, Bool.or_eq_false_iff, Bool.and_eq_true, Bool.and_eq_false_iff, Bool.not_eq_true', Bool.not_eq_false', Bool.not_eq_true, Bool.not_eq_false, Bool.not_true, Bool.not_false, Int.not_lt, Int.not_le, not_or, not_and, Classical.not_not] at h102
                      refine T_skip_go (fun _ _ h => h) ?_
                      refine T_region ?_
                      refine S_ 104 rfl rfl rfl _ (y_bin rfl rfl rfl (fun hg => b_add (by omega))) ?_
                      refine S_ 69 rfl rfl rfl _ (y_move rfl rfl) ?_
                      refine S_nil (nextK2 (kf := [(2, 2), (8, 10), (69, 104)]) (kl := [(2, 2), (8, 10), (69, 104)]) (j + 1) y (by repeat (first | exact kf_nil | (apply kf_in; focus rfl) | (apply kf_out; focus rfl))) (by repeat (first | exact kl_nil | exact kl_rest (by assumption) rfl | (apply kl_in; focus rfl) | (apply kl_out; focus rfl))) ?_ ?_ ?_ ?_)
                      · omega
                      · exact ⟨by omega, by rw [hq2, hy2, crumbsNo, if_f h74, if_f h78, if_neg (by rw [h93]; simp), if_neg (by simpa using h102)]; rfl, fun _ => hy1⟩
                      · exact ⟨rfl, trivial⟩
                      · exact trivial
            · try simp only [decide_eq_true_eq, decide_eq_false_iff_not, Bool.or_eq_true, Bool.or_eq_false_iff, Bool.and_eq_true, Bool.and_eq_false_iff, Bool.not_eq_true', Bool.not_eq_false', Bool.not_eq_true, Bool.not_eq_false, Bool.not_true, Bool.not_false, Int.not_lt, Int.not_le, not_or, not_and, Classical.not_not] at h70
              have h29 : (if (50 : Int) < e.cr.q then 4 else crumbsNo none e.cr.l) = 0 := by rw [if_neg (by omega), hq2, hu.end (by omega), crumbsNo_nil]
              refine T_exit_go (fun _ _ h => h) ?_
              refine T_seq ?_
              refine T_seq ?_
              refine T_region ?_
              refine S_ 105 rfl rfl rfl _ (y_fieldAddr rfl rfl fa29_6) ?_
              refine S_ 106 rfl rfl rfl _ (y_load 1 rfl rfl rfl rfl Tryz.underlying9 rfl) ?_
              refine S_ 107 rfl rfl rfl _ (y_bin rfl rfl rfl (fun _ => b_neqs)) ?_
              refine S_ 108 rfl rfl rfl _ (y_move rfl rfl) ?_
              refine Sg_ 109 rfl rfl rfl rfl rfl rfl _ (y_fieldAddr rfl rfl fa29_6) ?_
              refine Sg_ 110 rfl rfl rfl rfl rfl rfl _ (y_load 1 rfl rfl rfl rfl Tryz.underlying9 rfl) ?_
              refine Sg_ 111 rfl rfl rfl rfl rfl rfl _ (y_call rfl rfl rfl cf51 (fun _ w _ => NameOk_any _ w)) ?_
              refine Sg_ 112 rfl rfl rfl rfl rfl rfl _ (y_not rfl rfl) ?_
              refine S_ 113 rfl rfl rfl _ (y_and rfl rfl rfl) ?_
              refine S_go (fun _ _ h => h) ?_
              refine T_cond rfl (fun h113 => ?_) (fun h113 => ?_)
              · skip
                refine T_seq ?_
                refine T_region ?_
                refine S_ 2 rfl rfl rfl _ (y_assign rfl rfl) ?_
                refine S_go (fun _ _ h => h) ?_
                refine T_ret (fun a w hF hM => hRb a w (post1 rfl rfl (fun w hM => ?_) a w hF hM))
                exact ⟨by rw [evNo, fst_f h15, fst_f h21, fst_f h23, fst_f h29, if_t h113], hM.below⟩
              · skip
                refine T_skip_go (fun _ _ h => h) ?_
                refine T_seq ?_
                refine T_seq ?_
                refine T_region ?_
                refine S_ 114 rfl rfl rfl _ (y_fieldAddr rfl rfl fa29_7) ?_
                refine S_ 115 rfl rfl rfl _ (y_load 1 rfl rfl rfl rfl Tryz.underlying9 rfl) ?_
                refine S_ 116 rfl rfl rfl _ (y_call rfl rfl rfl cf52 (fun _ w _ => wordFault_any _ (by first | omega | (simp; done) | (simp; omega) | (simp only; omega)) w)) ?_
                refine S_ 11 rfl rfl rfl _ (y_assign rfl rfl) ?_
                refine S_go (fun _ _ h => h) ?_
                refine T_seq ?_
                refine T_region ?_
                refine S_ 117 rfl rfl rfl _ (y_move rfl rfl) ?_
                refine S_ 118 rfl rfl rfl _ (y_bin rfl rfl rfl (fun _ => b_neq)) ?_
                refine S_go (fun _ _ h => h) ?_
                refine T_cond rfl (fun h118 => ?_) (fun h118 => ?_)
                · try simp only [decide_eq_true_eq, decide_eq_false_iff_not, Bool.or_eq_true, Bool.or_eq_false_iff, Bool.and_eq_true, Bool.and_eq_false_iff, Bool.not_eq_true', Bool.not_eq_false', Bool.not_eq_true, Bool.not_eq_false, Bool.not_true, Bool.not_false, Int.not_lt, Int.not_le, not_or, not_and, Classical.not_not] at h118
                  refine T_seq ?_
                  refine T_region ?_
                  refine S_ 119 rfl rfl rfl _ (y_move rfl rfl) ?_
                  refine S_ 2 rfl rfl rfl _ (y_assign rfl rfl) ?_
                  refine S_go (fun _ _ h => h) ?_
                  refine T_ret (fun a w hF hM => hRb a w (post1 rfl rfl (fun w hM => ?_) a w hF hM))
                  exact ⟨by rw [evNo, fst_f h15, fst_f h21, fst_f h23, fst_f h29, if_f h113, fst_t h118], hM.below⟩
                · try simp only [decide_eq_true_eq, decide_eq_false_iff_not, Bool.or_eq_true, Bool.or_eq_false_iff, Bool.and_eq_true, Bool.and_eq_false_iff, Bool.not_eq_true', Bool.not_eq_false', Bool.not_eq_true, Bool.not_eq_false, Bool.not_true, Bool.not_false, Int.not_lt, Int.not_le, not_or, not_and, Classical.not_not] at h118
                  refine T_skip_go (fun _ _ h => h) ?_
                  refine T_seq ?_
                  refine T_seq ?_
                  refine T_region ?_
                  refine S_ 120 rfl rfl rfl _ (y_fieldAddr rfl rfl fa29_8) ?_
                  refine S_ 121 rfl rfl rfl _ (y_load 1 rfl rfl rfl rfl Tryz.underlying3 rfl) ?_
                  refine S_ 122 rfl rfl rfl _ (y_call rfl rfl rfl cf53 (fun _ w _ => out_any _ _ _ w)) ?_
                  refine S_go (fun _ _ h => h) ?_
                  refine T_cond rfl (fun h122 => ?_) (fun h122 => ?_)
                  · skip
                    refine T_seq ?_
                    refine T_region ?_
                    refine S_ 2 rfl rfl rfl _ (y_assign rfl rfl) ?_
                    refine S_go (fun _ _ h => h) ?_
                    refine T_ret (fun a w hF hM => hRb a w (post1 rfl rfl (fun w hM => ?_) a w hF hM))
                    exact ⟨by rw [evNo, fst_f h15, fst_f h21, fst_f h23, fst_f h29, if_f h113, fst_f h118, if_t h122], hM.below⟩
                  · skip
                    refine T_skip_go (fun _ _ h => h) ?_
                    refine T_seq ?_
                    refine T_region ?_
                    refine S_ 2 rfl rfl rfl _ (y_assign rfl rfl) ?_
                    refine S_go (fun _ _ h => h) ?_
                    refine T_ret (fun a w hF hM => hRb a w (post1 rfl rfl (fun w hM => ?_) a w hF hM))
                    exact ⟨by rw [evNo, fst_f h15, fst_f h21, fst_f h23, fst_f h29, if_f h113, fst_f h118, if_f h122], hM.below⟩
end Go.Proofs.YtfmbgaaonfgenaaGreatDoor
