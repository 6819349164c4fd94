/- Events are checked: the program's Check and the reference's EventFault. Conditions: those of each theorem. -/
import Derived.Test.YtpmlgnbbkpplhaaDoorEv
import Derived.Test.YtpmlgnbbkpplhaaDoorOpsB
namespace Go.Proofs.YtpmlgnbbkpplhaaDoor
set_option linter.unusedSimpArgs false
set_option linter.unusedVariables false
set_option maxRecDepth 20000
open Go.RowKit Go.Eng
theorem TrimName_any (s : List UInt8) (hs : s.length ≤ 1000) (w : World) :
    Calls Tryd.prog 56 #[str s, str nameBs] w fun e w' => e = .returned (str (Lib.trimS s nameBs)) ∧ Below w.heap.size w w' :=
  Any.strings_Trim_laid Tryd.lays160 (by kernel_rfl) ⟨s.toArray⟩ ⟨nameBs.toArray⟩ w (by rw [Lib.size_eq]; simp; omega) (by decide) (ascii_of_all (by decide))
theorem isDigest_any (s : List UInt8) (w : World) :
    Calls Tryd.prog 49 #[str s] w fun e w' => e = .returned (.bool (idOk s)) ∧ Below w.heap.size w w' := by
  refine enter_args (args := [str s]) (F := _) Tryd.func49 rfl Tryd.ntmps49 rfl rfl ?_
  intro Rb hRb hRn
  refine T_seq ?_
  refine T_region ?_
  refine S_ 2 rfl rfl rfl _ (y_assign rfl rfl) ?_
  refine S_go (fun _ _ h => h) ?_
  refine T_seq ?_
  refine T_region ?_
  refine S_ 3 rfl rfl rfl _ (y_move rfl rfl) ?_
  refine S_ 4 rfl rfl rfl _ (y_len_str rfl rfl Tryd.underlying9) ?_
  refine S_ 5 rfl rfl rfl _ (y_bin rfl rfl rfl (fun _ => b_eql)) ?_
  refine S_ 6 rfl rfl rfl _ (y_move rfl rfl) ?_
  refine Sg_ 7 rfl rfl rfl rfl rfl rfl _ (y_move rfl rfl) ?_
  refine Sg_ 8 rfl rfl rfl rfl rfl rfl _ (y_call rfl rfl rfl cf56 (fun hg w _ => TrimHex_any s (by simp only [Bool.true_and, Bool.and_eq_true, beq_iff_eq, decide_eq_true_eq, decide_eq_false_iff_not, Int.not_lt, Int.not_le] at hg; omega) w)) ?_
  refine Sg_ 9 rfl rfl rfl rfl rfl rfl _ (y_bin rfl rfl rfl (fun _ => b_eqls)) ?_
  refine S_ 10 rfl rfl rfl _ (y_and rfl rfl rfl) ?_
  refine S_ 2 rfl rfl rfl _ (y_assign rfl rfl) ?_
  refine S_go (fun _ _ h => h) ?_
  refine T_ret (fun a w hF hM => hRb a w (post1 rfl rfl (fun w hM => ?_) a w hF hM))
  exact ⟨rfl, hM.below⟩
theorem eoutside_any (n lo hi : Int) (w : World) :
    Calls Tryd.prog 65 #[.int .i64 n, .int .i64 lo, .int .i64 hi] w fun e w' => e = .returned (.bool (decide (n < lo) || decide (hi < n))) ∧ Below w.heap.size w w' := by
  refine enter_args (args := [.int .i64 n, .int .i64 lo, .int .i64 hi]) (F := _) Tryd.func65 rfl Tryd.ntmps65 rfl rfl ?_
  intro Rb hRb hRn
  refine T_seq ?_
  refine T_region ?_
  refine S_ 6 rfl rfl rfl _ (y_assign rfl rfl) ?_
  refine S_go (fun _ _ h => h) ?_
  refine T_seq ?_
  refine T_region ?_
  refine S_ 7 rfl rfl rfl _ (y_move rfl rfl) ?_
  refine S_ 8 rfl rfl rfl _ (y_move rfl rfl) ?_
  refine S_ 9 rfl rfl rfl _ (y_bin rfl rfl rfl (fun _ => b_lss)) ?_
  refine S_ 10 rfl rfl rfl _ (y_move rfl rfl) ?_
  refine Sg_ 11 rfl rfl rfl rfl rfl rfl _ (y_move rfl rfl) ?_
  refine Sg_ 12 rfl rfl rfl rfl rfl rfl _ (y_move rfl rfl) ?_
  refine Sg_ 13 rfl rfl rfl rfl rfl rfl _ (y_bin rfl rfl rfl (fun _ => b_gtr)) ?_
  refine S_ 14 rfl rfl rfl _ (y_or rfl rfl rfl) ?_
  refine S_ 6 rfl rfl rfl _ (y_assign rfl rfl) ?_
  refine S_go (fun _ _ h => h) ?_
  refine T_ret (fun a w hF hM => hRb a w (post1 rfl rfl (fun w hM => ?_) a w hF hM))
  exact ⟨rfl, hM.below⟩
theorem IsName_any (s : List UInt8) (w : World) :
    Calls Tryd.prog 39 #[str s] w fun e w' => e = .returned (.bool (nameOk s)) ∧ Below w.heap.size w w' := by
  refine enter_args (args := [str s]) (F := _) Tryd.func39 rfl Tryd.ntmps39 rfl rfl ?_
  intro Rb hRb hRn
  refine T_seq ?_
  refine T_region ?_
  refine S_ 2 rfl rfl rfl _ (y_assign rfl rfl) ?_
  refine S_go (fun _ _ h => h) ?_
  refine T_seq ?_
  refine T_seq ?_
  refine T_region ?_
  refine S_ 3 rfl rfl rfl _ (y_move rfl rfl) ?_
  refine S_ 4 rfl rfl rfl _ (y_len_str rfl rfl Tryd.underlying9) ?_
  refine S_ 5 rfl rfl rfl _ (y_bin rfl rfl rfl (fun _ => b_lss)) ?_
  refine S_ 6 rfl rfl rfl _ (y_move rfl rfl) ?_
  refine Sg_ 7 rfl rfl rfl rfl rfl rfl _ (y_move rfl rfl) ?_
  refine Sg_ 8 rfl rfl rfl rfl rfl rfl _ (y_len_str rfl rfl Tryd.underlying9) ?_
  refine Sg_ 9 rfl rfl rfl rfl rfl rfl _ (y_bin rfl rfl rfl (fun _ => b_gtr)) ?_
  refine S_ 10 rfl rfl rfl _ (y_or rfl rfl rfl) ?_
  refine S_ 11 rfl rfl rfl _ (y_move rfl rfl) ?_
  refine Sg_ 12 rfl rfl rfl rfl rfl rfl _ (y_move rfl rfl) ?_
  refine Sg_ 13 rfl rfl rfl rfl rfl rfl _ (y_index_str (j := 0) rfl rfl rfl Tryd.underlying9 (fun hg => List.length_pos_iff.2 (fun e => by subst e; simp at hg))) ?_
  refine Sg_ 14 rfl rfl rfl rfl rfl rfl _ (y_bin rfl rfl rfl (fun _ => b_lss)) ?_
  refine S_ 15 rfl rfl rfl _ (y_or rfl rfl rfl) ?_
  refine S_ 16 rfl rfl rfl _ (y_move rfl rfl) ?_
  refine Sg_ 17 rfl rfl rfl rfl rfl rfl _ (y_move rfl rfl) ?_
  refine Sg_ 18 rfl rfl rfl rfl rfl rfl _ (y_index_str (j := 0) rfl rfl rfl Tryd.underlying9 (fun hg => List.length_pos_iff.2 (fun e => by subst e; simp at hg))) ?_
  refine Sg_ 19 rfl rfl rfl rfl rfl rfl _ (y_bin rfl rfl rfl (fun _ => b_gtr)) ?_
  refine S_ 20 rfl rfl rfl _ (y_or rfl rfl rfl) ?_
  refine S_go (fun _ _ h => h) ?_
  refine T_cond rfl (fun h20 => ?_) (fun h20 => ?_)
  · skip
    refine T_seq ?_
    refine T_region ?_
    refine S_ 2 rfl rfl rfl _ (y_assign rfl rfl) ?_
    refine S_go (fun _ _ h => h) ?_
    refine T_ret (fun a w hF hM => hRb a w (post1 rfl rfl (fun w hM => ?_) a w hF hM))
    exact ⟨by rw [name_t h20], hM.below⟩
  · skip
    have hn := name_f h20
    have hl := hn.1
    refine T_skip_go (fun _ _ h => h) ?_
    refine T_seq ?_
    refine T_region ?_
    refine S_ 21 rfl rfl rfl _ (y_move rfl rfl) ?_
    refine S_ 22 rfl rfl rfl _ (y_call rfl rfl rfl cf56 (fun _ w _ => TrimName_any s (by omega) w)) ?_
    refine S_ 23 rfl rfl rfl _ (y_bin rfl rfl rfl (fun _ => b_eqls)) ?_
    refine S_ 2 rfl rfl rfl _ (y_assign rfl rfl) ?_
    refine S_go (fun _ _ h => h) ?_
    refine T_ret (fun a w hF hM => hRb a w (post1 rfl rfl (fun w hM => ?_) a w hF hM))
    exact ⟨by rw [← hn.2], hM.below⟩
theorem NameOk_any (s : List UInt8) (w : World) :
    Calls Tryd.prog 43 #[str s] w fun e w' => e = .returned (.bool (nameOk s)) ∧ Below w.heap.size w w' := by
  refine enter_args (args := [str s]) (F := _) Tryd.func43 rfl Tryd.ntmps43 rfl rfl ?_
  intro Rb hRb hRn
  refine T_seq ?_
  refine T_region ?_
  refine S_ 2 rfl rfl rfl _ (y_assign rfl rfl) ?_
  refine S_go (fun _ _ h => h) ?_
  refine T_seq ?_
  refine T_region ?_
  refine S_ 3 rfl rfl rfl _ (y_move rfl rfl) ?_
  refine S_ 4 rfl rfl rfl _ (y_bin rfl rfl rfl (fun _ => b_neqs)) ?_
  refine S_ 5 rfl rfl rfl _ (y_move rfl rfl) ?_
  refine Sg_ 6 rfl rfl rfl rfl rfl rfl _ (y_move rfl rfl) ?_
  refine Sg_ 7 rfl rfl rfl rfl rfl rfl _ (y_len_str rfl rfl Tryd.underlying9) ?_
  refine Sg_ 8 rfl rfl rfl rfl rfl rfl _ (y_bin rfl rfl rfl (fun _ => b_leq)) ?_
  refine S_ 9 rfl rfl rfl _ (y_and rfl rfl rfl) ?_
  refine S_ 10 rfl rfl rfl _ (y_move rfl rfl) ?_
  refine Sg_ 11 rfl rfl rfl rfl rfl rfl _ (y_move rfl rfl) ?_
  refine Sg_ 12 rfl rfl rfl rfl rfl rfl _ (y_index_str (j := 0) rfl rfl rfl Tryd.underlying9 (fun hg => List.length_pos_iff.2 (fun e => by subst e; simp at hg))) ?_
  refine Sg_ 13 rfl rfl rfl rfl rfl rfl _ (y_bin rfl rfl rfl (fun _ => b_geq)) ?_
  refine S_ 14 rfl rfl rfl _ (y_and rfl rfl rfl) ?_
  refine S_ 15 rfl rfl rfl _ (y_move rfl rfl) ?_
  refine Sg_ 16 rfl rfl rfl rfl rfl rfl _ (y_move rfl rfl) ?_
  refine Sg_ 17 rfl rfl rfl rfl rfl rfl _ (y_index_str (j := 0) rfl rfl rfl Tryd.underlying9 (fun hg => List.length_pos_iff.2 (fun e => by subst e; simp at hg))) ?_
  refine Sg_ 18 rfl rfl rfl rfl rfl rfl _ (y_bin rfl rfl rfl (fun _ => b_leq)) ?_
  refine S_ 19 rfl rfl rfl _ (y_and rfl rfl rfl) ?_
  refine S_ 20 rfl rfl rfl _ (y_move rfl rfl) ?_
  refine Sg_ 21 rfl rfl rfl rfl rfl rfl _ (y_move rfl rfl) ?_
  refine Sg_ 22 rfl rfl rfl rfl rfl rfl _ (y_call rfl rfl rfl cf56 (fun hg w _ => TrimName_any s (by simp only [Bool.true_and, Bool.and_eq_true, beq_iff_eq, decide_eq_true_eq, decide_eq_false_iff_not, Int.not_lt, Int.not_le] at hg; omega) w)) ?_
  refine Sg_ 23 rfl rfl rfl rfl rfl rfl _ (y_bin rfl rfl rfl (fun _ => b_eqls)) ?_
  refine S_ 24 rfl rfl rfl _ (y_and rfl rfl rfl) ?_
  refine S_ 2 rfl rfl rfl _ (y_assign rfl rfl) ?_
  refine S_go (fun _ _ h => h) ?_
  refine T_ret (fun a w hF hM => hRb a w (post1 rfl rfl (fun w hM => ?_) a w hF hM))
  exact ⟨rfl, hM.below⟩
theorem checkValue_any (s : List UInt8) (hs : s.length ≤ 4611686018427387904) (w : World) :
    Calls Tryd.prog 64 #[str s] w fun e w' => e = .returned (.int .i64 (valNo s)) ∧ Below w.heap.size w w' := by
  refine enter_args (args := [str s]) (F := _) Tryd.func64 rfl Tryd.ntmps64 rfl rfl ?_
  intro Rb hRb hRn
  refine T_seq ?_
  refine T_region ?_
  refine S_ 2 rfl rfl rfl _ (y_assign rfl rfl) ?_
  refine S_go (fun _ _ h => h) ?_
  refine T_seq ?_
  refine T_seq ?_
  refine T_region ?_
  refine S_ 4 rfl rfl rfl _ (y_move rfl rfl) ?_
  refine S_ 5 rfl rfl rfl _ (y_len_str rfl rfl Tryd.underlying9) ?_
  refine S_ 6 rfl rfl rfl _ (y_bin rfl rfl rfl (fun _ => b_gtr)) ?_
  refine S_go (fun _ _ h => h) ?_
  refine T_cond rfl (fun h6 => ?_) (fun h6 => ?_)
  · try simp only [decide_eq_true_eq, decide_eq_false_iff_not, Bool.or_eq_true, Bool.or_eq_false_iff, Bool.and_eq_true, Bool.and_eq_false_iff, Bool.not_eq_true', Bool.not_eq_false', Bool.not_eq_true, Bool.not_eq_false, Bool.not_true, Bool.not_false, Int.not_lt, Int.not_le, not_or, not_and, Classical.not_not] at h6
    refine T_seq ?_
    refine T_region ?_
    refine S_ 2 rfl rfl rfl _ (y_assign rfl rfl) ?_
    refine S_go (fun _ _ h => h) ?_
    refine T_ret (fun a w hF hM => hRb a w (post1 rfl rfl (fun w hM => ?_) a w hF hM))
    exact ⟨by rw [valNo, if_pos (by omega)], hM.below⟩
  · try simp only [decide_eq_true_eq, decide_eq_false_iff_not, Bool.or_eq_true, Bool.or_eq_false_iff, Bool.and_eq_true, Bool.and_eq_false_iff, Bool.not_eq_true', Bool.not_eq_false', Bool.not_eq_true, Bool.not_eq_false, Bool.not_true, Bool.not_false, Int.not_lt, Int.not_le, not_or, not_and, Classical.not_not] at h6
    refine T_skip_go (fun _ _ h => h) ?_
    refine T_seq ?_
    refine T_seq ?_
    refine T_region ?_
    refine S_ 7 rfl rfl rfl _ (y_move rfl rfl) ?_
    refine S_ 8 rfl rfl rfl _ (y_len_str rfl rfl Tryd.underlying9) ?_
    refine S_ 9 rfl rfl rfl _ (y_move rfl rfl) ?_
    refine S_go (fun _ _ h => h) ?_
    refine T_block ?_
    refine T_loopK1 (kf := [(2, 3), (9, 22)]) (kl := [(2, 3), (9, 22)]) (fun (i : Nat) => [(9, true, .int .i64 (i : Int))]) (fun (i : Nat) => []) (fun (i : Nat) => i ≤ s.length ∧ s.any valBad = (s.drop i).any valBad) (fun (i : Nat) => s.length - i) 0 (by repeat (first | exact kf_nil | (apply kf_in; focus rfl) | (apply kf_out; focus rfl))) (by repeat (first | exact kl_nil | exact kl_rest (by assumption) rfl | (apply kl_in; focus rfl) | (apply kl_out; focus rfl))) ?_ ?_ ?_ ?_
    · exact ⟨by omega, rfl⟩
    · exact ⟨rfl, trivial⟩
    · exact trivial
    rintro i ⟨hp1, hp2⟩
    refine T_seq ?_
    refine T_region ?_
    refine S_ 10 rfl rfl rfl _ (y_bin rfl rfl rfl (fun _ => b_lss)) ?_
    refine S_go (fun _ _ h => h) ?_
    refine T_seq ?_
    refine T_cond rfl (fun h10 => ?_) (fun h10 => ?_)
    · try simp only [decide_eq_true_eq, decide_eq_false_iff_not, Bool.or_eq_true, Bool.or_eq_false_iff, Bool.and_eq_true, Bool.and_eq_false_iff, Bool.not_eq_true', Bool.not_eq_false', Bool.not_eq_true, Bool.not_eq_false, Bool.not_true, Bool.not_false, Int.not_lt, Int.not_le, not_or, not_and, Classical.not_not] at h10
      refine T_skip_go (fun _ _ h => h) ?_
      refine T_seq ?_
      refine T_block ?_
      refine T_seq ?_
      refine T_region ?_
      refine S_ 11 rfl rfl rfl _ (y_move rfl rfl) ?_
      refine S_ 3 rfl rfl rfl _ (y_assign rfl rfl) ?_
      refine S_go (fun _ _ h => h) ?_
      refine T_seq ?_
      refine T_region ?_
      refine S_ 12 rfl rfl rfl _ (y_move rfl rfl) ?_
      refine S_ 13 rfl rfl rfl _ (y_move rfl rfl) ?_
      refine S_ 14 rfl rfl rfl _ (y_index_str rfl rfl rfl Tryd.underlying9 (fun _ => by omega)) ?_
      refine S_ 15 rfl rfl rfl _ (y_bin rfl rfl rfl (fun _ => b_lss)) ?_
      refine S_ 16 rfl rfl rfl _ (y_move rfl rfl) ?_
      refine Sg_ 17 rfl rfl rfl rfl rfl rfl _ (y_move rfl rfl) ?_
      refine Sg_ 18 rfl rfl rfl rfl rfl rfl _ (y_move rfl rfl) ?_
      refine Sg_ 19 rfl rfl rfl rfl rfl rfl _ (y_index_str rfl rfl rfl Tryd.underlying9 (fun hg => by simp only [Bool.true_and, Bool.and_eq_true, beq_iff_eq, decide_eq_true_eq, decide_eq_false_iff_not, Int.not_lt, Int.not_le] at hg; omega)) ?_
      refine Sg_ 20 rfl rfl rfl rfl rfl rfl _ (y_bin rfl rfl rfl (fun _ => b_gtr)) ?_
      refine S_ 21 rfl rfl rfl _ (y_as (v' := .bool (valBad (s.getD i 0))) (by exact rfl) (y_or rfl rfl rfl)) ?_
      refine S_go (fun _ _ h => h) ?_
      refine T_cond rfl (fun h21 => ?_) (fun h21 => ?_)
      · skip
        refine T_seq ?_
        refine T_region ?_
        refine S_ 2 rfl rfl rfl _ (y_assign rfl rfl) ?_
        refine S_go (fun _ _ h => h) ?_
        refine T_ret (fun a w hF hM => hRb a w (post1 rfl rfl (fun w hM => ?_) a w hF hM))
        exact ⟨by rw [valNo, if_neg (by omega), if_pos (by rw [hp2, drop_str (by omega), any_t h21])], hM.below⟩
      · skip
        refine T_skip_go (fun _ _ h => h) ?_
        refine T_region ?_
        refine S_ 22 rfl rfl rfl _ (y_bin rfl rfl rfl (fun hg => b_add (by omega))) ?_
        refine S_ 9 rfl rfl rfl _ (y_move rfl rfl) ?_
        refine S_nil (nextK1 (kf := [(2, 3), (9, 22)]) (kl := [(2, 3), (9, 22)]) (i + 1) (by repeat (first | exact kf_nil | (apply kf_in; focus rfl) | (apply kf_out; focus rfl))) (by repeat (first | exact kl_nil | exact kl_rest (by assumption) rfl | (apply kl_in; focus rfl) | (apply kl_out; focus rfl))) ?_ ?_ ?_ ?_)
        · omega
        · exact ⟨by omega, by rw [hp2, drop_str (by omega), any_f h21]⟩
        · exact ⟨rfl, trivial⟩
        · exact trivial
    · try simp only [decide_eq_true_eq, decide_eq_false_iff_not, Bool.or_eq_true, Bool.or_eq_false_iff, Bool.and_eq_true, Bool.and_eq_false_iff, Bool.not_eq_true', Bool.not_eq_false', Bool.not_eq_true, Bool.not_eq_false, Bool.not_true, Bool.not_false, Int.not_lt, Int.not_le, not_or, not_and, Classical.not_not] at h10
      refine T_exit_go (fun _ _ h => h) ?_
      refine T_seq ?_
      refine T_region ?_
      refine S_ 2 rfl rfl rfl _ (y_assign rfl rfl) ?_
      refine S_go (fun _ _ h => h) ?_
      refine T_ret (fun a w hF hM => hRb a w (post1 rfl rfl (fun w hM => ?_) a w hF hM))
      exact ⟨by rw [valNo, if_neg (by omega), if_neg (by rw [hp2, List.drop_eq_nil_of_le (by omega)]; simp)], hM.below⟩
theorem checkSay_any (s : List UInt8) (hs : s.length ≤ 4611686018427387904) (w : World) :
    Calls Tryd.prog 126 #[str s] w fun e w' => e = .returned (.int .i64 (sayNo s)) ∧ Below w.heap.size w w' := by
  refine enter_args (args := [str s]) (F := _) Tryd.func126 rfl Tryd.ntmps126 rfl rfl ?_
  intro Rb hRb hRn
  refine T_seq ?_
  refine T_region ?_
  refine S_ 2 rfl rfl rfl _ (y_assign rfl rfl) ?_
  refine S_go (fun _ _ h => h) ?_
  refine T_seq ?_
  refine T_seq ?_
  refine T_region ?_
  refine S_ 4 rfl rfl rfl _ (y_move rfl rfl) ?_
  refine S_ 5 rfl rfl rfl _ (y_len_str rfl rfl Tryd.underlying9) ?_
  refine S_ 6 rfl rfl rfl _ (y_bin rfl rfl rfl (fun _ => b_gtr)) ?_
  refine S_go (fun _ _ h => h) ?_
  refine T_cond rfl (fun h6 => ?_) (fun h6 => ?_)
  · try simp only [decide_eq_true_eq, decide_eq_false_iff_not, Bool.or_eq_true, Bool.or_eq_false_iff, Bool.and_eq_true, Bool.and_eq_false_iff, Bool.not_eq_true', Bool.not_eq_false', Bool.not_eq_true, Bool.not_eq_false, Bool.not_true, Bool.not_false, Int.not_lt, Int.not_le, not_or, not_and, Classical.not_not] at h6
    refine T_seq ?_
    refine T_region ?_
    refine S_ 2 rfl rfl rfl _ (y_assign rfl rfl) ?_
    refine S_go (fun _ _ h => h) ?_
    refine T_ret (fun a w hF hM => hRb a w (post1 rfl rfl (fun w hM => ?_) a w hF hM))
    exact ⟨by rw [sayNo, if_pos (by omega)], hM.below⟩
  · try simp only [decide_eq_true_eq, decide_eq_false_iff_not, Bool.or_eq_true, Bool.or_eq_false_iff, Bool.and_eq_true, Bool.and_eq_false_iff, Bool.not_eq_true', Bool.not_eq_false', Bool.not_eq_true, Bool.not_eq_false, Bool.not_true, Bool.not_false, Int.not_lt, Int.not_le, not_or, not_and, Classical.not_not] at h6
    refine T_skip_go (fun _ _ h => h) ?_
    refine T_seq ?_
    refine T_seq ?_
    refine T_region ?_
    refine S_ 7 rfl rfl rfl _ (y_move rfl rfl) ?_
    refine S_ 8 rfl rfl rfl _ (y_len_str rfl rfl Tryd.underlying9) ?_
    refine S_ 9 rfl rfl rfl _ (y_move rfl rfl) ?_
    refine S_go (fun _ _ h => h) ?_
    refine T_block ?_
    refine T_loopK1 (kf := [(2, 3), (9, 22)]) (kl := [(2, 3), (9, 22)]) (fun (i : Nat) => [(9, true, .int .i64 (i : Int))]) (fun (i : Nat) => []) (fun (i : Nat) => i ≤ s.length ∧ s.any sayBad = (s.drop i).any sayBad) (fun (i : Nat) => s.length - i) 0 (by repeat (first | exact kf_nil | (apply kf_in; focus rfl) | (apply kf_out; focus rfl))) (by repeat (first | exact kl_nil | exact kl_rest (by assumption) rfl | (apply kl_in; focus rfl) | (apply kl_out; focus rfl))) ?_ ?_ ?_ ?_
    · exact ⟨by omega, rfl⟩
    · exact ⟨rfl, trivial⟩
    · exact trivial
    rintro i ⟨hp1, hp2⟩
    refine T_seq ?_
    refine T_region ?_
    refine S_ 10 rfl rfl rfl _ (y_bin rfl rfl rfl (fun _ => b_lss)) ?_
    refine S_go (fun _ _ h => h) ?_
    refine T_seq ?_
    refine T_cond rfl (fun h10 => ?_) (fun h10 => ?_)
    · try simp only [decide_eq_true_eq, decide_eq_false_iff_not, Bool.or_eq_true, Bool.or_eq_false_iff, Bool.and_eq_true, Bool.and_eq_false_iff, Bool.not_eq_true', Bool.not_eq_false', Bool.not_eq_true, Bool.not_eq_false, Bool.not_true, Bool.not_false, Int.not_lt, Int.not_le, not_or, not_and, Classical.not_not] at h10
      refine T_skip_go (fun _ _ h => h) ?_
      refine T_seq ?_
      refine T_block ?_
      refine T_seq ?_
      refine T_region ?_
      refine S_ 11 rfl rfl rfl _ (y_move rfl rfl) ?_
      refine S_ 3 rfl rfl rfl _ (y_assign rfl rfl) ?_
      refine S_go (fun _ _ h => h) ?_
      refine T_seq ?_
      refine T_region ?_
      refine S_ 12 rfl rfl rfl _ (y_move rfl rfl) ?_
      refine S_ 13 rfl rfl rfl _ (y_move rfl rfl) ?_
      refine S_ 14 rfl rfl rfl _ (y_index_str rfl rfl rfl Tryd.underlying9 (fun _ => by omega)) ?_
      refine S_ 15 rfl rfl rfl _ (y_bin rfl rfl rfl (fun _ => b_lss)) ?_
      refine S_ 16 rfl rfl rfl _ (y_move rfl rfl) ?_
      refine Sg_ 17 rfl rfl rfl rfl rfl rfl _ (y_move rfl rfl) ?_
      refine Sg_ 18 rfl rfl rfl rfl rfl rfl _ (y_move rfl rfl) ?_
      refine Sg_ 19 rfl rfl rfl rfl rfl rfl _ (y_index_str rfl rfl rfl Tryd.underlying9 (fun hg => by simp only [Bool.true_and, Bool.and_eq_true, beq_iff_eq, decide_eq_true_eq, decide_eq_false_iff_not, Int.not_lt, Int.not_le] at hg; omega)) ?_
      refine Sg_ 20 rfl rfl rfl rfl rfl rfl _ (y_bin rfl rfl rfl (fun _ => b_eql)) ?_
      refine S_ 21 rfl rfl rfl _ (y_as (v' := .bool (sayBad (s.getD i 0))) (by exact rfl) (y_or rfl rfl rfl)) ?_
      refine S_go (fun _ _ h => h) ?_
      refine T_cond rfl (fun h21 => ?_) (fun h21 => ?_)
      · skip
        refine T_seq ?_
        refine T_region ?_
        refine S_ 2 rfl rfl rfl _ (y_assign rfl rfl) ?_
        refine S_go (fun _ _ h => h) ?_
        refine T_ret (fun a w hF hM => hRb a w (post1 rfl rfl (fun w hM => ?_) a w hF hM))
        exact ⟨by rw [sayNo, if_neg (by omega), if_pos (by rw [hp2, drop_str (by omega), any_t h21])], hM.below⟩
      · skip
        refine T_skip_go (fun _ _ h => h) ?_
        refine T_region ?_
        refine S_ 22 rfl rfl rfl _ (y_bin rfl rfl rfl (fun hg => b_add (by omega))) ?_
        refine S_ 9 rfl rfl rfl _ (y_move rfl rfl) ?_
        refine S_nil (nextK1 (kf := [(2, 3), (9, 22)]) (kl := [(2, 3), (9, 22)]) (i + 1) (by repeat (first | exact kf_nil | (apply kf_in; focus rfl) | (apply kf_out; focus rfl))) (by repeat (first | exact kl_nil | exact kl_rest (by assumption) rfl | (apply kl_in; focus rfl) | (apply kl_out; focus rfl))) ?_ ?_ ?_ ?_)
        · omega
        · exact ⟨by omega, by rw [hp2, drop_str (by omega), any_f h21]⟩
        · exact ⟨rfl, trivial⟩
        · exact trivial
    · try simp only [decide_eq_true_eq, decide_eq_false_iff_not, Bool.or_eq_true, Bool.or_eq_false_iff, Bool.and_eq_true, Bool.and_eq_false_iff, Bool.not_eq_true', Bool.not_eq_false', Bool.not_eq_true, Bool.not_eq_false, Bool.not_true, Bool.not_false, Int.not_lt, Int.not_le, not_or, not_and, Classical.not_not] at h10
      refine T_exit_go (fun _ _ h => h) ?_
      refine T_seq ?_
      refine T_region ?_
      refine S_ 2 rfl rfl rfl _ (y_assign rfl rfl) ?_
      refine S_go (fun _ _ h => h) ?_
      refine T_ret (fun a w hF hM => hRb a w (post1 rfl rfl (fun w hM => ?_) a w hF hM))
      exact ⟨by rw [sayNo, if_neg (by omega), if_neg (by rw [hp2, List.drop_eq_nil_of_le (by omega)]; simp)], hM.below⟩
theorem CheckFault_any (f : Flt) (w : World) (hf : FltOk w f) :
    Calls Tryd.prog 125 #[f.val] w fun e w' => e = .returned (.int .i64 (fltNo f)) ∧ Below w.heap.size w w' := by
  have hk := hf.k
  have htl := hf.t
  refine enter_args (args := [.agg #[str f.k, str f.t, .slice f.fr.A f.fr.q f.fr.c]]) (F := _) Tryd.func125 rfl Tryd.ntmps125 rfl rfl ?_
  intro Rb hRb hRn
  refine T_seq ?_
  refine T_region ?_
  refine S_box 1 1 rfl rfl rfl rfl rfl ?_
  intro b1
  refine S_ 2 rfl rfl rfl _ (y_assign rfl rfl) ?_
  refine S_go (fun _ _ h => h) ?_
  refine T_seq ?_
  refine T_block ?_
  refine T_seq ?_
  refine T_region ?_
  refine S_ 5 rfl rfl rfl _ (y_fieldAddr rfl rfl fa108_0) ?_
  refine S_ 6 rfl rfl rfl _ (y_load 1 rfl rfl rfl rfl Tryd.underlying9 rfl) ?_
  refine S_ 7 rfl rfl rfl _ (y_len_str rfl rfl Tryd.underlying9) ?_
  refine S_ 8 rfl rfl rfl _ (y_bin rfl rfl rfl (fun _ => b_gtr)) ?_
  refine S_ 4 rfl rfl rfl _ (y_assign rfl rfl) ?_
  refine S_go (fun _ _ h => h) ?_
  refine T_cond rfl (fun h4 => ?_) (fun h4 => ?_)
  · try simp only [decide_eq_true_eq, decide_eq_false_iff_not, Bool.or_eq_true, Bool.or_eq_false_iff, Bool.and_eq_true, Bool.and_eq_false_iff, Bool.not_eq_true', Bool.not_eq_false', Bool.not_eq_true, Bool.not_eq_false, Bool.not_true, Bool.not_false, Int.not_lt, Int.not_le, not_or, not_and, Classical.not_not] at h4
    refine T_seq ?_
    refine T_region ?_
    refine S_ 2 rfl rfl rfl _ (y_assign rfl rfl) ?_
    refine S_go (fun _ _ h => h) ?_
    refine T_ret (fun a w hF hM => hRb a w (post1 rfl rfl (fun w hM => ?_) a w hF hM))
    exact ⟨by rw [fltNo, if_pos (by omega)], hM.below⟩
  · try simp only [decide_eq_true_eq, decide_eq_false_iff_not, Bool.or_eq_true, Bool.or_eq_false_iff, Bool.and_eq_true, Bool.and_eq_false_iff, Bool.not_eq_true', Bool.not_eq_false', Bool.not_eq_true, Bool.not_eq_false, Bool.not_true, Bool.not_false, Int.not_lt, Int.not_le, not_or, not_and, Classical.not_not] at h4
    refine T_seq ?_
    refine T_region ?_
    refine S_ 10 rfl rfl rfl _ (y_fieldAddr rfl rfl fa108_0) ?_
    refine S_ 11 rfl rfl rfl _ (y_load 1 rfl rfl rfl rfl Tryd.underlying9 rfl) ?_
    refine S_ 12 rfl rfl rfl _ (y_call rfl rfl rfl cf150 (fun hg w _ => isWord_any _ _ (by first | omega | (have := hsz; omega)) w)) ?_
    refine S_ 13 rfl rfl rfl _ (y_not rfl rfl) ?_
    refine S_ 9 rfl rfl rfl _ (y_assign rfl rfl) ?_
    refine S_go (fun _ _ h => h) ?_
    refine T_cond rfl (fun h9 => ?_) (fun h9 => ?_)
    · try simp only [decide_eq_true_eq, decide_eq_false_iff_not, Bool.or_eq_true, Bool.or_eq_false_iff, Bool.and_eq_true, Bool.and_eq_false_iff, Bool.not_eq_true', Bool.not_eq_false', Bool.not_eq_true, Bool.not_eq_false, Bool.not_true, Bool.not_false, Int.not_lt, Int.not_le, not_or, not_and, Classical.not_not] at h9
      refine T_seq ?_
      refine T_region ?_
      refine S_ 2 rfl rfl rfl _ (y_assign rfl rfl) ?_
      refine S_go (fun _ _ h => h) ?_
      refine T_ret (fun a w hF hM => hRb a w (post1 rfl rfl (fun w hM => ?_) a w hF hM))
      exact ⟨by rw [fltNo, if_neg (by omega), if_pos h9], hM.below⟩
    · try simp only [decide_eq_true_eq, decide_eq_false_iff_not, Bool.or_eq_true, Bool.or_eq_false_iff, Bool.and_eq_true, Bool.and_eq_false_iff, Bool.not_eq_true', Bool.not_eq_false', Bool.not_eq_true, Bool.not_eq_false, Bool.not_true, Bool.not_false, Int.not_lt, Int.not_le, not_or, not_and, Classical.not_not] at h9
      refine T_seq ?_
      refine T_region ?_
      refine S_ 15 rfl rfl rfl _ (y_fieldAddr rfl rfl fa108_0) ?_
      refine S_ 16 rfl rfl rfl _ (y_load 1 rfl rfl rfl rfl Tryd.underlying9 rfl) ?_
      refine S_ 17 rfl rfl rfl _ (y_bin rfl rfl rfl (fun _ => b_eqls)) ?_
      refine S_ 14 rfl rfl rfl _ (y_assign rfl rfl) ?_
      refine S_go (fun _ _ h => h) ?_
      refine T_cond rfl (fun h14 => ?_) (fun h14 => ?_)
      · try simp only [decide_eq_true_eq, decide_eq_false_iff_not, Bool.or_eq_true, Bool.or_eq_false_iff, Bool.and_eq_true, Bool.and_eq_false_iff, Bool.not_eq_true', Bool.not_eq_false', Bool.not_eq_true, Bool.not_eq_false, Bool.not_true, Bool.not_false, Int.not_lt, Int.not_le, not_or, not_and, Classical.not_not] at h14
        refine T_seq ?_
        refine T_region ?_
        refine S_ 2 rfl rfl rfl _ (y_assign rfl rfl) ?_
        refine S_go (fun _ _ h => h) ?_
        refine T_ret (fun a w hF hM => hRb a w (post1 rfl rfl (fun w hM => ?_) a w hF hM))
        exact ⟨by rw [fltNo, if_neg (by omega), if_neg (by rw [h9]; simp), if_pos h14], hM.below⟩
      · try simp only [decide_eq_true_eq, decide_eq_false_iff_not, Bool.or_eq_true, Bool.or_eq_false_iff, Bool.and_eq_true, Bool.and_eq_false_iff, Bool.not_eq_true', Bool.not_eq_false', Bool.not_eq_true, Bool.not_eq_false, Bool.not_true, Bool.not_false, Int.not_lt, Int.not_le, not_or, not_and, Classical.not_not] at h14
        refine T_seq ?_
        refine T_region ?_
        refine S_ 19 rfl rfl rfl _ (y_fieldAddr rfl rfl fa108_1) ?_
        refine S_ 20 rfl rfl rfl _ (y_load 1 rfl rfl rfl rfl Tryd.underlying9 rfl) ?_
        refine S_ 21 rfl rfl rfl _ (y_len_str rfl rfl Tryd.underlying9) ?_
        refine S_ 22 rfl rfl rfl _ (y_bin rfl rfl rfl (fun _ => b_gtr)) ?_
        refine S_ 18 rfl rfl rfl _ (y_assign rfl rfl) ?_
        refine S_go (fun _ _ h => h) ?_
        refine T_cond rfl (fun h18 => ?_) (fun h18 => ?_)
        · try simp only [decide_eq_true_eq, decide_eq_false_iff_not, Bool.or_eq_true, Bool.or_eq_false_iff, Bool.and_eq_true, Bool.and_eq_false_iff, Bool.not_eq_true', Bool.not_eq_false', Bool.not_eq_true, Bool.not_eq_false, Bool.not_true, Bool.not_false, Int.not_lt, Int.not_le, not_or, not_and, Classical.not_not] at h18
          refine T_seq ?_
          refine T_region ?_
          refine S_ 2 rfl rfl rfl _ (y_assign rfl rfl) ?_
          refine S_go (fun _ _ h => h) ?_
          refine T_ret (fun a w hF hM => hRb a w (post1 rfl rfl (fun w hM => ?_) a w hF hM))
          exact ⟨by rw [fltNo_say (by omega) h9 h14 (k := 4) (by rw [sayNo, if_pos (by omega)]) (by decide)], hM.below⟩
        · try simp only [decide_eq_true_eq, decide_eq_false_iff_not, Bool.or_eq_true, Bool.or_eq_false_iff, Bool.and_eq_true, Bool.and_eq_false_iff, Bool.not_eq_true', Bool.not_eq_false', Bool.not_eq_true, Bool.not_eq_false, Bool.not_true, Bool.not_false, Int.not_lt, Int.not_le, not_or, not_and, Classical.not_not] at h18
          refine T_skip_go (fun _ _ h => h) ?_
          refine T_seq ?_
          refine T_seq ?_
          refine T_region ?_
          refine S_ 23 rfl rfl rfl _ (y_fieldAddr rfl rfl fa108_1) ?_
          refine S_ 24 rfl rfl rfl _ (y_load 1 rfl rfl rfl rfl Tryd.underlying9 rfl) ?_
          refine S_ 25 rfl rfl rfl _ (y_len_str rfl rfl Tryd.underlying9) ?_
          refine S_ 26 rfl rfl rfl _ (y_move rfl rfl) ?_
          refine S_go (fun _ _ h => h) ?_
          refine T_block ?_
          refine T_loopK1 (kf := [(2, 3), (26, 41)]) (kl := [(2, 3), (26, 41)]) (fun (i : Nat) => [(26, true, .int .i64 (i : Int))]) (fun (i : Nat) => []) (fun (i : Nat) => i ≤ f.t.length ∧ f.t.any sayBad = (f.t.drop i).any sayBad) (fun (i : Nat) => f.t.length - i) 0 (by repeat (first | exact kf_nil | (apply kf_in; focus rfl) | (apply kf_out; focus rfl))) (by repeat (first | exact kl_nil | exact kl_rest (by assumption) rfl | (apply kl_in; focus rfl) | (apply kl_out; focus rfl))) ?_ ?_ ?_ ?_
          · exact ⟨by omega, rfl⟩
          · exact ⟨rfl, trivial⟩
          · exact trivial
          rintro i ⟨hp1, hp2⟩
          refine T_seq ?_
          refine T_region ?_
          refine S_ 27 rfl rfl rfl _ (y_bin rfl rfl rfl (fun _ => b_lss)) ?_
          refine S_go (fun _ _ h => h) ?_
          refine T_seq ?_
          refine T_cond rfl (fun h27 => ?_) (fun h27 => ?_)
          · try simp only [decide_eq_true_eq, decide_eq_false_iff_not, Bool.or_eq_true, Bool.or_eq_false_iff, Bool.and_eq_true, Bool.and_eq_false_iff, Bool.not_eq_true', Bool.not_eq_false', Bool.not_eq_true, Bool.not_eq_false, Bool.not_true, Bool.not_false, Int.not_lt, Int.not_le, not_or, not_and, Classical.not_not] at h27
            refine T_skip_go (fun _ _ h => h) ?_
            refine T_seq ?_
            refine T_block ?_
            refine T_seq ?_
            refine T_region ?_
            refine S_ 28 rfl rfl rfl _ (y_move rfl rfl) ?_
            refine S_ 3 rfl rfl rfl _ (y_assign rfl rfl) ?_
            refine S_go (fun _ _ h => h) ?_
            refine T_seq ?_
            refine T_region ?_
            refine S_ 29 rfl rfl rfl _ (y_fieldAddr rfl rfl fa108_1) ?_
            refine S_ 30 rfl rfl rfl _ (y_load 1 rfl rfl rfl rfl Tryd.underlying9 rfl) ?_
            refine S_ 31 rfl rfl rfl _ (y_move rfl rfl) ?_
            refine S_ 32 rfl rfl rfl _ (y_index_str rfl rfl rfl Tryd.underlying9 (fun _ => by omega)) ?_
            refine S_ 33 rfl rfl rfl _ (y_bin rfl rfl rfl (fun _ => b_lss)) ?_
            refine S_ 34 rfl rfl rfl _ (y_move rfl rfl) ?_
            refine Sg_ 35 rfl rfl rfl rfl rfl rfl _ (y_fieldAddr rfl rfl fa108_1) ?_
            refine Sg_ 36 rfl rfl rfl rfl rfl rfl _ (y_load 1 rfl rfl rfl rfl Tryd.underlying9 rfl) ?_
            refine Sg_ 37 rfl rfl rfl rfl rfl rfl _ (y_move rfl rfl) ?_
            refine Sg_ 38 rfl rfl rfl rfl rfl rfl _ (y_index_str rfl rfl rfl Tryd.underlying9 (fun hg => by simp only [Bool.true_and, Bool.and_eq_true, beq_iff_eq, decide_eq_true_eq, decide_eq_false_iff_not, Int.not_lt, Int.not_le] at hg; omega)) ?_
            refine Sg_ 39 rfl rfl rfl rfl rfl rfl _ (y_bin rfl rfl rfl (fun _ => b_eql)) ?_
            refine S_ 40 rfl rfl rfl _ (y_as (v' := .bool (sayBad (f.t.getD i 0))) (by exact rfl) (y_or rfl rfl rfl)) ?_
            refine S_go (fun _ _ h => h) ?_
            refine T_cond rfl (fun h40 => ?_) (fun h40 => ?_)
            · skip
              refine T_seq ?_
              refine T_region ?_
              refine S_ 2 rfl rfl rfl _ (y_assign rfl rfl) ?_
              refine S_go (fun _ _ h => h) ?_
              refine T_ret (fun a w hF hM => hRb a w (post1 rfl rfl (fun w hM => ?_) a w hF hM))
              exact ⟨by rw [fltNo_say (by omega) h9 h14 (k := 9) (by rw [sayNo, if_neg (by omega), if_pos (by rw [hp2, drop_str (by omega), any_t h40])]) (by decide)], hM.below⟩
            · skip
              refine T_skip_go (fun _ _ h => h) ?_
              refine T_region ?_
              refine S_ 41 rfl rfl rfl _ (y_bin rfl rfl rfl (fun hg => b_add (by omega))) ?_
              refine S_ 26 rfl rfl rfl _ (y_move rfl rfl) ?_
              refine S_nil (nextK1 (kf := [(2, 3), (26, 41)]) (kl := [(2, 3), (26, 41)]) (i + 1) (by repeat (first | exact kf_nil | (apply kf_in; focus rfl) | (apply kf_out; focus rfl))) (by repeat (first | exact kl_nil | exact kl_rest (by assumption) rfl | (apply kl_in; focus rfl) | (apply kl_out; focus rfl))) ?_ ?_ ?_ ?_)
              · omega
              · exact ⟨by omega, by rw [hp2, drop_str (by omega), any_f h40]⟩
              · exact ⟨rfl, trivial⟩
              · exact trivial
          · try simp only [decide_eq_true_eq, decide_eq_false_iff_not, Bool.or_eq_true, Bool.or_eq_false_iff, Bool.and_eq_true, Bool.and_eq_false_iff, Bool.not_eq_true', Bool.not_eq_false', Bool.not_eq_true, Bool.not_eq_false, Bool.not_true, Bool.not_false, Int.not_lt, Int.not_le, not_or, not_and, Classical.not_not] at h27
            refine T_exit_go (fun _ _ h => h) ?_
            refine T_seq ?_
            refine T_region ?_
            refine S_ 42 rfl rfl rfl _ (y_fieldAddr rfl rfl fa108_2) ?_
            refine S_ 43 rfl rfl rfl _ (y_load 1 rfl rfl rfl rfl Tryd.underlying106 rfl) ?_
            refine S_ 44 rfl rfl rfl _ (y_call rfl rfl rfl cf151 (fun _ w hM => checkFrames_any _ w (hf.fr.below hM.below))) ?_
            refine S_ 2 rfl rfl rfl _ (y_assign rfl rfl) ?_
            refine S_go (fun _ _ h => h) ?_
            refine T_ret (fun a w hF hM => hRb a w (post1 rfl rfl (fun w hM => ?_) a w hF hM))
            exact ⟨by rw [fltNo_frs (by omega) h9 h14 (by rw [sayNo, if_neg (by omega), if_neg (by rw [hp2, List.drop_eq_nil_of_le (by omega)]; simp)])], hM.below⟩
theorem sCheck_any (l : Sl Flt) (w : World) (hl : FltsOk w l) :
    Calls Tryd.prog 61 #[.slice l.A l.q l.c] w fun e w' => e = .returned (.int .i64 (faultsNo l)) ∧ Below w.heap.size w w' := by
  have ht := hl.ok.t
  have hq := hl.q
  refine enter_args (args := [.slice l.A l.q l.c]) (F := _) Tryd.func61 rfl Tryd.ntmps61 rfl rfl ?_
  intro Rb hRb hRn
  refine T_seq ?_
  refine T_region ?_
  refine S_ 2 rfl rfl rfl _ (y_assign rfl rfl) ?_
  refine S_go (fun _ _ h => h) ?_
  refine T_seq ?_
  refine T_block ?_
  refine T_seq ?_
  refine T_region ?_
  refine S_ 7 rfl rfl rfl _ (y_move rfl rfl) ?_
  refine S_ 8 rfl rfl rfl _ (y_len_slice rfl rfl Tryd.underlying31) ?_
  refine S_ 9 rfl rfl rfl _ (y_bin rfl rfl rfl (fun _ => b_eql)) ?_
  refine S_ 6 rfl rfl rfl _ (y_assign rfl rfl) ?_
  refine S_go (fun _ _ h => h) ?_
  refine T_cond rfl (fun h6 => ?_) (fun h6 => ?_)
  · try simp only [decide_eq_true_eq, decide_eq_false_iff_not, Bool.or_eq_true, Bool.or_eq_false_iff, Bool.and_eq_true, Bool.and_eq_false_iff, Bool.not_eq_true', Bool.not_eq_false', Bool.not_eq_true, Bool.not_eq_false, Bool.not_true, Bool.not_false, Int.not_lt, Int.not_le, not_or, not_and, Classical.not_not] at h6
    refine T_seq ?_
    refine T_region ?_
    refine S_ 2 rfl rfl rfl _ (y_assign rfl rfl) ?_
    refine S_go (fun _ _ h => h) ?_
    refine T_ret (fun a w hF hM => hRb a w (post1 rfl rfl (fun w hM => ?_) a w hF hM))
    exact ⟨by rw [faultsNo, if_pos (by omega)], hM.below⟩
  · try simp only [decide_eq_true_eq, decide_eq_false_iff_not, Bool.or_eq_true, Bool.or_eq_false_iff, Bool.and_eq_true, Bool.and_eq_false_iff, Bool.not_eq_true', Bool.not_eq_false', Bool.not_eq_true, Bool.not_eq_false, Bool.not_true, Bool.not_false, Int.not_lt, Int.not_le, not_or, not_and, Classical.not_not] at h6
    refine T_seq ?_
    refine T_region ?_
    refine S_ 11 rfl rfl rfl _ (y_move rfl rfl) ?_
    refine S_ 12 rfl rfl rfl _ (y_len_slice rfl rfl Tryd.underlying31) ?_
    refine S_ 13 rfl rfl rfl _ (y_bin rfl rfl rfl (fun _ => b_gtr)) ?_
    refine S_ 10 rfl rfl rfl _ (y_assign rfl rfl) ?_
    refine S_go (fun _ _ h => h) ?_
    refine T_cond rfl (fun h10 => ?_) (fun h10 => ?_)
    · try simp only [decide_eq_true_eq, decide_eq_false_iff_not, Bool.or_eq_true, Bool.or_eq_false_iff, Bool.and_eq_true, Bool.and_eq_false_iff, Bool.not_eq_true', Bool.not_eq_false', Bool.not_eq_true, Bool.not_eq_false, Bool.not_true, Bool.not_false, Int.not_lt, Int.not_le, not_or, not_and, Classical.not_not] at h10
      refine T_seq ?_
      refine T_region ?_
      refine S_ 2 rfl rfl rfl _ (y_assign rfl rfl) ?_
      refine S_go (fun _ _ h => h) ?_
      refine T_ret (fun a w hF hM => hRb a w (post1 rfl rfl (fun w hM => ?_) a w hF hM))
      exact ⟨by rw [faultsNo, if_neg (by omega), if_pos (by omega)], hM.below⟩
    · try simp only [decide_eq_true_eq, decide_eq_false_iff_not, Bool.or_eq_true, Bool.or_eq_false_iff, Bool.and_eq_true, Bool.and_eq_false_iff, Bool.not_eq_true', Bool.not_eq_false', Bool.not_eq_true, Bool.not_eq_false, Bool.not_true, Bool.not_false, Int.not_lt, Int.not_le, not_or, not_and, Classical.not_not] at h10
      refine T_skip_go (fun _ _ h => h) ?_
      refine T_seq ?_
      refine T_seq ?_
      refine T_region ?_
      refine S_ 14 rfl rfl rfl _ (y_move rfl rfl) ?_
      refine S_ 15 rfl rfl rfl _ (y_len_slice rfl rfl Tryd.underlying31) ?_
      refine S_ 16 rfl rfl rfl _ (y_move rfl rfl) ?_
      refine S_go (fun _ _ h => h) ?_
      refine T_block ?_
      refine T_loopK1 (kf := [(2, 2), (4, 5), (16, 25)]) (kl := [(2, 2), (4, 5), (16, 25)]) (fun (i : Nat) => [(16, true, .int .i64 (i : Int))]) (fun (i : Nat) => []) (fun (i : Nat) => i ≤ l.q ∧ fltsNo l.l = fltsNo (l.l.drop i)) (fun (i : Nat) => l.q - i) 0 (by repeat (first | exact kf_nil | (apply kf_in; focus rfl) | (apply kf_out; focus rfl))) (by repeat (first | exact kl_nil | exact kl_rest (by assumption) rfl | (apply kl_in; focus rfl) | (apply kl_out; focus rfl))) ?_ ?_ ?_ ?_
      · exact ⟨by omega, rfl⟩
      · exact ⟨rfl, trivial⟩
      · exact trivial
      rintro i ⟨hp1, hp2⟩
      refine T_seq ?_
      refine T_region ?_
      refine S_ 17 rfl rfl rfl _ (y_bin rfl rfl rfl (fun _ => b_lss)) ?_
      refine S_go (fun _ _ h => h) ?_
      refine T_seq ?_
      refine T_cond rfl (fun h17 => ?_) (fun h17 => ?_)
      · try simp only [decide_eq_true_eq, decide_eq_false_iff_not, Bool.or_eq_true, Bool.or_eq_false_iff, Bool.and_eq_true, Bool.and_eq_false_iff, Bool.not_eq_true', Bool.not_eq_false', Bool.not_eq_true, Bool.not_eq_false, Bool.not_true, Bool.not_false, Int.not_lt, Int.not_le, not_or, not_and, Classical.not_not] at h17
        obtain ⟨x, hx1, hx2⟩ := ht.at (i := i) (by omega)
        refine T_skip_go (fun _ _ h => h) ?_
        refine T_seq ?_
        refine T_block ?_
        refine T_seq ?_
        refine T_region ?_
        refine S_ 18 rfl rfl rfl _ (y_indexAddr rfl rfl rfl Tryd.underlying31 sz108 (fun hg => ht.isSome (by omega)) (fun _ => by omega)) ?_
        refine S_ 19 rfl rfl rfl _ (y_loadT rfl rfl ht (fun _ => rfl) (fun _ => hx1) Tryd.underlying108 rfl sz108) ?_
        refine S_alloc 4 4 rfl rfl rfl rfl z108 ?_
        intro b4
        refine S_store 4 rfl rfl rfl rfl rfl rfl sz108 rfl rfl ?_
        refine S_go (fun _ _ h => h) ?_
        refine T_seq ?_
        refine T_region ?_
        refine S_ 20 rfl rfl rfl _ (y_loadA 4 rfl rfl rfl Tryd.underlying108 rfl sz108) ?_
        refine S_ 21 rfl rfl rfl _ (y_call rfl rfl rfl cf125 (fun _ w hM => CheckFault_any x w ((hl.n x (mem_at hx1)).below hM.below))) ?_
        refine S_ 5 rfl rfl rfl _ (y_assign rfl rfl) ?_
        refine S_go (fun _ _ h => h) ?_
        refine T_seq ?_
        refine T_region ?_
        refine S_ 22 rfl rfl rfl _ (y_move rfl rfl) ?_
        refine S_ 23 rfl rfl rfl _ (y_bin rfl rfl rfl (fun _ => b_neq)) ?_
        refine S_go (fun _ _ h => h) ?_
        refine T_cond rfl (fun h23 => ?_) (fun h23 => ?_)
        · try simp only [decide_eq_true_eq, decide_eq_false_iff_not, Bool.or_eq_true, Bool.or_eq_false_iff, Bool.and_eq_true, Bool.and_eq_false_iff, Bool.not_eq_true', Bool.not_eq_false', Bool.not_eq_true, Bool.not_eq_false, Bool.not_true, Bool.not_false, Int.not_lt, Int.not_le, not_or, not_and, Classical.not_not] at h23
          refine T_seq ?_
          refine T_region ?_
          refine S_ 24 rfl rfl rfl _ (y_move rfl rfl) ?_
          refine S_ 2 rfl rfl rfl _ (y_assign rfl rfl) ?_
          refine S_go (fun _ _ h => h) ?_
          refine T_ret (fun a w hF hM => hRb a w (post1 rfl rfl (fun w hM => ?_) a w hF hM))
          exact ⟨by rw [faultsNo, if_neg (by omega), if_neg (by omega), hp2, hx2, fltsNo, if_pos h23], hM.below⟩
        · try simp only [decide_eq_true_eq, decide_eq_false_iff_not, Bool.or_eq_true, Bool.or_eq_false_iff, Bool.and_eq_true, Bool.and_eq_false_iff, Bool.not_eq_true', Bool.not_eq_false', Bool.not_eq_true, Bool.not_eq_false, Bool.not_true, Bool.not_false, Int.not_lt, Int.not_le, not_or, not_and, Classical.not_not] at h23
          refine T_skip_go (fun _ _ h => h) ?_
          refine T_region ?_
          refine S_ 25 rfl rfl rfl _ (y_bin rfl rfl rfl (fun hg => b_add (by omega))) ?_
          refine S_ 16 rfl rfl rfl _ (y_move rfl rfl) ?_
          refine S_nil (nextK1 (kf := [(2, 2), (4, 5), (16, 25)]) (kl := [(2, 2), (4, 5), (16, 25)]) (i + 1) (by repeat (first | exact kf_nil | (apply kf_in; focus rfl) | (apply kf_out; focus rfl))) (by repeat (first | exact kl_nil | exact kl_rest (by assumption) rfl | (apply kl_in; focus rfl) | (apply kl_out; focus rfl))) ?_ ?_ ?_ ?_)
          · omega
          · exact ⟨by omega, by rw [hp2, hx2, fltsNo, if_neg (by simpa using h23)]⟩
          · exact ⟨rfl, trivial⟩
          · exact trivial
      · try simp only [decide_eq_true_eq, decide_eq_false_iff_not, Bool.or_eq_true, Bool.or_eq_false_iff, Bool.and_eq_true, Bool.and_eq_false_iff, Bool.not_eq_true', Bool.not_eq_false', Bool.not_eq_true, Bool.not_eq_false, Bool.not_true, Bool.not_false, Int.not_lt, Int.not_le, not_or, not_and, Classical.not_not] at h17
        refine T_exit_go (fun _ _ h => h) ?_
        refine T_seq ?_
        refine T_region ?_
        refine S_ 2 rfl rfl rfl _ (y_assign rfl rfl) ?_
        refine S_go (fun _ _ h => h) ?_
        refine T_ret (fun a w hF hM => hRb a w (post1 rfl rfl (fun w hM => ?_) a w hF hM))
        exact ⟨by rw [faultsNo, if_neg (by omega), if_neg (by omega), hp2, ht.end (by omega)]; rfl, hM.below⟩
theorem checkTags_any (l : Sl STag) (w : World) (hl : TagsOk w l) :
    Calls Tryd.prog 62 #[.slice l.A l.q l.c] w fun e w' => e = .returned (.int .i64 (if (40 : Int) < l.q then 4 else tagsNo none l.l)) ∧ Below w.heap.size w w' := by
  have ht := hl.ok.t
  have hq := hl.q
  refine enter_args (args := [.slice l.A l.q l.c]) (F := _) Tryd.func62 rfl Tryd.ntmps62 rfl rfl ?_
  intro Rb hRb hRn
  refine T_seq ?_
  refine T_region ?_
  refine S_ 2 rfl rfl rfl _ (y_assign rfl rfl) ?_
  refine S_go (fun _ _ h => h) ?_
  refine T_seq ?_
  refine T_seq ?_
  refine T_region ?_
  refine S_ 6 rfl rfl rfl _ (y_move rfl rfl) ?_
  refine S_ 7 rfl rfl rfl _ (y_len_slice rfl rfl Tryd.underlying32) ?_
  refine S_ 8 rfl rfl rfl _ (y_bin rfl rfl rfl (fun _ => b_gtr)) ?_
  refine S_go (fun _ _ h => h) ?_
  refine T_cond rfl (fun h8 => ?_) (fun h8 => ?_)
  · try simp only [decide_eq_true_eq, decide_eq_false_iff_not, Bool.or_eq_true, Bool.or_eq_false_iff, Bool.and_eq_true, Bool.and_eq_false_iff, Bool.not_eq_true', Bool.not_eq_false', Bool.not_eq_true, Bool.not_eq_false, Bool.not_true, Bool.not_false, Int.not_lt, Int.not_le, not_or, not_and, Classical.not_not] at h8
    refine T_seq ?_
    refine T_region ?_
    refine S_ 2 rfl rfl rfl _ (y_assign rfl rfl) ?_
    refine S_go (fun _ _ h => h) ?_
    refine T_ret (fun a w hF hM => hRb a w (post1 rfl rfl (fun w hM => ?_) a w hF hM))
    exact ⟨by rw [if_pos (by omega)], hM.below⟩
  · try simp only [decide_eq_true_eq, decide_eq_false_iff_not, Bool.or_eq_true, Bool.or_eq_false_iff, Bool.and_eq_true, Bool.and_eq_false_iff, Bool.not_eq_true', Bool.not_eq_false', Bool.not_eq_true, Bool.not_eq_false, Bool.not_true, Bool.not_false, Int.not_lt, Int.not_le, not_or, not_and, Classical.not_not] at h8
    refine T_skip_go (fun _ _ h => h) ?_
    refine T_seq ?_
    refine T_seq ?_
    refine T_region ?_
    refine S_ 9 rfl rfl rfl _ (y_move rfl rfl) ?_
    refine S_ 10 rfl rfl rfl _ (y_len_slice rfl rfl Tryd.underlying32) ?_
    refine S_ 11 rfl rfl rfl _ (y_move rfl rfl) ?_
    refine S_go (fun _ _ h => h) ?_
    refine T_block ?_
    refine T_loopK2 (kf := [(2, 5), (11, 39)]) (kl := [(2, 5), (11, 39)]) (fun (i : Nat) (b : STag) => [(11, true, .int .i64 (i : Int))]) (fun (i : Nat) (b : STag) => []) (fun (i : Nat) (b : STag) => i ≤ l.q ∧ tagsNo none l.l = tagsNo (prevN i b) (l.l.drop i) ∧ (0 < i → l.l[i - 1]? = some b)) (fun (i : Nat) (b : STag) => l.q - i) 0 ⟨[], []⟩ (by repeat (first | exact kf_nil | (apply kf_in; focus rfl) | (apply kf_out; focus rfl))) (by repeat (first | exact kl_nil | exact kl_rest (by assumption) rfl | (apply kl_in; focus rfl) | (apply kl_out; focus rfl))) ?_ ?_ ?_ ?_
    · exact ⟨by omega, rfl, by omega⟩
    · exact ⟨rfl, trivial⟩
    · exact trivial
    rintro i b ⟨hp1, hp2, hp3⟩
    refine T_seq ?_
    refine T_region ?_
    refine S_ 12 rfl rfl rfl _ (y_bin rfl rfl rfl (fun _ => b_lss)) ?_
    refine S_go (fun _ _ h => h) ?_
    refine T_seq ?_
    refine T_cond rfl (fun h12 => ?_) (fun h12 => ?_)
    · try simp only [decide_eq_true_eq, decide_eq_false_iff_not, Bool.or_eq_true, Bool.or_eq_false_iff, Bool.and_eq_true, Bool.and_eq_false_iff, Bool.not_eq_true', Bool.not_eq_false', Bool.not_eq_true, Bool.not_eq_false, Bool.not_true, Bool.not_false, Int.not_lt, Int.not_le, not_or, not_and, Classical.not_not] at h12
      obtain ⟨x, hx1, hx2⟩ := ht.at (i := i) (by omega)
      have hn := hl.n x (mem_at hx1)
      have hn2 := hn.2
      refine T_skip_go (fun _ _ h => h) ?_
      refine T_seq ?_
      refine T_block ?_
      refine T_seq ?_
      refine T_region ?_
      refine S_ 13 rfl rfl rfl _ (y_move rfl rfl) ?_
      refine S_ 14 rfl rfl rfl _ (y_indexAddr rfl rfl rfl Tryd.underlying32 sz144 (fun hg => ht.isSome (by omega)) (fun _ => by omega)) ?_
      refine S_ 15 rfl rfl rfl _ (y_loadT rfl rfl ht (fun _ => rfl) (fun _ => hx1) Tryd.underlying144 rfl sz144) ?_
      refine S_alloc 4 4 rfl rfl rfl rfl z144 ?_
      intro b4
      refine S_ 3 rfl rfl rfl _ (y_assign rfl rfl) ?_
      refine S_store 4 rfl rfl rfl rfl rfl rfl sz144 rfl rfl ?_
      refine S_go (fun _ _ h => h) ?_
      refine T_seq ?_
      refine T_seq ?_
      refine T_region ?_
      refine S_ 16 rfl rfl rfl _ (y_fieldAddr rfl rfl fa144_0) ?_
      refine S_ 17 rfl rfl rfl _ (y_load 4 rfl rfl rfl rfl Tryd.underlying9 rfl) ?_
      refine S_ 18 rfl rfl rfl _ (y_call rfl rfl rfl cf39 (fun _ w _ => IsName_any _ w)) ?_
      refine S_ 19 rfl rfl rfl _ (y_not rfl rfl) ?_
      refine S_go (fun _ _ h => h) ?_
      refine T_cond rfl (fun h19 => ?_) (fun h19 => ?_)
      · try simp only [decide_eq_true_eq, decide_eq_false_iff_not, Bool.or_eq_true, Bool.or_eq_false_iff, Bool.and_eq_true, Bool.and_eq_false_iff, Bool.not_eq_true', Bool.not_eq_false', Bool.not_eq_true, Bool.not_eq_false, Bool.not_true, Bool.not_false, Int.not_lt, Int.not_le, not_or, not_and, Classical.not_not] at h19
        refine T_seq ?_
        refine T_region ?_
        refine S_ 2 rfl rfl rfl _ (y_assign rfl rfl) ?_
        refine S_go (fun _ _ h => h) ?_
        refine T_ret (fun a w hF hM => hRb a w (post1 rfl rfl (fun w hM => ?_) a w hF hM))
        exact ⟨by rw [if_neg (by omega), hp2, hx2, tagsNo, if_pos h19], hM.below⟩
      · try simp only [decide_eq_true_eq, decide_eq_false_iff_not, Bool.or_eq_true, Bool.or_eq_false_iff, Bool.and_eq_true, Bool.and_eq_false_iff, Bool.not_eq_true', Bool.not_eq_false', Bool.not_eq_true, Bool.not_eq_false, Bool.not_true, Bool.not_false, Int.not_lt, Int.not_le, not_or, not_and, Classical.not_not] at h19
        refine T_skip_go (fun _ _ h => h) ?_
        refine T_seq ?_
        refine T_seq ?_
        refine T_draws (by kernel_rfl) (by kernel_rfl) ?_
        refine D_ 20 rfl rfl rfl _ (y_move rfl rfl) ?_
        refine D_ 21 rfl rfl rfl _ (y_bin rfl rfl rfl (fun _ => b_gtr)) ?_
        refine D_ 22 rfl rfl rfl _ (y_move rfl rfl) ?_
        refine Dg_ 23 rfl rfl rfl rfl rfl rfl _ (y_fieldAddr rfl rfl fa144_0) ?_
        refine Dg_ 24 rfl rfl rfl rfl rfl rfl _ (y_load 4 rfl rfl rfl rfl Tryd.underlying9 rfl) ?_
        refine Dg_ 25 rfl rfl rfl rfl rfl rfl _ (y_move rfl rfl) ?_
        refine Dg_ 26 rfl rfl rfl rfl rfl rfl _ (y_move rfl rfl) ?_
        refine Dg_ 27 rfl rfl rfl rfl rfl rfl _ (y_bin rfl rfl rfl (fun hg => b_subv (((i - 1 : Nat) : Int)) (by simp only [Bool.true_and, Bool.and_eq_true, beq_iff_eq, decide_eq_true_eq, decide_eq_false_iff_not, Int.not_lt, Int.not_le] at hg; omega) (by simp only [Bool.true_and, Bool.and_eq_true, beq_iff_eq, decide_eq_true_eq, decide_eq_false_iff_not, Int.not_lt, Int.not_le] at hg; omega))) ?_
        refine Dg_ 28 rfl rfl rfl rfl rfl rfl _ (y_indexAddr rfl rfl rfl Tryd.underlying32 sz144 (fun hg => ht.isSome (by simp only [Bool.true_and, Bool.and_eq_true, beq_iff_eq, decide_eq_true_eq, decide_eq_false_iff_not, Int.not_lt, Int.not_le] at hg; omega)) (fun hg => by simp only [Bool.true_and, Bool.and_eq_true, beq_iff_eq, decide_eq_true_eq, decide_eq_false_iff_not, Int.not_lt, Int.not_le] at hg; omega)) ?_
        refine Dg_ 29 rfl rfl rfl rfl rfl rfl _ (y_fieldEl rfl rfl ht.rd (fun hg => by simp only [Bool.true_and, Bool.and_eq_true, beq_iff_eq, decide_eq_true_eq, decide_eq_false_iff_not, Int.not_lt, Int.not_le] at hg; omega) fa144_0) ?_
        refine Dg_ 30 rfl rfl rfl rfl rfl rfl _ (y_load_fT rfl rfl ht (fun _ => rfl) (fun hg => hp3 (by simp only [Bool.true_and, Bool.and_eq_true, beq_iff_eq, decide_eq_true_eq, decide_eq_false_iff_not, Int.not_lt, Int.not_le] at hg; omega)) rfl Tryd.underlying9 rfl) ?_
        refine Dg_ 31 rfl rfl rfl rfl rfl rfl _ (y_bin rfl rfl rfl (fun _ => b_leqs)) ?_
        refine D_ 32 rfl rfl rfl _ (y_as (v' := .bool ((prevN i b).any fun s => Op.bytesLess x.n s || decide (x.n = s))) (by rw [prevN_any]) (y_and rfl rfl rfl)) ?_
        refine D_go (fun _ _ h => h) ?_
        refine T_cond rfl (fun h32 => ?_) (fun h32 => ?_)
        · skip
          refine T_seq ?_
          refine T_region ?_
          refine S_ 2 rfl rfl rfl _ (y_assign rfl rfl) ?_
          refine S_go (fun _ _ h => h) ?_
          refine T_ret (fun a w hF hM => hRb a w (post1 rfl rfl (fun w hM => ?_) a w hF hM))
          exact ⟨by rw [if_neg (by omega), hp2, hx2, tagsNo, if_neg (by rw [h19]; simp), if_t h32], hM.below⟩
        · skip
          refine T_skip_go (fun _ _ h => h) ?_
          refine T_seq ?_
          refine T_region ?_
          refine S_ 33 rfl rfl rfl _ (y_fieldAddr rfl rfl fa144_1) ?_
          refine S_ 34 rfl rfl rfl _ (y_load 4 rfl rfl rfl rfl Tryd.underlying9 rfl) ?_
          refine S_ 35 rfl rfl rfl _ (y_call rfl rfl rfl cf64 (fun _ w _ => checkValue_any _ (by first | omega | (simp; done) | (simp; omega) | (simp only; omega)) w)) ?_
          refine S_ 5 rfl rfl rfl _ (y_assign rfl rfl) ?_
          refine S_go (fun _ _ h => h) ?_
          refine T_seq ?_
          refine T_region ?_
          refine S_ 36 rfl rfl rfl _ (y_move rfl rfl) ?_
          refine S_ 37 rfl rfl rfl _ (y_bin rfl rfl rfl (fun _ => b_neq)) ?_
          refine S_go (fun _ _ h => h) ?_
          refine T_cond rfl (fun h37 => ?_) (fun h37 => ?_)
          · try simp only [decide_eq_true_eq, decide_eq_false_iff_not, Bool.or_eq_true, Bool.or_eq_false_iff, Bool.and_eq_true, Bool.and_eq_false_iff, Bool.not_eq_true', Bool.not_eq_false', Bool.not_eq_true, Bool.not_eq_false, Bool.not_true, Bool.not_false, Int.not_lt, Int.not_le, not_or, not_and, Classical.not_not] at h37
            refine T_seq ?_
            refine T_region ?_
            refine S_ 38 rfl rfl rfl _ (y_move rfl rfl) ?_
            refine S_ 2 rfl rfl rfl _ (y_assign rfl rfl) ?_
            refine S_go (fun _ _ h => h) ?_
            refine T_ret (fun a w hF hM => hRb a w (post1 rfl rfl (fun w hM => ?_) a w hF hM))
            exact ⟨by rw [if_neg (by omega), hp2, hx2, tagsNo, if_neg (by rw [h19]; simp), if_f h32, if_pos h37], hM.below⟩
          · try simp only [decide_eq_true_eq, decide_eq_false_iff_not, Bool.or_eq_true, Bool.or_eq_false_iff, Bool.and_eq_true, Bool.and_eq_false_iff, Bool.not_eq_true', Bool.not_eq_false', Bool.not_eq_true, Bool.not_eq_false, Bool.not_true, Bool.not_false, Int.not_lt, Int.not_le, not_or, not_and, Classical.not_not] at h37
            refine T_skip_go (fun _ _ h => h) ?_
            refine T_region ?_
            refine S_ 39 rfl rfl rfl _ (y_bin rfl rfl rfl (fun hg => b_add (by omega))) ?_
            refine S_ 11 rfl rfl rfl _ (y_move rfl rfl) ?_
            refine S_nil (nextK2 (kf := [(2, 5), (11, 39)]) (kl := [(2, 5), (11, 39)]) (i + 1) x (by repeat (first | exact kf_nil | (apply kf_in; focus rfl) | (apply kf_out; focus rfl))) (by repeat (first | exact kl_nil | exact kl_rest (by assumption) rfl | (apply kl_in; focus rfl) | (apply kl_out; focus rfl))) ?_ ?_ ?_ ?_)
            · omega
            · exact ⟨by omega, by rw [hp2, hx2, tagsNo, if_neg (by rw [h19]; simp), if_f h32, if_neg (by simpa using h37)]; rfl, fun _ => hx1⟩
            · exact ⟨rfl, trivial⟩
            · exact trivial
    · try simp only [decide_eq_true_eq, decide_eq_false_iff_not, Bool.or_eq_true, Bool.or_eq_false_iff, Bool.and_eq_true, Bool.and_eq_false_iff, Bool.not_eq_true', Bool.not_eq_false', Bool.not_eq_true, Bool.not_eq_false, Bool.not_true, Bool.not_false, Int.not_lt, Int.not_le, not_or, not_and, Classical.not_not] at h12
      refine T_exit_go (fun _ _ h => h) ?_
      refine T_seq ?_
      refine T_region ?_
      refine S_ 2 rfl rfl rfl _ (y_assign rfl rfl) ?_
      refine S_go (fun _ _ h => h) ?_
      refine T_ret (fun a w hF hM => hRb a w (post1 rfl rfl (fun w hM => ?_) a w hF hM))
      exact ⟨by rw [if_neg (by omega), hp2, ht.end (by omega), tagsNo_nil], hM.below⟩
theorem checkCrumbs_any (l : Sl SCrumb) (w : World) (hl : CrumbsOk w l) :
    Calls Tryd.prog 63 #[.slice l.A l.q l.c] w fun e w' => e = .returned (.int .i64 (if (50 : Int) < l.q then 4 else crumbsNo none l.l)) ∧ Below w.heap.size w w' := by
  have ht := hl.ok.t
  have hq := hl.q
  refine enter_args (args := [.slice l.A l.q l.c]) (F := _) Tryd.func63 rfl Tryd.ntmps63 rfl rfl ?_
  intro Rb hRb hRn
  refine T_seq ?_
  refine T_region ?_
  refine S_ 2 rfl rfl rfl _ (y_assign rfl rfl) ?_
  refine S_go (fun _ _ h => h) ?_
  refine T_seq ?_
  refine T_seq ?_
  refine T_region ?_
  refine S_ 6 rfl rfl rfl _ (y_move rfl rfl) ?_
  refine S_ 7 rfl rfl rfl _ (y_len_slice rfl rfl Tryd.underlying33) ?_
  refine S_ 8 rfl rfl rfl _ (y_bin rfl rfl rfl (fun _ => b_gtr)) ?_
  refine S_go (fun _ _ h => h) ?_
  refine T_cond rfl (fun h8 => ?_) (fun h8 => ?_)
  · try simp only [decide_eq_true_eq, decide_eq_false_iff_not, Bool.or_eq_true, Bool.or_eq_false_iff, Bool.and_eq_true, Bool.and_eq_false_iff, Bool.not_eq_true', Bool.not_eq_false', Bool.not_eq_true, Bool.not_eq_false, Bool.not_true, Bool.not_false, Int.not_lt, Int.not_le, not_or, not_and, Classical.not_not] at h8
    refine T_seq ?_
    refine T_region ?_
    refine S_ 2 rfl rfl rfl _ (y_assign rfl rfl) ?_
    refine S_go (fun _ _ h => h) ?_
    refine T_ret (fun a w hF hM => hRb a w (post1 rfl rfl (fun w hM => ?_) a w hF hM))
    exact ⟨by rw [if_pos (by omega)], hM.below⟩
  · try simp only [decide_eq_true_eq, decide_eq_false_iff_not, Bool.or_eq_true, Bool.or_eq_false_iff, Bool.and_eq_true, Bool.and_eq_false_iff, Bool.not_eq_true', Bool.not_eq_false', Bool.not_eq_true, Bool.not_eq_false, Bool.not_true, Bool.not_false, Int.not_lt, Int.not_le, not_or, not_and, Classical.not_not] at h8
    refine T_skip_go (fun _ _ h => h) ?_
    refine T_seq ?_
    refine T_seq ?_
    refine T_region ?_
    refine S_ 9 rfl rfl rfl _ (y_move rfl rfl) ?_
    refine S_ 10 rfl rfl rfl _ (y_len_slice rfl rfl Tryd.underlying33) ?_
    refine S_ 11 rfl rfl rfl _ (y_move rfl rfl) ?_
    refine S_go (fun _ _ h => h) ?_
    refine T_block ?_
    refine T_loopK2 (kf := [(2, 5), (11, 45)]) (kl := [(2, 5), (11, 45)]) (fun (i : Nat) (b : SCrumb) => [(11, true, .int .i64 (i : Int))]) (fun (i : Nat) (b : SCrumb) => []) (fun (i : Nat) (b : SCrumb) => i ≤ l.q ∧ crumbsNo none l.l = crumbsNo (prevA i b) (l.l.drop i) ∧ (0 < i → l.l[i - 1]? = some b)) (fun (i : Nat) (b : SCrumb) => l.q - i) 0 ⟨0, [], []⟩ (by repeat (first | exact kf_nil | (apply kf_in; focus rfl) | (apply kf_out; focus rfl))) (by repeat (first | exact kl_nil | exact kl_rest (by assumption) rfl | (apply kl_in; focus rfl) | (apply kl_out; focus rfl))) ?_ ?_ ?_ ?_
    · exact ⟨by omega, rfl, by omega⟩
    · exact ⟨rfl, trivial⟩
    · exact trivial
    rintro i b ⟨hp1, hp2, hp3⟩
    refine T_seq ?_
    refine T_region ?_
    refine S_ 12 rfl rfl rfl _ (y_bin rfl rfl rfl (fun _ => b_lss)) ?_
    refine S_go (fun _ _ h => h) ?_
    refine T_seq ?_
    refine T_cond rfl (fun h12 => ?_) (fun h12 => ?_)
    · try simp only [decide_eq_true_eq, decide_eq_false_iff_not, Bool.or_eq_true, Bool.or_eq_false_iff, Bool.and_eq_true, Bool.and_eq_false_iff, Bool.not_eq_true', Bool.not_eq_false', Bool.not_eq_true, Bool.not_eq_false, Bool.not_true, Bool.not_false, Int.not_lt, Int.not_le, not_or, not_and, Classical.not_not] at h12
      obtain ⟨x, hx1, hx2⟩ := ht.at (i := i) (by omega)
      have hn := hl.n x (mem_at hx1)
      have hn2 := hn.2
      refine T_skip_go (fun _ _ h => h) ?_
      refine T_seq ?_
      refine T_block ?_
      refine T_seq ?_
      refine T_region ?_
      refine S_ 13 rfl rfl rfl _ (y_move rfl rfl) ?_
      refine S_ 14 rfl rfl rfl _ (y_indexAddr rfl rfl rfl Tryd.underlying33 sz146 (fun hg => ht.isSome (by omega)) (fun _ => by omega)) ?_
      refine S_ 15 rfl rfl rfl _ (y_loadT rfl rfl ht (fun _ => rfl) (fun _ => hx1) Tryd.underlying146 rfl sz146) ?_
      refine S_alloc 4 4 rfl rfl rfl rfl z146 ?_
      intro b4
      refine S_ 3 rfl rfl rfl _ (y_assign rfl rfl) ?_
      refine S_store 4 rfl rfl rfl rfl rfl rfl sz146 rfl rfl ?_
      refine S_go (fun _ _ h => h) ?_
      refine T_seq ?_
      refine T_block ?_
      refine T_seq ?_
      refine T_region ?_
      refine S_ 17 rfl rfl rfl _ (y_fieldAddr rfl rfl fa146_0) ?_
      refine S_ 18 rfl rfl rfl _ (y_load 4 rfl rfl rfl rfl Tryd.underlying3 rfl) ?_
      refine S_ 19 rfl rfl rfl _ (y_call rfl rfl rfl cf65 (fun _ w _ => eoutside_any _ _ _ w)) ?_
      refine S_ 16 rfl rfl rfl _ (y_assign rfl rfl) ?_
      refine S_go (fun _ _ h => h) ?_
      refine T_cond rfl (fun h16 => ?_) (fun h16 => ?_)
      · skip
        refine T_seq ?_
        refine T_region ?_
        refine S_ 2 rfl rfl rfl _ (y_assign rfl rfl) ?_
        refine S_go (fun _ _ h => h) ?_
        refine T_ret (fun a w hF hM => hRb a w (post1 rfl rfl (fun w hM => ?_) a w hF hM))
        exact ⟨by rw [if_neg (by omega), hp2, hx2, crumbsNo, if_t h16], hM.below⟩
      · skip
        refine T_seq ?_
        refine T_draws (by kernel_rfl) (by kernel_rfl) ?_
        refine D_ 21 rfl rfl rfl _ (y_move rfl rfl) ?_
        refine D_ 22 rfl rfl rfl _ (y_bin rfl rfl rfl (fun _ => b_gtr)) ?_
        refine D_ 23 rfl rfl rfl _ (y_move rfl rfl) ?_
        refine Dg_ 24 rfl rfl rfl rfl rfl rfl _ (y_fieldAddr rfl rfl fa146_0) ?_
        refine Dg_ 25 rfl rfl rfl rfl rfl rfl _ (y_load 4 rfl rfl rfl rfl Tryd.underlying3 rfl) ?_
        refine Dg_ 26 rfl rfl rfl rfl rfl rfl _ (y_move rfl rfl) ?_
        refine Dg_ 27 rfl rfl rfl rfl rfl rfl _ (y_move rfl rfl) ?_
        refine Dg_ 28 rfl rfl rfl rfl rfl rfl _ (y_bin rfl rfl rfl (fun hg => b_subv (((i - 1 : Nat) : Int)) (by simp only [Bool.true_and, Bool.and_eq_true, beq_iff_eq, decide_eq_true_eq, decide_eq_false_iff_not, Int.not_lt, Int.not_le] at hg; omega) (by simp only [Bool.true_and, Bool.and_eq_true, beq_iff_eq, decide_eq_true_eq, decide_eq_false_iff_not, Int.not_lt, Int.not_le] at hg; omega))) ?_
        refine Dg_ 29 rfl rfl rfl rfl rfl rfl _ (y_indexAddr rfl rfl rfl Tryd.underlying33 sz146 (fun hg => ht.isSome (by simp only [Bool.true_and, Bool.and_eq_true, beq_iff_eq, decide_eq_true_eq, decide_eq_false_iff_not, Int.not_lt, Int.not_le] at hg; omega)) (fun hg => by simp only [Bool.true_and, Bool.and_eq_true, beq_iff_eq, decide_eq_true_eq, decide_eq_false_iff_not, Int.not_lt, Int.not_le] at hg; omega)) ?_
        refine Dg_ 30 rfl rfl rfl rfl rfl rfl _ (y_fieldEl rfl rfl ht.rd (fun hg => by simp only [Bool.true_and, Bool.and_eq_true, beq_iff_eq, decide_eq_true_eq, decide_eq_false_iff_not, Int.not_lt, Int.not_le] at hg; omega) fa146_0) ?_
        refine Dg_ 31 rfl rfl rfl rfl rfl rfl _ (y_load_fT rfl rfl ht (fun _ => rfl) (fun hg => hp3 (by simp only [Bool.true_and, Bool.and_eq_true, beq_iff_eq, decide_eq_true_eq, decide_eq_false_iff_not, Int.not_lt, Int.not_le] at hg; omega)) rfl Tryd.underlying3 rfl) ?_
        refine Dg_ 32 rfl rfl rfl rfl rfl rfl _ (y_bin rfl rfl rfl (fun _ => b_lss)) ?_
        refine D_ 33 rfl rfl rfl _ (y_as (v' := .bool ((prevA i b).any fun n => decide (x.at_ < n))) (by rw [prevA_any]) (y_and rfl rfl rfl)) ?_
        refine D_ 20 rfl rfl rfl _ (y_assign rfl rfl) ?_
        refine D_go (fun _ _ h => h) ?_
        refine T_cond rfl (fun h20 => ?_) (fun h20 => ?_)
        · skip
          refine T_seq ?_
          refine T_region ?_
          refine S_ 2 rfl rfl rfl _ (y_assign rfl rfl) ?_
          refine S_go (fun _ _ h => h) ?_
          refine T_ret (fun a w hF hM => hRb a w (post1 rfl rfl (fun w hM => ?_) a w hF hM))
          exact ⟨by rw [if_neg (by omega), hp2, hx2, crumbsNo, if_f h16, if_t h20], hM.below⟩
        · skip
          refine T_seq ?_
          refine T_region ?_
          refine S_ 35 rfl rfl rfl _ (y_fieldAddr rfl rfl fa146_1) ?_
          refine S_ 36 rfl rfl rfl _ (y_load 4 rfl rfl rfl rfl Tryd.underlying9 rfl) ?_
          refine S_ 37 rfl rfl rfl _ (y_call rfl rfl rfl cf39 (fun _ w _ => IsName_any _ w)) ?_
          refine S_ 38 rfl rfl rfl _ (y_not rfl rfl) ?_
          refine S_ 34 rfl rfl rfl _ (y_assign rfl rfl) ?_
          refine S_go (fun _ _ h => h) ?_
          refine T_cond rfl (fun h34 => ?_) (fun h34 => ?_)
          · try simp only [decide_eq_true_eq, decide_eq_false_iff_not, Bool.or_eq_true, Bool.or_eq_false_iff, Bool.and_eq_true, Bool.and_eq_false_iff, Bool.not_eq_true', Bool.not_eq_false', Bool.not_eq_true, Bool.not_eq_false, Bool.not_true, Bool.not_false, Int.not_lt, Int.not_le, not_or, not_and, Classical.not_not] at h34
            refine T_seq ?_
            refine T_region ?_
            refine S_ 2 rfl rfl rfl _ (y_assign rfl rfl) ?_
            refine S_go (fun _ _ h => h) ?_
            refine T_ret (fun a w hF hM => hRb a w (post1 rfl rfl (fun w hM => ?_) a w hF hM))
            exact ⟨by rw [if_neg (by omega), hp2, hx2, crumbsNo, if_f h16, if_f h20, if_pos h34], hM.below⟩
          · try simp only [decide_eq_true_eq, decide_eq_false_iff_not, Bool.or_eq_true, Bool.or_eq_false_iff, Bool.and_eq_true, Bool.and_eq_false_iff, Bool.not_eq_true', Bool.not_eq_false', Bool.not_eq_true, Bool.not_eq_false, Bool.not_true, Bool.not_false, Int.not_lt, Int.not_le, not_or, not_and, Classical.not_not] at h34
            refine T_skip_go (fun _ _ h => h) ?_
            refine T_seq ?_
            refine T_region ?_
            refine S_ 39 rfl rfl rfl _ (y_fieldAddr rfl rfl fa146_2) ?_
            refine S_ 40 rfl rfl rfl _ (y_load 4 rfl rfl rfl rfl Tryd.underlying9 rfl) ?_
            refine S_ 41 rfl rfl rfl _ (y_call rfl rfl rfl cf126 (fun _ w _ => checkSay_any _ (by first | omega | (simp; done) | (simp; omega) | (simp only; omega)) w)) ?_
            refine S_ 5 rfl rfl rfl _ (y_assign rfl rfl) ?_
            refine S_go (fun _ _ h => h) ?_
            refine T_seq ?_
            refine T_region ?_
            refine S_ 42 rfl rfl rfl _ (y_move rfl rfl) ?_
            refine S_ 43 rfl rfl rfl _ (y_bin rfl rfl rfl (fun _ => b_neq)) ?_
            refine S_go (fun _ _ h => h) ?_
            refine T_cond rfl (fun h43 => ?_) (fun h43 => ?_)
            · try simp only [decide_eq_true_eq, decide_eq_false_iff_not, Bool.or_eq_true, Bool.or_eq_false_iff, Bool.and_eq_true, Bool.and_eq_false_iff, Bool.not_eq_true', Bool.not_eq_false', Bool.not_eq_true, Bool.not_eq_false, Bool.not_true, Bool.not_false, Int.not_lt, Int.not_le, not_or, not_and, Classical.not_not] at h43
              refine T_seq ?_
              refine T_region ?_
              refine S_ 44 rfl rfl rfl _ (y_move rfl rfl) ?_
              refine S_ 2 rfl rfl rfl _ (y_assign rfl rfl) ?_
              refine S_go (fun _ _ h => h) ?_
              refine T_ret (fun a w hF hM => hRb a w (post1 rfl rfl (fun w hM => ?_) a w hF hM))
              exact ⟨by rw [if_neg (by omega), hp2, hx2, crumbsNo, if_f h16, if_f h20, if_neg (by rw [h34]; simp), if_pos h43], hM.below⟩
            · try simp only [decide_eq_true_eq, decide_eq_false_iff_not, Bool.or_eq_true, Bool.or_eq_false_iff, Bool.and_eq_true, Bool.and_eq_false_iff, Bool.not_eq_true', Bool.not_eq_false', Bool.not_eq_true, Bool.not_eq_false, Bool.not_true, Bool.not_false, Int.not_lt, Int.not_le, not_or, not_and, Classical.not_not] at h43
              refine T_skip_go (fun _ _ h => h) ?_
              refine T_region ?_
              refine S_ 45 rfl rfl rfl _ (y_bin rfl rfl rfl (fun hg => b_add (by omega))) ?_
              refine S_ 11 rfl rfl rfl _ (y_move rfl rfl) ?_
              refine S_nil (nextK2 (kf := [(2, 5), (11, 45)]) (kl := [(2, 5), (11, 45)]) (i + 1) x (by repeat (first | exact kf_nil | (apply kf_in; focus rfl) | (apply kf_out; focus rfl))) (by repeat (first | exact kl_nil | exact kl_rest (by assumption) rfl | (apply kl_in; focus rfl) | (apply kl_out; focus rfl))) ?_ ?_ ?_ ?_)
              · omega
              · exact ⟨by omega, by rw [hp2, hx2, crumbsNo, if_f h16, if_f h20, if_neg (by rw [h34]; simp), if_neg (by simpa using h43)]; rfl, fun _ => hx1⟩
              · exact ⟨rfl, trivial⟩
              · exact trivial
    · try simp only [decide_eq_true_eq, decide_eq_false_iff_not, Bool.or_eq_true, Bool.or_eq_false_iff, Bool.and_eq_true, Bool.and_eq_false_iff, Bool.not_eq_true', Bool.not_eq_false', Bool.not_eq_true, Bool.not_eq_false, Bool.not_true, Bool.not_false, Int.not_lt, Int.not_le, not_or, not_and, Classical.not_not] at h12
      refine T_exit_go (fun _ _ h => h) ?_
      refine T_seq ?_
      refine T_region ?_
      refine S_ 2 rfl rfl rfl _ (y_assign rfl rfl) ?_
      refine S_go (fun _ _ h => h) ?_
      refine T_ret (fun a w hF hM => hRb a w (post1 rfl rfl (fun w hM => ?_) a w hF hM))
      exact ⟨by rw [if_neg (by omega), hp2, ht.end (by omega), crumbsNo_nil], hM.below⟩
theorem checkHead_any (e : Evt) (w : World) :
    Calls Tryd.prog 60 #[e.val] w fun en w' => en = .returned (.int .i64 (headNo e.id e.at_ e.lv)) ∧ Below w.heap.size w w' := by
  refine enter_args (args := [.agg #[str e.id, .int .i64 e.at_, .int .i64 e.lv, .slice e.fa.A e.fa.q e.fa.c, .slice e.ta.A e.ta.q e.ta.c, .slice e.cr.A e.cr.q e.cr.c, str e.rel, str e.us, .int .i64 e.wt]]) (F := _) Tryd.func60 rfl Tryd.ntmps60 rfl rfl ?_
  intro Rb hRb hRn
  refine T_seq ?_
  refine T_region ?_
  refine S_box 1 1 rfl rfl rfl rfl rfl ?_
  intro b1
  refine S_ 2 rfl rfl rfl _ (y_assign rfl rfl) ?_
  refine S_go (fun _ _ h => h) ?_
  refine T_seq ?_
  refine T_seq ?_
  refine T_region ?_
  refine S_ 3 rfl rfl rfl _ (y_fieldAddr rfl rfl fa35_0) ?_
  refine S_ 4 rfl rfl rfl _ (y_load 1 rfl rfl rfl rfl Tryd.underlying9 rfl) ?_
  refine S_ 5 rfl rfl rfl _ (y_call rfl rfl rfl cf49 (fun _ w _ => isDigest_any _ w)) ?_
  refine S_ 6 rfl rfl rfl _ (y_not rfl rfl) ?_
  refine S_go (fun _ _ h => h) ?_
  refine T_cond rfl (fun h6 => ?_) (fun h6 => ?_)
  · try simp only [decide_eq_true_eq, decide_eq_false_iff_not, Bool.or_eq_true, Bool.or_eq_false_iff, Bool.and_eq_true, Bool.and_eq_false_iff, Bool.not_eq_true', Bool.not_eq_false', Bool.not_eq_true, Bool.not_eq_false, Bool.not_true, Bool.not_false, Int.not_lt, Int.not_le, not_or, not_and, Classical.not_not] at h6
    refine T_seq ?_
    refine T_region ?_
    refine S_ 2 rfl rfl rfl _ (y_assign rfl rfl) ?_
    refine S_go (fun _ _ h => h) ?_
    refine T_ret (fun a w hF hM => hRb a w (post1 rfl rfl (fun w hM => ?_) a w hF hM))
    exact ⟨by rw [headNo, if_pos h6], hM.below⟩
  · try simp only [decide_eq_true_eq, decide_eq_false_iff_not, Bool.or_eq_true, Bool.or_eq_false_iff, Bool.and_eq_true, Bool.and_eq_false_iff, Bool.not_eq_true', Bool.not_eq_false', Bool.not_eq_true, Bool.not_eq_false, Bool.not_true, Bool.not_false, Int.not_lt, Int.not_le, not_or, not_and, Classical.not_not] at h6
    refine T_skip_go (fun _ _ h => h) ?_
    refine T_seq ?_
    refine T_seq ?_
    refine T_region ?_
    refine S_ 7 rfl rfl rfl _ (y_fieldAddr rfl rfl fa35_1) ?_
    refine S_ 8 rfl rfl rfl _ (y_load 1 rfl rfl rfl rfl Tryd.underlying3 rfl) ?_
    refine S_ 9 rfl rfl rfl _ (y_call rfl rfl rfl cf65 (fun _ w _ => eoutside_any _ _ _ w)) ?_
    refine S_ 10 rfl rfl rfl _ (y_move rfl rfl) ?_
    refine Sg_ 11 rfl rfl rfl rfl rfl rfl _ (y_fieldAddr rfl rfl fa35_2) ?_
    refine Sg_ 12 rfl rfl rfl rfl rfl rfl _ (y_load 1 rfl rfl rfl rfl Tryd.underlying3 rfl) ?_
    refine Sg_ 13 rfl rfl rfl rfl rfl rfl _ (y_call rfl rfl rfl cf65 (fun _ w _ => eoutside_any _ _ _ w)) ?_
    refine S_ 14 rfl rfl rfl _ (y_or rfl rfl rfl) ?_
    refine S_go (fun _ _ h => h) ?_
    refine T_cond rfl (fun h14 => ?_) (fun h14 => ?_)
    · skip
      refine T_seq ?_
      refine T_region ?_
      refine S_ 2 rfl rfl rfl _ (y_assign rfl rfl) ?_
      refine S_go (fun _ _ h => h) ?_
      refine T_ret (fun a w hF hM => hRb a w (post1 rfl rfl (fun w hM => ?_) a w hF hM))
      exact ⟨by rw [headNo, if_neg (by rw [h6]; simp), if_t h14], hM.below⟩
    · skip
      refine T_skip_go (fun _ _ h => h) ?_
      refine T_seq ?_
      refine T_region ?_
      refine S_ 2 rfl rfl rfl _ (y_assign rfl rfl) ?_
      refine S_go (fun _ _ h => h) ?_
      refine T_ret (fun a w hF hM => hRb a w (post1 rfl rfl (fun w hM => ?_) a w hF hM))
      exact ⟨by rw [headNo, if_neg (by rw [h6]; simp), if_f h14], hM.below⟩
theorem Check_any (e : Evt) (w : World) (he : e.Ok w) :
    Calls Tryd.prog 24 #[e.val] w fun en w' => en = .returned (.int .i64 (evNo e)) ∧ Below w.heap.size w w' := by
  have hus := he.us
  refine enter_args (args := [.agg #[str e.id, .int .i64 e.at_, .int .i64 e.lv, .slice e.fa.A e.fa.q e.fa.c, .slice e.ta.A e.ta.q e.ta.c, .slice e.cr.A e.cr.q e.cr.c, str e.rel, str e.us, .int .i64 e.wt]]) (F := _) Tryd.func24 rfl Tryd.ntmps24 rfl rfl ?_
  intro Rb hRb hRn
  refine T_seq ?_
  refine T_region ?_
  refine S_box 1 1 rfl rfl rfl rfl rfl ?_
  intro b1
  refine S_ 2 rfl rfl rfl _ (y_assign rfl rfl) ?_
  refine S_go (fun _ _ h => h) ?_
  refine T_seq ?_
  refine T_seq ?_
  refine T_region ?_
  refine S_ 8 rfl rfl rfl _ (y_loadA 1 rfl rfl rfl Tryd.underlying35 rfl sz35) ?_
  refine S_ 9 rfl rfl rfl _ (y_call rfl rfl rfl cf60 (fun _ w _ => checkHead_any e w)) ?_
  refine S_ 3 rfl rfl rfl _ (y_assign rfl rfl) ?_
  refine S_go (fun _ _ h => h) ?_
  refine T_seq ?_
  refine T_region ?_
  refine S_ 10 rfl rfl rfl _ (y_move rfl rfl) ?_
  refine S_ 11 rfl rfl rfl _ (y_bin rfl rfl rfl (fun _ => b_neq)) ?_
  refine S_go (fun _ _ h => h) ?_
  refine T_cond rfl (fun h11 => ?_) (fun h11 => ?_)
  · try simp only [decide_eq_true_eq, decide_eq_false_iff_not, Bool.or_eq_true, Bool.or_eq_false_iff, Bool.and_eq_true, Bool.and_eq_false_iff, Bool.not_eq_true', Bool.not_eq_false', Bool.not_eq_true, Bool.not_eq_false, Bool.not_true, Bool.not_false, Int.not_lt, Int.not_le, not_or, not_and, Classical.not_not] at h11
    refine T_seq ?_
    refine T_region ?_
    refine S_ 12 rfl rfl rfl _ (y_move rfl rfl) ?_
    refine S_ 2 rfl rfl rfl _ (y_assign rfl rfl) ?_
    refine S_go (fun _ _ h => h) ?_
    refine T_ret (fun a w hF hM => hRb a w (post1 rfl rfl (fun w hM => ?_) a w hF hM))
    exact ⟨by rw [evNo, fst_t h11], hM.below⟩
  · try simp only [decide_eq_true_eq, decide_eq_false_iff_not, Bool.or_eq_true, Bool.or_eq_false_iff, Bool.and_eq_true, Bool.and_eq_false_iff, Bool.not_eq_true', Bool.not_eq_false', Bool.not_eq_true, Bool.not_eq_false, Bool.not_true, Bool.not_false, Int.not_lt, Int.not_le, not_or, not_and, Classical.not_not] at h11
    refine T_skip_go (fun _ _ h => h) ?_
    refine T_seq ?_
    refine T_seq ?_
    refine T_region ?_
    refine S_ 13 rfl rfl rfl _ (y_fieldAddr rfl rfl fa35_3) ?_
    refine S_ 14 rfl rfl rfl _ (y_load 1 rfl rfl rfl rfl Tryd.underlying31 rfl) ?_
    refine S_ 15 rfl rfl rfl _ (y_call rfl rfl rfl cf61 (fun _ w hM => sCheck_any e.fa w (he.fa.below hM.below))) ?_
    refine S_ 4 rfl rfl rfl _ (y_assign rfl rfl) ?_
    refine S_go (fun _ _ h => h) ?_
    refine T_seq ?_
    refine T_region ?_
    refine S_ 16 rfl rfl rfl _ (y_move rfl rfl) ?_
    refine S_ 17 rfl rfl rfl _ (y_bin rfl rfl rfl (fun _ => b_neq)) ?_
    refine S_go (fun _ _ h => h) ?_
    refine T_cond rfl (fun h17 => ?_) (fun h17 => ?_)
    · try simp only [decide_eq_true_eq, decide_eq_false_iff_not, Bool.or_eq_true, Bool.or_eq_false_iff, Bool.and_eq_true, Bool.and_eq_false_iff, Bool.not_eq_true', Bool.not_eq_false', Bool.not_eq_true, Bool.not_eq_false, Bool.not_true, Bool.not_false, Int.not_lt, Int.not_le, not_or, not_and, Classical.not_not] at h17
      refine T_seq ?_
      refine T_region ?_
      refine S_ 18 rfl rfl rfl _ (y_move rfl rfl) ?_
      refine S_ 2 rfl rfl rfl _ (y_assign rfl rfl) ?_
      refine S_go (fun _ _ h => h) ?_
      refine T_ret (fun a w hF hM => hRb a w (post1 rfl rfl (fun w hM => ?_) a w hF hM))
      exact ⟨by rw [evNo, fst_f h11, fst_t h17], hM.below⟩
    · try simp only [decide_eq_true_eq, decide_eq_false_iff_not, Bool.or_eq_true, Bool.or_eq_false_iff, Bool.and_eq_true, Bool.and_eq_false_iff, Bool.not_eq_true', Bool.not_eq_false', Bool.not_eq_true, Bool.not_eq_false, Bool.not_true, Bool.not_false, Int.not_lt, Int.not_le, not_or, not_and, Classical.not_not] at h17
      refine T_skip_go (fun _ _ h => h) ?_
      refine T_seq ?_
      refine T_seq ?_
      refine T_region ?_
      refine S_ 19 rfl rfl rfl _ (y_fieldAddr rfl rfl fa35_4) ?_
      refine S_ 20 rfl rfl rfl _ (y_load 1 rfl rfl rfl rfl Tryd.underlying32 rfl) ?_
      refine S_ 21 rfl rfl rfl _ (y_call rfl rfl rfl cf62 (fun _ w hM => checkTags_any e.ta w (he.ta.below hM.below))) ?_
      refine S_ 5 rfl rfl rfl _ (y_assign rfl rfl) ?_
      refine S_go (fun _ _ h => h) ?_
      refine T_seq ?_
      refine T_region ?_
      refine S_ 22 rfl rfl rfl _ (y_move rfl rfl) ?_
      refine S_ 23 rfl rfl rfl _ (y_bin rfl rfl rfl (fun _ => b_neq)) ?_
      refine S_go (fun _ _ h => h) ?_
      refine T_cond rfl (fun h23 => ?_) (fun h23 => ?_)
      · try simp only [decide_eq_true_eq, decide_eq_false_iff_not, Bool.or_eq_true, Bool.or_eq_false_iff, Bool.and_eq_true, Bool.and_eq_false_iff, Bool.not_eq_true', Bool.not_eq_false', Bool.not_eq_true, Bool.not_eq_false, Bool.not_true, Bool.not_false, Int.not_lt, Int.not_le, not_or, not_and, Classical.not_not] at h23
        refine T_seq ?_
        refine T_region ?_
        refine S_ 24 rfl rfl rfl _ (y_move rfl rfl) ?_
        refine S_ 2 rfl rfl rfl _ (y_assign rfl rfl) ?_
        refine S_go (fun _ _ h => h) ?_
        refine T_ret (fun a w hF hM => hRb a w (post1 rfl rfl (fun w hM => ?_) a w hF hM))
        exact ⟨by rw [evNo, fst_f h11, fst_f h17, fst_t h23], hM.below⟩
      · try simp only [decide_eq_true_eq, decide_eq_false_iff_not, Bool.or_eq_true, Bool.or_eq_false_iff, Bool.and_eq_true, Bool.and_eq_false_iff, Bool.not_eq_true', Bool.not_eq_false', Bool.not_eq_true, Bool.not_eq_false, Bool.not_true, Bool.not_false, Int.not_lt, Int.not_le, not_or, not_and, Classical.not_not] at h23
        refine T_skip_go (fun _ _ h => h) ?_
        refine T_seq ?_
        refine T_seq ?_
        refine T_region ?_
        refine S_ 25 rfl rfl rfl _ (y_fieldAddr rfl rfl fa35_5) ?_
        refine S_ 26 rfl rfl rfl _ (y_load 1 rfl rfl rfl rfl Tryd.underlying33 rfl) ?_
        refine S_ 27 rfl rfl rfl _ (y_call rfl rfl rfl cf63 (fun _ w hM => checkCrumbs_any e.cr w (he.cr.below hM.below))) ?_
        refine S_ 6 rfl rfl rfl _ (y_assign rfl rfl) ?_
        refine S_go (fun _ _ h => h) ?_
        refine T_seq ?_
        refine T_region ?_
        refine S_ 28 rfl rfl rfl _ (y_move rfl rfl) ?_
        refine S_ 29 rfl rfl rfl _ (y_bin rfl rfl rfl (fun _ => b_neq)) ?_
        refine S_go (fun _ _ h => h) ?_
        refine T_cond rfl (fun h29 => ?_) (fun h29 => ?_)
        · try simp only [decide_eq_true_eq, decide_eq_false_iff_not, Bool.or_eq_true, Bool.or_eq_false_iff, Bool.and_eq_true, Bool.and_eq_false_iff, Bool.not_eq_true', Bool.not_eq_false', Bool.not_eq_true, Bool.not_eq_false, Bool.not_true, Bool.not_false, Int.not_lt, Int.not_le, not_or, not_and, Classical.not_not] at h29
          refine T_seq ?_
          refine T_region ?_
          refine S_ 30 rfl rfl rfl _ (y_move rfl rfl) ?_
          refine S_ 2 rfl rfl rfl _ (y_assign rfl rfl) ?_
          refine S_go (fun _ _ h => h) ?_
          refine T_ret (fun a w hF hM => hRb a w (post1 rfl rfl (fun w hM => ?_) a w hF hM))
          exact ⟨by rw [evNo, fst_f h11, fst_f h17, fst_f h23, fst_t h29], hM.below⟩
        · try simp only [decide_eq_true_eq, decide_eq_false_iff_not, Bool.or_eq_true, Bool.or_eq_false_iff, Bool.and_eq_true, Bool.and_eq_false_iff, Bool.not_eq_true', Bool.not_eq_false', Bool.not_eq_true, Bool.not_eq_false, Bool.not_true, Bool.not_false, Int.not_lt, Int.not_le, not_or, not_and, Classical.not_not] at h29
          refine T_skip_go (fun _ _ h => h) ?_
          refine T_seq ?_
          refine T_seq ?_
          refine T_region ?_
          refine S_ 31 rfl rfl rfl _ (y_fieldAddr rfl rfl fa35_6) ?_
          refine S_ 32 rfl rfl rfl _ (y_load 1 rfl rfl rfl rfl Tryd.underlying9 rfl) ?_
          refine S_ 33 rfl rfl rfl _ (y_bin rfl rfl rfl (fun _ => b_neqs)) ?_
          refine S_ 34 rfl rfl rfl _ (y_move rfl rfl) ?_
          refine Sg_ 35 rfl rfl rfl rfl rfl rfl _ (y_fieldAddr rfl rfl fa35_6) ?_
          refine Sg_ 36 rfl rfl rfl rfl rfl rfl _ (y_load 1 rfl rfl rfl rfl Tryd.underlying9 rfl) ?_
          refine Sg_ 37 rfl rfl rfl rfl rfl rfl _ (y_call rfl rfl rfl cf39 (fun _ w _ => IsName_any _ w)) ?_
          refine Sg_ 38 rfl rfl rfl rfl rfl rfl _ (y_not rfl rfl) ?_
          refine S_ 39 rfl rfl rfl _ (y_and rfl rfl rfl) ?_
          refine S_go (fun _ _ h => h) ?_
          refine T_cond rfl (fun h39 => ?_) (fun h39 => ?_)
          · skip
            refine T_seq ?_
            refine T_region ?_
            refine S_ 2 rfl rfl rfl _ (y_assign rfl rfl) ?_
            refine S_go (fun _ _ h => h) ?_
            refine T_ret (fun a w hF hM => hRb a w (post1 rfl rfl (fun w hM => ?_) a w hF hM))
            exact ⟨by rw [evNo, fst_f h11, fst_f h17, fst_f h23, fst_f h29, if_t h39], hM.below⟩
          · skip
            refine T_skip_go (fun _ _ h => h) ?_
            refine T_seq ?_
            refine T_seq ?_
            refine T_region ?_
            refine S_ 40 rfl rfl rfl _ (y_fieldAddr rfl rfl fa35_7) ?_
            refine S_ 41 rfl rfl rfl _ (y_load 1 rfl rfl rfl rfl Tryd.underlying9 rfl) ?_
            refine S_ 42 rfl rfl rfl _ (y_call rfl rfl rfl cf64 (fun _ w _ => checkValue_any _ (by first | omega | (simp; done) | (simp; omega) | (simp only; omega)) w)) ?_
            refine S_ 7 rfl rfl rfl _ (y_assign rfl rfl) ?_
            refine S_go (fun _ _ h => h) ?_
            refine T_seq ?_
            refine T_region ?_
            refine S_ 43 rfl rfl rfl _ (y_move rfl rfl) ?_
            refine S_ 44 rfl rfl rfl _ (y_bin rfl rfl rfl (fun _ => b_neq)) ?_
            refine S_go (fun _ _ h => h) ?_
            refine T_cond rfl (fun h44 => ?_) (fun h44 => ?_)
            · try simp only [decide_eq_true_eq, decide_eq_false_iff_not, Bool.or_eq_true, Bool.or_eq_false_iff, Bool.and_eq_true, Bool.and_eq_false_iff, Bool.not_eq_true', Bool.not_eq_false', Bool.not_eq_true, Bool.not_eq_false, Bool.not_true, Bool.not_false, Int.not_lt, Int.not_le, not_or, not_and, Classical.not_not] at h44
              refine T_seq ?_
              refine T_region ?_
              refine S_ 45 rfl rfl rfl _ (y_move rfl rfl) ?_
              refine S_ 2 rfl rfl rfl _ (y_assign rfl rfl) ?_
              refine S_go (fun _ _ h => h) ?_
              refine T_ret (fun a w hF hM => hRb a w (post1 rfl rfl (fun w hM => ?_) a w hF hM))
              exact ⟨by rw [evNo, fst_f h11, fst_f h17, fst_f h23, fst_f h29, if_f h39, fst_t h44], hM.below⟩
            · try simp only [decide_eq_true_eq, decide_eq_false_iff_not, Bool.or_eq_true, Bool.or_eq_false_iff, Bool.and_eq_true, Bool.and_eq_false_iff, Bool.not_eq_true', Bool.not_eq_false', Bool.not_eq_true, Bool.not_eq_false, Bool.not_true, Bool.not_false, Int.not_lt, Int.not_le, not_or, not_and, Classical.not_not] at h44
              refine T_skip_go (fun _ _ h => h) ?_
              refine T_seq ?_
              refine T_seq ?_
              refine T_region ?_
              refine S_ 46 rfl rfl rfl _ (y_fieldAddr rfl rfl fa35_8) ?_
              refine S_ 47 rfl rfl rfl _ (y_load 1 rfl rfl rfl rfl Tryd.underlying3 rfl) ?_
              refine S_ 48 rfl rfl rfl _ (y_call rfl rfl rfl cf65 (fun _ w _ => eoutside_any _ _ _ w)) ?_
              refine S_go (fun _ _ h => h) ?_
              refine T_cond rfl (fun h48 => ?_) (fun h48 => ?_)
              · skip
                refine T_seq ?_
                refine T_region ?_
                refine S_ 2 rfl rfl rfl _ (y_assign rfl rfl) ?_
                refine S_go (fun _ _ h => h) ?_
                refine T_ret (fun a w hF hM => hRb a w (post1 rfl rfl (fun w hM => ?_) a w hF hM))
                exact ⟨by rw [evNo, fst_f h11, fst_f h17, fst_f h23, fst_f h29, if_f h39, fst_f h44, if_t h48], hM.below⟩
              · skip
                refine T_skip_go (fun _ _ h => h) ?_
                refine T_seq ?_
                refine T_region ?_
                refine S_ 2 rfl rfl rfl _ (y_assign rfl rfl) ?_
                refine S_go (fun _ _ h => h) ?_
                refine T_ret (fun a w hF hM => hRb a w (post1 rfl rfl (fun w hM => ?_) a w hF hM))
                exact ⟨by rw [evNo, fst_f h11, fst_f h17, fst_f h23, fst_f h29, if_f h39, fst_f h44, if_f h48], hM.below⟩
end Go.Proofs.YtpmlgnbbkpplhaaDoor
