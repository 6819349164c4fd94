/- VersionText, and the law ReleaseVersions, walked. Conditions: those of each theorem. -/
import Derived.Test.YtpmlgnbbkpplhaaGreatDoorVRef
namespace Go.Proofs.YtpmlgnbbkpplhaaGreatDoor
set_option linter.unusedSimpArgs false
set_option linter.unusedVariables false
set_option maxRecDepth 20000
open Go.RowKit Go.Eng
theorem VersionText_any (v : SVer) (w : World) (hv : VerOk w v) (hP : P10 w) :
    Calls Tryz.prog 20 #[v.val] w fun e w' => e = .returned (.tuple #[str (txtR v.says).1, .int .i64 (txtR v.says).2]) ∧ Below w.heap.size w w' := by
  have hlen := hv.ok.t.len
  have hq := hv.q
  have hia := Lib.itoa_length_le v.a hv.a.1 hv.a.2
  have hib := Lib.itoa_length_le v.b hv.b.1 hv.b.2
  have hic := Lib.itoa_length_le v.c hv.c.1 hv.c.2
  refine enter_args (args := [.agg #[str v.p, .int .i64 v.a, .int .i64 v.b, .int .i64 v.c, .slice v.pre.A v.pre.q v.pre.c]]) (F := _) Tryz.func20 rfl Tryz.ntmps20 rfl rfl ?_
  intro Rb hRb hRn
  refine T_seq ?_
  refine T_region ?_
  refine S_box 1 1 rfl rfl rfl rfl rfl ?_
  intro b1
  refine S_ 2 rfl rfl rfl _ (y_assign rfl rfl) ?_
  refine S_ 3 rfl rfl rfl _ (y_assign rfl rfl) ?_
  refine S_go (fun _ _ h => h) ?_
  refine T_seq ?_
  refine T_block ?_
  refine T_seq ?_
  refine T_region ?_
  refine S_ 6 rfl rfl rfl _ (y_fieldAddr rfl rfl fa42_0) ?_
  refine S_ 7 rfl rfl rfl _ (y_load 1 rfl rfl rfl rfl Tryz.underlying9 rfl) ?_
  refine S_ 8 rfl rfl rfl _ (y_call rfl rfl rfl cf92 (fun _ w _ => projectOk_any v.p w)) ?_
  refine S_ 9 rfl rfl rfl _ (y_not rfl rfl) ?_
  refine S_ 5 rfl rfl rfl _ (y_assign rfl rfl) ?_
  refine S_go (fun _ _ h => h) ?_
  refine T_cond rfl (fun h5 => ?_) (fun h5 => ?_)
  · skip
    have h5 : projOk v.says.p = false := by show projOk v.p = false; simpa using h5
    refine T_seq ?_
    refine T_region ?_
    refine S_ 2 rfl rfl rfl _ (y_assign rfl rfl) ?_
    refine S_ 3 rfl rfl rfl _ (y_assign rfl rfl) ?_
    refine S_go (fun _ _ h => h) ?_
    refine T_ret (fun a w hF hM => hRb a w (post2 rfl rfl rfl (fun w hM => ?_) a w hF hM))
    exact ⟨by rw [txtR, if_pos h5], hM.below⟩
  · skip
    have h5 : projOk v.p = true := by simpa using h5
    have hpl := proj_le h5
    refine T_seq ?_
    refine T_region ?_
    refine S_ 11 rfl rfl rfl _ (y_fieldAddr rfl rfl fa42_1) ?_
    refine S_ 12 rfl rfl rfl _ (y_load 1 rfl rfl rfl rfl Tryz.underlying3 rfl) ?_
    refine S_ 13 rfl rfl rfl _ (y_call rfl rfl rfl cf65 (fun _ w _ => out_any _ _ _ w)) ?_
    refine S_ 14 rfl rfl rfl _ (y_move rfl rfl) ?_
    refine Sg_ 15 rfl rfl rfl rfl rfl rfl _ (y_fieldAddr rfl rfl fa42_2) ?_
    refine Sg_ 16 rfl rfl rfl rfl rfl rfl _ (y_load 1 rfl rfl rfl rfl Tryz.underlying3 rfl) ?_
    refine Sg_ 17 rfl rfl rfl rfl rfl rfl _ (y_call rfl rfl rfl cf65 (fun _ w _ => out_any _ _ _ w)) ?_
    refine S_ 18 rfl rfl rfl _ (y_or rfl rfl rfl) ?_
    refine S_ 19 rfl rfl rfl _ (y_move rfl rfl) ?_
    refine Sg_ 20 rfl rfl rfl rfl rfl rfl _ (y_fieldAddr rfl rfl fa42_3) ?_
    refine Sg_ 21 rfl rfl rfl rfl rfl rfl _ (y_load 1 rfl rfl rfl rfl Tryz.underlying3 rfl) ?_
    refine Sg_ 22 rfl rfl rfl rfl rfl rfl _ (y_call rfl rfl rfl cf65 (fun _ w _ => out_any _ _ _ w)) ?_
    refine S_ 23 rfl rfl rfl _ (y_or rfl rfl rfl) ?_
    refine S_ 10 rfl rfl rfl _ (y_assign rfl rfl) ?_
    refine S_go (fun _ _ h => h) ?_
    refine T_cond rfl (fun h10 => ?_) (fun h10 => ?_)
    · skip
      refine T_seq ?_
      refine T_region ?_
      refine S_ 2 rfl rfl rfl _ (y_assign rfl rfl) ?_
      refine S_ 3 rfl rfl rfl _ (y_assign rfl rfl) ?_
      refine S_go (fun _ _ h => h) ?_
      refine T_ret (fun a w hF hM => hRb a w (post2 rfl rfl rfl (fun w hM => ?_) a w hF hM))
      exact ⟨by rw [txtR, if_neg (by simp [SVer.says, h5]), if_pos (show (outB v.says.a 0 999999 || outB v.says.b 0 999999 || outB v.says.c 0 999999) = true from h10)], hM.below⟩
    · skip
      refine T_seq ?_
      refine T_region ?_
      refine S_ 25 rfl rfl rfl _ (y_fieldAddr rfl rfl fa42_4) ?_
      refine S_ 26 rfl rfl rfl _ (y_load 1 rfl rfl rfl rfl Tryz.underlying40 rfl) ?_
      refine S_ 27 rfl rfl rfl _ (y_len_slice rfl rfl Tryz.underlying40) ?_
      refine S_ 28 rfl rfl rfl _ (y_bin rfl rfl rfl (fun _ => b_gtr)) ?_
      refine S_ 24 rfl rfl rfl _ (y_assign rfl rfl) ?_
      refine S_go (fun _ _ h => h) ?_
      refine T_cond rfl (fun h24 => ?_) (fun h24 => ?_)
      · try simp only [decide_eq_true_eq, decide_eq_false_iff_not, Bool.or_eq_true, Bool.or_eq_false_iff, Bool.and_eq_true, Bool.and_eq_false_iff, Bool.not_eq_true', Bool.not_eq_false', Bool.not_eq_true, Bool.not_eq_false, Bool.not_true, Bool.not_false, Int.not_lt, Int.not_le, not_or, not_and, Classical.not_not] at h24
        refine T_seq ?_
        refine T_region ?_
        refine S_ 2 rfl rfl rfl _ (y_assign rfl rfl) ?_
        refine S_ 3 rfl rfl rfl _ (y_assign rfl rfl) ?_
        refine S_go (fun _ _ h => h) ?_
        refine T_ret (fun a w hF hM => hRb a w (post2 rfl rfl rfl (fun w hM => ?_) a w hF hM))
        exact ⟨by rw [txtR, if_neg (by simp [SVer.says, h5]), if_neg (by rw [show (outB v.says.a 0 999999 || outB v.says.b 0 999999 || outB v.says.c 0 999999) = false from h10]; exact Bool.false_ne_true), if_pos (by show (5 : Int) < v.pre.l.length; omega)], hM.below⟩
      · try simp only [decide_eq_true_eq, decide_eq_false_iff_not, Bool.or_eq_true, Bool.or_eq_false_iff, Bool.and_eq_true, Bool.and_eq_false_iff, Bool.not_eq_true', Bool.not_eq_false', Bool.not_eq_true, Bool.not_eq_false, Bool.not_true, Bool.not_false, Int.not_lt, Int.not_le, not_or, not_and, Classical.not_not] at h24
        have hjl := joinB_le (n := 1000000000) 46 v.pre.l hv.n
        have hjl : (Lib.join v.pre.l [46]).length ≤ 1000000001 * 5 := Nat.le_trans hjl (Nat.mul_le_mul_left _ (by omega))
        refine T_seq ?_
        refine T_region ?_
        refine S_ 30 rfl rfl rfl _ (y_fieldAddr rfl rfl fa42_4) ?_
        refine S_ 31 rfl rfl rfl _ (y_load 1 rfl rfl rfl rfl Tryz.underlying40 rfl) ?_
        refine S_ 32 rfl rfl rfl _ (y_call rfl rfl rfl cf38 (fun _ w hM => ContFS_any _ _ _ v.pre.l _ _ (fun p => !isPreB p) w (hv.ok.t.below hM.below) (by omega) cf93 fun x hx w1 _ => VersionText1_any x (hv.n x hx) w1)) ?_
        refine S_ 29 rfl rfl rfl _ (y_assign rfl rfl) ?_
        refine S_go (fun _ _ h => h) ?_
        refine T_cond rfl (fun h29 => ?_) (fun h29 => ?_)
        · skip
          refine T_seq ?_
          refine T_region ?_
          refine S_ 2 rfl rfl rfl _ (y_assign rfl rfl) ?_
          refine S_ 3 rfl rfl rfl _ (y_assign rfl rfl) ?_
          refine S_go (fun _ _ h => h) ?_
          refine T_ret (fun a w hF hM => hRb a w (post2 rfl rfl rfl (fun w hM => ?_) a w hF hM))
          exact ⟨by rw [txtR, if_neg (by simp [SVer.says, h5]), if_neg (by rw [show (outB v.says.a 0 999999 || outB v.says.b 0 999999 || outB v.says.c 0 999999) = false from h10]; exact Bool.false_ne_true), if_neg (by show ¬ (5 : Int) < v.pre.l.length; omega), if_pos (show badPre v.says.pre = true from h29)], hM.below⟩
        · skip
          refine T_skip_go (fun _ _ h => h) ?_
          refine T_seq ?_
          refine T_draws (by kernel_rfl) (by kernel_rfl) ?_
          refine D_ 33 rfl rfl rfl _ (y_fieldAddr rfl rfl fa42_0) ?_
          refine D_ 34 rfl rfl rfl _ (y_load 1 rfl rfl rfl rfl Tryz.underlying9 rfl) ?_
          refine D_ 35 rfl rfl rfl _ (y_bin rfl rfl rfl (fun hg => b_adds (by first | omega | (simp only [List.length_append, List.length_cons, List.length_nil]; omega)))) ?_
          refine D_ 36 rfl rfl rfl _ (y_fieldAddr rfl rfl fa42_1) ?_
          refine D_ 37 rfl rfl rfl _ (y_load 1 rfl rfl rfl rfl Tryz.underlying3 rfl) ?_
          refine D_ 38 rfl rfl rfl _ (y_call rfl rfl rfl cf90 (fun _ w hM => Itoa_any v.a hv.a.1 hv.a.2 w (hP.below hM.below))) ?_
          refine D_ 39 rfl rfl rfl _ (y_bin rfl rfl rfl (fun hg => b_adds (by first | omega | (simp only [List.length_append, List.length_cons, List.length_nil]; omega)))) ?_
          refine D_ 40 rfl rfl rfl _ (y_bin rfl rfl rfl (fun hg => b_adds (by first | omega | (simp only [List.length_append, List.length_cons, List.length_nil]; omega)))) ?_
          refine D_ 41 rfl rfl rfl _ (y_fieldAddr rfl rfl fa42_2) ?_
          refine D_ 42 rfl rfl rfl _ (y_load 1 rfl rfl rfl rfl Tryz.underlying3 rfl) ?_
          refine D_ 43 rfl rfl rfl _ (y_call rfl rfl rfl cf90 (fun _ w hM => Itoa_any v.b hv.b.1 hv.b.2 w (hP.below hM.below))) ?_
          refine D_ 44 rfl rfl rfl _ (y_bin rfl rfl rfl (fun hg => b_adds (by first | omega | (simp only [List.length_append, List.length_cons, List.length_nil]; omega)))) ?_
          refine D_ 45 rfl rfl rfl _ (y_bin rfl rfl rfl (fun hg => b_adds (by first | omega | (simp only [List.length_append, List.length_cons, List.length_nil]; omega)))) ?_
          refine D_ 46 rfl rfl rfl _ (y_fieldAddr rfl rfl fa42_3) ?_
          refine D_ 47 rfl rfl rfl _ (y_load 1 rfl rfl rfl rfl Tryz.underlying3 rfl) ?_
          refine D_ 48 rfl rfl rfl _ (y_call rfl rfl rfl cf90 (fun _ w hM => Itoa_any v.c hv.c.1 hv.c.2 w (hP.below hM.below))) ?_
          refine D_ 49 rfl rfl rfl _ (y_bin rfl rfl rfl (fun hg => b_adds (by first | omega | (simp only [List.length_append, List.length_cons, List.length_nil]; omega)))) ?_
          refine D_ 4 rfl rfl rfl _ (y_assign rfl rfl) ?_
          refine D_go (fun _ _ h => h) ?_
          refine T_seq ?_
          refine T_seq ?_
          refine T_region ?_
          refine S_ 50 rfl rfl rfl _ (y_fieldAddr rfl rfl fa42_4) ?_
          refine S_ 51 rfl rfl rfl _ (y_load 1 rfl rfl rfl rfl Tryz.underlying40 rfl) ?_
          refine S_ 52 rfl rfl rfl _ (y_len_slice rfl rfl Tryz.underlying40) ?_
          refine S_ 53 rfl rfl rfl _ (y_bin rfl rfl rfl (fun _ => b_gtr)) ?_
          refine S_go (fun _ _ h => h) ?_
          refine T_cond rfl (fun h53 => ?_) (fun h53 => ?_)
          · try simp only [decide_eq_true_eq, decide_eq_false_iff_not, Bool.or_eq_true, Bool.or_eq_false_iff, Bool.and_eq_true, Bool.and_eq_false_iff, Bool.not_eq_true', Bool.not_eq_false', Bool.not_eq_true, Bool.not_eq_false, Bool.not_true, Bool.not_false, Int.not_lt, Int.not_le, not_or, not_and, Classical.not_not] at h53
            have hne : ¬ v.pre.l = [] := fun e => by rw [e] at hlen; simp at hlen; omega
            refine T_region ?_
            refine S_ 54 rfl rfl rfl _ (y_move rfl rfl) ?_
            refine S_ 55 rfl rfl rfl _ (y_fieldAddr rfl rfl fa42_4) ?_
            refine S_ 56 rfl rfl rfl _ (y_load 1 rfl rfl rfl rfl Tryz.underlying40 rfl) ?_
            refine S_ 57 rfl rfl rfl _ (y_call rfl rfl rfl cf91 (fun _ w hM => JoinD_any _ _ _ v.pre.l w (hv.ok.t.below hM.below) (by omega) hv.ok.cap (by omega) (by omega))) ?_
            refine S_ 58 rfl rfl rfl _ (y_bin rfl rfl rfl (fun hg => b_adds (by first | omega | (simp only [List.length_append, List.length_cons, List.length_nil]; omega)))) ?_
            refine S_ 59 rfl rfl rfl _ (y_as (v' := str (verT v.says)) (by rw [verT, if_neg (show ¬ v.says.pre = [] from hne)]; rfl) (y_bin rfl rfl rfl (fun hg => b_adds (by first | omega | (simp only [List.length_append, List.length_cons, List.length_nil]; omega))))) ?_
            refine S_ 4 rfl rfl rfl _ (y_assign rfl rfl) ?_
            refine S_go (fun _ _ h => h) ?_
            refine T_seq ?_
            refine T_seq ?_
            refine T_region ?_
            refine S_ 60 rfl rfl rfl _ (y_as (v' := str (verT v.says)) (by exact rfl) (y_move rfl rfl)) ?_
            refine S_ 61 rfl rfl rfl _ (y_len_str rfl rfl Tryz.underlying9) ?_
            refine S_ 62 rfl rfl rfl _ (y_bin rfl rfl rfl (fun _ => b_gtr)) ?_
            refine S_go (fun _ _ h => h) ?_
            refine T_cond rfl (fun h62 => ?_) (fun h62 => ?_)
            · try simp only [decide_eq_true_eq, decide_eq_false_iff_not, Bool.or_eq_true, Bool.or_eq_false_iff, Bool.and_eq_true, Bool.and_eq_false_iff, Bool.not_eq_true', Bool.not_eq_false', Bool.not_eq_true, Bool.not_eq_false, Bool.not_true, Bool.not_false, Int.not_lt, Int.not_le, not_or, not_and, Classical.not_not] at h62
              refine T_seq ?_
              refine T_region ?_
              refine S_ 2 rfl rfl rfl _ (y_assign rfl rfl) ?_
              refine S_ 3 rfl rfl rfl _ (y_assign rfl rfl) ?_
              refine S_go (fun _ _ h => h) ?_
              refine T_ret (fun a w hF hM => hRb a w (post2 rfl rfl rfl (fun w hM => ?_) a w hF hM))
              exact ⟨by rw [txtR, if_neg (by simp [SVer.says, h5]), if_neg (by rw [show (outB v.says.a 0 999999 || outB v.says.b 0 999999 || outB v.says.c 0 999999) = false from h10]; exact Bool.false_ne_true), if_neg (by show ¬ (5 : Int) < v.pre.l.length; omega), if_neg (by rw [show badPre v.says.pre = false from h29]; exact Bool.false_ne_true), if_pos (by omega)], hM.below⟩
            · try simp only [decide_eq_true_eq, decide_eq_false_iff_not, Bool.or_eq_true, Bool.or_eq_false_iff, Bool.and_eq_true, Bool.and_eq_false_iff, Bool.not_eq_true', Bool.not_eq_false', Bool.not_eq_true, Bool.not_eq_false, Bool.not_true, Bool.not_false, Int.not_lt, Int.not_le, not_or, not_and, Classical.not_not] at h62
              refine T_skip_go (fun _ _ h => h) ?_
              refine T_seq ?_
              refine T_region ?_
              refine S_ 63 rfl rfl rfl _ (y_as (v' := str (verT v.says)) (by exact rfl) (y_move rfl rfl)) ?_
              refine S_ 2 rfl rfl rfl _ (y_assign rfl rfl) ?_
              refine S_ 3 rfl rfl rfl _ (y_assign rfl rfl) ?_
              refine S_go (fun _ _ h => h) ?_
              refine T_ret (fun a w hF hM => hRb a w (post2 rfl rfl rfl (fun w hM => ?_) a w hF hM))
              exact ⟨by rw [txtR, if_neg (by simp [SVer.says, h5]), if_neg (by rw [show (outB v.says.a 0 999999 || outB v.says.b 0 999999 || outB v.says.c 0 999999) = false from h10]; exact Bool.false_ne_true), if_neg (by show ¬ (5 : Int) < v.pre.l.length; omega), if_neg (by rw [show badPre v.says.pre = false from h29]; exact Bool.false_ne_true), if_neg (by omega)], hM.below⟩
          · try simp only [decide_eq_true_eq, decide_eq_false_iff_not, Bool.or_eq_true, Bool.or_eq_false_iff, Bool.and_eq_true, Bool.and_eq_false_iff, Bool.not_eq_true', Bool.not_eq_false', Bool.not_eq_true, Bool.not_eq_false, Bool.not_true, Bool.not_false, Int.not_lt, Int.not_le, not_or, not_and, Classical.not_not] at h53
            have hne : v.pre.l = [] := List.eq_nil_of_length_eq_zero (by omega)
            refine T_skip_go (fun _ _ h => h) ?_
            refine T_seq ?_
            refine T_seq ?_
            refine T_region ?_
            refine S_ 60 rfl rfl rfl _ (y_as (v' := str (verT v.says)) (by rw [verT, if_pos (show v.says.pre = [] from hne), List.append_nil]; rfl) (y_move rfl rfl)) ?_
            refine S_ 61 rfl rfl rfl _ (y_len_str rfl rfl Tryz.underlying9) ?_
            refine S_ 62 rfl rfl rfl _ (y_bin rfl rfl rfl (fun _ => b_gtr)) ?_
            refine S_go (fun _ _ h => h) ?_
            refine T_cond rfl (fun h62 => ?_) (fun h62 => ?_)
            · try simp only [decide_eq_true_eq, decide_eq_false_iff_not, Bool.or_eq_true, Bool.or_eq_false_iff, Bool.and_eq_true, Bool.and_eq_false_iff, Bool.not_eq_true', Bool.not_eq_false', Bool.not_eq_true, Bool.not_eq_false, Bool.not_true, Bool.not_false, Int.not_lt, Int.not_le, not_or, not_and, Classical.not_not] at h62
              refine T_seq ?_
              refine T_region ?_
              refine S_ 2 rfl rfl rfl _ (y_assign rfl rfl) ?_
              refine S_ 3 rfl rfl rfl _ (y_assign rfl rfl) ?_
              refine S_go (fun _ _ h => h) ?_
              refine T_ret (fun a w hF hM => hRb a w (post2 rfl rfl rfl (fun w hM => ?_) a w hF hM))
              exact ⟨by rw [txtR, if_neg (by simp [SVer.says, h5]), if_neg (by rw [show (outB v.says.a 0 999999 || outB v.says.b 0 999999 || outB v.says.c 0 999999) = false from h10]; exact Bool.false_ne_true), if_neg (by show ¬ (5 : Int) < v.pre.l.length; omega), if_neg (by rw [show badPre v.says.pre = false from h29]; exact Bool.false_ne_true), if_pos (by omega)], hM.below⟩
            · try simp only [decide_eq_true_eq, decide_eq_false_iff_not, Bool.or_eq_true, Bool.or_eq_false_iff, Bool.and_eq_true, Bool.and_eq_false_iff, Bool.not_eq_true', Bool.not_eq_false', Bool.not_eq_true, Bool.not_eq_false, Bool.not_true, Bool.not_false, Int.not_lt, Int.not_le, not_or, not_and, Classical.not_not] at h62
              refine T_skip_go (fun _ _ h => h) ?_
              refine T_seq ?_
              refine T_region ?_
              refine S_ 63 rfl rfl rfl _ (y_as (v' := str (verT v.says)) (by rw [verT, if_pos (show v.says.pre = [] from hne), List.append_nil]; rfl) (y_move rfl rfl)) ?_
              refine S_ 2 rfl rfl rfl _ (y_assign rfl rfl) ?_
              refine S_ 3 rfl rfl rfl _ (y_assign rfl rfl) ?_
              refine S_go (fun _ _ h => h) ?_
              refine T_ret (fun a w hF hM => hRb a w (post2 rfl rfl rfl (fun w hM => ?_) a w hF hM))
              exact ⟨by rw [txtR, if_neg (by simp [SVer.says, h5]), if_neg (by rw [show (outB v.says.a 0 999999 || outB v.says.b 0 999999 || outB v.says.c 0 999999) = false from h10]; exact Bool.false_ne_true), if_neg (by show ¬ (5 : Int) < v.pre.l.length; omega), if_neg (by rw [show badPre v.says.pre = false from h29]; exact Bool.false_ne_true), if_neg (by omega)], hM.below⟩
theorem toldV_any (v want : List UInt8) (e f : Int) (w : World) :
    Calls Tryz.prog 21 #[str v, .int .i64 e, str want, .int .i64 f] w fun en w' => en = .returned (.bool (decide (v = if f = 0 then want else []) && decide (e = f))) ∧ Below w.heap.size w w' := by
  refine enter_args (args := [str v, .int .i64 e, str want, .int .i64 f]) (F := _) Tryz.func21 rfl Tryz.ntmps21 rfl rfl ?_
  intro Rb hRb hRn
  refine T_seq ?_
  refine T_region ?_
  refine S_ 8 rfl rfl rfl _ (y_assign rfl rfl) ?_
  refine S_go (fun _ _ h => h) ?_
  refine T_seq ?_
  refine T_region ?_
  refine S_ 9 rfl rfl rfl _ (y_assign rfl rfl) ?_
  refine S_go (fun _ _ h => h) ?_
  refine T_seq ?_
  refine T_seq ?_
  refine T_region ?_
  refine S_ 10 rfl rfl rfl _ (y_move rfl rfl) ?_
  refine S_ 11 rfl rfl rfl _ (y_bin rfl rfl rfl (fun _ => b_neq)) ?_
  refine S_go (fun _ _ h => h) ?_
  refine T_cond rfl (fun h11 => ?_) (fun h11 => ?_)
  · try simp only [decide_eq_true_eq, decide_eq_false_iff_not, Bool.or_eq_true, Bool.or_eq_false_iff, Bool.and_eq_true, Bool.and_eq_false_iff, Bool.not_eq_true', Bool.not_eq_false', Bool.not_eq_true, Bool.not_eq_false, Bool.not_true, Bool.not_false, Int.not_lt, Int.not_le, not_or, not_and, Classical.not_not] at h11
    refine T_region ?_
    refine S_ 12 rfl rfl rfl _ (y_move rfl rfl) ?_
    refine S_ 2 rfl rfl rfl _ (y_assign rfl rfl) ?_
    refine S_go (fun _ _ h => h) ?_
    refine T_seq ?_
    refine T_region ?_
    refine S_ 13 rfl rfl rfl _ (y_move rfl rfl) ?_
    refine S_ 14 rfl rfl rfl _ (y_move rfl rfl) ?_
    refine S_ 15 rfl rfl rfl _ (y_bin rfl rfl rfl (fun _ => b_eqls)) ?_
    refine S_ 16 rfl rfl rfl _ (y_move rfl rfl) ?_
    refine Sg_ 17 rfl rfl rfl rfl rfl rfl _ (y_move rfl rfl) ?_
    refine Sg_ 18 rfl rfl rfl rfl rfl rfl _ (y_move rfl rfl) ?_
    refine Sg_ 19 rfl rfl rfl rfl rfl rfl _ (y_bin rfl rfl rfl (fun _ => b_eql)) ?_
    refine S_ 20 rfl rfl rfl _ (y_and rfl rfl rfl) ?_
    refine S_ 8 rfl rfl rfl _ (y_assign rfl rfl) ?_
    refine S_go (fun _ _ h => h) ?_
    refine T_ret (fun a w hF hM => hRb a w (post1 rfl rfl (fun w hM => ?_) a w hF hM))
    exact ⟨by rw [if_neg h11], hM.below⟩
  · try simp only [decide_eq_true_eq, decide_eq_false_iff_not, Bool.or_eq_true, Bool.or_eq_false_iff, Bool.and_eq_true, Bool.and_eq_false_iff, Bool.not_eq_true', Bool.not_eq_false', Bool.not_eq_true, Bool.not_eq_false, Bool.not_true, Bool.not_false, Int.not_lt, Int.not_le, not_or, not_and, Classical.not_not] at h11
    refine T_skip_go (fun _ _ h => h) ?_
    refine T_seq ?_
    refine T_region ?_
    refine S_ 13 rfl rfl rfl _ (y_move rfl rfl) ?_
    refine S_ 14 rfl rfl rfl _ (y_move rfl rfl) ?_
    refine S_ 15 rfl rfl rfl _ (y_bin rfl rfl rfl (fun _ => b_eqls)) ?_
    refine S_ 16 rfl rfl rfl _ (y_move rfl rfl) ?_
    refine Sg_ 17 rfl rfl rfl rfl rfl rfl _ (y_move rfl rfl) ?_
    refine Sg_ 18 rfl rfl rfl rfl rfl rfl _ (y_move rfl rfl) ?_
    refine Sg_ 19 rfl rfl rfl rfl rfl rfl _ (y_bin rfl rfl rfl (fun _ => b_eql)) ?_
    refine S_ 20 rfl rfl rfl _ (y_and rfl rfl rfl) ?_
    refine S_ 8 rfl rfl rfl _ (y_assign rfl rfl) ?_
    refine S_go (fun _ _ h => h) ?_
    refine T_ret (fun a w hF hM => hRb a w (post1 rfl rfl (fun w hM => ?_) a w hF hM))
    exact ⟨by rw [if_pos h11], hM.below⟩
theorem txt_bad {v : PVer} (h : (txtR v).2 ≠ 0) : (txtR v).1 = [] := by
  unfold txtR at h ⊢
  repeat' (split at h <;> (try (rename_i a; first | rw [if_pos a] | rw [if_neg a])) <;> try rfl)
  exact absurd rfl h
set_option maxHeartbeats 1600000 in
theorem ReleaseVersions_any (x y : SVer) (s : List UInt8) (w : World) (hx : VerOk w x) (hy : VerOk w y) (hP : P10 w) :
    Calls Tryz.prog 4 #[x.val, y.val, str s] w fun e w' => e = .returned (.bool true) ∧ Below w.heap.size w w' := by
  have htb := txt_bad (v := x.says)
  refine enter_args (args := [.agg #[str x.p, .int .i64 x.a, .int .i64 x.b, .int .i64 x.c, .slice x.pre.A x.pre.q x.pre.c], .agg #[str y.p, .int .i64 y.a, .int .i64 y.b, .int .i64 y.c, .slice y.pre.A y.pre.q y.pre.c], str s]) (F := _) Tryz.func4 rfl Tryz.ntmps4 rfl rfl ?_
  intro Rb hRb hRn
  refine T_seq ?_
  refine T_region ?_
  refine S_box 3 3 rfl rfl rfl rfl rfl ?_
  intro b3
  refine S_box 4 4 rfl rfl rfl rfl rfl ?_
  intro b4
  refine S_ 6 rfl rfl rfl _ (y_assign rfl rfl) ?_
  refine S_go (fun _ _ h => h) ?_
  refine T_seq ?_
  refine T_region ?_
  refine S_ 18 rfl rfl rfl _ (y_loadA 3 rfl rfl rfl Tryz.underlying42 rfl sz42) ?_
  refine S_ 19 rfl rfl rfl _ (y_call rfl rfl rfl cf19 (fun _ w hM => Text_any x w (hx.below hM.below) (hP.below hM.below))) ?_
  refine S_ 17 rfl rfl rfl _ (y_move rfl rfl) ?_
  refine S_ 20 rfl rfl rfl _ (y_extract rfl rfl rfl) ?_
  refine S_ 21 rfl rfl rfl _ (y_extract rfl rfl rfl) ?_
  refine S_ 7 rfl rfl rfl _ (y_assign rfl rfl) ?_
  refine S_ 8 rfl rfl rfl _ (y_assign rfl rfl) ?_
  refine S_go (fun _ _ h => h) ?_
  refine T_seq ?_
  refine T_region ?_
  refine S_ 23 rfl rfl rfl _ (y_loadA 3 rfl rfl rfl Tryz.underlying42 rfl sz42) ?_
  refine S_ 24 rfl rfl rfl _ (y_call rfl rfl rfl cf20 (fun _ w hM => VersionText_any x w (hx.below hM.below) (hP.below hM.below))) ?_
  refine S_ 22 rfl rfl rfl _ (y_move rfl rfl) ?_
  refine S_ 25 rfl rfl rfl _ (y_extract rfl rfl rfl) ?_
  refine S_ 26 rfl rfl rfl _ (y_extract rfl rfl rfl) ?_
  refine S_ 9 rfl rfl rfl _ (y_assign rfl rfl) ?_
  refine S_ 10 rfl rfl rfl _ (y_assign rfl rfl) ?_
  refine S_go (fun _ _ h => h) ?_
  refine T_seq ?_
  refine T_seq ?_
  refine T_draws (by kernel_rfl) (by kernel_rfl) ?_
  refine D_ 27 rfl rfl rfl _ (y_move rfl rfl) ?_
  refine D_ 28 rfl rfl rfl _ (y_move rfl rfl) ?_
  refine D_ 29 rfl rfl rfl _ (y_move rfl rfl) ?_
  refine D_ 30 rfl rfl rfl _ (y_move rfl rfl) ?_
  refine D_ 31 rfl rfl rfl _ (y_call rfl rfl rfl cf21 (fun _ w _ => toldV_any _ _ _ _ w)) ?_
  refine D_ 32 rfl rfl rfl _ (y_not rfl rfl) ?_
  refine D_ 33 rfl rfl rfl _ (y_move rfl rfl) ?_
  refine Dg_ 34 rfl rfl rfl rfl rfl rfl _ (y_loadA 3 rfl rfl rfl Tryz.underlying42 rfl sz42) ?_
  refine Dg_ 35 rfl rfl rfl rfl rfl rfl _ (y_loadA 4 rfl rfl rfl Tryz.underlying42 rfl sz42) ?_
  refine Dg_ 36 rfl rfl rfl rfl rfl rfl _ (y_call rfl rfl rfl cf22 (fun _ w hM => Compare_any x y w (hx.below hM.below) (hy.below hM.below))) ?_
  refine Dg_ 37 rfl rfl rfl rfl rfl rfl _ (y_loadA 3 rfl rfl rfl Tryz.underlying42 rfl sz42) ?_
  refine Dg_ 38 rfl rfl rfl rfl rfl rfl _ (y_loadA 4 rfl rfl rfl Tryz.underlying42 rfl sz42) ?_
  refine Dg_ 39 rfl rfl rfl rfl rfl rfl _ (y_call rfl rfl rfl cf23 (fun _ w hM => VersionsCompare_any x y w (hx.below hM.below) (hy.below hM.below))) ?_
  refine Dg_ 40 rfl rfl rfl rfl rfl rfl _ (y_bin rfl rfl rfl (fun _ => b_neq)) ?_
  refine D_ 41 rfl rfl rfl _ (y_or rfl rfl rfl) ?_
  refine D_go (fun _ _ h => h) ?_
  refine T_cond rfl (fun h41 => ?_) (fun h41 => ?_)
  · skip
    by_cases hz : (txtR x.says).2 = 0
    · simp [hz] at h41
    · simp [hz, htb hz] at h41
  · skip
    refine T_skip_go (fun _ _ h => h) ?_
    refine T_seq ?_
    refine T_seq ?_
    refine T_region ?_
    refine S_ 42 rfl rfl rfl _ (y_move rfl rfl) ?_
    refine S_ 43 rfl rfl rfl _ (y_move rfl rfl) ?_
    refine S_buildSlice 44 44 rfl rfl rfl rfl rfl Tryz.underlying40 inf9 rfl (by decide) (by decide) rfl rfl (by decide) rfl (_) rfl ?_
    intro b44
    refine S_ 45 rfl rfl rfl _ (y_len_slice rfl rfl Tryz.underlying40) ?_
    refine S_ 46 rfl rfl rfl _ (y_move rfl rfl) ?_
    refine S_go (fun _ _ h => h) ?_
    refine T_block ?_
    refine T_loopK1 (kf := [(6, 6), (12, 16), (46, 69)]) (kl := [(6, 6), (12, 16), (44, 44), (46, 69)]) (fun (i : Nat) => [(46, true, .int .i64 (i : Int))]) (fun (i : Nat) => [(44, .own 9 1 (.slice (some ⟨b44, 0, none⟩) 2 2) 2 (([s, (txtR x.says).1] : List (List UInt8)).flatMap strE))]) (fun (i : Nat) => i ≤ 2) (fun (i : Nat) => 2 - i) 0 (by repeat (first | exact kf_nil | (apply kf_in; focus rfl) | (apply kf_out; focus rfl))) (by repeat (first | exact kl_nil | exact kl_rest (by assumption) rfl | (apply kl_in; focus rfl) | (apply kl_out; focus rfl))) ?_ ?_ ?_ ?_
    · omega
    · exact ⟨rfl, trivial⟩
    · exact ⟨rfl, trivial⟩
    rintro i hp1
    refine T_seq ?_
    refine T_region ?_
    refine S_ 47 rfl rfl rfl _ (y_bin rfl rfl rfl (fun _ => b_lss)) ?_
    refine S_go (fun _ _ h => h) ?_
    refine T_seq ?_
    refine T_cond rfl (fun h47 => ?_) (fun h47 => ?_)
    · try simp only [decide_eq_true_eq, decide_eq_false_iff_not, Bool.or_eq_true, Bool.or_eq_false_iff, Bool.and_eq_true, Bool.and_eq_false_iff, Bool.not_eq_true', Bool.not_eq_false', Bool.not_eq_true, Bool.not_eq_false, Bool.not_true, Bool.not_false, Int.not_lt, Int.not_le, not_or, not_and, Classical.not_not] at h47
      obtain ⟨u, hx1⟩ : ∃ u, ([s, (txtR x.says).1] : List (List UInt8))[i]? = some u := ⟨_, List.getElem?_eq_getElem (by show i < 2; omega)⟩
      refine T_skip_go (fun _ _ h => h) ?_
      refine T_seq ?_
      refine T_block ?_
      refine T_seq ?_
      refine T_region ?_
      refine S_ 48 rfl rfl rfl _ (y_indexOwn 44 rfl rfl rfl rfl Tryz.underlying40 sz9 (fun _ => by omega)) ?_
      refine S_ 49 rfl rfl rfl _ (y_loadO1 44 (val := (fun l : List UInt8 => str l)) rfl rfl rfl rfl (fun _ => hx1) Tryz.underlying9 rfl) ?_
      refine S_ 12 rfl rfl rfl _ (y_assign rfl rfl) ?_
      refine S_go (fun _ _ h => h) ?_
      refine T_seq ?_
      refine T_region ?_
      refine S_ 51 rfl rfl rfl _ (y_move rfl rfl) ?_
      refine S_callOwn 52 52 rfl rfl rfl rfl rfl rfl rfl cf24 (fun A c => .tuple #[pvV (parE u).1 A c, .int .i64 (parE u).2]) 9 1 ((parE u).1.pre.length) ((parE u).1.pre.flatMap strE) (fun w hM => Parse_any u w) ?_
      intro A52 c52
      refine S_ 50 rfl rfl rfl _ (y_move rfl rfl) ?_
      refine S_ 53 rfl rfl rfl _ (y_extract rfl rfl rfl) ?_
      refine S_ 54 rfl rfl rfl _ (y_extract rfl rfl rfl) ?_
      refine S_alloc 13 13 rfl rfl rfl rfl z42 ?_
      intro b13
      refine S_store 13 rfl rfl rfl rfl rfl rfl sz42 rfl rfl ?_
      refine S_ 14 rfl rfl rfl _ (y_assign rfl rfl) ?_
      refine S_go (fun _ _ h => h) ?_
      refine T_seq ?_
      refine T_region ?_
      refine S_ 56 rfl rfl rfl _ (y_move rfl rfl) ?_
      refine S_callOwn 57 57 rfl rfl rfl rfl rfl rfl rfl cf25 (fun A c => .tuple #[pvV (parE u).1 A c, .int .i64 (parE u).2]) 9 1 ((parE u).1.pre.length) ((parE u).1.pre.flatMap strE) (fun w hM => VersionOf_any u w) ?_
      intro A57 c57
      refine S_ 55 rfl rfl rfl _ (y_move rfl rfl) ?_
      refine S_ 58 rfl rfl rfl _ (y_extract rfl rfl rfl) ?_
      refine S_ 59 rfl rfl rfl _ (y_extract rfl rfl rfl) ?_
      refine S_alloc 15 15 rfl rfl rfl rfl z42 ?_
      intro b15
      refine S_store 15 rfl rfl rfl rfl rfl rfl sz42 rfl rfl ?_
      refine S_ 16 rfl rfl rfl _ (y_assign rfl rfl) ?_
      refine S_go (fun _ _ h => h) ?_
      refine T_seq ?_
      refine T_region ?_
      refine S_ 60 rfl rfl rfl _ (y_move rfl rfl) ?_
      refine S_ 61 rfl rfl rfl _ (y_move rfl rfl) ?_
      refine S_ 62 rfl rfl rfl _ (y_bin rfl rfl rfl (fun _ => b_neq)) ?_
      refine S_ 63 rfl rfl rfl _ (y_move rfl rfl) ?_
      refine Sg_ 64 rfl rfl rfl rfl rfl rfl _ (y_loadA 13 rfl rfl rfl Tryz.underlying42 rfl sz42) ?_
      refine Sg_ 65 rfl rfl rfl rfl rfl rfl _ (y_loadA 15 rfl rfl rfl Tryz.underlying42 rfl sz42) ?_
      refine Sg_ 66 rfl rfl rfl rfl rfl rfl _ (y_call rfl rfl rfl cf26 (fun _ w hM => SameVersion_any (svr (parE u).1 A52 c52) (svr (parE u).1 A57 c57) w (svr_ok (parE_bound _) (owned_ok (enc := strE) hM rfl (i := 52) rfl)) (svr_ok (parE_bound _) (owned_ok (enc := strE) hM rfl (i := 57) rfl)))) ?_
      refine Sg_ 67 rfl rfl rfl rfl rfl rfl _ (y_not rfl rfl) ?_
      refine S_ 68 rfl rfl rfl _ (y_or rfl rfl rfl) ?_
      refine S_go (fun _ _ h => h) ?_
      refine T_cond rfl (fun h68 => ?_) (fun h68 => ?_)
      · skip
        simp [svr_says, samV_refl] at h68
      · skip
        refine T_skip_go (fun _ _ h => h) ?_
        refine T_region ?_
        refine S_ 69 rfl rfl rfl _ (y_bin rfl rfl rfl (fun hg => b_add (by omega))) ?_
        refine S_ 46 rfl rfl rfl _ (y_move rfl rfl) ?_
        refine S_nil (nextK1 (kf := [(6, 6), (12, 16), (46, 69)]) (kl := [(6, 6), (12, 16), (44, 44), (46, 69)]) (i + 1) (by repeat (first | exact kf_nil | (apply kf_in; focus rfl) | (apply kf_out; focus rfl))) (by repeat (first | exact kl_nil | exact kl_rest (by assumption) rfl | (apply kl_in; focus rfl) | (apply kl_out; focus rfl))) ?_ ?_ ?_ ?_)
        · omega
        · omega
        · exact ⟨rfl, trivial⟩
        · exact ⟨rfl, trivial⟩
    · try simp only [decide_eq_true_eq, decide_eq_false_iff_not, Bool.or_eq_true, Bool.or_eq_false_iff, Bool.and_eq_true, Bool.and_eq_false_iff, Bool.not_eq_true', Bool.not_eq_false', Bool.not_eq_true, Bool.not_eq_false, Bool.not_true, Bool.not_false, Int.not_lt, Int.not_le, not_or, not_and, Classical.not_not] at h47
      refine T_exit_go (fun _ _ h => h) ?_
      refine T_seq ?_
      refine T_region ?_
      refine S_ 6 rfl rfl rfl _ (y_assign rfl rfl) ?_
      refine S_go (fun _ _ h => h) ?_
      refine T_ret (fun a w hF hM => hRb a w (post1 rfl rfl (fun w hM => ?_) a w hF hM))
      exact ⟨rfl, hM.below⟩
end Go.Proofs.YtpmlgnbbkpplhaaGreatDoor
