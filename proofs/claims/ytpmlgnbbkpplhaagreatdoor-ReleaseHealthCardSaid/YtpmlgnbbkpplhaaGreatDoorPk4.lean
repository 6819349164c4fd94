/- Part 4, merged by a program. Sessions: CheckSession and the reference's SessionFault, HealthFault, walked. Conditions: those of each theorem. The law ReleaseOrder walked. Conditions: those of the theorem. The law ReleaseAfter walked. Conditions: those of each theorem. Healthy walked: sessions laid together by release in a map of slices. Conditions: those of each theorem. -/
import Derived.Test.YtpmlgnbbkpplhaaGreatDoorUnb
import Derived.Test.YtpmlgnbbkpplhaaGreatDoorPk3
section
namespace Go.Proofs.YtpmlgnbbkpplhaaGreatDoor
set_option linter.unusedSimpArgs false
set_option linter.unusedVariables false
set_option maxRecDepth 20000
open Go.RowKit Go.Eng
structure SSes where
  at_ : Int
  long : Int
  rel : List UInt8
  out : Int
  us : List UInt8
def SSes.enc (s : SSes) : List Value := [.int .i64 s.at_, .int .i64 s.long, str s.rel, .int .i64 s.out, str s.us]
def SSes.val (s : SSes) : Value := .agg s.enc.toArray
structure SesOk (w : World) (l : Sl SSes) : Prop where
  ok : l.Ok SSes.enc 5 w
  q : l.q ≤ 4611686018427387904
  n : ∀ s ∈ l.l, s.us.length ≤ 4611686018427387904
theorem SesOk.below {w w' : World} {l : Sl SSes} (h : SesOk w l) (hb : Below w.heap.size w w') : SesOk w' l := ⟨h.ok.below hb, h.q, h.n⟩
def sesNo (s : SSes) : Int := if (outB s.at_ 0 3155759999 || outB s.long 0 86400) = true then 2 else if relOk s.rel = false then 8 else if outB s.out 1 4 = true then 10 else if s.us = [] then 1 else valNo s.us
def sesNos : List SSes → Int
  | [] => 0
  | s :: r => if sesNo s ≠ 0 then sesNo s else sesNos r
def heaNo (l : Sl SSes) (fr tl : Int) : Int := if (2000 : Int) < l.q then 4 else if sesNos l.l ≠ 0 then sesNos l.l else if tl < fr then 5 else 0
theorem sesNo_us {s : SSes} {k : Int} (h1 : (outB s.at_ 0 3155759999 || outB s.long 0 86400) = false) (h2 : relOk s.rel = true) (h3 : outB s.out 1 4 = false) (h4 : ¬ s.us = []) (h : valNo s.us = k) : sesNo s = k := by
  rw [sesNo, if_neg (by rw [h1]; simp), if_neg (by rw [h2]; simp), if_neg (by rw [h3]; simp), if_neg h4, h]
theorem CheckSession_any (x0 : SSes) (w : World) (hs : x0.us.length ≤ 4611686018427387904) :
    Calls Tryz.prog 50 #[x0.val] w fun e w' => e = .returned (.int .i64 (sesNo x0)) ∧ Below w.heap.size w w' := by
  refine enter_args (args := [.agg #[.int .i64 x0.at_, .int .i64 x0.long, str x0.rel, .int .i64 x0.out, str x0.us]]) (F := _) Tryz.func50 rfl Tryz.ntmps50 rfl rfl ?_
  intro Rb hRb hRn
  refine T_seq ?_
  refine T_region ?_
  refine S_box 1 1 rfl rfl rfl rfl rfl ?_
  intro b1
  refine S_ 2 rfl rfl rfl _ (y_assign rfl rfl) ?_
  refine S_go (fun _ _ h => h) ?_
  refine T_seq ?_
  refine T_seq ?_
  refine T_region ?_
  refine S_ 6 rfl rfl rfl _ (y_fieldAddr rfl rfl fa87_0) ?_
  refine S_ 7 rfl rfl rfl _ (y_load 1 rfl rfl rfl rfl Tryz.underlying3 rfl) ?_
  refine S_ 8 rfl rfl rfl _ (y_call rfl rfl rfl cf87 (fun _ w _ => routside_any _ _ _ w)) ?_
  refine S_ 9 rfl rfl rfl _ (y_move rfl rfl) ?_
  refine Sg_ 10 rfl rfl rfl rfl rfl rfl _ (y_fieldAddr rfl rfl fa87_1) ?_
  refine Sg_ 11 rfl rfl rfl rfl rfl rfl _ (y_load 1 rfl rfl rfl rfl Tryz.underlying3 rfl) ?_
  refine Sg_ 12 rfl rfl rfl rfl rfl rfl _ (y_call rfl rfl rfl cf87 (fun _ w _ => routside_any _ _ _ w)) ?_
  refine S_ 13 rfl rfl rfl _ (y_or rfl rfl rfl) ?_
  refine S_go (fun _ _ h => h) ?_
  refine T_cond rfl (fun h13 => ?_) (fun h13 => ?_)
  · skip
    refine T_seq ?_
    refine T_region ?_
    refine S_ 2 rfl rfl rfl _ (y_assign rfl rfl) ?_
    refine S_go (fun _ _ h => h) ?_
    refine T_ret (fun a w hF hM => hRb a w (post1 rfl rfl (fun w hM => ?_) a w hF hM))
    exact ⟨by rw [sesNo, if_pos h13], hM.below⟩
  · skip
    refine T_skip_go (fun _ _ h => h) ?_
    refine T_seq ?_
    refine T_seq ?_
    refine T_region ?_
    refine S_ 15 rfl rfl rfl _ (y_fieldAddr rfl rfl fa87_2) ?_
    refine S_ 16 rfl rfl rfl _ (y_load 1 rfl rfl rfl rfl Tryz.underlying9 rfl) ?_
    refine S_callOwn 17 17 rfl rfl rfl rfl rfl rfl rfl cf101 (fun A c => .tuple #[pvV (parseR x0.rel).1 A c, .bool (parseR x0.rel).2]) 9 1 ((parseR x0.rel).1.pre.length) ((parseR x0.rel).1.pre.flatMap strE) (fun w hM => parse_any x0.rel w) ?_
    intro A17 c17
    refine S_ 14 rfl rfl rfl _ (y_move rfl rfl) ?_
    refine S_ 18 rfl rfl rfl _ (y_extract rfl rfl rfl) ?_
    refine S_ 19 rfl rfl rfl _ (y_extract rfl rfl rfl) ?_
    refine S_alloc 3 3 rfl rfl rfl rfl z42 ?_
    intro b3
    refine S_store 3 rfl rfl rfl rfl rfl rfl sz42 rfl rfl ?_
    refine S_ 4 rfl rfl rfl _ (y_assign rfl rfl) ?_
    refine S_go (fun _ _ h => h) ?_
    refine T_seq ?_
    refine T_region ?_
    refine S_ 20 rfl rfl rfl _ (y_move rfl rfl) ?_
    refine S_ 21 rfl rfl rfl _ (y_not rfl rfl) ?_
    refine S_go (fun _ _ h => h) ?_
    refine T_cond rfl (fun h21 => ?_) (fun h21 => ?_)
    · skip
      have hr : relOk x0.rel = false := by simpa using h21
      refine T_seq ?_
      refine T_region ?_
      refine S_ 2 rfl rfl rfl _ (y_assign rfl rfl) ?_
      refine S_go (fun _ _ h => h) ?_
      refine T_ret (fun a w hF hM => hRb a w (post1 rfl rfl (fun w hM => ?_) a w hF hM))
      exact ⟨by rw [sesNo, if_neg (by rw [h13]; simp), if_pos hr], hM.below⟩
    · skip
      have hr : relOk x0.rel = true := by simpa using h21
      refine T_skip_go (fun _ _ h => h) ?_
      refine T_seq ?_
      refine T_block ?_
      refine T_seq ?_
      refine T_region ?_
      refine S_ 23 rfl rfl rfl _ (y_fieldAddr rfl rfl fa87_3) ?_
      refine S_ 24 rfl rfl rfl _ (y_load 1 rfl rfl rfl rfl Tryz.underlying3 rfl) ?_
      refine S_ 25 rfl rfl rfl _ (y_call rfl rfl rfl cf87 (fun _ w _ => routside_any _ _ _ w)) ?_
      refine S_ 22 rfl rfl rfl _ (y_assign rfl rfl) ?_
      refine S_go (fun _ _ h => h) ?_
      refine T_cond rfl (fun h22 => ?_) (fun h22 => ?_)
      · skip
        refine T_seq ?_
        refine T_region ?_
        refine S_ 2 rfl rfl rfl _ (y_assign rfl rfl) ?_
        refine S_go (fun _ _ h => h) ?_
        refine T_ret (fun a w hF hM => hRb a w (post1 rfl rfl (fun w hM => ?_) a w hF hM))
        exact ⟨by rw [sesNo, if_neg (by rw [h13]; simp), if_neg (by rw [hr]; simp), if_pos h22], hM.below⟩
      · skip
        refine T_seq ?_
        refine T_region ?_
        refine S_ 27 rfl rfl rfl _ (y_fieldAddr rfl rfl fa87_4) ?_
        refine S_ 28 rfl rfl rfl _ (y_load 1 rfl rfl rfl rfl Tryz.underlying9 rfl) ?_
        refine S_ 29 rfl rfl rfl _ (y_bin rfl rfl rfl (fun _ => b_eqls)) ?_
        refine S_ 26 rfl rfl rfl _ (y_assign rfl rfl) ?_
        refine S_go (fun _ _ h => h) ?_
        refine T_cond rfl (fun h26 => ?_) (fun h26 => ?_)
        · try simp only [decide_eq_true_eq, decide_eq_false_iff_not, Bool.or_eq_true, Bool.or_eq_false_iff, Bool.and_eq_true, Bool.and_eq_false_iff, Bool.not_eq_true', Bool.not_eq_false', Bool.not_eq_true, Bool.not_eq_false, Bool.not_true, Bool.not_false, Int.not_lt, Int.not_le, not_or, not_and, Classical.not_not] at h26
          refine T_seq ?_
          refine T_region ?_
          refine S_ 2 rfl rfl rfl _ (y_assign rfl rfl) ?_
          refine S_go (fun _ _ h => h) ?_
          refine T_ret (fun a w hF hM => hRb a w (post1 rfl rfl (fun w hM => ?_) a w hF hM))
          exact ⟨by rw [sesNo, if_neg (by rw [h13]; simp), if_neg (by rw [hr]; simp), if_neg (by rw [h22]; simp), if_pos h26], hM.below⟩
        · try simp only [decide_eq_true_eq, decide_eq_false_iff_not, Bool.or_eq_true, Bool.or_eq_false_iff, Bool.and_eq_true, Bool.and_eq_false_iff, Bool.not_eq_true', Bool.not_eq_false', Bool.not_eq_true, Bool.not_eq_false, Bool.not_true, Bool.not_false, Int.not_lt, Int.not_le, not_or, not_and, Classical.not_not] at h26
          refine T_seq ?_
          refine T_region ?_
          refine S_ 31 rfl rfl rfl _ (y_fieldAddr rfl rfl fa87_4) ?_
          refine S_ 32 rfl rfl rfl _ (y_load 1 rfl rfl rfl rfl Tryz.underlying9 rfl) ?_
          refine S_ 33 rfl rfl rfl _ (y_len_str rfl rfl Tryz.underlying9) ?_
          refine S_ 34 rfl rfl rfl _ (y_bin rfl rfl rfl (fun _ => b_gtr)) ?_
          refine S_ 30 rfl rfl rfl _ (y_assign rfl rfl) ?_
          refine S_go (fun _ _ h => h) ?_
          refine T_cond rfl (fun h30 => ?_) (fun h30 => ?_)
          · try simp only [decide_eq_true_eq, decide_eq_false_iff_not, Bool.or_eq_true, Bool.or_eq_false_iff, Bool.and_eq_true, Bool.and_eq_false_iff, Bool.not_eq_true', Bool.not_eq_false', Bool.not_eq_true, Bool.not_eq_false, Bool.not_true, Bool.not_false, Int.not_lt, Int.not_le, not_or, not_and, Classical.not_not] at h30
            refine T_seq ?_
            refine T_region ?_
            refine S_ 2 rfl rfl rfl _ (y_assign rfl rfl) ?_
            refine S_go (fun _ _ h => h) ?_
            refine T_ret (fun a w hF hM => hRb a w (post1 rfl rfl (fun w hM => ?_) a w hF hM))
            exact ⟨by rw [sesNo_us h13 hr h22 h26 (k := 4) (by rw [valNo, if_pos (by omega)])], hM.below⟩
          · try simp only [decide_eq_true_eq, decide_eq_false_iff_not, Bool.or_eq_true, Bool.or_eq_false_iff, Bool.and_eq_true, Bool.and_eq_false_iff, Bool.not_eq_true', Bool.not_eq_false', Bool.not_eq_true, Bool.not_eq_false, Bool.not_true, Bool.not_false, Int.not_lt, Int.not_le, not_or, not_and, Classical.not_not] at h30
            refine T_skip_go (fun _ _ h => h) ?_
            refine T_seq ?_
            refine T_seq ?_
            refine T_region ?_
            refine S_ 35 rfl rfl rfl _ (y_fieldAddr rfl rfl fa87_4) ?_
            refine S_ 36 rfl rfl rfl _ (y_load 1 rfl rfl rfl rfl Tryz.underlying9 rfl) ?_
            refine S_ 37 rfl rfl rfl _ (y_len_str rfl rfl Tryz.underlying9) ?_
            refine S_ 38 rfl rfl rfl _ (y_move rfl rfl) ?_
            refine S_go (fun _ _ h => h) ?_
            refine T_block ?_
            refine T_loopK1 (kf := [(2, 2), (5, 5), (38, 53)]) (kl := [(2, 2), (5, 5), (38, 53)]) (fun (i : Nat) => [(38, true, .int .i64 (i : Int))]) (fun (i : Nat) => []) (fun (i : Nat) => i ≤ x0.us.length ∧ x0.us.any valBad = (x0.us.drop i).any valBad) (fun (i : Nat) => x0.us.length - i) 0 (by repeat (first | exact kf_nil | (apply kf_in; focus rfl) | (apply kf_out; focus rfl))) (by repeat (first | exact kl_nil | exact kl_rest (by assumption) rfl | (apply kl_in; focus rfl) | (apply kl_out; focus rfl))) ?_ ?_ ?_ ?_
            · exact ⟨by omega, rfl⟩
            · exact ⟨rfl, trivial⟩
            · exact trivial
            rintro i ⟨hp1, hp2⟩
            refine T_seq ?_
            refine T_region ?_
            refine S_ 39 rfl rfl rfl _ (y_bin rfl rfl rfl (fun _ => b_lss)) ?_
            refine S_go (fun _ _ h => h) ?_
            refine T_seq ?_
            refine T_cond rfl (fun h39 => ?_) (fun h39 => ?_)
            · try simp only [decide_eq_true_eq, decide_eq_false_iff_not, Bool.or_eq_true, Bool.or_eq_false_iff, Bool.and_eq_true, Bool.and_eq_false_iff, Bool.not_eq_true', Bool.not_eq_false', Bool.not_eq_true, Bool.not_eq_false, Bool.not_true, Bool.not_false, Int.not_lt, Int.not_le, not_or, not_and, Classical.not_not] at h39
              refine T_skip_go (fun _ _ h => h) ?_
              refine T_seq ?_
              refine T_block ?_
              refine T_seq ?_
              refine T_region ?_
              refine S_ 40 rfl rfl rfl _ (y_move rfl rfl) ?_
              refine S_ 5 rfl rfl rfl _ (y_assign rfl rfl) ?_
              refine S_go (fun _ _ h => h) ?_
              refine T_seq ?_
              refine T_region ?_
              refine S_ 41 rfl rfl rfl _ (y_fieldAddr rfl rfl fa87_4) ?_
              refine S_ 42 rfl rfl rfl _ (y_load 1 rfl rfl rfl rfl Tryz.underlying9 rfl) ?_
              refine S_ 43 rfl rfl rfl _ (y_move rfl rfl) ?_
              refine S_ 44 rfl rfl rfl _ (y_index_str rfl rfl rfl Tryz.underlying9 (fun _ => by omega)) ?_
              refine S_ 45 rfl rfl rfl _ (y_bin rfl rfl rfl (fun _ => b_lss)) ?_
              refine S_ 46 rfl rfl rfl _ (y_move rfl rfl) ?_
              refine Sg_ 47 rfl rfl rfl rfl rfl rfl _ (y_fieldAddr rfl rfl fa87_4) ?_
              refine Sg_ 48 rfl rfl rfl rfl rfl rfl _ (y_load 1 rfl rfl rfl rfl Tryz.underlying9 rfl) ?_
              refine Sg_ 49 rfl rfl rfl rfl rfl rfl _ (y_move rfl rfl) ?_
              refine Sg_ 50 rfl rfl rfl rfl rfl rfl _ (y_index_str rfl rfl rfl Tryz.underlying9 (fun hg => by simp only [Bool.true_and, Bool.and_eq_true, beq_iff_eq, decide_eq_true_eq, decide_eq_false_iff_not, Int.not_lt, Int.not_le] at hg; omega)) ?_
              refine Sg_ 51 rfl rfl rfl rfl rfl rfl _ (y_bin rfl rfl rfl (fun _ => b_gtr)) ?_
              refine S_ 52 rfl rfl rfl _ (y_as (v' := .bool (valBad (x0.us.getD i 0))) (by exact rfl) (y_or rfl rfl rfl)) ?_
              refine S_go (fun _ _ h => h) ?_
              refine T_cond rfl (fun h52 => ?_) (fun h52 => ?_)
              · skip
                refine T_seq ?_
                refine T_region ?_
                refine S_ 2 rfl rfl rfl _ (y_assign rfl rfl) ?_
                refine S_go (fun _ _ h => h) ?_
                refine T_ret (fun a w hF hM => hRb a w (post1 rfl rfl (fun w hM => ?_) a w hF hM))
                exact ⟨by rw [sesNo_us h13 hr h22 h26 (k := 9) (by rw [valNo, if_neg (by omega), if_pos (by rw [hp2, drop_str (by omega), any_t h52])])], hM.below⟩
              · skip
                refine T_skip_go (fun _ _ h => h) ?_
                refine T_region ?_
                refine S_ 53 rfl rfl rfl _ (y_bin rfl rfl rfl (fun hg => b_add (by omega))) ?_
                refine S_ 38 rfl rfl rfl _ (y_move rfl rfl) ?_
                refine S_nil (nextK1 (kf := [(2, 2), (5, 5), (38, 53)]) (kl := [(2, 2), (5, 5), (38, 53)]) (i + 1) (by repeat (first | exact kf_nil | (apply kf_in; focus rfl) | (apply kf_out; focus rfl))) (by repeat (first | exact kl_nil | exact kl_rest (by assumption) rfl | (apply kl_in; focus rfl) | (apply kl_out; focus rfl))) ?_ ?_ ?_ ?_)
                · omega
                · exact ⟨by omega, by rw [hp2, drop_str (by omega), any_f h52]⟩
                · exact ⟨rfl, trivial⟩
                · exact trivial
            · try simp only [decide_eq_true_eq, decide_eq_false_iff_not, Bool.or_eq_true, Bool.or_eq_false_iff, Bool.and_eq_true, Bool.and_eq_false_iff, Bool.not_eq_true', Bool.not_eq_false', Bool.not_eq_true, Bool.not_eq_false, Bool.not_true, Bool.not_false, Int.not_lt, Int.not_le, not_or, not_and, Classical.not_not] at h39
              refine T_exit_go (fun _ _ h => h) ?_
              refine T_seq ?_
              refine T_region ?_
              refine S_ 2 rfl rfl rfl _ (y_assign rfl rfl) ?_
              refine S_go (fun _ _ h => h) ?_
              refine T_ret (fun a w hF hM => hRb a w (post1 rfl rfl (fun w hM => ?_) a w hF hM))
              exact ⟨by rw [sesNo_us h13 hr h22 h26 (k := 0) (by rw [valNo, if_neg (by omega), if_neg (by rw [hp2, List.drop_eq_nil_of_le (by omega)]; simp)])], hM.below⟩
theorem SessionFault_any (x0 : SSes) (w : World) (hs : x0.us.length ≤ 4611686018427387904) :
    Calls Tryz.prog 51 #[x0.val] w fun e w' => e = .returned (.int .i64 (sesNo x0)) ∧ Below w.heap.size w w' := by
  refine enter_args (args := [.agg #[.int .i64 x0.at_, .int .i64 x0.long, str x0.rel, .int .i64 x0.out, str x0.us]]) (F := _) Tryz.func51 rfl Tryz.ntmps51 rfl rfl ?_
  intro Rb hRb hRn
  refine T_seq ?_
  refine T_region ?_
  refine S_box 1 1 rfl rfl rfl rfl rfl ?_
  intro b1
  refine S_ 2 rfl rfl rfl _ (y_assign rfl rfl) ?_
  refine S_go (fun _ _ h => h) ?_
  refine T_seq ?_
  refine T_seq ?_
  refine T_region ?_
  refine S_ 5 rfl rfl rfl _ (y_fieldAddr rfl rfl fa87_0) ?_
  refine S_ 6 rfl rfl rfl _ (y_load 1 rfl rfl rfl rfl Tryz.underlying3 rfl) ?_
  refine S_ 7 rfl rfl rfl _ (y_call rfl rfl rfl cf65 (fun _ w _ => out_any _ _ _ w)) ?_
  refine S_ 8 rfl rfl rfl _ (y_move rfl rfl) ?_
  refine Sg_ 9 rfl rfl rfl rfl rfl rfl _ (y_fieldAddr rfl rfl fa87_1) ?_
  refine Sg_ 10 rfl rfl rfl rfl rfl rfl _ (y_load 1 rfl rfl rfl rfl Tryz.underlying3 rfl) ?_
  refine Sg_ 11 rfl rfl rfl rfl rfl rfl _ (y_call rfl rfl rfl cf65 (fun _ w _ => out_any _ _ _ w)) ?_
  refine S_ 12 rfl rfl rfl _ (y_or rfl rfl rfl) ?_
  refine S_go (fun _ _ h => h) ?_
  refine T_cond rfl (fun h12 => ?_) (fun h12 => ?_)
  · skip
    refine T_seq ?_
    refine T_region ?_
    refine S_ 2 rfl rfl rfl _ (y_assign rfl rfl) ?_
    refine S_go (fun _ _ h => h) ?_
    refine T_ret (fun a w hF hM => hRb a w (post1 rfl rfl (fun w hM => ?_) a w hF hM))
    exact ⟨by rw [sesNo, if_pos (show (outB x0.at_ 0 3155759999 || outB x0.long 0 86400) = true from h12)], hM.below⟩
  · skip
    refine T_skip_go (fun _ _ h => h) ?_
    refine T_seq ?_
    refine T_seq ?_
    refine T_region ?_
    refine S_ 14 rfl rfl rfl _ (y_fieldAddr rfl rfl fa87_2) ?_
    refine S_ 15 rfl rfl rfl _ (y_load 1 rfl rfl rfl rfl Tryz.underlying9 rfl) ?_
    refine S_callOwn 16 16 rfl rfl rfl rfl rfl rfl rfl cf25 (fun A c => .tuple #[pvV (parE x0.rel).1 A c, .int .i64 (parE x0.rel).2]) 9 1 ((parE x0.rel).1.pre.length) ((parE x0.rel).1.pre.flatMap strE) (fun w hM => VersionOf_any x0.rel w) ?_
    intro A16 c16
    refine S_ 13 rfl rfl rfl _ (y_move rfl rfl) ?_
    refine S_ 17 rfl rfl rfl _ (y_extract rfl rfl rfl) ?_
    refine S_ 18 rfl rfl rfl _ (y_extract rfl rfl rfl) ?_
    refine S_alloc 3 3 rfl rfl rfl rfl z42 ?_
    intro b3
    refine S_store 3 rfl rfl rfl rfl rfl rfl sz42 rfl rfl ?_
    refine S_ 4 rfl rfl rfl _ (y_assign rfl rfl) ?_
    refine S_go (fun _ _ h => h) ?_
    refine T_seq ?_
    refine T_region ?_
    refine S_ 19 rfl rfl rfl _ (y_move rfl rfl) ?_
    refine S_ 20 rfl rfl rfl _ (y_bin rfl rfl rfl (fun _ => b_neq)) ?_
    refine S_go (fun _ _ h => h) ?_
    refine T_cond rfl (fun h20 => ?_) (fun h20 => ?_)
    · skip
      have hr : relOk x0.rel = false := by
        cases hq : relOk x0.rel with
        | false => rfl
        | true => rw [parE_g hq] at h20; simp at h20
      refine T_seq ?_
      refine T_region ?_
      refine S_ 2 rfl rfl rfl _ (y_assign rfl rfl) ?_
      refine S_go (fun _ _ h => h) ?_
      refine T_ret (fun a w hF hM => hRb a w (post1 rfl rfl (fun w hM => ?_) a w hF hM))
      exact ⟨by rw [sesNo, if_neg (by rw [show (outB x0.at_ 0 3155759999 || outB x0.long 0 86400) = false from h12]; simp), if_pos hr], hM.below⟩
    · skip
      have hr : relOk x0.rel = true := by
        cases hq : relOk x0.rel with
        | true => rfl
        | false => rw [parE, if_neg (by rw [hq]; simp)] at h20; simp at h20
      refine T_skip_go (fun _ _ h => h) ?_
      refine T_seq ?_
      refine T_block ?_
      refine T_seq ?_
      refine T_region ?_
      refine S_ 22 rfl rfl rfl _ (y_fieldAddr rfl rfl fa87_3) ?_
      refine S_ 23 rfl rfl rfl _ (y_load 1 rfl rfl rfl rfl Tryz.underlying3 rfl) ?_
      refine S_ 24 rfl rfl rfl _ (y_call rfl rfl rfl cf65 (fun _ w _ => out_any _ _ _ w)) ?_
      refine S_ 21 rfl rfl rfl _ (y_assign rfl rfl) ?_
      refine S_go (fun _ _ h => h) ?_
      refine T_cond rfl (fun h21 => ?_) (fun h21 => ?_)
      · skip
        refine T_seq ?_
        refine T_region ?_
        refine S_ 2 rfl rfl rfl _ (y_assign rfl rfl) ?_
        refine S_go (fun _ _ h => h) ?_
        refine T_ret (fun a w hF hM => hRb a w (post1 rfl rfl (fun w hM => ?_) a w hF hM))
        exact ⟨by rw [sesNo, if_neg (by rw [show (outB x0.at_ 0 3155759999 || outB x0.long 0 86400) = false from h12]; simp), if_neg (by rw [hr]; simp), if_pos (show outB x0.out 1 4 = true from h21)], hM.below⟩
      · skip
        refine T_seq ?_
        refine T_region ?_
        refine S_ 26 rfl rfl rfl _ (y_fieldAddr rfl rfl fa87_4) ?_
        refine S_ 27 rfl rfl rfl _ (y_load 1 rfl rfl rfl rfl Tryz.underlying9 rfl) ?_
        refine S_ 28 rfl rfl rfl _ (y_bin rfl rfl rfl (fun _ => b_eqls)) ?_
        refine S_ 25 rfl rfl rfl _ (y_assign rfl rfl) ?_
        refine S_go (fun _ _ h => h) ?_
        refine T_cond rfl (fun h25 => ?_) (fun h25 => ?_)
        · try simp only [decide_eq_true_eq, decide_eq_false_iff_not, Bool.or_eq_true, Bool.or_eq_false_iff, Bool.and_eq_true, Bool.and_eq_false_iff, Bool.not_eq_true', Bool.not_eq_false', Bool.not_eq_true, Bool.not_eq_false, Bool.not_true, Bool.not_false, Int.not_lt, Int.not_le, not_or, not_and, Classical.not_not] at h25
          refine T_seq ?_
          refine T_region ?_
          refine S_ 2 rfl rfl rfl _ (y_assign rfl rfl) ?_
          refine S_go (fun _ _ h => h) ?_
          refine T_ret (fun a w hF hM => hRb a w (post1 rfl rfl (fun w hM => ?_) a w hF hM))
          exact ⟨by rw [sesNo, if_neg (by rw [show (outB x0.at_ 0 3155759999 || outB x0.long 0 86400) = false from h12]; simp), if_neg (by rw [hr]; simp), if_neg (by rw [show outB x0.out 1 4 = false from h21]; simp), if_pos h25], hM.below⟩
        · try simp only [decide_eq_true_eq, decide_eq_false_iff_not, Bool.or_eq_true, Bool.or_eq_false_iff, Bool.and_eq_true, Bool.and_eq_false_iff, Bool.not_eq_true', Bool.not_eq_false', Bool.not_eq_true, Bool.not_eq_false, Bool.not_true, Bool.not_false, Int.not_lt, Int.not_le, not_or, not_and, Classical.not_not] at h25
          refine T_skip_go (fun _ _ h => h) ?_
          refine T_seq ?_
          refine T_region ?_
          refine S_ 29 rfl rfl rfl _ (y_fieldAddr rfl rfl fa87_4) ?_
          refine S_ 30 rfl rfl rfl _ (y_load 1 rfl rfl rfl rfl Tryz.underlying9 rfl) ?_
          refine S_ 31 rfl rfl rfl _ (y_call rfl rfl rfl cf64 (fun _ w _ => wordFault_any x0.us hs w)) ?_
          refine S_ 2 rfl rfl rfl _ (y_assign rfl rfl) ?_
          refine S_go (fun _ _ h => h) ?_
          refine T_ret (fun a w hF hM => hRb a w (post1 rfl rfl (fun w hM => ?_) a w hF hM))
          exact ⟨by rw [sesNo_us h12 hr h21 h25 rfl], hM.below⟩
theorem HealthFault_any (l : Sl SSes) (fr tl : Int) (w : World) (hl : SesOk w l) :
    Calls Tryz.prog 53 #[.slice l.A l.q l.c, .int .i64 fr, .int .i64 tl] w fun e w' => e = .returned (.int .i64 (heaNo l fr tl)) ∧ Below w.heap.size w w' := by
  have ht := hl.ok.t
  have hlen := ht.len
  refine enter_args (args := [.slice l.A l.q l.c, .int .i64 fr, .int .i64 tl]) (F := _) Tryz.func53 rfl Tryz.ntmps53 rfl rfl ?_
  intro Rb hRb hRn
  refine T_seq ?_
  refine T_region ?_
  refine S_ 6 rfl rfl rfl _ (y_assign rfl rfl) ?_
  refine S_go (fun _ _ h => h) ?_
  refine T_seq ?_
  refine T_seq ?_
  refine T_region ?_
  refine S_ 10 rfl rfl rfl _ (y_move rfl rfl) ?_
  refine S_ 11 rfl rfl rfl _ (y_len_slice rfl rfl Tryz.underlying85) ?_
  refine S_ 12 rfl rfl rfl _ (y_bin rfl rfl rfl (fun _ => b_gtr)) ?_
  refine S_go (fun _ _ h => h) ?_
  refine T_cond rfl (fun h12 => ?_) (fun h12 => ?_)
  · try simp only [decide_eq_true_eq, decide_eq_false_iff_not, Bool.or_eq_true, Bool.or_eq_false_iff, Bool.and_eq_true, Bool.and_eq_false_iff, Bool.not_eq_true', Bool.not_eq_false', Bool.not_eq_true, Bool.not_eq_false, Bool.not_true, Bool.not_false, Int.not_lt, Int.not_le, not_or, not_and, Classical.not_not] at h12
    refine T_seq ?_
    refine T_region ?_
    refine S_ 6 rfl rfl rfl _ (y_assign rfl rfl) ?_
    refine S_go (fun _ _ h => h) ?_
    refine T_ret (fun a w hF hM => hRb a w (post1 rfl rfl (fun w hM => ?_) a w hF hM))
    exact ⟨by rw [heaNo, if_pos (by omega)], hM.below⟩
  · try simp only [decide_eq_true_eq, decide_eq_false_iff_not, Bool.or_eq_true, Bool.or_eq_false_iff, Bool.and_eq_true, Bool.and_eq_false_iff, Bool.not_eq_true', Bool.not_eq_false', Bool.not_eq_true, Bool.not_eq_false, Bool.not_true, Bool.not_false, Int.not_lt, Int.not_le, not_or, not_and, Classical.not_not] at h12
    refine T_skip_go (fun _ _ h => h) ?_
    refine T_seq ?_
    refine T_seq ?_
    refine T_region ?_
    refine S_ 13 rfl rfl rfl _ (y_move rfl rfl) ?_
    refine S_ 14 rfl rfl rfl _ (y_len_slice rfl rfl Tryz.underlying85) ?_
    refine S_ 15 rfl rfl rfl _ (y_move rfl rfl) ?_
    refine S_go (fun _ _ h => h) ?_
    refine T_block ?_
    refine T_loopK1 (kf := [(6, 6), (8, 9), (15, 24)]) (kl := [(6, 6), (8, 9), (15, 24)]) (fun (i : Nat) => [(15, true, .int .i64 (i : Int))]) (fun (i : Nat) => []) (fun (i : Nat) => i ≤ l.q ∧ sesNos l.l = sesNos (l.l.drop i)) (fun (i : Nat) => l.q - i) 0 (by repeat (first | exact kf_nil | (apply kf_in; focus rfl) | (apply kf_out; focus rfl))) (by repeat (first | exact kl_nil | exact kl_rest (by assumption) rfl | (apply kl_in; focus rfl) | (apply kl_out; focus rfl))) ?_ ?_ ?_ ?_
    · exact ⟨by omega, rfl⟩
    · exact ⟨rfl, trivial⟩
    · exact trivial
    rintro i ⟨hp1, hp2⟩
    refine T_seq ?_
    refine T_region ?_
    refine S_ 16 rfl rfl rfl _ (y_bin rfl rfl rfl (fun _ => b_lss)) ?_
    refine S_go (fun _ _ h => h) ?_
    refine T_seq ?_
    refine T_cond rfl (fun h16 => ?_) (fun h16 => ?_)
    · try simp only [decide_eq_true_eq, decide_eq_false_iff_not, Bool.or_eq_true, Bool.or_eq_false_iff, Bool.and_eq_true, Bool.and_eq_false_iff, Bool.not_eq_true', Bool.not_eq_false', Bool.not_eq_true, Bool.not_eq_false, Bool.not_true, Bool.not_false, Int.not_lt, Int.not_le, not_or, not_and, Classical.not_not] at h16
      obtain ⟨x0, hx1, hx2⟩ := ht.at (i := i) (by omega)
      refine T_skip_go (fun _ _ h => h) ?_
      refine T_seq ?_
      refine T_block ?_
      refine T_seq ?_
      refine T_region ?_
      refine S_ 17 rfl rfl rfl _ (y_indexAddr rfl rfl rfl Tryz.underlying85 sz87 (fun hg => ht.isSome (by omega)) (fun _ => by omega)) ?_
      refine S_ 18 rfl rfl rfl _ (y_loadT rfl rfl ht (fun _ => rfl) (fun _ => hx1) Tryz.underlying87 rfl sz87) ?_
      refine S_alloc 8 8 rfl rfl rfl rfl z87 ?_
      intro b8
      refine S_store 8 rfl rfl rfl rfl rfl rfl sz87 rfl rfl ?_
      refine S_go (fun _ _ h => h) ?_
      refine T_seq ?_
      refine T_region ?_
      refine S_ 19 rfl rfl rfl _ (y_loadA 8 rfl rfl rfl Tryz.underlying87 rfl sz87) ?_
      refine S_ 20 rfl rfl rfl _ (y_call rfl rfl rfl cf51 (fun _ w _ => SessionFault_any x0 w (hl.n x0 (mem_at hx1)))) ?_
      refine S_ 9 rfl rfl rfl _ (y_assign rfl rfl) ?_
      refine S_go (fun _ _ h => h) ?_
      refine T_seq ?_
      refine T_region ?_
      refine S_ 21 rfl rfl rfl _ (y_move rfl rfl) ?_
      refine S_ 22 rfl rfl rfl _ (y_bin rfl rfl rfl (fun _ => b_neq)) ?_
      refine S_go (fun _ _ h => h) ?_
      refine T_cond rfl (fun h22 => ?_) (fun h22 => ?_)
      · try simp only [decide_eq_true_eq, decide_eq_false_iff_not, Bool.or_eq_true, Bool.or_eq_false_iff, Bool.and_eq_true, Bool.and_eq_false_iff, Bool.not_eq_true', Bool.not_eq_false', Bool.not_eq_true, Bool.not_eq_false, Bool.not_true, Bool.not_false, Int.not_lt, Int.not_le, not_or, not_and, Classical.not_not] at h22
        refine T_seq ?_
        refine T_region ?_
        refine S_ 23 rfl rfl rfl _ (y_move rfl rfl) ?_
        refine S_ 6 rfl rfl rfl _ (y_assign rfl rfl) ?_
        refine S_go (fun _ _ h => h) ?_
        refine T_ret (fun a w hF hM => hRb a w (post1 rfl rfl (fun w hM => ?_) a w hF hM))
        have hz : sesNos l.l = sesNo x0 := by rw [hp2, hx2, sesNos, if_pos h22]
        exact ⟨by rw [heaNo, if_neg (by omega), hz, if_pos h22], hM.below⟩
      · try simp only [decide_eq_true_eq, decide_eq_false_iff_not, Bool.or_eq_true, Bool.or_eq_false_iff, Bool.and_eq_true, Bool.and_eq_false_iff, Bool.not_eq_true', Bool.not_eq_false', Bool.not_eq_true, Bool.not_eq_false, Bool.not_true, Bool.not_false, Int.not_lt, Int.not_le, not_or, not_and, Classical.not_not] at h22
        refine T_skip_go (fun _ _ h => h) ?_
        refine T_region ?_
        refine S_ 24 rfl rfl rfl _ (y_bin rfl rfl rfl (fun hg => b_add (by omega))) ?_
        refine S_ 15 rfl rfl rfl _ (y_move rfl rfl) ?_
        refine S_nil (nextK1 (kf := [(6, 6), (8, 9), (15, 24)]) (kl := [(6, 6), (8, 9), (15, 24)]) (i + 1) (by repeat (first | exact kf_nil | (apply kf_in; focus rfl) | (apply kf_out; focus rfl))) (by repeat (first | exact kl_nil | exact kl_rest (by assumption) rfl | (apply kl_in; focus rfl) | (apply kl_out; focus rfl))) ?_ ?_ ?_ ?_)
        · omega
        · exact ⟨by omega, by rw [hp2, hx2, sesNos, if_neg (by omega)]⟩
        · exact ⟨rfl, trivial⟩
        · exact trivial
    · try simp only [decide_eq_true_eq, decide_eq_false_iff_not, Bool.or_eq_true, Bool.or_eq_false_iff, Bool.and_eq_true, Bool.and_eq_false_iff, Bool.not_eq_true', Bool.not_eq_false', Bool.not_eq_true, Bool.not_eq_false, Bool.not_true, Bool.not_false, Int.not_lt, Int.not_le, not_or, not_and, Classical.not_not] at h16
      have hz : sesNos l.l = 0 := by rw [hp2, ht.end (by omega)]; rfl
      refine T_exit_go (fun _ _ h => h) ?_
      refine T_seq ?_
      refine T_seq ?_
      refine T_region ?_
      refine S_ 25 rfl rfl rfl _ (y_move rfl rfl) ?_
      refine S_ 26 rfl rfl rfl _ (y_move rfl rfl) ?_
      refine S_ 27 rfl rfl rfl _ (y_bin rfl rfl rfl (fun _ => b_lss)) ?_
      refine S_go (fun _ _ h => h) ?_
      refine T_cond rfl (fun h27 => ?_) (fun h27 => ?_)
      · try simp only [decide_eq_true_eq, decide_eq_false_iff_not, Bool.or_eq_true, Bool.or_eq_false_iff, Bool.and_eq_true, Bool.and_eq_false_iff, Bool.not_eq_true', Bool.not_eq_false', Bool.not_eq_true, Bool.not_eq_false, Bool.not_true, Bool.not_false, Int.not_lt, Int.not_le, not_or, not_and, Classical.not_not] at h27
        refine T_seq ?_
        refine T_region ?_
        refine S_ 6 rfl rfl rfl _ (y_assign rfl rfl) ?_
        refine S_go (fun _ _ h => h) ?_
        refine T_ret (fun a w hF hM => hRb a w (post1 rfl rfl (fun w hM => ?_) a w hF hM))
        exact ⟨by rw [heaNo, if_neg (by omega), if_neg (by rw [hz]; simp), if_pos h27], hM.below⟩
      · try simp only [decide_eq_true_eq, decide_eq_false_iff_not, Bool.or_eq_true, Bool.or_eq_false_iff, Bool.and_eq_true, Bool.and_eq_false_iff, Bool.not_eq_true', Bool.not_eq_false', Bool.not_eq_true, Bool.not_eq_false, Bool.not_true, Bool.not_false, Int.not_lt, Int.not_le, not_or, not_and, Classical.not_not] at h27
        refine T_skip_go (fun _ _ h => h) ?_
        refine T_seq ?_
        refine T_region ?_
        refine S_ 6 rfl rfl rfl _ (y_assign rfl rfl) ?_
        refine S_go (fun _ _ h => h) ?_
        refine T_ret (fun a w hF hM => hRb a w (post1 rfl rfl (fun w hM => ?_) a w hF hM))
        exact ⟨by rw [heaNo, if_neg (by omega), if_neg (by rw [hz]; simp), if_neg (by omega)], hM.below⟩
/-! ### What sessions tell of a release -/
def getB : List (List UInt8 × Bool) → List UInt8 → Bool
  | [], _ => false
  | p :: r, s => if p.1 = s then p.2 else getB r s
def putB : List (List UInt8 × Bool) → List UInt8 → Bool → List (List UInt8 × Bool)
  | [], s, v => [(s, v)]
  | p :: r, s, v => if p.1 = s then (p.1, v) :: r else p :: putB r s v
def miB (p : List UInt8 × Bool) : List UInt8 × Value := (p.1, .bool p.2)
theorem mget_miB (s : List UInt8) : ∀ M : List (List UInt8 × Bool), (mget (M.map miB) s).getD (.bool false) = .bool (getB M s)
  | [] => rfl
  | p :: r => by
    show (if s = p.1 then some (Value.bool p.2) else mget (r.map miB) s).getD (.bool false) = .bool (if p.1 = s then p.2 else getB r s)
    by_cases h : p.1 = s
    · rw [if_pos h.symm, if_pos h]; rfl
    · rw [if_neg (fun e => h e.symm), if_neg h]; exact mget_miB s r
theorem mput_miB (s : List UInt8) (v : Bool) : ∀ M : List (List UInt8 × Bool), mput (M.map miB) s (.bool v) = (putB M s v).map miB
  | [] => rfl
  | p :: r => by
    show (if s = p.1 then (p.1, Value.bool v) :: r.map miB else miB p :: mput (r.map miB) s (.bool v)) = _
    unfold putB
    by_cases h : p.1 = s
    · rw [if_pos h.symm, if_pos h]; rfl
    · rw [if_neg (fun e => h e.symm), if_neg h, mput_miB s v r]; rfl
theorem len_putB (s : List UInt8) (v : Bool) : ∀ M : List (List UInt8 × Bool), (putB M s v).length ≤ M.length + 1 ∧ 1 ≤ (putB M s v).length
  | [] => by simp [putB]
  | p :: r => by
    unfold putB
    have := len_putB s v r
    split
    · simp
    · simp; omega
def crF : List (List UInt8 × Bool) → List SSes → List (List UInt8 × Bool)
  | M, [] => M
  | M, s :: r => crF (putB M s.us (getB M s.us || decide (s.out = 3))) r
def cntO (k : Int) : List SSes → Int
  | [] => 0
  | s :: r => (if s.out = k then 1 else 0) + cntO k r
def nF : List (List UInt8 × Bool) → Int
  | [] => 0
  | p :: r => (if p.2 = true then 0 else 1) + nF r
theorem nF_perm {l m : List (List UInt8 × Bool)} (h : l.Perm m) : nF l = nF m := by
  induction h with
  | nil => rfl
  | cons x _ ih => rw [nF, nF, ih]
  | swap x y l => simp only [nF]; omega
  | trans _ _ ih1 ih2 => rw [ih1, ih2]
structure PHea where
  rel : List UInt8
  all : Int
  er : Int
  cr : Int
  lo : Int
  ppl : Int
  fr : Int
  fp : Int
  sh : Int
def PHea.enc (h : PHea) : List Value := [str h.rel, .int .i64 h.all, .int .i64 h.er, .int .i64 h.cr, .int .i64 h.lo, .int .i64 h.ppl, .int .i64 h.fr, .int .i64 h.fp, .int .i64 h.sh]
def PHea.val (h : PHea) : Value := .agg h.enc.toArray
def heaR (name : List UInt8) (l : List SSes) (all : Int) : PHea :=
  ⟨name, l.length, cntO 2 l, cntO 3 l, cntO 4 l, (crF [] l).length, 10000 * ((l.length : Int) - cntO 3 l) / (l.length : Int), 10000 * nF (crF [] l) / ((crF [] l).length : Int), 10000 * (l.length : Int) / all⟩
set_option maxHeartbeats 3200000 in
theorem health_any (name : List UInt8) (A : Option Addr) (q cc : Nat) (l : List SSes) (all : Int) (w : World) (hl : SlT SSes.enc 5 w A q l) (hq : q ≤ 2000) (hq0 : 0 < q) (ha : 0 < all ∧ all ≤ 2000) :
    Calls Tryz.prog 137 #[str name, .slice A q cc, .int .i64 all] w fun e w' => e = .returned (heaR name l all).val ∧ Below w.heap.size w w' := by
  have hlen := hl.len
  obtain ⟨ha1, ha2⟩ := ha
  refine enter_args (args := [str name, .slice A q cc, .int .i64 all]) (F := _) Tryz.func137 rfl Tryz.ntmps137 rfl rfl ?_
  intro Rb hRb hRn
  refine T_seq ?_
  refine T_region ?_
  refine S_alloc 6 6 rfl rfl rfl rfl z96 ?_
  intro b6
  refine S_go (fun _ _ h => h) ?_
  refine T_seq ?_
  refine T_region ?_
  refine S_ 14 rfl rfl rfl _ (y_move rfl rfl) ?_
  refine S_ 15 rfl rfl rfl _ (y_move rfl rfl) ?_
  refine S_ 16 rfl rfl rfl _ (y_len_slice rfl rfl Tryz.underlying85) ?_
  refine S_ 17 rfl rfl rfl _ (y_move rfl rfl) ?_
  refine S_ 18 rfl rfl rfl _ (y_len_slice rfl rfl Tryz.underlying85) ?_
  refine S_ 19 rfl rfl rfl _ (y_bin rfl rfl rfl (fun hg => b_mul (by omega))) ?_
  refine S_ 20 rfl rfl rfl _ (y_move rfl rfl) ?_
  refine S_ 21 rfl rfl rfl _ (y_bin rfl rfl rfl (fun hg => b_quov (10000 * (q : Int) / all) (by omega) (by omega) (by omega) (by omega))) ?_
  refine S_ 22 rfl rfl rfl _ (y_build (zv := .agg #[.string ⟨#[]⟩, .int .i64 0, .int .i64 0, .int .i64 0, .int .i64 0, .int .i64 0, .int .i64 0, .int .i64 0, .int .i64 0]) (pl := [(0, 1), (1, 1), (2, 1), (3, 1), (4, 1), (5, 1), (6, 1), (7, 1), (8, 1)]) (out := [_, _, .int .i64 0, .int .i64 0, .int .i64 0, .int .i64 0, .int .i64 0, .int .i64 0, _]) rfl rfl Tryz.underlying96 z96 (by kernel_rfl) rfl) ?_
  refine S_alloc 7 7 rfl rfl rfl rfl z96 ?_
  intro b7
  refine S_store 7 rfl rfl rfl rfl rfl rfl sz96 rfl rfl ?_
  refine S_go (fun _ _ h => h) ?_
  refine T_seq ?_
  refine T_region ?_
  refine S_makeMap 23 23 (fun l : List UInt8 => str l) rfl rfl rfl rfl ?_
  intro b23
  refine S_ 8 rfl rfl rfl _ (y_assign rfl rfl) ?_
  refine S_go (fun _ _ h => h) ?_
  refine T_seq ?_
  refine T_seq ?_
  refine T_region ?_
  refine S_ 24 rfl rfl rfl _ (y_move rfl rfl) ?_
  refine S_ 25 rfl rfl rfl _ (y_len_slice rfl rfl Tryz.underlying85) ?_
  refine S_ 26 rfl rfl rfl _ (y_move rfl rfl) ?_
  refine S_go (fun _ _ h => h) ?_
  refine T_block ?_
  refine T_loopK5 (kf := [(10, 10), (26, 62)]) (kl := [(7, 7), (10, 10), (23, 23), (26, 62)]) (fun (i : Nat) (M : List (List UInt8 × Bool)) (e c o : Int) => [(26, true, .int .i64 (i : Int))]) (fun (i : Nat) (M : List (List UInt8 × Bool)) (e c o : Int) => [(7, .blk b7 (IsBox [str name, .int .i64 (q : Int), .int .i64 e, .int .i64 c, .int .i64 o, .int .i64 0, .int .i64 0, .int .i64 0, .int .i64 (10000 * (q : Int) / all)] 96)), (23, .blk b23 (IsMap (fun l : List UInt8 => str l) (M.map miB)))]) (fun (i : Nat) (M : List (List UInt8 × Bool)) (e c o : Int) => i ≤ q ∧ crF M (l.drop i) = crF [] l ∧ e + cntO 2 (l.drop i) = cntO 2 l ∧ c + cntO 3 (l.drop i) = cntO 3 l ∧ o + cntO 4 (l.drop i) = cntO 4 l ∧ (0 ≤ e ∧ e ≤ i) ∧ (0 ≤ c ∧ c ≤ i) ∧ (0 ≤ o ∧ o ≤ i) ∧ (0 < i → 0 < M.length) ∧ M.length ≤ i) (fun (i : Nat) (M : List (List UInt8 × Bool)) (e c o : Int) => q - i) 0 [] 0 0 0 (by repeat (first | exact kf_nil | (apply kf_in; focus rfl) | (apply kf_out; focus rfl))) (by repeat (first | exact kl_nil | exact kl_rest (by assumption) rfl | (apply kl_in; focus rfl) | (apply kl_out; focus rfl))) ?_ ?_ ?_ ?_
  · exact ⟨by omega, rfl, by rw [List.drop_zero]; omega, by rw [List.drop_zero]; omega, by rw [List.drop_zero]; omega, by omega, by omega, by omega, by omega, by simp⟩
  · exact ⟨rfl, trivial⟩
  · exact ⟨rfl, rfl, trivial⟩
  rintro i M e c o ⟨hp1, hp2, hp3, hp4, hp5, hp6, hp7, hp8, hp9, hp10⟩
  refine T_seq ?_
  refine T_region ?_
  refine S_ 27 rfl rfl rfl _ (y_bin rfl rfl rfl (fun _ => b_lss)) ?_
  refine S_go (fun _ _ h => h) ?_
  refine T_seq ?_
  refine T_cond rfl (fun h27 => ?_) (fun h27 => ?_)
  · try simp only [decide_eq_true_eq, decide_eq_false_iff_not, Bool.or_eq_true, Bool.or_eq_false_iff, Bool.and_eq_true, Bool.and_eq_false_iff, Bool.not_eq_true', Bool.not_eq_false', Bool.not_eq_true, Bool.not_eq_false, Bool.not_true, Bool.not_false, Int.not_lt, Int.not_le, not_or, not_and, Classical.not_not] at h27
    obtain ⟨x0, hx1, hx2⟩ := hl.at (i := i) (by omega)
    have hlp := len_putB x0.us (getB M x0.us || decide (x0.out = 3)) M
    refine T_skip_go (fun _ _ h => h) ?_
    refine T_seq ?_
    refine T_block ?_
    refine T_seq ?_
    refine T_region ?_
    refine S_ 28 rfl rfl rfl _ (y_indexAddr rfl rfl rfl Tryz.underlying85 sz87 (fun hg => hl.isSome (by omega)) (fun _ => by omega)) ?_
    refine S_ 29 rfl rfl rfl _ (y_loadT rfl rfl hl (fun _ => rfl) (fun _ => hx1) Tryz.underlying87 rfl sz87) ?_
    refine S_alloc 10 10 rfl rfl rfl rfl z87 ?_
    intro b10
    refine S_store 10 rfl rfl rfl rfl rfl rfl sz87 rfl rfl ?_
    refine S_go (fun _ _ h => h) ?_
    refine T_seq ?_
    refine T_region ?_
    refine S_ 30 rfl rfl rfl _ (y_move rfl rfl) ?_
    refine S_ 31 rfl rfl rfl _ (y_fieldAddr rfl rfl fa87_4) ?_
    refine S_ 32 rfl rfl rfl _ (y_load 10 rfl rfl rfl rfl Tryz.underlying9 rfl) ?_
    refine S_ 33 rfl rfl rfl _ (y_move rfl rfl) ?_
    refine S_ 34 rfl rfl rfl _ (y_fieldAddr rfl rfl fa87_4) ?_
    refine S_ 35 rfl rfl rfl _ (y_load 10 rfl rfl rfl rfl Tryz.underlying9 rfl) ?_
    refine S_ 36 rfl rfl rfl _ (y_as (v' := .bool (getB M x0.us)) (by exact mget_miB _ _) (y_lookup 23 (enc := fun l : List UInt8 => str l) rfl rfl rfl rfl Tryz.underlying164 Tryz.underlying9 rfl same_str z4)) ?_
    refine S_ 37 rfl rfl rfl _ (y_move rfl rfl) ?_
    refine Sg_ 38 rfl rfl rfl rfl rfl rfl _ (y_fieldAddr rfl rfl fa87_3) ?_
    refine Sg_ 39 rfl rfl rfl rfl rfl rfl _ (y_load 10 rfl rfl rfl rfl Tryz.underlying3 rfl) ?_
    refine Sg_ 40 rfl rfl rfl rfl rfl rfl _ (y_bin rfl rfl rfl (fun _ => b_eql)) ?_
    refine S_ 41 rfl rfl rfl _ (y_or rfl rfl rfl) ?_
    refine S_mapUpdate 23 (enc := fun l : List UInt8 => str l) rfl rfl rfl rfl rfl rfl rfl Tryz.underlying164 Tryz.underlying9 rfl same_str fits_str (mput_miB _ _ _) ?_
    refine S_go (fun _ _ h => h) ?_
    refine T_seq ?_
    refine T_region ?_
    refine S_ 42 rfl rfl rfl _ (y_fieldAddr rfl rfl fa87_3) ?_
    refine S_ 43 rfl rfl rfl _ (y_load 10 rfl rfl rfl rfl Tryz.underlying3 rfl) ?_
    refine S_go (fun _ _ h => h) ?_
    refine T_block ?_
    refine T_seq ?_
    refine T_region ?_
    refine S_ 45 rfl rfl rfl _ (y_bin rfl rfl rfl (fun _ => b_eql)) ?_
    refine S_ 44 rfl rfl rfl _ (y_assign rfl rfl) ?_
    refine S_go (fun _ _ h => h) ?_
    refine T_cond rfl (fun h44 => ?_) (fun h44 => ?_)
    · try simp only [decide_eq_true_eq, decide_eq_false_iff_not, Bool.or_eq_true, Bool.or_eq_false_iff, Bool.and_eq_true, Bool.and_eq_false_iff, Bool.not_eq_true', Bool.not_eq_false', Bool.not_eq_true, Bool.not_eq_false, Bool.not_true, Bool.not_false, Int.not_lt, Int.not_le, not_or, not_and, Classical.not_not] at h44
      refine T_region ?_
      refine S_ 46 rfl rfl rfl _ (y_fieldAddr rfl rfl fa96_2) ?_
      refine S_ 47 rfl rfl rfl _ (y_load 7 rfl rfl rfl rfl Tryz.underlying3 rfl) ?_
      refine S_ 48 rfl rfl rfl _ (y_bin rfl rfl rfl (fun hg => b_add (by omega))) ?_
      refine S_ 49 rfl rfl rfl _ (y_fieldAddr rfl rfl fa96_2) ?_
      refine S_store 7 rfl rfl rfl rfl rfl rfl sz3 rfl rfl ?_
      refine S_go (fun _ _ h => h) ?_
      refine T_region ?_
      refine S_ 62 rfl rfl rfl _ (y_bin rfl rfl rfl (fun hg => b_add (by omega))) ?_
      refine S_ 26 rfl rfl rfl _ (y_move rfl rfl) ?_
      refine S_nil (nextK5 (kf := [(10, 10), (26, 62)]) (kl := [(7, 7), (10, 10), (23, 23), (26, 62)]) (i + 1) (putB M x0.us (getB M x0.us || decide (x0.out = 3))) (e + 1) c o (by repeat (first | exact kf_nil | (apply kf_in; focus rfl) | (apply kf_out; focus rfl))) (by repeat (first | exact kl_nil | exact kl_rest (by assumption) rfl | (apply kl_in; focus rfl) | (apply kl_out; focus rfl))) ?_ ?_ ?_ ?_)
      · omega
      · refine ⟨by omega, by rw [← hp2, hx2, crF], ?_, ?_, ?_, by omega, by omega, by omega, fun _ => by omega, by omega⟩ <;> (first | rw [← hp3] | rw [← hp4] | rw [← hp5]) <;> rw [hx2, cntO] <;> split <;> omega
      · exact ⟨rfl, trivial⟩
      · exact ⟨rfl, rfl, trivial⟩
    · try simp only [decide_eq_true_eq, decide_eq_false_iff_not, Bool.or_eq_true, Bool.or_eq_false_iff, Bool.and_eq_true, Bool.and_eq_false_iff, Bool.not_eq_true', Bool.not_eq_false', Bool.not_eq_true, Bool.not_eq_false, Bool.not_true, Bool.not_false, Int.not_lt, Int.not_le, not_or, not_and, Classical.not_not] at h44
      refine T_seq ?_
      refine T_region ?_
      refine S_ 51 rfl rfl rfl _ (y_bin rfl rfl rfl (fun _ => b_eql)) ?_
      refine S_ 50 rfl rfl rfl _ (y_assign rfl rfl) ?_
      refine S_go (fun _ _ h => h) ?_
      refine T_cond rfl (fun h50 => ?_) (fun h50 => ?_)
      · try simp only [decide_eq_true_eq, decide_eq_false_iff_not, Bool.or_eq_true, Bool.or_eq_false_iff, Bool.and_eq_true, Bool.and_eq_false_iff, Bool.not_eq_true', Bool.not_eq_false', Bool.not_eq_true, Bool.not_eq_false, Bool.not_true, Bool.not_false, Int.not_lt, Int.not_le, not_or, not_and, Classical.not_not] at h50
        refine T_region ?_
        refine S_ 52 rfl rfl rfl _ (y_fieldAddr rfl rfl fa96_3) ?_
        refine S_ 53 rfl rfl rfl _ (y_load 7 rfl rfl rfl rfl Tryz.underlying3 rfl) ?_
        refine S_ 54 rfl rfl rfl _ (y_bin rfl rfl rfl (fun hg => b_add (by omega))) ?_
        refine S_ 55 rfl rfl rfl _ (y_fieldAddr rfl rfl fa96_3) ?_
        refine S_store 7 rfl rfl rfl rfl rfl rfl sz3 rfl rfl ?_
        refine S_go (fun _ _ h => h) ?_
        refine T_region ?_
        refine S_ 62 rfl rfl rfl _ (y_bin rfl rfl rfl (fun hg => b_add (by omega))) ?_
        refine S_ 26 rfl rfl rfl _ (y_move rfl rfl) ?_
        refine S_nil (nextK5 (kf := [(10, 10), (26, 62)]) (kl := [(7, 7), (10, 10), (23, 23), (26, 62)]) (i + 1) (putB M x0.us (getB M x0.us || decide (x0.out = 3))) e (c + 1) o (by repeat (first | exact kf_nil | (apply kf_in; focus rfl) | (apply kf_out; focus rfl))) (by repeat (first | exact kl_nil | exact kl_rest (by assumption) rfl | (apply kl_in; focus rfl) | (apply kl_out; focus rfl))) ?_ ?_ ?_ ?_)
        · omega
        · refine ⟨by omega, by rw [← hp2, hx2, crF], ?_, ?_, ?_, by omega, by omega, by omega, fun _ => by omega, by omega⟩ <;> (first | rw [← hp3] | rw [← hp4] | rw [← hp5]) <;> rw [hx2, cntO] <;> split <;> omega
        · exact ⟨rfl, trivial⟩
        · exact ⟨rfl, rfl, trivial⟩
      · try simp only [decide_eq_true_eq, decide_eq_false_iff_not, Bool.or_eq_true, Bool.or_eq_false_iff, Bool.and_eq_true, Bool.and_eq_false_iff, Bool.not_eq_true', Bool.not_eq_false', Bool.not_eq_true, Bool.not_eq_false, Bool.not_true, Bool.not_false, Int.not_lt, Int.not_le, not_or, not_and, Classical.not_not] at h50
        refine T_seq ?_
        refine T_region ?_
        refine S_ 57 rfl rfl rfl _ (y_bin rfl rfl rfl (fun _ => b_eql)) ?_
        refine S_ 56 rfl rfl rfl _ (y_assign rfl rfl) ?_
        refine S_go (fun _ _ h => h) ?_
        refine T_cond rfl (fun h56 => ?_) (fun h56 => ?_)
        · try simp only [decide_eq_true_eq, decide_eq_false_iff_not, Bool.or_eq_true, Bool.or_eq_false_iff, Bool.and_eq_true, Bool.and_eq_false_iff, Bool.not_eq_true', Bool.not_eq_false', Bool.not_eq_true, Bool.not_eq_false, Bool.not_true, Bool.not_false, Int.not_lt, Int.not_le, not_or, not_and, Classical.not_not] at h56
          refine T_region ?_
          refine S_ 58 rfl rfl rfl _ (y_fieldAddr rfl rfl fa96_4) ?_
          refine S_ 59 rfl rfl rfl _ (y_load 7 rfl rfl rfl rfl Tryz.underlying3 rfl) ?_
          refine S_ 60 rfl rfl rfl _ (y_bin rfl rfl rfl (fun hg => b_add (by omega))) ?_
          refine S_ 61 rfl rfl rfl _ (y_fieldAddr rfl rfl fa96_4) ?_
          refine S_store 7 rfl rfl rfl rfl rfl rfl sz3 rfl rfl ?_
          refine S_go (fun _ _ h => h) ?_
          refine T_region ?_
          refine S_ 62 rfl rfl rfl _ (y_bin rfl rfl rfl (fun hg => b_add (by omega))) ?_
          refine S_ 26 rfl rfl rfl _ (y_move rfl rfl) ?_
          refine S_nil (nextK5 (kf := [(10, 10), (26, 62)]) (kl := [(7, 7), (10, 10), (23, 23), (26, 62)]) (i + 1) (putB M x0.us (getB M x0.us || decide (x0.out = 3))) e c (o + 1) (by repeat (first | exact kf_nil | (apply kf_in; focus rfl) | (apply kf_out; focus rfl))) (by repeat (first | exact kl_nil | exact kl_rest (by assumption) rfl | (apply kl_in; focus rfl) | (apply kl_out; focus rfl))) ?_ ?_ ?_ ?_)
          · omega
          · refine ⟨by omega, by rw [← hp2, hx2, crF], ?_, ?_, ?_, by omega, by omega, by omega, fun _ => by omega, by omega⟩ <;> (first | rw [← hp3] | rw [← hp4] | rw [← hp5]) <;> rw [hx2, cntO] <;> split <;> omega
          · exact ⟨rfl, trivial⟩
          · exact ⟨rfl, rfl, trivial⟩
        · try simp only [decide_eq_true_eq, decide_eq_false_iff_not, Bool.or_eq_true, Bool.or_eq_false_iff, Bool.and_eq_true, Bool.and_eq_false_iff, Bool.not_eq_true', Bool.not_eq_false', Bool.not_eq_true, Bool.not_eq_false, Bool.not_true, Bool.not_false, Int.not_lt, Int.not_le, not_or, not_and, Classical.not_not] at h56
          refine T_skip_go (fun _ _ h => h) ?_
          refine T_region ?_
          refine S_ 62 rfl rfl rfl _ (y_bin rfl rfl rfl (fun hg => b_add (by omega))) ?_
          refine S_ 26 rfl rfl rfl _ (y_move rfl rfl) ?_
          refine S_nil (nextK5 (kf := [(10, 10), (26, 62)]) (kl := [(7, 7), (10, 10), (23, 23), (26, 62)]) (i + 1) (putB M x0.us (getB M x0.us || decide (x0.out = 3))) e c o (by repeat (first | exact kf_nil | (apply kf_in; focus rfl) | (apply kf_out; focus rfl))) (by repeat (first | exact kl_nil | exact kl_rest (by assumption) rfl | (apply kl_in; focus rfl) | (apply kl_out; focus rfl))) ?_ ?_ ?_ ?_)
          · omega
          · refine ⟨by omega, by rw [← hp2, hx2, crF], ?_, ?_, ?_, by omega, by omega, by omega, fun _ => by omega, by omega⟩ <;> (first | rw [← hp3] | rw [← hp4] | rw [← hp5]) <;> rw [hx2, cntO] <;> split <;> omega
          · exact ⟨rfl, trivial⟩
          · exact ⟨rfl, rfl, trivial⟩
  · try simp only [decide_eq_true_eq, decide_eq_false_iff_not, Bool.or_eq_true, Bool.or_eq_false_iff, Bool.and_eq_true, Bool.and_eq_false_iff, Bool.not_eq_true', Bool.not_eq_false', Bool.not_eq_true, Bool.not_eq_false, Bool.not_true, Bool.not_false, Int.not_lt, Int.not_le, not_or, not_and, Classical.not_not] at h27
    have hM0 : 0 < M.length := hp9 (by omega)
    have hd := hl.end (i := i) (by omega)
    refine T_exit_go (fun _ _ h => h) ?_
    refine T_seq ?_
    refine T_region ?_
    refine S_ 63 rfl rfl rfl _ (y_move rfl rfl) ?_
    refine S_ 64 rfl rfl rfl _ (y_as (v' := .int .i64 (M.length : Int)) (by rw [List.length_map]) (y_len_map 23 rfl rfl rfl Tryz.underlying164)) ?_
    refine S_ 65 rfl rfl rfl _ (y_fieldAddr rfl rfl fa96_5) ?_
    refine S_store 7 rfl rfl rfl rfl rfl rfl sz3 rfl rfl ?_
    refine S_go (fun _ _ h => h) ?_
    refine T_seq ?_
    refine T_region ?_
    refine S_ 11 rfl rfl rfl _ (y_assign rfl rfl) ?_
    refine S_go (fun _ _ h => h) ?_
    refine T_seq ?_
    refine T_seq ?_
    refine T_region ?_
    refine S_ 66 rfl rfl rfl _ (y_move rfl rfl) ?_
    refine S_range 67 23 67 (fun p : List UInt8 × Bool => str p.1) (fun p : List UInt8 × Bool => Value.bool p.2) (M) (by rw [List.map_map]; rfl) rfl rfl rfl rfl rfl rfl Tryz.underlying164 ?_
    intro r67 es67 ck67
    refine S_go (fun _ _ h => h) ?_
    refine T_block ?_
    refine T_loopK3 (kf := [(11, 11), (13, 13), (68, 75)]) (kl := [(11, 11), (13, 13), (67, 75)]) (fun (rem : List (List UInt8 × Bool)) (last : Option (List UInt8 × Bool)) (f : Int) => [(11, true, .int .i64 f)]) (fun (rem : List (List UInt8 × Bool)) (last : Option (List UInt8 × Bool)) (f : Int) => [(67, .blk r67 (IsIt (fun p : List UInt8 × Bool => str p.1) (fun p : List UInt8 × Bool => Value.bool p.2) b23 es67 ck67 rem last))]) (fun (rem : List (List UInt8 × Bool)) (last : Option (List UInt8 × Bool)) (f : Int) => f + nF rem = nF M ∧ 0 ≤ f ∧ f + (rem.length : Int) ≤ (M.length : Int)) (fun (rem : List (List UInt8 × Bool)) (last : Option (List UInt8 × Bool)) (f : Int) => rem.length) M none 0 (by repeat (first | exact kf_nil | (apply kf_in; focus rfl) | (apply kf_out; focus rfl))) (by repeat (first | exact kl_nil | exact kl_rest (by assumption) rfl | (apply kl_in; focus rfl) | (apply kl_out; focus rfl))) ?_ ?_ ?_ ?_
    · exact ⟨by omega, by omega, by omega⟩
    · exact ⟨rfl, trivial⟩
    · exact ⟨rfl, trivial⟩
    rintro rem last f ⟨hr1, hr2, hr3⟩
    refine T_seq ?_
    refine T_region ?_
    refine S_next 68 23 67 rfl rfl rfl rfl rfl rfl rfl ?_
    intro e68 ps68 hn68 hs68
    refine S_ 69 rfl rfl rfl _ (y_extract (v := .bool e68.isSome) rfl rfl (by cases e68 <;> rfl)) ?_
    refine S_go (fun _ _ h => h) ?_
    refine T_seq ?_
    refine T_cond rfl (fun h69 => ?_) (fun h69 => ?_)
    · skip
      obtain ⟨p, rfl⟩ := Option.isSome_iff_exists.1 h69
      have hpm := hs68 p rfl
      refine T_skip_go (fun _ _ h => h) ?_
      refine T_block ?_
      refine T_seq ?_
      refine T_region ?_
      refine S_ 70 rfl rfl rfl _ (y_entry 23 67 rfl rfl rfl rfl) ?_
      refine S_ 71 rfl rfl rfl _ (y_as (v' := .bool p.2) (by exact rfl) (y_extract rfl rfl rfl)) ?_
      refine S_ 13 rfl rfl rfl _ (y_assign rfl rfl) ?_
      refine S_go (fun _ _ h => h) ?_
      refine T_seq ?_
      refine T_region ?_
      refine S_ 72 rfl rfl rfl _ (y_move rfl rfl) ?_
      refine S_ 73 rfl rfl rfl _ (y_not rfl rfl) ?_
      refine S_go (fun _ _ h => h) ?_
      refine T_cond rfl (fun h73 => ?_) (fun h73 => ?_)
      · skip
        refine T_region ?_
        refine S_ 74 rfl rfl rfl _ (y_move rfl rfl) ?_
        refine S_ 75 rfl rfl rfl _ (y_bin rfl rfl rfl (fun hg => b_add (by omega))) ?_
        refine S_ 11 rfl rfl rfl _ (y_assign rfl rfl) ?_
        refine S_nil (nextK3 (kf := [(11, 11), (13, 13), (68, 75)]) (kl := [(11, 11), (13, 13), (67, 75)]) ps68 (some p) (f + 1) (by repeat (first | exact kf_nil | (apply kf_in; focus rfl) | (apply kf_out; focus rfl))) (by repeat (first | exact kl_nil | exact kl_rest (by assumption) rfl | (apply kl_in; focus rfl) | (apply kl_out; focus rfl))) ?_ ?_ ?_ ?_)
        · have := hpm.length_eq; simp at this; omega
        · have h1 := hpm.length_eq
          simp at h1
          have h2 := nF_perm hpm
          rw [nF, if_neg (by simpa using h73)] at h2
          exact ⟨by omega, by omega, by omega⟩
        · exact ⟨rfl, trivial⟩
        · exact ⟨rfl, trivial⟩
      · skip
        refine T_skip (nextK3 (kf := [(11, 11), (13, 13), (68, 75)]) (kl := [(11, 11), (13, 13), (67, 75)]) ps68 (some p) f (by repeat (first | exact kf_nil | (apply kf_in; focus rfl) | (apply kf_out; focus rfl))) (by repeat (first | exact kl_nil | exact kl_rest (by assumption) rfl | (apply kl_in; focus rfl) | (apply kl_out; focus rfl))) ?_ ?_ ?_ ?_)
        · have := hpm.length_eq; simp at this; omega
        · have h1 := hpm.length_eq
          simp at h1
          have h2 := nF_perm hpm
          rw [nF, if_pos (by simpa using h73)] at h2
          exact ⟨by omega, by omega, by omega⟩
        · exact ⟨rfl, trivial⟩
        · exact ⟨rfl, trivial⟩
    · skip
      have hq9 : e68 = none := by simpa using h69
      have hr0 := hn68 hq9
      refine T_exit_go (fun _ _ h => h) ?_
      refine T_seq ?_
      refine T_region ?_
      refine S_ 76 rfl rfl rfl _ (y_fieldAddr rfl rfl fa96_1) ?_
      refine S_ 77 rfl rfl rfl _ (y_load 7 rfl rfl rfl rfl Tryz.underlying3 rfl) ?_
      refine S_ 78 rfl rfl rfl _ (y_fieldAddr rfl rfl fa96_3) ?_
      refine S_ 79 rfl rfl rfl _ (y_load 7 rfl rfl rfl rfl Tryz.underlying3 rfl) ?_
      refine S_ 80 rfl rfl rfl _ (y_bin rfl rfl rfl (fun hg => b_sub (by omega))) ?_
      refine S_ 81 rfl rfl rfl _ (y_bin rfl rfl rfl (fun hg => b_mul (by omega))) ?_
      refine S_ 82 rfl rfl rfl _ (y_fieldAddr rfl rfl fa96_1) ?_
      refine S_ 83 rfl rfl rfl _ (y_load 7 rfl rfl rfl rfl Tryz.underlying3 rfl) ?_
      refine S_ 84 rfl rfl rfl _ (y_bin rfl rfl rfl (fun hg => b_quov (10000 * ((q : Int) - c) / (q : Int)) (by omega) (by omega) (by omega) (by omega))) ?_
      refine S_ 85 rfl rfl rfl _ (y_fieldAddr rfl rfl fa96_6) ?_
      refine S_store 7 rfl rfl rfl rfl rfl rfl sz3 rfl rfl ?_
      refine S_go (fun _ _ h => h) ?_
      refine T_seq ?_
      refine T_region ?_
      refine S_ 86 rfl rfl rfl _ (y_move rfl rfl) ?_
      refine S_ 87 rfl rfl rfl _ (y_bin rfl rfl rfl (fun hg => b_mul (by omega))) ?_
      refine S_ 88 rfl rfl rfl _ (y_fieldAddr rfl rfl fa96_5) ?_
      refine S_ 89 rfl rfl rfl _ (y_load 7 rfl rfl rfl rfl Tryz.underlying3 rfl) ?_
      refine S_ 90 rfl rfl rfl _ (y_bin rfl rfl rfl (fun hg => b_quov (10000 * f / (M.length : Int)) (by omega) (by omega) (by omega) (by omega))) ?_
      refine S_ 91 rfl rfl rfl _ (y_fieldAddr rfl rfl fa96_7) ?_
      refine S_store 7 rfl rfl rfl rfl rfl rfl sz3 rfl rfl ?_
      refine S_go (fun _ _ h => h) ?_
      refine T_seq ?_
      refine T_region ?_
      refine S_ 92 rfl rfl rfl _ (y_loadA 7 rfl rfl rfl Tryz.underlying96 rfl sz96) ?_
      refine S_store 6 rfl rfl rfl rfl rfl rfl sz96 rfl rfl ?_
      refine S_go (fun _ _ h => h) ?_
      refine T_ret (fun a w hF hM => hRb a w (post_cell1 6 rfl rfl rfl Tryz.underlying96 rfl (by exact sz96) (fun w hM => ?_) a w hF hM))
      have e1 : M = crF [] l := by rw [← hp2, hd]; rfl
      have e2 : e = cntO 2 l := by rw [← hp3, hd, cntO]; omega
      have e3 : c = cntO 3 l := by rw [← hp4, hd, cntO]; omega
      have e4 : o = cntO 4 l := by rw [← hp5, hd, cntO]; omega
      have e5 : f = nF M := by rw [← hr1, hr0, nF]; omega
      exact ⟨by rw [heaR, ← e2, ← e3, ← e4, ← e1, ← e5, hlen]; rfl, hM.below⟩
end Go.Proofs.YtpmlgnbbkpplhaaGreatDoor
end
section
namespace Go.Proofs.YtpmlgnbbkpplhaaGreatDoor
set_option linter.unusedSimpArgs false
set_option linter.unusedVariables false
set_option maxRecDepth 20000
open Go.RowKit Go.Eng
end Go.Proofs.YtpmlgnbbkpplhaaGreatDoor
end
section
namespace Go.Proofs.YtpmlgnbbkpplhaaGreatDoor
set_option linter.unusedSimpArgs false
set_option linter.unusedVariables false
set_option maxRecDepth 20000
open Go.RowKit Go.Eng
/-! ### Plain: what is sorted and compact, what is best -/
theorem cpt_mem {x : List UInt8} : ∀ {l out : List (List UInt8)}, x ∈ cptF out l ↔ x ∈ out ∨ x ∈ l
  | [], out => by rw [cptF]; simp
  | s :: r, out => by
    rw [cptF]
    split
    · rename_i h
      rw [cpt_mem, List.mem_cons]
      constructor
      · rintro (h1 | h1)
        · exact .inl h1
        · exact .inr (.inr h1)
      · rintro (h1 | rfl | h1)
        · exact .inl h1
        · exact .inl (List.mem_of_getLast? h)
        · exact .inr h1
    · rw [cpt_mem, List.mem_append, List.mem_singleton, List.mem_cons, or_assoc]
theorem cpt_strict : ∀ (l out : List (List UInt8)), (∀ x ∈ out ++ l, relOk x = true) → out.Pairwise (fun x y => relE x y < 0) → (∀ x ∈ out, ∀ y ∈ l, relE x y ≤ 0) → l.Pairwise (fun x y => relE x y ≤ 0) → (cptF out l).Pairwise fun x y => relE x y < 0
  | [], out, _, h1, _, _ => h1
  | s :: r, out, hr, h1, h2, h3 => by
    rw [cptF]
    have h4 := List.pairwise_cons.1 h3
    split
    · exact cpt_strict r out (fun x hx => hr x (by rcases List.mem_append.1 hx with h | h; exact List.mem_append_left _ h; exact List.mem_append_right _ (List.mem_cons_of_mem _ h))) h1 (fun x hx y hy => h2 x hx y (List.mem_cons_of_mem _ hy)) h4.2
    · rename_i hn
      have hs : relOk s = true := hr s (List.mem_append_right _ (List.mem_cons_self ..))
      have hlt : ∀ x ∈ out, relE x s < 0 := by
        intro x hx
        have h5 := h2 x hx s (List.mem_cons_self ..)
        rcases Int.lt_or_le (relE x s) 0 with h6 | h6
        · exact h6
        · exfalso
          have hxr : relOk x = true := hr x (List.mem_append_left _ hx)
          have h7 := cmp3_E.anti x s
          have e : x = s := relE_zero hxr hs h5 (by omega)
          subst e
          obtain ⟨o, z, rfl⟩ : ∃ o z, out = o ++ [z] := ⟨out.dropLast, out.getLast (List.ne_nil_of_mem hx), (List.dropLast_concat_getLast _).symm⟩
          refine hn ?_
          rw [List.getLast?_concat]
          rcases List.mem_append.1 hx with hx | hx
          · have h8 : relE x z < 0 := (List.pairwise_append.1 h1).2.2 x hx z (List.mem_singleton.2 rfl)
            have h9 := h2 z (List.mem_append_right _ (List.mem_singleton.2 rfl)) x (List.mem_cons_self ..)
            have h10 := cmp3_E.anti x z
            omega
          · rw [List.mem_singleton.1 hx]
      refine cpt_strict r (out ++ [s]) (fun x hx => hr x (by simpa using hx)) ?_ ?_ h4.2
      · rw [List.pairwise_append]
        exact ⟨h1, List.pairwise_singleton _ _, fun x hx y hy => by rw [List.mem_singleton.1 hy]; exact hlt x hx⟩
      · intro x hx y hy
        rcases List.mem_append.1 hx with hx | hx
        · exact h2 x hx y (List.mem_cons_of_mem _ hy)
        · rw [List.mem_singleton.1 hx]; exact h4.1 y hy
theorem srtR_good {S : List (List UInt8)} (h : allNo S = 0) : (srtR S).Pairwise (fun x y => relE x y < 0) ∧ ∀ x, x ∈ srtR S ↔ x ∈ S := by
  have hal := (all_ok h).2
  rw [srtR, if_pos h]
  have hm : ∀ x, x ∈ srtL S ↔ x ∈ S := fun x => (srt_perm S).mem_iff
  exact ⟨cpt_strict (srtL S) [] (fun x hx => hal x ((hm x).1 (by simpa using hx))) List.Pairwise.nil (fun x hx => by cases hx) (srt_sorted S), fun x => by rw [cpt_mem]; simp [hm]⟩
/-! ### The walk -/
end Go.Proofs.YtpmlgnbbkpplhaaGreatDoor
end
section
namespace Go.Proofs.YtpmlgnbbkpplhaaGreatDoor
set_option linter.unusedSimpArgs false
set_option linter.unusedVariables false
set_option maxRecDepth 20000
open Go.RowKit Go.Eng
structure Ent where
  k : List UInt8
  A : Option Addr
  c : Nat
  xs : List SSes
def Ent.v (e : Ent) : Value := .slice e.A e.xs.length e.c
def Ent.row (e : Ent) : Row := ⟨87, 5, .slice e.A e.xs.length e.c, e.xs.length, e.xs.flatMap SSes.enc⟩
def Ent.mv (e : Ent) : List UInt8 × Value := (e.k, .slice e.A e.xs.length e.c)
def entOf (E : List Ent) (k : List UInt8) : Ent := (E.find? fun e => decide (e.k = k)).getD ⟨k, none, 0, []⟩
def restE (E : List Ent) (k : List UInt8) : List Ent := E.filter fun e => !decide (e.k = k)
def putE : List Ent → Ent → List Ent
  | [], e => [e]
  | a :: r, e => if a.k = e.k then e :: r else a :: putE r e
def DisE (E : List Ent) : Prop := ∀ a ∈ E, ∀ b ∈ E, a.k ≠ b.k → ∀ g, a.v.ownBlock = some g → b.v.ownBlock ≠ some g
structure Grp (D : List SSes) (E : List Ent) : Prop where
  nd : (E.map Ent.k).Nodup
  xs : ∀ e ∈ E, e.xs = D.filter (fun s => decide (s.rel = e.k)) ∧ e.xs ≠ []
  all : ∀ s ∈ D, s.rel ∈ E.map Ent.k
  dis : DisE E
theorem Grp.nil : Grp [] [] := ⟨List.nodup_nil, (fun e h => by cases h), (fun s h => by cases h), fun a h => by cases h⟩
theorem ent_cases (E : List Ent) (k : List UInt8) : (entOf E k ∈ E ∧ (entOf E k).k = k) ∨ (entOf E k = ⟨k, none, 0, []⟩ ∧ k ∉ E.map Ent.k) := by
  unfold entOf
  cases h : E.find? fun e => decide (e.k = k) with
  | none =>
    refine .inr ⟨rfl, fun hk => ?_⟩
    obtain ⟨e, he, rfl⟩ := List.mem_map.1 hk
    have := List.find?_eq_none.1 h e he
    simp at this
  | some e => exact .inl ⟨List.mem_of_find?_eq_some h, by simpa using List.find?_some h⟩
theorem mget_ent (k : List UInt8) : ∀ E : List Ent, (mget (E.map Ent.mv) k).getD (.slice none 0 0) = .slice (entOf E k).A (entOf E k).xs.length (entOf E k).c
  | [] => rfl
  | a :: r => by
    show (if k = a.k then some (Value.slice a.A a.xs.length a.c) else mget (r.map Ent.mv) k).getD (.slice none 0 0) = _
    by_cases h : a.k = k
    · rw [if_pos h.symm, entOf, List.find?_cons_of_pos (by simpa using h)]; rfl
    · rw [if_neg (fun e => h e.symm), mget_ent k r, entOf, entOf, List.find?_cons_of_neg (by simpa using h)]
theorem mput_ent (e : Ent) : ∀ E : List Ent, mput (E.map Ent.mv) e.k (.slice e.A e.xs.length e.c) = (putE E e).map Ent.mv
  | [] => rfl
  | a :: r => by
    show (if e.k = a.k then (a.k, Value.slice e.A e.xs.length e.c) :: r.map Ent.mv else a.mv :: mput (r.map Ent.mv) e.k (.slice e.A e.xs.length e.c)) = _
    unfold putE
    by_cases h : a.k = e.k
    · rw [if_pos h.symm, if_pos h, h]; rfl
    · rw [if_neg (fun x => h x.symm), if_neg h, mput_ent e r]; rfl
theorem put_mem {e : Ent} : ∀ {E : List Ent}, (E.map Ent.k).Nodup → ∀ x, x ∈ putE E e ↔ x = e ∨ (x ∈ E ∧ x.k ≠ e.k)
  | [], _, x => by simp [putE]
  | a :: r, hn, x => by
    have hn' := List.nodup_cons.1 (by simpa using hn : (a.k :: r.map Ent.k).Nodup)
    unfold putE
    by_cases h : a.k = e.k
    · rw [if_pos h, List.mem_cons, List.mem_cons]
      constructor
      · rintro (rfl | h1)
        · exact .inl rfl
        · exact .inr ⟨.inr h1, fun h2 => hn'.1 (by rw [h, ← h2]; exact List.mem_map_of_mem h1)⟩
      · rintro (rfl | ⟨rfl | h1, h2⟩)
        · exact .inl rfl
        · exact absurd h h2
        · exact .inr h1
    · rw [if_neg h, List.mem_cons, List.mem_cons, put_mem hn'.2]
      constructor
      · rintro (rfl | rfl | h1)
        · exact .inr ⟨.inl rfl, h⟩
        · exact .inl rfl
        · exact .inr ⟨.inr h1.1, h1.2⟩
      · rintro (rfl | ⟨rfl | h1, h2⟩)
        · exact .inr (.inl rfl)
        · exact .inl rfl
        · exact .inr (.inr ⟨h1, h2⟩)
theorem put_keys (e : Ent) : ∀ E : List Ent, (putE E e).map Ent.k = if e.k ∈ E.map Ent.k then E.map Ent.k else E.map Ent.k ++ [e.k]
  | [] => rfl
  | a :: r => by
    unfold putE
    by_cases h : a.k = e.k
    · rw [if_pos h, if_pos (by simp [h]), List.map_cons, List.map_cons, h]
    · rw [if_neg h, List.map_cons, put_keys e r, List.map_cons]
      have h' : ¬ e.k = a.k := fun x => h x.symm
      by_cases h2 : e.k ∈ r.map Ent.k
      · rw [if_pos h2, if_pos (List.mem_cons_of_mem _ h2)]
      · rw [if_neg h2, if_neg (by simp only [List.mem_cons, not_or]; exact ⟨h', h2⟩)]; rfl
theorem Grp.put {D : List SSes} {E : List Ent} (h : Grp D E) (s : SSes) (A : Option Addr) (c : Nat) (hd : ∀ a ∈ restE E s.rel, ∀ g, (Ent.v ⟨s.rel, A, c, (entOf E s.rel).xs ++ [s]⟩).ownBlock = some g → a.v.ownBlock ≠ some g) :
    Grp (D ++ [s]) (putE E ⟨s.rel, A, c, (entOf E s.rel).xs ++ [s]⟩) := by
  have hm := put_mem (e := ⟨s.rel, A, c, (entOf E s.rel).xs ++ [s]⟩) h.nd
  have hkeys := put_keys ⟨s.rel, A, c, (entOf E s.rel).xs ++ [s]⟩ E
  refine ⟨?_, fun e he => ?_, fun t ht => ?_, fun a ha b hb hk g h1 => ?_⟩
  · rw [hkeys]
    split
    · exact h.nd
    · rename_i h1
      rw [List.nodup_append]
      exact ⟨h.nd, List.nodup_cons.2 ⟨by simp, List.nodup_nil⟩, fun a ha b hb e => by rw [List.mem_singleton.1 hb] at e; exact h1 (e ▸ ha)⟩
  · rw [List.filter_append]
    rcases (hm e).1 he with rfl | ⟨h1, h2⟩
    · refine ⟨?_, by simp⟩
      show (entOf E s.rel).xs ++ [s] = D.filter (fun t => decide (t.rel = s.rel)) ++ [s].filter fun t => decide (t.rel = s.rel)
      rw [show [s].filter (fun t => decide (t.rel = s.rel)) = [s] by simp]
      congr 1
      rcases ent_cases E s.rel with ⟨h1, h2⟩ | ⟨h1, h2⟩
      · have := (h.xs _ h1).1
        rw [h2] at this; exact this
      · rw [h1]
        symm
        rw [List.filter_eq_nil_iff]
        intro t ht hte
        exact h2 (by rw [← of_decide_eq_true hte]; exact h.all t ht)
    · have h3 := h.xs e h1
      refine ⟨?_, h3.2⟩
      rw [show [s].filter (fun t => decide (t.rel = e.k)) = [] by simp; exact fun x => h2 x.symm, List.append_nil]
      exact h3.1
  · rw [hkeys]
    have : t.rel ∈ E.map Ent.k ∨ t.rel = s.rel := by
      rcases List.mem_append.1 ht with h1 | h1
      · exact .inl (h.all t h1)
      · rw [List.mem_singleton.1 h1]; exact .inr rfl
    split
    · rename_i h2
      rcases this with h1 | h1
      · exact h1
      · rw [h1]; exact h2
    · rcases this with h1 | h1
      · exact List.mem_append_left _ h1
      · rw [h1]; exact List.mem_append_right _ (List.mem_singleton.2 rfl)
  · rcases (hm a).1 ha with rfl | ⟨a1, a2⟩ <;> rcases (hm b).1 hb with rfl | ⟨b1, b2⟩
    · exact absurd rfl hk
    · exact hd b (List.mem_filter.2 ⟨b1, by simpa using b2⟩) g h1
    · intro h2
      exact hd a (List.mem_filter.2 ⟨a1, by simpa using a2⟩) g h2 h1
    · exact h.dis a a1 b b1 hk g h1
theorem Grp.rest {D : List SSes} {E : List Ent} (h : Grp D E) (k : List UInt8) : ∀ r ∈ (restE E k).map Ent.row, ∀ b, (entOf E k).v.ownBlock = some b → r.v.ownBlock ≠ some b := by
  intro r hr b hb
  obtain ⟨e, he, rfl⟩ := List.mem_map.1 hr
  obtain ⟨h1, h2⟩ := List.mem_filter.1 he
  rcases ent_cases E k with ⟨h3, h4⟩ | ⟨h3, _⟩
  · exact h.dis _ h3 e h1 (by rw [h4]; intro x; simp [← x] at h2) b hb
  · rw [h3] at hb; cases hb
theorem Grp.row {E : List Ent} (k : List UInt8) {B : Nat} : ((entOf E k).v.ownBlock = none ∧ ∀ w : World, (It.own 87 5 (entOf E k).v (entOf E k).xs.length ((entOf E k).xs.flatMap SSes.enc)).sat B w) ∨ (⟨87, 5, (entOf E k).v, (entOf E k).xs.length, (entOf E k).xs.flatMap SSes.enc⟩ : Row) ∈ E.map Ent.row := by
  rcases ent_cases E k with ⟨h3, h4⟩ | ⟨h3, _⟩
  · exact .inr (List.mem_map.2 ⟨_, h3, rfl⟩)
  · rw [h3]; exact .inl ⟨rfl, fun w => World.ownsRow_nil _ _ _ _⟩
theorem put_rows {E : List Ent} (hn : (E.map Ent.k).Nodup) (e : Ent) : ∀ r ∈ (putE E e).map Ent.row, r ∈ (restE E e.k).map Ent.row ++ [e.row] := by
  intro r hr
  obtain ⟨x, hx, rfl⟩ := List.mem_map.1 hr
  rcases (put_mem hn x).1 hx with rfl | ⟨h1, h2⟩
  · exact List.mem_append_right _ (List.mem_singleton.2 rfl)
  · exact List.mem_append_left _ (List.mem_map_of_mem (List.mem_filter.2 ⟨h1, by simpa using h2⟩))
theorem rest_sub (E : List Ent) (k : List UInt8) : ∀ r ∈ (restE E k).map Ent.row, r ∈ E.map Ent.row := fun r hr => by
  obtain ⟨e, he, rfl⟩ := List.mem_map.1 hr
  exact List.mem_map_of_mem (List.mem_filter.1 he).1
def inR (fr tl : Int) (s : SSes) : Bool := decide (fr ≤ s.at_) && decide (s.at_ ≤ tl)
def picked (l : List SSes) (fr tl : Int) : List SSes := l.filter (inR fr tl)
theorem fil_t {l : List SSes} {i : Nat} {x : SSes} {p : SSes → Bool} (h : l[i]? = some x) (hp : p x = true) : (l.take (i + 1)).filter p = (l.take i).filter p ++ [x] := by
  rw [takeS h, List.filter_append, List.filter_cons, if_pos hp]; rfl
theorem fil_f {l : List SSes} {i : Nat} {x : SSes} {p : SSes → Bool} (h : l[i]? = some x) (hp : p x = false) : (l.take (i + 1)).filter p = (l.take i).filter p := by
  rw [takeS h, List.filter_append, List.filter_cons, if_neg (by rw [hp]; simp)]; simp
theorem ses_all : ∀ l : List SSes, sesNos l = 0 → ∀ s ∈ l, sesNo s = 0
  | [], _ => fun s h => by cases h
  | a :: r, h => fun s hs => by
    rw [sesNos] at h
    by_cases ha : sesNo a = 0
    · rw [if_neg (by simpa using ha)] at h
      rcases List.mem_cons.1 hs with rfl | h1
      · exact ha
      · exact ses_all r h s h1
    · rw [if_pos ha] at h; exact absurd h ha
theorem ses_rel {s : SSes} (h : sesNo s = 0) : relOk s.rel = true := by
  cases hr : relOk s.rel with
  | true => rfl
  | false =>
    unfold sesNo at h
    split at h
    · cases h
    · first | exact absurd h (by decide) | (rw [if_pos hr] at h; exact absurd h (by decide))
theorem len_putE (e : Ent) : ∀ E : List Ent, (putE E e).length ≤ E.length + 1
  | [] => by simp [putE]
  | a :: r => by
    unfold putE
    have := len_putE e r
    split
    · simp
    · simp; omega
theorem ent_len {D : List SSes} {E : List Ent} (h : Grp D E) (k : List UInt8) : (entOf E k).xs.length ≤ D.length := by
  rcases ent_cases E k with ⟨h1, _⟩ | ⟨h1, _⟩
  · rw [(h.xs _ h1).1]; exact List.length_filter_le _ _
  · rw [h1]; exact Nat.zero_le _
/-- names put together anyhow: the same ones sorted -/
theorem names_uniq {N M : List (List UInt8)} (hN : allNo N = 0) (hM : allNo M = 0) (h : ∀ x, x ∈ N ↔ x ∈ M) : srtR N = srtR M := by
  have g : ∀ S, allNo S = 0 → (srtR S).Pairwise (fun x y => relE x y < 0) ∧ ∀ x, x ∈ srtR S ↔ x ∈ S := fun S hS => srtR_good hS
  obtain ⟨a1, a2⟩ := g N hN
  obtain ⟨b1, b2⟩ := g M hM
  have nd : ∀ L : List (List UInt8), L.Pairwise (fun x y => relE x y < 0) → L.Nodup := fun L h => h.imp fun {x y} h e => by subst e; rw [cmp3_E.refl] at h; omega
  have hp : (srtR N).Perm (srtR M) := (List.perm_ext_iff_of_nodup (nd _ a1) (nd _ b1)).2 fun x => by rw [a2, b2, h]
  exact sorted_uniq hp a1 b1 fun x _ y _ h1 h2 => by have := cmp3_E.anti x y; omega
theorem Grp.mem {D : List SSes} {E : List Ent} (h : Grp D E) (x : List UInt8) : x ∈ E.map Ent.k ↔ x ∈ D.map SSes.rel := by
  constructor
  · intro hx
    obtain ⟨e, he, rfl⟩ := List.mem_map.1 hx
    obtain ⟨h1, h2⟩ := h.xs e he
    rw [h1] at h2
    obtain ⟨s, hs⟩ := List.exists_mem_of_ne_nil _ h2
    obtain ⟨h3, h4⟩ := List.mem_filter.1 hs
    exact List.mem_map.2 ⟨s, h3, of_decide_eq_true h4⟩
  · intro hx
    obtain ⟨s, hs, rfl⟩ := List.mem_map.1 hx
    exact h.all s hs
theorem Grp.at {D : List SSes} {E : List Ent} (h : Grp D E) {x : List UInt8} (hx : x ∈ D.map SSes.rel) : entOf E x ∈ E ∧ (entOf E x).xs = D.filter (fun s => decide (s.rel = x)) ∧ 0 < (entOf E x).xs.length := by
  rcases ent_cases E x with ⟨h1, h2⟩ | ⟨_, h2⟩
  · obtain ⟨h3, h4⟩ := h.xs _ h1
    rw [h2] at h3
    exact ⟨h1, h3, List.length_pos_iff.2 h4⟩
  · exact absurd ((h.mem x).2 hx) h2
theorem srtR_len (S : List (List UInt8)) : (srtR S).length ≤ S.length := by
  unfold srtR
  split
  · have h1 := cpt_len (srtL S) []
    have h2 := srt_len S
    simp only [List.length_nil] at h1
    omega
  · exact Nat.zero_le _
def heaL (D : List SSes) : List PHea := (srtR (D.map SSes.rel)).map fun y => heaR y (D.filter fun s => decide (s.rel = y)) (D.length : Int)
def heaO (l : Sl SSes) (fr tl : Int) : List PHea := if heaNo l fr tl = 0 then heaL (picked l.l fr tl) else []
set_option maxHeartbeats 6400000 in
theorem Healthy_any (l : Sl SSes) (fr tl : Int) (w : World) (hl : SesOk w l) (hP : P10 w) :
    Calls Tryz.prog 52 #[.slice l.A l.q l.c, .int .i64 fr, .int .i64 tl] w fun e w' => ∃ A' c', e = .returned (.tuple #[.slice A' (heaO l fr tl).length c', .int .i64 (heaNo l fr tl)]) ∧ w'.ownsRow w.heap.size 96 9 (.slice A' (heaO l fr tl).length c') (heaO l fr tl).length ((heaO l fr tl).flatMap PHea.enc) ∧ Below w.heap.size w w' := by
  have ht := hl.ok.t
  have hlen := ht.len
  refine enter_args (args := [.slice l.A l.q l.c, .int .i64 fr, .int .i64 tl]) (F := _) Tryz.func52 rfl Tryz.ntmps52 rfl rfl ?_
  intro Rb hRb hRn
  refine T_many0 900 ?_
  refine T_seq ?_
  refine T_region ?_
  refine S_nilSlice 6 (e := 96) (size := 9) ?_
  refine S_ 6 rfl rfl rfl _ (y_assign rfl rfl) ?_
  refine S_ 7 rfl rfl rfl _ (y_assign rfl rfl) ?_
  refine S_go (fun _ _ h => h) ?_
  refine T_seq ?_
  refine T_seq ?_
  refine T_region ?_
  refine S_ 20 rfl rfl rfl _ (y_move rfl rfl) ?_
  refine S_ 21 rfl rfl rfl _ (y_len_slice rfl rfl Tryz.underlying85) ?_
  refine S_ 22 rfl rfl rfl _ (y_bin rfl rfl rfl (fun _ => b_gtr)) ?_
  refine S_go (fun _ _ h => h) ?_
  refine T_cond rfl (fun h22 => ?_) (fun h22 => ?_)
  · try simp only [decide_eq_true_eq, decide_eq_false_iff_not, Bool.or_eq_true, Bool.or_eq_false_iff, Bool.and_eq_true, Bool.and_eq_false_iff, Bool.not_eq_true', Bool.not_eq_false', Bool.not_eq_true, Bool.not_eq_false, Bool.not_true, Bool.not_false, Int.not_lt, Int.not_le, not_or, not_and, Classical.not_not] at h22
    refine T_seq ?_
    refine T_region ?_
    refine S_nilSlice 6 (e := 96) (size := 9) ?_
    refine S_ 6 rfl rfl rfl _ (y_assign rfl rfl) ?_
    refine S_ 7 rfl rfl rfl _ (y_assign rfl rfl) ?_
    refine S_go (fun _ _ h => h) ?_
    refine T_ret (fun a w hF hM => hRb a w (post2 rfl rfl rfl (fun w hM => ?_) a w hF hM))
    have hno : heaNo l fr tl = 4 := by rw [heaNo, if_pos (by omega)]
    have hR : heaO l fr tl = [] := if_neg (by rw [hno]; decide)
    rw [hR, hno]
    exact ⟨none, 0, rfl, World.ownsRow_nil _ _ _ _, hM.below⟩
  · try simp only [decide_eq_true_eq, decide_eq_false_iff_not, Bool.or_eq_true, Bool.or_eq_false_iff, Bool.and_eq_true, Bool.and_eq_false_iff, Bool.not_eq_true', Bool.not_eq_false', Bool.not_eq_true, Bool.not_eq_false, Bool.not_true, Bool.not_false, Int.not_lt, Int.not_le, not_or, not_and, Classical.not_not] at h22
    refine T_skip_go (fun _ _ h => h) ?_
    refine T_seq ?_
    refine T_seq ?_
    refine T_region ?_
    refine S_ 23 rfl rfl rfl _ (y_move rfl rfl) ?_
    refine S_ 24 rfl rfl rfl _ (y_len_slice rfl rfl Tryz.underlying85) ?_
    refine S_ 25 rfl rfl rfl _ (y_move rfl rfl) ?_
    refine S_go (fun _ _ h => h) ?_
    refine T_block ?_
    refine T_loopK1 (kf := [(6, 7), (9, 10), (25, 34)]) (kl := [(6, 7), (9, 10), (25, 34)]) (fun (i : Nat) => [(25, true, .int .i64 (i : Int))]) (fun (i : Nat) => []) (fun (i : Nat) => i ≤ l.q ∧ sesNos l.l = sesNos (l.l.drop i)) (fun (i : Nat) => l.q - i) 0 (by repeat (first | exact kf_nil | (apply kf_in; focus rfl) | (apply kf_out; focus rfl))) (by repeat (first | exact kl_nil | exact kl_rest (by assumption) rfl | (apply kl_in; focus rfl) | (apply kl_out; focus rfl))) ?_ ?_ ?_ ?_
    · exact ⟨by omega, rfl⟩
    · exact ⟨rfl, trivial⟩
    · exact trivial
    rintro i ⟨hp1, hp2⟩
    refine T_seq ?_
    refine T_region ?_
    refine S_ 26 rfl rfl rfl _ (y_bin rfl rfl rfl (fun _ => b_lss)) ?_
    refine S_go (fun _ _ h => h) ?_
    refine T_seq ?_
    refine T_cond rfl (fun h26 => ?_) (fun h26 => ?_)
    · try simp only [decide_eq_true_eq, decide_eq_false_iff_not, Bool.or_eq_true, Bool.or_eq_false_iff, Bool.and_eq_true, Bool.and_eq_false_iff, Bool.not_eq_true', Bool.not_eq_false', Bool.not_eq_true, Bool.not_eq_false, Bool.not_true, Bool.not_false, Int.not_lt, Int.not_le, not_or, not_and, Classical.not_not] at h26
      obtain ⟨x0, hx1, hx2⟩ := ht.at (i := i) (by omega)
      refine T_skip_go (fun _ _ h => h) ?_
      refine T_seq ?_
      refine T_block ?_
      refine T_seq ?_
      refine T_region ?_
      refine S_ 27 rfl rfl rfl _ (y_indexAddr rfl rfl rfl Tryz.underlying85 sz87 (fun hg => ht.isSome (by omega)) (fun _ => by omega)) ?_
      refine S_ 28 rfl rfl rfl _ (y_loadT rfl rfl ht (fun _ => rfl) (fun _ => hx1) Tryz.underlying87 rfl sz87) ?_
      refine S_alloc 9 9 rfl rfl rfl rfl z87 ?_
      intro b9
      refine S_store 9 rfl rfl rfl rfl rfl rfl sz87 rfl rfl ?_
      refine S_go (fun _ _ h => h) ?_
      refine T_seq ?_
      refine T_region ?_
      refine S_ 29 rfl rfl rfl _ (y_loadA 9 rfl rfl rfl Tryz.underlying87 rfl sz87) ?_
      refine S_ 30 rfl rfl rfl _ (y_call rfl rfl rfl cf50 (fun _ w _ => CheckSession_any x0 w (hl.n x0 (mem_at hx1)))) ?_
      refine S_ 10 rfl rfl rfl _ (y_assign rfl rfl) ?_
      refine S_go (fun _ _ h => h) ?_
      refine T_seq ?_
      refine T_region ?_
      refine S_ 31 rfl rfl rfl _ (y_move rfl rfl) ?_
      refine S_ 32 rfl rfl rfl _ (y_bin rfl rfl rfl (fun _ => b_neq)) ?_
      refine S_go (fun _ _ h => h) ?_
      refine T_cond rfl (fun h32 => ?_) (fun h32 => ?_)
      · try simp only [decide_eq_true_eq, decide_eq_false_iff_not, Bool.or_eq_true, Bool.or_eq_false_iff, Bool.and_eq_true, Bool.and_eq_false_iff, Bool.not_eq_true', Bool.not_eq_false', Bool.not_eq_true, Bool.not_eq_false, Bool.not_true, Bool.not_false, Int.not_lt, Int.not_le, not_or, not_and, Classical.not_not] at h32
        refine T_seq ?_
        refine T_region ?_
        refine S_ 33 rfl rfl rfl _ (y_move rfl rfl) ?_
        refine S_nilSlice 6 (e := 96) (size := 9) ?_
        refine S_ 6 rfl rfl rfl _ (y_assign rfl rfl) ?_
        refine S_ 7 rfl rfl rfl _ (y_assign rfl rfl) ?_
        refine S_go (fun _ _ h => h) ?_
        refine T_ret (fun a w hF hM => hRb a w (post2 rfl rfl rfl (fun w hM => ?_) a w hF hM))
        have hz : sesNos l.l = sesNo x0 := by rw [hp2, hx2, sesNos, if_pos h32]
        have hno : heaNo l fr tl = sesNo x0 := by rw [heaNo, if_neg (by omega), hz, if_pos h32]
        have hR : heaO l fr tl = [] := if_neg (by rw [hno]; exact h32)
        rw [hR, hno]
        exact ⟨none, 0, rfl, World.ownsRow_nil _ _ _ _, hM.below⟩
      · try simp only [decide_eq_true_eq, decide_eq_false_iff_not, Bool.or_eq_true, Bool.or_eq_false_iff, Bool.and_eq_true, Bool.and_eq_false_iff, Bool.not_eq_true', Bool.not_eq_false', Bool.not_eq_true, Bool.not_eq_false, Bool.not_true, Bool.not_false, Int.not_lt, Int.not_le, not_or, not_and, Classical.not_not] at h32
        refine T_skip_go (fun _ _ h => h) ?_
        refine T_region ?_
        refine S_ 34 rfl rfl rfl _ (y_bin rfl rfl rfl (fun hg => b_add (by omega))) ?_
        refine S_ 25 rfl rfl rfl _ (y_move rfl rfl) ?_
        refine S_nil (nextK1 (kf := [(6, 7), (9, 10), (25, 34)]) (kl := [(6, 7), (9, 10), (25, 34)]) (i + 1) (by repeat (first | exact kf_nil | (apply kf_in; focus rfl) | (apply kf_out; focus rfl))) (by repeat (first | exact kl_nil | exact kl_rest (by assumption) rfl | (apply kl_in; focus rfl) | (apply kl_out; focus rfl))) ?_ ?_ ?_ ?_)
        · omega
        · exact ⟨by omega, by rw [hp2, hx2, sesNos, if_neg (by omega)]⟩
        · exact ⟨rfl, trivial⟩
        · exact trivial
    · try simp only [decide_eq_true_eq, decide_eq_false_iff_not, Bool.or_eq_true, Bool.or_eq_false_iff, Bool.and_eq_true, Bool.and_eq_false_iff, Bool.not_eq_true', Bool.not_eq_false', Bool.not_eq_true, Bool.not_eq_false, Bool.not_true, Bool.not_false, Int.not_lt, Int.not_le, not_or, not_and, Classical.not_not] at h26
      have hz : sesNos l.l = 0 := by rw [hp2, ht.end (by omega)]; rfl
      refine T_exit_go (fun _ _ h => h) ?_
      refine T_seq ?_
      refine T_seq ?_
      refine T_region ?_
      refine S_ 35 rfl rfl rfl _ (y_move rfl rfl) ?_
      refine S_ 36 rfl rfl rfl _ (y_move rfl rfl) ?_
      refine S_ 37 rfl rfl rfl _ (y_bin rfl rfl rfl (fun _ => b_lss)) ?_
      refine S_go (fun _ _ h => h) ?_
      refine T_cond rfl (fun h37 => ?_) (fun h37 => ?_)
      · try simp only [decide_eq_true_eq, decide_eq_false_iff_not, Bool.or_eq_true, Bool.or_eq_false_iff, Bool.and_eq_true, Bool.and_eq_false_iff, Bool.not_eq_true', Bool.not_eq_false', Bool.not_eq_true, Bool.not_eq_false, Bool.not_true, Bool.not_false, Int.not_lt, Int.not_le, not_or, not_and, Classical.not_not] at h37
        refine T_seq ?_
        refine T_region ?_
        refine S_nilSlice 6 (e := 96) (size := 9) ?_
        refine S_ 6 rfl rfl rfl _ (y_assign rfl rfl) ?_
        refine S_ 7 rfl rfl rfl _ (y_assign rfl rfl) ?_
        refine S_go (fun _ _ h => h) ?_
        refine T_ret (fun a w hF hM => hRb a w (post2 rfl rfl rfl (fun w hM => ?_) a w hF hM))
        have hno : heaNo l fr tl = 5 := by rw [heaNo, if_neg (by omega), if_neg (by rw [hz]; simp), if_pos h37]
        have hR : heaO l fr tl = [] := if_neg (by rw [hno]; decide)
        rw [hR, hno]
        exact ⟨none, 0, rfl, World.ownsRow_nil _ _ _ _, hM.below⟩
      · try simp only [decide_eq_true_eq, decide_eq_false_iff_not, Bool.or_eq_true, Bool.or_eq_false_iff, Bool.and_eq_true, Bool.and_eq_false_iff, Bool.not_eq_true', Bool.not_eq_false', Bool.not_eq_true, Bool.not_eq_false, Bool.not_true, Bool.not_false, Int.not_lt, Int.not_le, not_or, not_and, Classical.not_not] at h37
        refine T_skip_go (fun _ _ h => h) ?_
        refine T_seq ?_
        refine T_region ?_
        refine S_makeMap 38 38 (fun l : List UInt8 => str l) rfl rfl rfl rfl ?_
        intro b38
        refine S_ 11 rfl rfl rfl _ (y_assign rfl rfl) ?_
        refine S_go (fun _ _ h => h) ?_
        refine T_seq ?_
        refine T_region ?_
        refine S_ 12 rfl rfl rfl _ (y_assign rfl rfl) ?_
        refine S_go (fun _ _ h => h) ?_
        refine T_seq ?_
        refine T_seq ?_
        refine T_region ?_
        refine S_ 39 rfl rfl rfl _ (y_move rfl rfl) ?_
        refine S_ 40 rfl rfl rfl _ (y_len_slice rfl rfl Tryz.underlying85) ?_
        refine S_ 41 rfl rfl rfl _ (y_move rfl rfl) ?_
        refine S_go (fun _ _ h => h) ?_
        refine T_block ?_
        refine T_loopK3 (kf := [(12, 12), (14, 14), (41, 67)]) (kl := [(12, 12), (14, 14), (38, 38), (41, 67), (900, 900)]) (fun (i : Nat) (E : List Ent) (n : Int) => [(41, true, .int .i64 (i : Int)), (12, true, .int .i64 n)]) (fun (i : Nat) (E : List Ent) (n : Int) => [(38, .blk b38 (IsMap (fun l : List UInt8 => str l) (E.map Ent.mv))), (900, .many (E.map Ent.row))]) (fun (i : Nat) (E : List Ent) (n : Int) => i ≤ l.q ∧ Grp ((l.l.take i).filter (inR fr tl)) E ∧ n = (((l.l.take i).filter (inR fr tl)).length : Int) ∧ E.length ≤ i ∧ 0 ≤ n ∧ n ≤ (i : Int)) (fun (i : Nat) (E : List Ent) (n : Int) => l.q - i) 0 [] 0 (by repeat (first | exact kf_nil | (apply kf_in; focus rfl) | (apply kf_out; focus rfl))) (by repeat (first | exact kl_nil | exact kl_rest (by assumption) rfl | (apply kl_in; focus rfl) | (apply kl_out; focus rfl))) ?_ ?_ ?_ ?_
        · exact ⟨by omega, Grp.nil, rfl, Nat.le_refl _, by omega, by omega⟩
        · exact ⟨rfl, rfl, trivial⟩
        · exact ⟨rfl, rfl, trivial⟩
        rintro i E n ⟨hg1, hg2, hg3, hg4, hg5, hg6⟩
        refine T_seq ?_
        refine T_region ?_
        refine S_ 42 rfl rfl rfl _ (y_bin rfl rfl rfl (fun _ => b_lss)) ?_
        refine S_go (fun _ _ h => h) ?_
        refine T_seq ?_
        refine T_cond rfl (fun h42 => ?_) (fun h42 => ?_)
        · try simp only [decide_eq_true_eq, decide_eq_false_iff_not, Bool.or_eq_true, Bool.or_eq_false_iff, Bool.and_eq_true, Bool.and_eq_false_iff, Bool.not_eq_true', Bool.not_eq_false', Bool.not_eq_true, Bool.not_eq_false, Bool.not_true, Bool.not_false, Int.not_lt, Int.not_le, not_or, not_and, Classical.not_not] at h42
          obtain ⟨x1, hy1, hy2⟩ := ht.at (i := i) (by omega)
          have hlx : (entOf E x1.rel).xs.length ≤ 2000 := by
            have := ent_len hg2 x1.rel
            have := List.length_filter_le (inR fr tl) (l.l.take i)
            rw [List.length_take] at this
            omega
          refine T_skip_go (fun _ _ h => h) ?_
          refine T_seq ?_
          refine T_block ?_
          refine T_seq ?_
          refine T_region ?_
          refine S_ 43 rfl rfl rfl _ (y_indexAddr rfl rfl rfl Tryz.underlying85 sz87 (fun hg => ht.isSome (by omega)) (fun _ => by omega)) ?_
          refine S_ 44 rfl rfl rfl _ (y_loadT rfl rfl ht (fun _ => rfl) (fun _ => hy1) Tryz.underlying87 rfl sz87) ?_
          refine S_alloc 14 14 rfl rfl rfl rfl z87 ?_
          intro b14
          refine S_store 14 rfl rfl rfl rfl rfl rfl sz87 rfl rfl ?_
          refine S_go (fun _ _ h => h) ?_
          refine T_seq ?_
          refine T_region ?_
          refine S_ 45 rfl rfl rfl _ (y_fieldAddr rfl rfl fa87_0) ?_
          refine S_ 46 rfl rfl rfl _ (y_load 14 rfl rfl rfl rfl Tryz.underlying3 rfl) ?_
          refine S_ 47 rfl rfl rfl _ (y_move rfl rfl) ?_
          refine S_ 48 rfl rfl rfl _ (y_bin rfl rfl rfl (fun _ => b_geq)) ?_
          refine S_ 49 rfl rfl rfl _ (y_move rfl rfl) ?_
          refine Sg_ 50 rfl rfl rfl rfl rfl rfl _ (y_fieldAddr rfl rfl fa87_0) ?_
          refine Sg_ 51 rfl rfl rfl rfl rfl rfl _ (y_load 14 rfl rfl rfl rfl Tryz.underlying3 rfl) ?_
          refine Sg_ 52 rfl rfl rfl rfl rfl rfl _ (y_move rfl rfl) ?_
          refine Sg_ 53 rfl rfl rfl rfl rfl rfl _ (y_bin rfl rfl rfl (fun _ => b_leq)) ?_
          refine S_ 54 rfl rfl rfl _ (y_as (v' := .bool (inR fr tl x1)) (by exact rfl) (y_and rfl rfl rfl)) ?_
          refine S_go (fun _ _ h => h) ?_
          refine T_cond rfl (fun h54 => ?_) (fun h54 => ?_)
          · skip
            refine T_unbank 900 961 ((restE E x1.rel).map Ent.row) rfl rfl (Grp.row x1.rel) (rest_sub E x1.rel) (hg2.rest x1.rel) ?_
            refine T_seq ?_
            refine T_perm [0, 1, 2, 3, 4, 5, 6, 7, 8, 9, 10] [true, true, true, true, true, true, true, true, false, false, false] [0, 0, 2, 0, 0, 16, 56, 0, 128, 504, 1023] [(2, [14]), (5, [14]), (6, [38]), (7, [14])] (by kernel_rfl) (by kernel_rfl) (by kernel_rfl) rfl (by kernel_rfl) ?_
            refine Rf_ 0 55 rfl rfl rfl rfl rfl _ trivial (Y.z (y_move rfl rfl) rfl) ?_
            refine Rf_ 1 56 rfl rfl rfl rfl rfl _ trivial (Y.z (y_fieldAddr rfl rfl fa87_2) rfl) ?_
            refine Rf_ 2 57 rfl rfl rfl rfl rfl _ ⟨rfl, trivial⟩ (Y.z (y_load 14 rfl rfl rfl rfl Tryz.underlying9 rfl) rfl) ?_
            refine Rf_ 3 58 rfl rfl rfl rfl rfl _ trivial (Y.z (y_move rfl rfl) rfl) ?_
            refine Rf_ 4 59 rfl rfl rfl rfl rfl _ trivial (Y.z (y_fieldAddr rfl rfl fa87_2) rfl) ?_
            refine Rf_ 5 60 rfl rfl rfl rfl rfl _ ⟨rfl, trivial⟩ (Y.z (y_load 14 rfl rfl rfl rfl Tryz.underlying9 rfl) rfl) ?_
            refine Rf_ 6 61 rfl rfl rfl rfl rfl _ ⟨rfl, trivial⟩ (Y.z (y_as (v' := .slice (entOf E x1.rel).A (entOf E x1.rel).xs.length (entOf E x1.rel).c) (by exact mget_ent _ _) (y_lookup 38 (enc := fun l : List UInt8 => str l) rfl rfl rfl rfl Tryz.underlying167 Tryz.underlying9 rfl same_str z85)) rfl) ?_
            refine Rf_ 7 62 rfl rfl rfl rfl rfl _ ⟨rfl, trivial⟩ (Y.z (y_loadA 14 rfl rfl rfl Tryz.underlying87 rfl sz87) rfl) ?_
            refine R_chain 8 rfl rfl ?_
            refine S_buildSlice 63 63 rfl rfl rfl rfl rfl Tryz.underlying85 inf87 rfl (by decide) (by decide) rfl rfl (by decide) rfl (_) rfl ?_
            intro b63
            refine R_next ⟨.inr ⟨rfl, trivial⟩, .inr ⟨rfl, trivial⟩, .inr ⟨rfl, trivial⟩, .inl rfl, trivial⟩ ?_
            refine R_chain 9 rfl rfl ?_
            obtain ⟨i64, hi64, hz64, hs64, hy64⟩ := info_parts inf87
            refine S_append 64 961 63 rfl rfl rfl rfl rfl rfl rfl rfl Tryz.underlying85 hi64 hz64 hs64 hy64 rfl (by decide) (by decide) rfl ?_ ?_ (((entOf E x1.rel).xs ++ [x1]).length) (((entOf E x1.rel).xs ++ [x1]).flatMap SSes.enc) ?_ ?_ ?_
            · (simp only [maxLen]; omega)
            · omega
            · simp
            · simp [List.flatMap_append]; rfl
            intro A64 c64
            refine R_next ⟨.inr ⟨rfl, trivial⟩, .inl rfl, .inl rfl, .inl rfl, trivial⟩ ?_
            refine R_chain 10 rfl rfl ?_
            refine S_mapUpdate 38 (enc := fun l : List UInt8 => str l) rfl rfl rfl rfl rfl rfl rfl Tryz.underlying167 Tryz.underlying9 rfl same_str fits_str (mput_ent ⟨x1.rel, A64, c64, (entOf E x1.rel).xs ++ [x1]⟩ E) ?_
            refine R_next ⟨.inl rfl, .inl rfl, .inl rfl, .inl rfl, trivial⟩ ?_
            refine R_go (fun _ _ h => h) ?_
            refine T_region ?_
            refine S_ 65 rfl rfl rfl _ (y_move rfl rfl) ?_
            refine S_ 66 rfl rfl rfl _ (y_bin rfl rfl rfl (fun hg => b_add (by omega))) ?_
            refine S_ 12 rfl rfl rfl _ (y_assign rfl rfl) ?_
            refine S_go (fun _ _ h => h) ?_
            refine T_region ?_
            refine S_ 67 rfl rfl rfl _ (y_bin rfl rfl rfl (fun hg => b_add (by omega))) ?_
            refine S_ 41 rfl rfl rfl _ (y_move rfl rfl) ?_
            refine S_known (fun w hM => hM.apart_row (m := 900) (i := 961) rfl rfl rfl) (fun hap => ?_)
            refine S_bank [(961, 961), (900, 900)] 900 961 rfl rfl rfl rfl (by repeat (first | exact kl_nil | exact kl_rest (by assumption) rfl | (apply kl_in; focus rfl) | (apply kl_out; focus rfl))) ?_
            refine S_manyEq 900 ((putE E ⟨x1.rel, A64, c64, (entOf E x1.rel).xs ++ [x1]⟩).map Ent.row) rfl (put_rows hg2.nd _) ?_
            refine S_nil (nextK3 (kf := [(12, 12), (14, 14), (41, 67)]) (kl := [(12, 12), (14, 14), (38, 38), (41, 67), (900, 900)]) (i + 1) (putE E ⟨x1.rel, A64, c64, (entOf E x1.rel).xs ++ [x1]⟩) (n + 1) (by repeat (first | exact kf_nil | (apply kf_in; focus rfl) | (apply kf_out; focus rfl))) (by repeat (first | exact kl_nil | exact kl_rest (by assumption) rfl | (apply kl_in; focus rfl) | (apply kl_out; focus rfl))) ?_ ?_ ?_ ?_)
            · omega
            · have hlp := len_putE ⟨x1.rel, A64, c64, (entOf E x1.rel).xs ++ [x1]⟩ E
              rw [fil_t hy1 h54]
              exact ⟨by omega, hg2.put x1 A64 c64 (fun a ha g h1 => hap _ (List.mem_map_of_mem ha) g h1), by rw [List.length_append, List.length_singleton]; omega, by omega, by omega, by omega⟩
            · exact ⟨rfl, rfl, trivial⟩
            · exact ⟨rfl, rfl, trivial⟩
          · skip
            refine T_skip_go (fun _ _ h => h) ?_
            refine T_region ?_
            refine S_ 67 rfl rfl rfl _ (y_bin rfl rfl rfl (fun hg => b_add (by omega))) ?_
            refine S_ 41 rfl rfl rfl _ (y_move rfl rfl) ?_
            refine S_nil (nextK3 (kf := [(12, 12), (14, 14), (41, 67)]) (kl := [(12, 12), (14, 14), (38, 38), (41, 67), (900, 900)]) (i + 1) E n (by repeat (first | exact kf_nil | (apply kf_in; focus rfl) | (apply kf_out; focus rfl))) (by repeat (first | exact kl_nil | exact kl_rest (by assumption) rfl | (apply kl_in; focus rfl) | (apply kl_out; focus rfl))) ?_ ?_ ?_ ?_)
            · omega
            · rw [fil_f hy1 h54]
              exact ⟨by omega, hg2, hg3, by omega, by omega, by omega⟩
            · exact ⟨rfl, rfl, trivial⟩
            · exact ⟨rfl, rfl, trivial⟩
        · try simp only [decide_eq_true_eq, decide_eq_false_iff_not, Bool.or_eq_true, Bool.or_eq_false_iff, Bool.and_eq_true, Bool.and_eq_false_iff, Bool.not_eq_true', Bool.not_eq_false', Bool.not_eq_true, Bool.not_eq_false, Bool.not_true, Bool.not_false, Int.not_lt, Int.not_le, not_or, not_and, Classical.not_not] at h42
          have htk : l.l.take i = l.l := List.take_of_length_le (by omega)
          rw [htk] at hg2 hg3
          refine T_exit_go (fun _ _ h => h) ?_
          refine T_seq ?_
          refine T_region ?_
          refine S_nilSlice 15 (e := 9) (size := 1) ?_
          refine S_ 15 rfl rfl rfl _ (y_assign rfl rfl) ?_
          refine S_go (fun _ _ h => h) ?_
          refine T_seq ?_
          refine T_seq ?_
          refine T_region ?_
          refine S_ 68 rfl rfl rfl _ (y_move rfl rfl) ?_
          refine S_rangeM 69 38 69 (fun e : Ent => str e.k) Ent.v E (by rw [List.map_map]; rfl) rfl rfl rfl rfl rfl rfl (kt := 9) Tryz.underlying167 ?_
          intro r69 es69 ck69 hes69
          refine S_go (fun _ _ h => h) ?_
          refine T_block ?_
          refine T_loopK5 (kf := [(15, 16), (70, 77)]) (kl := [(15, 16), (69, 77)]) (fun (rem : List Ent) (last : Option Ent) (N : List (List UInt8)) (A15 : Option Addr) (c15 : Nat) => [(15, true, .slice A15 N.length c15)]) (fun (rem : List Ent) (last : Option Ent) (N : List (List UInt8)) (A15 : Option Addr) (c15 : Nat) => [(69, .blk r69 (IsIt (fun e : Ent => str e.k) Ent.v b38 es69 ck69 rem last)), (15, .own 9 1 (.slice A15 N.length c15) N.length (N.flatMap strE))]) (fun (rem : List Ent) (last : Option Ent) (N : List (List UInt8)) (A15 : Option Addr) (c15 : Nat) => (∃ D, E.Perm (D ++ rem) ∧ N = D.map Ent.k) ∧ N.length + rem.length = E.length) (fun (rem : List Ent) (last : Option Ent) (N : List (List UInt8)) (A15 : Option Addr) (c15 : Nat) => rem.length) E none [] none 0 (by repeat (first | exact kf_nil | (apply kf_in; focus rfl) | (apply kf_out; focus rfl))) (by repeat (first | exact kl_nil | exact kl_rest (by assumption) rfl | (apply kl_in; focus rfl) | (apply kl_out; focus rfl))) ?_ ?_ ?_ ?_
          · exact ⟨⟨[], List.Perm.refl _, rfl⟩, by simp⟩
          · exact ⟨rfl, trivial⟩
          · exact ⟨rfl, rfl, trivial⟩
          rintro rem last N A15 c15 ⟨hr1, hr2⟩
          refine T_seq ?_
          refine T_region ?_
          refine S_next 70 38 69 rfl rfl rfl rfl rfl rfl rfl ?_
          intro e70 ps70 hn70 hs70
          refine S_ 71 rfl rfl rfl _ (y_extract (v := .bool e70.isSome) rfl rfl (by cases e70 <;> rfl)) ?_
          refine S_go (fun _ _ h => h) ?_
          refine T_seq ?_
          refine T_cond rfl (fun h71 => ?_) (fun h71 => ?_)
          · skip
            obtain ⟨p, rfl⟩ := Option.isSome_iff_exists.1 h71
            have hpm := hs70 p rfl
            refine T_skip_go (fun _ _ h => h) ?_
            refine T_block ?_
            refine T_seq ?_
            refine T_region ?_
            refine S_ 72 rfl rfl rfl _ (y_entry 38 69 rfl rfl rfl rfl) ?_
            refine S_ 73 rfl rfl rfl _ (y_as (v' := str p.k) (by exact rfl) (y_extract rfl rfl rfl)) ?_
            refine S_ 16 rfl rfl rfl _ (y_assign rfl rfl) ?_
            refine S_go (fun _ _ h => h) ?_
            refine T_region ?_
            refine S_ 74 rfl rfl rfl _ (y_move rfl rfl) ?_
            refine S_ 75 rfl rfl rfl _ (y_move rfl rfl) ?_
            refine S_buildSlice 76 76 rfl rfl rfl rfl rfl Tryz.underlying40 inf9 rfl (by decide) (by decide) rfl rfl (by decide) rfl (_) rfl ?_
            intro b76
            obtain ⟨i77, hi77, hz77, hs77, hy77⟩ := info_parts inf9
            refine S_append 77 15 76 rfl rfl rfl rfl rfl rfl rfl rfl Tryz.underlying40 hi77 hz77 hs77 hy77 rfl (by decide) (by decide) rfl ?_ ?_ ((N ++ [p.k]).length) ((N ++ [p.k]).flatMap strE) ?_ ?_ ?_
            · (simp only [maxLen]; omega)
            · omega
            · simp
            · simp [List.flatMap_append]; rfl
            intro A77 c77
            refine S_ 15 rfl rfl rfl _ (y_assign rfl rfl) ?_
            refine S_nil (nextK5 (kf := [(15, 16), (70, 77)]) (kl := [(15, 16), (69, 77)]) ps70 (some p) (N ++ [p.k]) A77 c77 (by repeat (first | exact kf_nil | (apply kf_in; focus rfl) | (apply kf_out; focus rfl))) (by repeat (first | exact kl_nil | exact kl_rest (by assumption) rfl | (apply kl_in; focus rfl) | (apply kl_out; focus rfl))) ?_ ?_ ?_ ?_)
            · have := hpm.length_eq; simp at this; omega
            · have := hpm.length_eq
              simp at this
              obtain ⟨D, d1, d2⟩ := hr1
              exact ⟨⟨D ++ [p], d1.trans (by rw [List.append_assoc]; exact List.Perm.append_left D hpm), by rw [List.map_append, d2]; rfl⟩, by rw [List.length_append, List.length_singleton]; omega⟩
            · exact ⟨rfl, trivial⟩
            · exact ⟨rfl, rfl, trivial⟩
          · skip
            have hq0 : e70 = none := by simpa using h71
            have hr0 := hn70 hq0
            have hDl : ((l.l.filter (inR fr tl)).map SSes.rel).length ≤ 2000 := by
              rw [List.length_map]; omega
            have hNm : ∀ x, x ∈ N ↔ x ∈ (l.l.filter (inR fr tl)).map SSes.rel := fun x => by
              obtain ⟨D, d1, d2⟩ := hr1
              rw [hr0, List.append_nil] at d1
              rw [← hg2.mem x, d2]
              exact ((d1.map Ent.k).mem_iff).symm
            have hDr : ∀ x ∈ (l.l.filter (inR fr tl)).map SSes.rel, relOk x = true := fun x hx => by
              obtain ⟨t, ht1, rfl⟩ := List.mem_map.1 hx
              exact ses_rel (ses_all _ hz t (List.mem_filter.1 ht1).1)
            have hNa : allNo N = 0 := all_good (by omega) (fun x hx => hDr x ((hNm x).1 hx))
            have hDa : allNo ((l.l.filter (inR fr tl)).map SSes.rel) = 0 := all_good (by omega) hDr
            have hsN := names_uniq hNa hDa hNm
            have hsl := srtR_len N
            have hsm := (srtR_good hNa).2
            refine T_exit_go (fun _ _ h => h) ?_
            refine T_seq ?_
            refine T_region ?_
            refine S_remap 38 rfl hes69 ?_
            refine S_ 79 rfl rfl rfl _ (y_move rfl rfl) ?_
            refine S_callOwn 80 80 rfl rfl rfl rfl rfl rfl rfl cf33 (fun A c => .tuple #[.slice A (srtR N).length c, .int .i64 (allNo N)]) 9 1 ((srtR N).length) ((srtR N).flatMap strE) (fun w hM => Sorted_any A15 N.length c15 N w (owned_T (enc := strE) hM rfl (i := 15) rfl) (hP.below hM.below)) ?_
            intro A80 c80
            refine S_ 78 rfl rfl rfl _ (y_move rfl rfl) ?_
            refine S_ 81 rfl rfl rfl _ (y_extract rfl rfl rfl) ?_
            refine S_ 82 rfl rfl rfl _ (y_extract rfl rfl rfl) ?_
            refine S_ 15 rfl rfl rfl _ (y_assign rfl rfl) ?_
            refine S_go (fun _ _ h => h) ?_
            refine T_seq ?_
            refine T_region ?_
            refine S_nilSlice 17 (e := 96) (size := 9) ?_
            refine S_ 17 rfl rfl rfl _ (y_assign rfl rfl) ?_
            refine S_go (fun _ _ h => h) ?_
            refine T_seq ?_
            refine T_seq ?_
            refine T_region ?_
            refine S_ 83 rfl rfl rfl _ (y_move rfl rfl) ?_
            refine S_ 84 rfl rfl rfl _ (y_len_slice rfl rfl Tryz.underlying40) ?_
            refine S_ 85 rfl rfl rfl _ (y_move rfl rfl) ?_
            refine S_go (fun _ _ h => h) ?_
            refine T_block ?_
            refine T_loopK4 (kf := [(17, 17), (19, 19), (85, 98)]) (kl := [(17, 17), (19, 19), (85, 98)]) (fun (j : Nat) (O : List PHea) (A17 : Option Addr) (c17 : Nat) => [(85, true, .int .i64 (j : Int)), (17, true, .slice A17 O.length c17)]) (fun (j : Nat) (O : List PHea) (A17 : Option Addr) (c17 : Nat) => [(17, .own 96 9 (.slice A17 O.length c17) O.length (O.flatMap PHea.enc))]) (fun (j : Nat) (O : List PHea) (A17 : Option Addr) (c17 : Nat) => j ≤ (srtR N).length ∧ O = ((srtR N).take j).map (fun y => heaR y (entOf E y).xs n) ∧ O.length ≤ j) (fun (j : Nat) (O : List PHea) (A17 : Option Addr) (c17 : Nat) => (srtR N).length - j) 0 [] none 0 (by repeat (first | exact kf_nil | (apply kf_in; focus rfl) | (apply kf_out; focus rfl))) (by repeat (first | exact kl_nil | exact kl_rest (by assumption) rfl | (apply kl_in; focus rfl) | (apply kl_out; focus rfl))) ?_ ?_ ?_ ?_
            · exact ⟨by omega, rfl, Nat.le_refl _⟩
            · exact ⟨rfl, rfl, trivial⟩
            · exact ⟨rfl, trivial⟩
            rintro j O A17 c17 ⟨ho1, ho2, ho3⟩
            refine T_seq ?_
            refine T_region ?_
            refine S_ 86 rfl rfl rfl _ (y_bin rfl rfl rfl (fun _ => b_lss)) ?_
            refine S_go (fun _ _ h => h) ?_
            refine T_seq ?_
            refine T_cond rfl (fun h86 => ?_) (fun h86 => ?_)
            · try simp only [decide_eq_true_eq, decide_eq_false_iff_not, Bool.or_eq_true, Bool.or_eq_false_iff, Bool.and_eq_true, Bool.and_eq_false_iff, Bool.not_eq_true', Bool.not_eq_false', Bool.not_eq_true, Bool.not_eq_false, Bool.not_true, Bool.not_false, Int.not_lt, Int.not_le, not_or, not_and, Classical.not_not] at h86
              obtain ⟨y, hn1⟩ : ∃ y, (srtR N)[j]? = some y := ⟨_, List.getElem?_eq_getElem (by omega)⟩
              have hyN : y ∈ (l.l.filter (inR fr tl)).map SSes.rel := (hNm y).1 ((hsm y).1 (List.mem_of_getElem? hn1))
              obtain ⟨hye, hyx, hyp⟩ := hg2.at hyN
              have hyl := ent_len hg2 y
              refine T_skip_go (fun _ _ h => h) ?_
              refine T_seq ?_
              refine T_block ?_
              refine T_seq ?_
              refine T_region ?_
              refine S_ 87 rfl rfl rfl _ (y_indexOwn 80 rfl rfl rfl rfl Tryz.underlying40 sz9 (fun _ => by omega)) ?_
              refine S_ 88 rfl rfl rfl _ (y_loadO1 80 (val := (fun l : List UInt8 => str l)) rfl rfl rfl rfl (fun _ => hn1) Tryz.underlying9 rfl) ?_
              refine S_ 19 rfl rfl rfl _ (y_assign rfl rfl) ?_
              refine S_go (fun _ _ h => h) ?_
              refine T_region ?_
              refine S_ 89 rfl rfl rfl _ (y_move rfl rfl) ?_
              refine S_ 90 rfl rfl rfl _ (y_move rfl rfl) ?_
              refine S_ 91 rfl rfl rfl _ (y_move rfl rfl) ?_
              refine S_ 92 rfl rfl rfl _ (y_move rfl rfl) ?_
              refine S_ 93 rfl rfl rfl _ (y_as (v' := .slice (entOf E y).A (entOf E y).xs.length (entOf E y).c) (by exact mget_ent _ _) (y_lookup 38 (enc := fun l : List UInt8 => str l) rfl rfl rfl rfl Tryz.underlying167 Tryz.underlying9 rfl same_str z85)) ?_
              refine S_ 94 rfl rfl rfl _ (y_move rfl rfl) ?_
              refine S_ 95 rfl rfl rfl _ (y_call rfl rfl rfl cf137 (fun _ w hM => health_any y _ _ _ (entOf E y).xs n w (row_ok (hM.sat 900 _ rfl _ (List.mem_map_of_mem hye)) rfl).t (by omega) (by omega) (by omega))) ?_
              refine S_buildSlice 96 96 rfl rfl rfl rfl rfl Tryz.underlying89 inf96 rfl (by decide) (by decide) rfl rfl (by decide) rfl (_) rfl ?_
              intro b96
              obtain ⟨i97, hi97, hz97, hs97, hy97⟩ := info_parts inf96
              refine S_append 97 17 96 rfl rfl rfl rfl rfl rfl rfl rfl Tryz.underlying89 hi97 hz97 hs97 hy97 rfl (by decide) (by decide) rfl ?_ ?_ ((O ++ [heaR y (entOf E y).xs n]).length) ((O ++ [heaR y (entOf E y).xs n]).flatMap PHea.enc) ?_ ?_ ?_
              · (simp only [maxLen]; omega)
              · omega
              · simp
              · simp [List.flatMap_append]; rfl
              intro A97 c97
              refine S_ 17 rfl rfl rfl _ (y_assign rfl rfl) ?_
              refine S_go (fun _ _ h => h) ?_
              refine T_region ?_
              refine S_ 98 rfl rfl rfl _ (y_bin rfl rfl rfl (fun hg => b_add (by omega))) ?_
              refine S_ 85 rfl rfl rfl _ (y_move rfl rfl) ?_
              refine S_nil (nextK4 (kf := [(17, 17), (19, 19), (85, 98)]) (kl := [(17, 17), (19, 19), (85, 98)]) (j + 1) (O ++ [heaR y (entOf E y).xs n]) A97 c97 (by repeat (first | exact kf_nil | (apply kf_in; focus rfl) | (apply kf_out; focus rfl))) (by repeat (first | exact kl_nil | exact kl_rest (by assumption) rfl | (apply kl_in; focus rfl) | (apply kl_out; focus rfl))) ?_ ?_ ?_ ?_)
              · omega
              · exact ⟨by omega, by rw [List.take_add_one, hn1, List.map_append, ← ho2]; rfl, by rw [List.length_append, List.length_singleton]; omega⟩
              · exact ⟨rfl, rfl, trivial⟩
              · exact ⟨rfl, trivial⟩
            · try simp only [decide_eq_true_eq, decide_eq_false_iff_not, Bool.or_eq_true, Bool.or_eq_false_iff, Bool.and_eq_true, Bool.and_eq_false_iff, Bool.not_eq_true', Bool.not_eq_false', Bool.not_eq_true, Bool.not_eq_false, Bool.not_true, Bool.not_false, Int.not_lt, Int.not_le, not_or, not_and, Classical.not_not] at h86
              refine T_exit_go (fun _ _ h => h) ?_
              refine T_seq ?_
              refine T_region ?_
              refine S_ 99 rfl rfl rfl _ (y_move rfl rfl) ?_
              refine S_ 6 rfl rfl rfl _ (y_assign rfl rfl) ?_
              refine S_ 7 rfl rfl rfl _ (y_assign rfl rfl) ?_
              refine S_go (fun _ _ h => h) ?_
              refine T_ret (fun a w hF hM => hRb a w (post2 rfl rfl rfl (fun w hM => ?_) a w hF hM))
              have hno : heaNo l fr tl = 0 := by rw [heaNo, if_neg (by omega), if_neg (by rw [hz]; simp), if_neg (by omega)]
              have hR : heaO l fr tl = O := by
                rw [heaO, if_pos hno, heaL, picked, ← hsN, ho2, List.take_of_length_le (by omega)]
                refine List.map_congr_left fun y hy => ?_
                rw [(hg2.at ((hNm y).1 ((hsm y).1 hy))).2.1, hg3]
              rw [hR, hno]
              exact ⟨A17, c17, rfl, hM.sat 17 _ rfl, hM.below⟩
end Go.Proofs.YtpmlgnbbkpplhaaGreatDoor
end
