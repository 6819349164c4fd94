/- Part 5, merged by a program. Commits: CheckCommits and the reference's CommitsFault, walked. Conditions: those of each theorem. Lists of releases sorted, made compact, and the best one of them: plain lists. No program in sight. Versions and texts sorted, texts made compact: contracts over rows of ours. Conditions: those of each theorem. Sorted, Latest, After, and the reference's SortedReleases, LatestOf, AfterOf, walked. Conditions: those of each theorem. The best of releases: best, greatest, Latest, After, and the reference's LatestOf, AfterOf, walked. Conditions: those of each theorem. VersionText, and the law ReleaseVersions, walked. Conditions: those of each theorem. LatestOf and AfterOf, and the law ReleaseLists, walked. Conditions: those of each theorem. -/
import Derived.Test.YtpmlgnbbkpplhaaGreatDoorSorta
import Derived.Lib.SlicesCompact
import Derived.Test.YtpmlgnbbkpplhaaGreatDoorSlsf
import Derived.Test.YtpmlgnbbkpplhaaGreatDoorSlst
import Derived.Test.YtpmlgnbbkpplhaaGreatDoorPk4
section
namespace Go.Proofs.YtpmlgnbbkpplhaaGreatDoor
set_option linter.unusedSimpArgs false
set_option linter.unusedVariables false
set_option maxRecDepth 20000
open Go.RowKit Go.Eng
def pthBad (c : UInt8) : Bool := decide ((c.toNat : Int) < 33) || decide ((126 : Int) < (c.toNat : Int))
def pthNo (s : List UInt8) : Int := if s = [] then 1 else if (200 : Int) < s.length then 4 else if s.any pthBad = true then 9 else 0
theorem checkPth_any (s : List UInt8) (hs : s.length ≤ 4611686018427387904) (w : World) :
    Calls Tryz.prog 219 #[str s] w fun e w' => e = .returned (.int .i64 (pthNo s)) ∧ Below w.heap.size w w' := by
  refine enter_args (args := [str s]) (F := _) Tryz.func219 rfl Tryz.ntmps219 rfl rfl ?_
  intro Rb hRb hRn
  refine T_seq ?_
  refine T_region ?_
  refine S_ 2 rfl rfl rfl _ (y_assign rfl rfl) ?_
  refine S_go (fun _ _ h => h) ?_
  refine T_seq ?_
  refine T_block ?_
  refine T_seq ?_
  refine T_region ?_
  refine S_ 5 rfl rfl rfl _ (y_move rfl rfl) ?_
  refine S_ 6 rfl rfl rfl _ (y_bin rfl rfl rfl (fun _ => b_eqls)) ?_
  refine S_ 4 rfl rfl rfl _ (y_assign rfl rfl) ?_
  refine S_go (fun _ _ h => h) ?_
  refine T_cond rfl (fun h4 => ?_) (fun h4 => ?_)
  · try simp only [decide_eq_true_eq, decide_eq_false_iff_not, Bool.or_eq_true, Bool.or_eq_false_iff, Bool.and_eq_true, Bool.and_eq_false_iff, Bool.not_eq_true', Bool.not_eq_false', Bool.not_eq_true, Bool.not_eq_false, Bool.not_true, Bool.not_false, Int.not_lt, Int.not_le, not_or, not_and, Classical.not_not] at h4
    refine T_seq ?_
    refine T_region ?_
    refine S_ 2 rfl rfl rfl _ (y_assign rfl rfl) ?_
    refine S_go (fun _ _ h => h) ?_
    refine T_ret (fun a w hF hM => hRb a w (post1 rfl rfl (fun w hM => ?_) a w hF hM))
    exact ⟨by rw [pthNo, if_pos h4], hM.below⟩
  · try simp only [decide_eq_true_eq, decide_eq_false_iff_not, Bool.or_eq_true, Bool.or_eq_false_iff, Bool.and_eq_true, Bool.and_eq_false_iff, Bool.not_eq_true', Bool.not_eq_false', Bool.not_eq_true, Bool.not_eq_false, Bool.not_true, Bool.not_false, Int.not_lt, Int.not_le, not_or, not_and, Classical.not_not] at h4
    refine T_seq ?_
    refine T_region ?_
    refine S_ 8 rfl rfl rfl _ (y_move rfl rfl) ?_
    refine S_ 9 rfl rfl rfl _ (y_len_str rfl rfl Tryz.underlying9) ?_
    refine S_ 10 rfl rfl rfl _ (y_bin rfl rfl rfl (fun _ => b_gtr)) ?_
    refine S_ 7 rfl rfl rfl _ (y_assign rfl rfl) ?_
    refine S_go (fun _ _ h => h) ?_
    refine T_cond rfl (fun h7 => ?_) (fun h7 => ?_)
    · try simp only [decide_eq_true_eq, decide_eq_false_iff_not, Bool.or_eq_true, Bool.or_eq_false_iff, Bool.and_eq_true, Bool.and_eq_false_iff, Bool.not_eq_true', Bool.not_eq_false', Bool.not_eq_true, Bool.not_eq_false, Bool.not_true, Bool.not_false, Int.not_lt, Int.not_le, not_or, not_and, Classical.not_not] at h7
      refine T_seq ?_
      refine T_region ?_
      refine S_ 2 rfl rfl rfl _ (y_assign rfl rfl) ?_
      refine S_go (fun _ _ h => h) ?_
      refine T_ret (fun a w hF hM => hRb a w (post1 rfl rfl (fun w hM => ?_) a w hF hM))
      exact ⟨by rw [pthNo, if_neg h4, if_pos (by omega)], hM.below⟩
    · try simp only [decide_eq_true_eq, decide_eq_false_iff_not, Bool.or_eq_true, Bool.or_eq_false_iff, Bool.and_eq_true, Bool.and_eq_false_iff, Bool.not_eq_true', Bool.not_eq_false', Bool.not_eq_true, Bool.not_eq_false, Bool.not_true, Bool.not_false, Int.not_lt, Int.not_le, not_or, not_and, Classical.not_not] at h7
      refine T_skip_go (fun _ _ h => h) ?_
      refine T_seq ?_
      refine T_seq ?_
      refine T_region ?_
      refine S_ 11 rfl rfl rfl _ (y_move rfl rfl) ?_
      refine S_ 12 rfl rfl rfl _ (y_len_str rfl rfl Tryz.underlying9) ?_
      refine S_ 13 rfl rfl rfl _ (y_move rfl rfl) ?_
      refine S_go (fun _ _ h => h) ?_
      refine T_block ?_
      refine T_loopK1 (kf := [(2, 3), (13, 26)]) (kl := [(2, 3), (13, 26)]) (fun (i : Nat) => [(13, true, .int .i64 (i : Int))]) (fun (i : Nat) => []) (fun (i : Nat) => i ≤ s.length ∧ s.any pthBad = (s.drop i).any pthBad) (fun (i : Nat) => s.length - i) 0 (by repeat (first | exact kf_nil | (apply kf_in; focus rfl) | (apply kf_out; focus rfl))) (by repeat (first | exact kl_nil | exact kl_rest (by assumption) rfl | (apply kl_in; focus rfl) | (apply kl_out; focus rfl))) ?_ ?_ ?_ ?_
      · exact ⟨by omega, rfl⟩
      · exact ⟨rfl, trivial⟩
      · exact trivial
      rintro i ⟨hp1, hp2⟩
      refine T_seq ?_
      refine T_region ?_
      refine S_ 14 rfl rfl rfl _ (y_bin rfl rfl rfl (fun _ => b_lss)) ?_
      refine S_go (fun _ _ h => h) ?_
      refine T_seq ?_
      refine T_cond rfl (fun h14 => ?_) (fun h14 => ?_)
      · try simp only [decide_eq_true_eq, decide_eq_false_iff_not, Bool.or_eq_true, Bool.or_eq_false_iff, Bool.and_eq_true, Bool.and_eq_false_iff, Bool.not_eq_true', Bool.not_eq_false', Bool.not_eq_true, Bool.not_eq_false, Bool.not_true, Bool.not_false, Int.not_lt, Int.not_le, not_or, not_and, Classical.not_not] at h14
        refine T_skip_go (fun _ _ h => h) ?_
        refine T_seq ?_
        refine T_block ?_
        refine T_seq ?_
        refine T_region ?_
        refine S_ 15 rfl rfl rfl _ (y_move rfl rfl) ?_
        refine S_ 3 rfl rfl rfl _ (y_assign rfl rfl) ?_
        refine S_go (fun _ _ h => h) ?_
        refine T_seq ?_
        refine T_region ?_
        refine S_ 16 rfl rfl rfl _ (y_move rfl rfl) ?_
        refine S_ 17 rfl rfl rfl _ (y_move rfl rfl) ?_
        refine S_ 18 rfl rfl rfl _ (y_index_str rfl rfl rfl Tryz.underlying9 (fun _ => by omega)) ?_
        refine S_ 19 rfl rfl rfl _ (y_bin rfl rfl rfl (fun _ => b_lss)) ?_
        refine S_ 20 rfl rfl rfl _ (y_move rfl rfl) ?_
        refine Sg_ 21 rfl rfl rfl rfl rfl rfl _ (y_move rfl rfl) ?_
        refine Sg_ 22 rfl rfl rfl rfl rfl rfl _ (y_move rfl rfl) ?_
        refine Sg_ 23 rfl rfl rfl rfl rfl rfl _ (y_index_str rfl rfl rfl Tryz.underlying9 (fun hg => by simp only [Bool.true_and, Bool.and_eq_true, beq_iff_eq, decide_eq_true_eq, decide_eq_false_iff_not, Int.not_lt, Int.not_le] at hg; omega)) ?_
        refine Sg_ 24 rfl rfl rfl rfl rfl rfl _ (y_bin rfl rfl rfl (fun _ => b_gtr)) ?_
        refine S_ 25 rfl rfl rfl _ (y_as (v' := .bool (pthBad (s.getD i 0))) (by exact rfl) (y_or rfl rfl rfl)) ?_
        refine S_go (fun _ _ h => h) ?_
        refine T_cond rfl (fun h25 => ?_) (fun h25 => ?_)
        · skip
          refine T_seq ?_
          refine T_region ?_
          refine S_ 2 rfl rfl rfl _ (y_assign rfl rfl) ?_
          refine S_go (fun _ _ h => h) ?_
          refine T_ret (fun a w hF hM => hRb a w (post1 rfl rfl (fun w hM => ?_) a w hF hM))
          exact ⟨by rw [pthNo, if_neg h4, if_neg (by omega), if_pos (by rw [hp2, drop_str (by omega), any_t h25])], hM.below⟩
        · skip
          refine T_skip_go (fun _ _ h => h) ?_
          refine T_region ?_
          refine S_ 26 rfl rfl rfl _ (y_bin rfl rfl rfl (fun hg => b_add (by omega))) ?_
          refine S_ 13 rfl rfl rfl _ (y_move rfl rfl) ?_
          refine S_nil (nextK1 (kf := [(2, 3), (13, 26)]) (kl := [(2, 3), (13, 26)]) (i + 1) (by repeat (first | exact kf_nil | (apply kf_in; focus rfl) | (apply kf_out; focus rfl))) (by repeat (first | exact kl_nil | exact kl_rest (by assumption) rfl | (apply kl_in; focus rfl) | (apply kl_out; focus rfl))) ?_ ?_ ?_ ?_)
          · omega
          · exact ⟨by omega, by rw [hp2, drop_str (by omega), any_f h25]⟩
          · exact ⟨rfl, trivial⟩
          · exact trivial
      · try simp only [decide_eq_true_eq, decide_eq_false_iff_not, Bool.or_eq_true, Bool.or_eq_false_iff, Bool.and_eq_true, Bool.and_eq_false_iff, Bool.not_eq_true', Bool.not_eq_false', Bool.not_eq_true, Bool.not_eq_false, Bool.not_true, Bool.not_false, Int.not_lt, Int.not_le, not_or, not_and, Classical.not_not] at h14
        refine T_exit_go (fun _ _ h => h) ?_
        refine T_seq ?_
        refine T_region ?_
        refine S_ 2 rfl rfl rfl _ (y_assign rfl rfl) ?_
        refine S_go (fun _ _ h => h) ?_
        refine T_ret (fun a w hF hM => hRb a w (post1 rfl rfl (fun w hM => ?_) a w hF hM))
        exact ⟨by rw [pthNo, if_neg h4, if_neg (by omega), if_neg (by rw [hp2, List.drop_eq_nil_of_le (by omega)]; simp)], hM.below⟩
theorem pthFault_any (s : List UInt8) (hs : s.length ≤ 4611686018427387904) (w : World) :
    Calls Tryz.prog 130 #[str s] w fun e w' => e = .returned (.int .i64 (pthNo s)) ∧ Below w.heap.size w w' := by
  refine enter_args (args := [str s]) (F := _) Tryz.func130 rfl Tryz.ntmps130 rfl rfl ?_
  intro Rb hRb hRn
  refine T_seq ?_
  refine T_region ?_
  refine S_ 2 rfl rfl rfl _ (y_assign rfl rfl) ?_
  refine S_go (fun _ _ h => h) ?_
  refine T_seq ?_
  refine T_seq ?_
  refine T_region ?_
  refine S_ 4 rfl rfl rfl _ (y_move rfl rfl) ?_
  refine S_ 5 rfl rfl rfl _ (y_bin rfl rfl rfl (fun _ => b_eqls)) ?_
  refine S_go (fun _ _ h => h) ?_
  refine T_cond rfl (fun h5 => ?_) (fun h5 => ?_)
  · try simp only [decide_eq_true_eq, decide_eq_false_iff_not, Bool.or_eq_true, Bool.or_eq_false_iff, Bool.and_eq_true, Bool.and_eq_false_iff, Bool.not_eq_true', Bool.not_eq_false', Bool.not_eq_true, Bool.not_eq_false, Bool.not_true, Bool.not_false, Int.not_lt, Int.not_le, not_or, not_and, Classical.not_not] at h5
    refine T_seq ?_
    refine T_region ?_
    refine S_ 2 rfl rfl rfl _ (y_assign rfl rfl) ?_
    refine S_go (fun _ _ h => h) ?_
    refine T_ret (fun a w hF hM => hRb a w (post1 rfl rfl (fun w hM => ?_) a w hF hM))
    exact ⟨by rw [pthNo, if_pos h5], hM.below⟩
  · try simp only [decide_eq_true_eq, decide_eq_false_iff_not, Bool.or_eq_true, Bool.or_eq_false_iff, Bool.and_eq_true, Bool.and_eq_false_iff, Bool.not_eq_true', Bool.not_eq_false', Bool.not_eq_true, Bool.not_eq_false, Bool.not_true, Bool.not_false, Int.not_lt, Int.not_le, not_or, not_and, Classical.not_not] at h5
    refine T_skip_go (fun _ _ h => h) ?_
    refine T_seq ?_
    refine T_seq ?_
    refine T_region ?_
    refine S_ 6 rfl rfl rfl _ (y_move rfl rfl) ?_
    refine S_ 7 rfl rfl rfl _ (y_len_str rfl rfl Tryz.underlying9) ?_
    refine S_ 8 rfl rfl rfl _ (y_bin rfl rfl rfl (fun _ => b_gtr)) ?_
    refine S_go (fun _ _ h => h) ?_
    refine T_cond rfl (fun h8 => ?_) (fun h8 => ?_)
    · try simp only [decide_eq_true_eq, decide_eq_false_iff_not, Bool.or_eq_true, Bool.or_eq_false_iff, Bool.and_eq_true, Bool.and_eq_false_iff, Bool.not_eq_true', Bool.not_eq_false', Bool.not_eq_true, Bool.not_eq_false, Bool.not_true, Bool.not_false, Int.not_lt, Int.not_le, not_or, not_and, Classical.not_not] at h8
      refine T_seq ?_
      refine T_region ?_
      refine S_ 2 rfl rfl rfl _ (y_assign rfl rfl) ?_
      refine S_go (fun _ _ h => h) ?_
      refine T_ret (fun a w hF hM => hRb a w (post1 rfl rfl (fun w hM => ?_) a w hF hM))
      exact ⟨by rw [pthNo, if_neg h5, if_pos (by omega)], hM.below⟩
    · try simp only [decide_eq_true_eq, decide_eq_false_iff_not, Bool.or_eq_true, Bool.or_eq_false_iff, Bool.and_eq_true, Bool.and_eq_false_iff, Bool.not_eq_true', Bool.not_eq_false', Bool.not_eq_true, Bool.not_eq_false, Bool.not_true, Bool.not_false, Int.not_lt, Int.not_le, not_or, not_and, Classical.not_not] at h8
      refine T_skip_go (fun _ _ h => h) ?_
      refine T_seq ?_
      refine T_seq ?_
      refine T_region ?_
      refine S_ 9 rfl rfl rfl _ (y_move rfl rfl) ?_
      refine S_ 10 rfl rfl rfl _ (y_len_str rfl rfl Tryz.underlying9) ?_
      refine S_ 11 rfl rfl rfl _ (y_move rfl rfl) ?_
      refine S_go (fun _ _ h => h) ?_
      refine T_block ?_
      refine T_loopK1 (kf := [(2, 3), (11, 24)]) (kl := [(2, 3), (11, 24)]) (fun (i : Nat) => [(11, true, .int .i64 (i : Int))]) (fun (i : Nat) => []) (fun (i : Nat) => i ≤ s.length ∧ s.any pthBad = (s.drop i).any pthBad) (fun (i : Nat) => s.length - i) 0 (by repeat (first | exact kf_nil | (apply kf_in; focus rfl) | (apply kf_out; focus rfl))) (by repeat (first | exact kl_nil | exact kl_rest (by assumption) rfl | (apply kl_in; focus rfl) | (apply kl_out; focus rfl))) ?_ ?_ ?_ ?_
      · exact ⟨by omega, rfl⟩
      · exact ⟨rfl, trivial⟩
      · exact trivial
      rintro i ⟨hp1, hp2⟩
      refine T_seq ?_
      refine T_region ?_
      refine S_ 12 rfl rfl rfl _ (y_bin rfl rfl rfl (fun _ => b_lss)) ?_
      refine S_go (fun _ _ h => h) ?_
      refine T_seq ?_
      refine T_cond rfl (fun h12 => ?_) (fun h12 => ?_)
      · try simp only [decide_eq_true_eq, decide_eq_false_iff_not, Bool.or_eq_true, Bool.or_eq_false_iff, Bool.and_eq_true, Bool.and_eq_false_iff, Bool.not_eq_true', Bool.not_eq_false', Bool.not_eq_true, Bool.not_eq_false, Bool.not_true, Bool.not_false, Int.not_lt, Int.not_le, not_or, not_and, Classical.not_not] at h12
        refine T_skip_go (fun _ _ h => h) ?_
        refine T_seq ?_
        refine T_block ?_
        refine T_seq ?_
        refine T_region ?_
        refine S_ 13 rfl rfl rfl _ (y_move rfl rfl) ?_
        refine S_ 3 rfl rfl rfl _ (y_assign rfl rfl) ?_
        refine S_go (fun _ _ h => h) ?_
        refine T_seq ?_
        refine T_region ?_
        refine S_ 14 rfl rfl rfl _ (y_move rfl rfl) ?_
        refine S_ 15 rfl rfl rfl _ (y_move rfl rfl) ?_
        refine S_ 16 rfl rfl rfl _ (y_index_str rfl rfl rfl Tryz.underlying9 (fun _ => by omega)) ?_
        refine S_ 17 rfl rfl rfl _ (y_bin rfl rfl rfl (fun _ => b_lss)) ?_
        refine S_ 18 rfl rfl rfl _ (y_move rfl rfl) ?_
        refine Sg_ 19 rfl rfl rfl rfl rfl rfl _ (y_move rfl rfl) ?_
        refine Sg_ 20 rfl rfl rfl rfl rfl rfl _ (y_move rfl rfl) ?_
        refine Sg_ 21 rfl rfl rfl rfl rfl rfl _ (y_index_str rfl rfl rfl Tryz.underlying9 (fun hg => by simp only [Bool.true_and, Bool.and_eq_true, beq_iff_eq, decide_eq_true_eq, decide_eq_false_iff_not, Int.not_lt, Int.not_le] at hg; omega)) ?_
        refine Sg_ 22 rfl rfl rfl rfl rfl rfl _ (y_bin rfl rfl rfl (fun _ => b_gtr)) ?_
        refine S_ 23 rfl rfl rfl _ (y_as (v' := .bool (pthBad (s.getD i 0))) (by exact rfl) (y_or rfl rfl rfl)) ?_
        refine S_go (fun _ _ h => h) ?_
        refine T_cond rfl (fun h23 => ?_) (fun h23 => ?_)
        · skip
          refine T_seq ?_
          refine T_region ?_
          refine S_ 2 rfl rfl rfl _ (y_assign rfl rfl) ?_
          refine S_go (fun _ _ h => h) ?_
          refine T_ret (fun a w hF hM => hRb a w (post1 rfl rfl (fun w hM => ?_) a w hF hM))
          exact ⟨by rw [pthNo, if_neg h5, if_neg (by omega), if_pos (by rw [hp2, drop_str (by omega), any_t h23])], hM.below⟩
        · skip
          refine T_skip_go (fun _ _ h => h) ?_
          refine T_region ?_
          refine S_ 24 rfl rfl rfl _ (y_bin rfl rfl rfl (fun hg => b_add (by omega))) ?_
          refine S_ 11 rfl rfl rfl _ (y_move rfl rfl) ?_
          refine S_nil (nextK1 (kf := [(2, 3), (11, 24)]) (kl := [(2, 3), (11, 24)]) (i + 1) (by repeat (first | exact kf_nil | (apply kf_in; focus rfl) | (apply kf_out; focus rfl))) (by repeat (first | exact kl_nil | exact kl_rest (by assumption) rfl | (apply kl_in; focus rfl) | (apply kl_out; focus rfl))) ?_ ?_ ?_ ?_)
          · omega
          · exact ⟨by omega, by rw [hp2, drop_str (by omega), any_f h23]⟩
          · exact ⟨rfl, trivial⟩
          · exact trivial
      · try simp only [decide_eq_true_eq, decide_eq_false_iff_not, Bool.or_eq_true, Bool.or_eq_false_iff, Bool.and_eq_true, Bool.and_eq_false_iff, Bool.not_eq_true', Bool.not_eq_false', Bool.not_eq_true, Bool.not_eq_false, Bool.not_true, Bool.not_false, Int.not_lt, Int.not_le, not_or, not_and, Classical.not_not] at h12
        refine T_exit_go (fun _ _ h => h) ?_
        refine T_seq ?_
        refine T_region ?_
        refine S_ 2 rfl rfl rfl _ (y_assign rfl rfl) ?_
        refine S_go (fun _ _ h => h) ?_
        refine T_ret (fun a w hF hM => hRb a w (post1 rfl rfl (fun w hM => ?_) a w hF hM))
        exact ⟨by rw [pthNo, if_neg h5, if_neg (by omega), if_neg (by rw [hp2, List.drop_eq_nil_of_le (by omega)]; simp)], hM.below⟩
structure SCom where
  id : List UInt8
  au : List UInt8
  rel : List UInt8
  fi : Sl (List UInt8)
def SCom.enc (c : SCom) : List Value := [str c.id, str c.au, str c.rel, .slice c.fi.A c.fi.q c.fi.c]
def SCom.val (c : SCom) : Value := .agg c.enc.toArray
structure ComOk (w : World) (c : SCom) : Prop where
  ok : c.fi.Ok strE 1 w
  q : c.fi.q ≤ 4611686018427387904
  n : ∀ s ∈ c.fi.l, s.length ≤ 4611686018427387904
theorem ComOk.below {w w' : World} {c : SCom} (h : ComOk w c) (hb : Below w.heap.size w w') : ComOk w' c := ⟨h.ok.below hb, h.q, h.n⟩
structure ComsOk (w : World) (l : Sl SCom) : Prop where
  ok : l.Ok SCom.enc 4 w
  q : l.q ≤ 4611686018427387904
  n : ∀ c ∈ l.l, ComOk w c
theorem ComsOk.below {w w' : World} {l : Sl SCom} (h : ComsOk w l) (hb : Below w.heap.size w w') : ComsOk w' l := ⟨h.ok.below hb, h.q, fun c hc => (h.n c hc).below hb⟩
def fisNo : Option (List UInt8) → List (List UInt8) → Int
  | _, [] => 0
  | p, f :: r => if pthNo f ≠ 0 then pthNo f else if (p.any fun s => Op.bytesLess f s || decide (f = s)) = true then 5 else fisNo (some f) r
def comNo (c : SCom) : Int := if relOk c.rel = false then 8 else if (100 : Int) < c.fi.q then 4 else fisNo none c.fi.l
def comsNo : List (List UInt8) → List SCom → Int
  | _, [] => 0
  | seen, c :: r => if (!nameOk c.id || !nameOk c.au) = true then 3 else if c.id ∈ seen then 6 else if comNo c ≠ 0 then comNo c else comsNo (seen ++ [c.id]) r
def commitsNo (l : Sl SCom) : Int := if (500 : Int) < l.q then 4 else comsNo [] l.l
def prv (l : List (List UInt8)) (i : Nat) : Option (List UInt8) := if i = 0 then none else l[i - 1]?
theorem prv_any {l : List (List UInt8)} {i : Nat} {f : List UInt8} (hi : i ≤ l.length) : ((prv l i).any fun s => Op.bytesLess f s || decide (f = s)) = (decide ((0 : Int) < (i : Int)) && (Op.bytesLess f (l.getD (i - 1) []) || decide (f = l.getD (i - 1) []))) := by
  unfold prv
  by_cases h : i = 0
  · subst h; rfl
  · rw [if_neg h, decide_eq_true (show (0 : Int) < (i : Int) by omega), Bool.true_and, List.getElem?_eq_getElem (show i - 1 < l.length by omega)]
    rw [List.getD_eq_getElem?_getD, List.getElem?_eq_getElem (show i - 1 < l.length by omega)]
    rfl
theorem prv_succ {l : List (List UInt8)} {i : Nat} {x : List UInt8} (h : l[i]? = some x) : prv l (i + 1) = some x := by rw [prv, if_neg (by omega), Nat.add_sub_cancel, h]
theorem prv_at {l : List (List UInt8)} {i : Nat} (h : i - 1 < l.length) : l[i - 1]? = some (l.getD (i - 1) []) := by
  rw [List.getD_eq_getElem?_getD, List.getElem?_eq_getElem h]; rfl
theorem checkCommit_any (x0 : SCom) (w : World) (hc : ComOk w x0) :
    Calls Tryz.prog 135 #[x0.val] w fun e w' => e = .returned (.int .i64 (comNo x0)) ∧ Below w.heap.size w w' := by
  have ht := hc.ok.t
  have hlen := ht.len
  refine enter_args (args := [.agg #[str x0.id, str x0.au, str x0.rel, .slice x0.fi.A x0.fi.q x0.fi.c]]) (F := _) Tryz.func135 rfl Tryz.ntmps135 rfl rfl ?_
  intro Rb hRb hRn
  refine T_seq ?_
  refine T_region ?_
  refine S_box 1 1 rfl rfl rfl rfl rfl ?_
  intro b1
  refine S_ 2 rfl rfl rfl _ (y_assign rfl rfl) ?_
  refine S_go (fun _ _ h => h) ?_
  refine T_seq ?_
  refine T_seq ?_
  refine T_region ?_
  refine S_ 9 rfl rfl rfl _ (y_fieldAddr rfl rfl fa157_2) ?_
  refine S_ 10 rfl rfl rfl _ (y_load 1 rfl rfl rfl rfl Tryz.underlying9 rfl) ?_
  refine S_callOwn 11 11 rfl rfl rfl rfl rfl rfl rfl cf101 (fun A c => .tuple #[pvV (parseR x0.rel).1 A c, .bool (parseR x0.rel).2]) 9 1 ((parseR x0.rel).1.pre.length) ((parseR x0.rel).1.pre.flatMap strE) (fun w hM => parse_any x0.rel w) ?_
  intro A11 c11
  refine S_ 8 rfl rfl rfl _ (y_move rfl rfl) ?_
  refine S_ 12 rfl rfl rfl _ (y_extract rfl rfl rfl) ?_
  refine S_ 13 rfl rfl rfl _ (y_extract rfl rfl rfl) ?_
  refine S_alloc 3 3 rfl rfl rfl rfl z42 ?_
  intro b3
  refine S_store 3 rfl rfl rfl rfl rfl rfl sz42 rfl rfl ?_
  refine S_ 4 rfl rfl rfl _ (y_assign rfl rfl) ?_
  refine S_go (fun _ _ h => h) ?_
  refine T_seq ?_
  refine T_region ?_
  refine S_ 14 rfl rfl rfl _ (y_move rfl rfl) ?_
  refine S_ 15 rfl rfl rfl _ (y_not rfl rfl) ?_
  refine S_go (fun _ _ h => h) ?_
  refine T_cond rfl (fun h15 => ?_) (fun h15 => ?_)
  · skip
    have hr : relOk x0.rel = false := by simpa using h15
    refine T_seq ?_
    refine T_region ?_
    refine S_ 2 rfl rfl rfl _ (y_assign rfl rfl) ?_
    refine S_go (fun _ _ h => h) ?_
    refine T_ret (fun a w hF hM => hRb a w (post1 rfl rfl (fun w hM => ?_) a w hF hM))
    exact ⟨by rw [comNo, if_pos hr], hM.below⟩
  · skip
    have hr : relOk x0.rel = true := by simpa using h15
    refine T_skip_go (fun _ _ h => h) ?_
    refine T_seq ?_
    refine T_seq ?_
    refine T_region ?_
    refine S_ 16 rfl rfl rfl _ (y_fieldAddr rfl rfl fa157_3) ?_
    refine S_ 17 rfl rfl rfl _ (y_load 1 rfl rfl rfl rfl Tryz.underlying40 rfl) ?_
    refine S_ 18 rfl rfl rfl _ (y_len_slice rfl rfl Tryz.underlying40) ?_
    refine S_ 19 rfl rfl rfl _ (y_bin rfl rfl rfl (fun _ => b_gtr)) ?_
    refine S_go (fun _ _ h => h) ?_
    refine T_cond rfl (fun h19 => ?_) (fun h19 => ?_)
    · try simp only [decide_eq_true_eq, decide_eq_false_iff_not, Bool.or_eq_true, Bool.or_eq_false_iff, Bool.and_eq_true, Bool.and_eq_false_iff, Bool.not_eq_true', Bool.not_eq_false', Bool.not_eq_true, Bool.not_eq_false, Bool.not_true, Bool.not_false, Int.not_lt, Int.not_le, not_or, not_and, Classical.not_not] at h19
      refine T_seq ?_
      refine T_region ?_
      refine S_ 2 rfl rfl rfl _ (y_assign rfl rfl) ?_
      refine S_go (fun _ _ h => h) ?_
      refine T_ret (fun a w hF hM => hRb a w (post1 rfl rfl (fun w hM => ?_) a w hF hM))
      exact ⟨by rw [comNo, if_neg (by rw [hr]; simp), if_pos (by omega)], hM.below⟩
    · try simp only [decide_eq_true_eq, decide_eq_false_iff_not, Bool.or_eq_true, Bool.or_eq_false_iff, Bool.and_eq_true, Bool.and_eq_false_iff, Bool.not_eq_true', Bool.not_eq_false', Bool.not_eq_true, Bool.not_eq_false, Bool.not_true, Bool.not_false, Int.not_lt, Int.not_le, not_or, not_and, Classical.not_not] at h19
      refine T_skip_go (fun _ _ h => h) ?_
      refine T_seq ?_
      refine T_seq ?_
      refine T_region ?_
      refine S_ 20 rfl rfl rfl _ (y_fieldAddr rfl rfl fa157_3) ?_
      refine S_ 21 rfl rfl rfl _ (y_load 1 rfl rfl rfl rfl Tryz.underlying40 rfl) ?_
      refine S_ 22 rfl rfl rfl _ (y_len_slice rfl rfl Tryz.underlying40) ?_
      refine S_ 23 rfl rfl rfl _ (y_move rfl rfl) ?_
      refine S_go (fun _ _ h => h) ?_
      refine T_block ?_
      refine T_loopK1 (kf := [(2, 2), (5, 7), (23, 45)]) (kl := [(2, 2), (5, 7), (23, 45)]) (fun (i : Nat) => [(23, true, .int .i64 (i : Int))]) (fun (i : Nat) => []) (fun (i : Nat) => i ≤ x0.fi.q ∧ fisNo none x0.fi.l = fisNo (prv x0.fi.l i) (x0.fi.l.drop i)) (fun (i : Nat) => x0.fi.q - i) 0 (by repeat (first | exact kf_nil | (apply kf_in; focus rfl) | (apply kf_out; focus rfl))) (by repeat (first | exact kl_nil | exact kl_rest (by assumption) rfl | (apply kl_in; focus rfl) | (apply kl_out; focus rfl))) ?_ ?_ ?_ ?_
      · exact ⟨by omega, rfl⟩
      · exact ⟨rfl, trivial⟩
      · exact trivial
      rintro i ⟨hp1, hp2⟩
      refine T_seq ?_
      refine T_region ?_
      refine S_ 24 rfl rfl rfl _ (y_bin rfl rfl rfl (fun _ => b_lss)) ?_
      refine S_go (fun _ _ h => h) ?_
      refine T_seq ?_
      refine T_cond rfl (fun h24 => ?_) (fun h24 => ?_)
      · try simp only [decide_eq_true_eq, decide_eq_false_iff_not, Bool.or_eq_true, Bool.or_eq_false_iff, Bool.and_eq_true, Bool.and_eq_false_iff, Bool.not_eq_true', Bool.not_eq_false', Bool.not_eq_true, Bool.not_eq_false, Bool.not_true, Bool.not_false, Int.not_lt, Int.not_le, not_or, not_and, Classical.not_not] at h24
        obtain ⟨x, hx1, hx2⟩ := ht.at (i := i) (by omega)
        refine T_skip_go (fun _ _ h => h) ?_
        refine T_seq ?_
        refine T_block ?_
        refine T_seq ?_
        refine T_region ?_
        refine S_ 25 rfl rfl rfl _ (y_move rfl rfl) ?_
        refine S_ 26 rfl rfl rfl _ (y_indexAddr rfl rfl rfl Tryz.underlying40 sz9 (fun hg => ht.isSome (by omega)) (fun _ => by omega)) ?_
        refine S_ 27 rfl rfl rfl _ (y_loadT1 (val := (fun l : List UInt8 => str l)) rfl rfl ht (fun _ => hx1) Tryz.underlying9 rfl) ?_
        refine S_ 5 rfl rfl rfl _ (y_assign rfl rfl) ?_
        refine S_ 6 rfl rfl rfl _ (y_assign rfl rfl) ?_
        refine S_go (fun _ _ h => h) ?_
        refine T_seq ?_
        refine T_seq ?_
        refine T_region ?_
        refine S_ 28 rfl rfl rfl _ (y_move rfl rfl) ?_
        refine S_ 29 rfl rfl rfl _ (y_call rfl rfl rfl cf219 (fun _ w _ => checkPth_any x (hc.n x (mem_at hx1)) w)) ?_
        refine S_ 7 rfl rfl rfl _ (y_assign rfl rfl) ?_
        refine S_go (fun _ _ h => h) ?_
        refine T_seq ?_
        refine T_region ?_
        refine S_ 30 rfl rfl rfl _ (y_move rfl rfl) ?_
        refine S_ 31 rfl rfl rfl _ (y_bin rfl rfl rfl (fun _ => b_neq)) ?_
        refine S_go (fun _ _ h => h) ?_
        refine T_cond rfl (fun h31 => ?_) (fun h31 => ?_)
        · try simp only [decide_eq_true_eq, decide_eq_false_iff_not, Bool.or_eq_true, Bool.or_eq_false_iff, Bool.and_eq_true, Bool.and_eq_false_iff, Bool.not_eq_true', Bool.not_eq_false', Bool.not_eq_true, Bool.not_eq_false, Bool.not_true, Bool.not_false, Int.not_lt, Int.not_le, not_or, not_and, Classical.not_not] at h31
          refine T_seq ?_
          refine T_region ?_
          refine S_ 32 rfl rfl rfl _ (y_move rfl rfl) ?_
          refine S_ 2 rfl rfl rfl _ (y_assign rfl rfl) ?_
          refine S_go (fun _ _ h => h) ?_
          refine T_ret (fun a w hF hM => hRb a w (post1 rfl rfl (fun w hM => ?_) a w hF hM))
          exact ⟨by rw [comNo, if_neg (by rw [hr]; simp), if_neg (by omega), hp2, hx2, fisNo, if_pos h31], hM.below⟩
        · try simp only [decide_eq_true_eq, decide_eq_false_iff_not, Bool.or_eq_true, Bool.or_eq_false_iff, Bool.and_eq_true, Bool.and_eq_false_iff, Bool.not_eq_true', Bool.not_eq_false', Bool.not_eq_true, Bool.not_eq_false, Bool.not_true, Bool.not_false, Int.not_lt, Int.not_le, not_or, not_and, Classical.not_not] at h31
          refine T_skip_go (fun _ _ h => h) ?_
          refine T_seq ?_
          refine T_region ?_
          refine S_ 33 rfl rfl rfl _ (y_move rfl rfl) ?_
          refine S_ 34 rfl rfl rfl _ (y_bin rfl rfl rfl (fun _ => b_gtr)) ?_
          refine S_ 35 rfl rfl rfl _ (y_move rfl rfl) ?_
          refine Sg_ 36 rfl rfl rfl rfl rfl rfl _ (y_move rfl rfl) ?_
          refine Sg_ 37 rfl rfl rfl rfl rfl rfl _ (y_fieldAddr rfl rfl fa157_3) ?_
          refine Sg_ 38 rfl rfl rfl rfl rfl rfl _ (y_load 1 rfl rfl rfl rfl Tryz.underlying40 rfl) ?_
          refine Sg_ 39 rfl rfl rfl rfl rfl rfl _ (y_move rfl rfl) ?_
          refine Sg_ 40 rfl rfl rfl rfl rfl rfl _ (y_bin rfl rfl rfl (fun hg => b_subv (((i - 1 : Nat) : Int)) (by simp only [Bool.true_and, Bool.and_eq_true, beq_iff_eq, decide_eq_true_eq, decide_eq_false_iff_not, Int.not_lt, Int.not_le] at hg; omega) (by simp only [Bool.true_and, Bool.and_eq_true, beq_iff_eq, decide_eq_true_eq, decide_eq_false_iff_not, Int.not_lt, Int.not_le] at hg; omega))) ?_
          refine Sg_ 41 rfl rfl rfl rfl rfl rfl _ (y_indexAddr rfl rfl rfl Tryz.underlying40 sz9 (fun hg => ht.isSome (by simp only [Bool.true_and, Bool.and_eq_true, beq_iff_eq, decide_eq_true_eq, decide_eq_false_iff_not, Int.not_lt, Int.not_le] at hg; omega)) (fun hg => by simp only [Bool.true_and, Bool.and_eq_true, beq_iff_eq, decide_eq_true_eq, decide_eq_false_iff_not, Int.not_lt, Int.not_le] at hg; omega)) ?_
          refine Sg_ 42 rfl rfl rfl rfl rfl rfl _ (y_loadT1 (val := (fun l : List UInt8 => str l)) rfl rfl ht (fun hg => prv_at (by simp only [Bool.true_and, Bool.and_eq_true, beq_iff_eq, decide_eq_true_eq, decide_eq_false_iff_not, Int.not_lt, Int.not_le] at hg; omega)) Tryz.underlying9 rfl) ?_
          refine Sg_ 43 rfl rfl rfl rfl rfl rfl _ (y_bin rfl rfl rfl (fun _ => b_leqs)) ?_
          refine S_ 44 rfl rfl rfl _ (y_and rfl rfl rfl) ?_
          refine S_go (fun _ _ h => h) ?_
          refine T_cond rfl (fun h44 => ?_) (fun h44 => ?_)
          · skip
            refine T_seq ?_
            refine T_region ?_
            refine S_ 2 rfl rfl rfl _ (y_assign rfl rfl) ?_
            refine S_go (fun _ _ h => h) ?_
            refine T_ret (fun a w hF hM => hRb a w (post1 rfl rfl (fun w hM => ?_) a w hF hM))
            exact ⟨by rw [comNo, if_neg (by rw [hr]; simp), if_neg (by omega), hp2, hx2, fisNo, if_neg (by omega), if_pos (by rw [prv_any (by omega)]; exact h44)], hM.below⟩
          · skip
            refine T_skip_go (fun _ _ h => h) ?_
            refine T_region ?_
            refine S_ 45 rfl rfl rfl _ (y_bin rfl rfl rfl (fun hg => b_add (by omega))) ?_
            refine S_ 23 rfl rfl rfl _ (y_move rfl rfl) ?_
            refine S_nil (nextK1 (kf := [(2, 2), (5, 7), (23, 45)]) (kl := [(2, 2), (5, 7), (23, 45)]) (i + 1) (by repeat (first | exact kf_nil | (apply kf_in; focus rfl) | (apply kf_out; focus rfl))) (by repeat (first | exact kl_nil | exact kl_rest (by assumption) rfl | (apply kl_in; focus rfl) | (apply kl_out; focus rfl))) ?_ ?_ ?_ ?_)
            · omega
            · exact ⟨by omega, by rw [hp2, hx2, fisNo, if_neg (by omega), if_neg (by rw [prv_any (by omega), h44]; simp), prv_succ hx1]⟩
            · exact ⟨rfl, trivial⟩
            · exact trivial
      · try simp only [decide_eq_true_eq, decide_eq_false_iff_not, Bool.or_eq_true, Bool.or_eq_false_iff, Bool.and_eq_true, Bool.and_eq_false_iff, Bool.not_eq_true', Bool.not_eq_false', Bool.not_eq_true, Bool.not_eq_false, Bool.not_true, Bool.not_false, Int.not_lt, Int.not_le, not_or, not_and, Classical.not_not] at h24
        refine T_exit_go (fun _ _ h => h) ?_
        refine T_seq ?_
        refine T_region ?_
        refine S_ 2 rfl rfl rfl _ (y_assign rfl rfl) ?_
        refine S_go (fun _ _ h => h) ?_
        refine T_ret (fun a w hF hM => hRb a w (post1 rfl rfl (fun w hM => ?_) a w hF hM))
        exact ⟨by rw [comNo, if_neg (by rw [hr]; simp), if_neg (by omega), hp2, ht.end (by omega)]; rfl, hM.below⟩
theorem mgetS (s : List UInt8) : ∀ l : List (List UInt8), (mget (l.map fun s => (s, Value.bool true)) s).getD (.bool false) = .bool (decide (s ∈ l))
  | [] => rfl
  | a :: r => by
    simp only [List.map_cons, mget]
    by_cases h : s = a
    · simp [h]
    · rw [if_neg h, mgetS s r]; simp [h]
theorem mputS (s : List UInt8) : ∀ l : List (List UInt8), s ∉ l → mput (l.map fun s => (s, Value.bool true)) s (.bool true) = (l ++ [s]).map fun s => (s, Value.bool true)
  | [], _ => rfl
  | a :: r, h => by
    simp only [List.mem_cons, not_or] at h
    simp only [List.map_cons, mput, List.cons_append, if_neg h.1, mputS s r h.2]
theorem takeS {α : Type} {l : List α} {i : Nat} {x : α} (h : l[i]? = some x) : l.take (i + 1) = l.take i ++ [x] := by
  rw [List.take_add_one, h]; rfl
theorem CheckCommits_any (l : Sl SCom) (w : World) (hl : ComsOk w l) :
    Calls Tryz.prog 48 #[.slice l.A l.q l.c] w fun e w' => e = .returned (.int .i64 (commitsNo l)) ∧ Below w.heap.size w w' := by
  have ht := hl.ok.t
  have hlen := ht.len
  refine enter_args (args := [.slice l.A l.q l.c]) (F := _) Tryz.func48 rfl Tryz.ntmps48 rfl rfl ?_
  intro Rb hRb hRn
  refine T_seq ?_
  refine T_region ?_
  refine S_ 2 rfl rfl rfl _ (y_assign rfl rfl) ?_
  refine S_go (fun _ _ h => h) ?_
  refine T_seq ?_
  refine T_seq ?_
  refine T_region ?_
  refine S_ 7 rfl rfl rfl _ (y_move rfl rfl) ?_
  refine S_ 8 rfl rfl rfl _ (y_len_slice rfl rfl Tryz.underlying74) ?_
  refine S_ 9 rfl rfl rfl _ (y_bin rfl rfl rfl (fun _ => b_gtr)) ?_
  refine S_go (fun _ _ h => h) ?_
  refine T_cond rfl (fun h9 => ?_) (fun h9 => ?_)
  · try simp only [decide_eq_true_eq, decide_eq_false_iff_not, Bool.or_eq_true, Bool.or_eq_false_iff, Bool.and_eq_true, Bool.and_eq_false_iff, Bool.not_eq_true', Bool.not_eq_false', Bool.not_eq_true, Bool.not_eq_false, Bool.not_true, Bool.not_false, Int.not_lt, Int.not_le, not_or, not_and, Classical.not_not] at h9
    refine T_seq ?_
    refine T_region ?_
    refine S_ 2 rfl rfl rfl _ (y_assign rfl rfl) ?_
    refine S_go (fun _ _ h => h) ?_
    refine T_ret (fun a w hF hM => hRb a w (post1 rfl rfl (fun w hM => ?_) a w hF hM))
    exact ⟨by rw [commitsNo, if_pos (by omega)], hM.below⟩
  · try simp only [decide_eq_true_eq, decide_eq_false_iff_not, Bool.or_eq_true, Bool.or_eq_false_iff, Bool.and_eq_true, Bool.and_eq_false_iff, Bool.not_eq_true', Bool.not_eq_false', Bool.not_eq_true, Bool.not_eq_false, Bool.not_true, Bool.not_false, Int.not_lt, Int.not_le, not_or, not_and, Classical.not_not] at h9
    refine T_skip_go (fun _ _ h => h) ?_
    refine T_seq ?_
    refine T_region ?_
    refine S_makeMap 10 10 (fun l : List UInt8 => str l) rfl rfl rfl rfl ?_
    intro b10
    refine S_ 3 rfl rfl rfl _ (y_assign rfl rfl) ?_
    refine S_go (fun _ _ h => h) ?_
    refine T_seq ?_
    refine T_seq ?_
    refine T_region ?_
    refine S_ 11 rfl rfl rfl _ (y_move rfl rfl) ?_
    refine S_ 12 rfl rfl rfl _ (y_len_slice rfl rfl Tryz.underlying74) ?_
    refine S_ 13 rfl rfl rfl _ (y_move rfl rfl) ?_
    refine S_go (fun _ _ h => h) ?_
    refine T_block ?_
    refine T_loopK1 (kf := [(2, 2), (5, 6), (13, 39)]) (kl := [(2, 2), (5, 6), (10, 10), (13, 39)]) (fun (i : Nat) => [(13, true, .int .i64 (i : Int))]) (fun (i : Nat) => [(10, .blk b10 (IsMap (fun l : List UInt8 => str l) (((l.l.take i).map SCom.id).map fun s => (s, Value.bool true))))]) (fun (i : Nat) => i ≤ l.q ∧ comsNo [] l.l = comsNo ((l.l.take i).map SCom.id) (l.l.drop i)) (fun (i : Nat) => l.q - i) 0 (by repeat (first | exact kf_nil | (apply kf_in; focus rfl) | (apply kf_out; focus rfl))) (by repeat (first | exact kl_nil | exact kl_rest (by assumption) rfl | (apply kl_in; focus rfl) | (apply kl_out; focus rfl))) ?_ ?_ ?_ ?_
    · exact ⟨by omega, rfl⟩
    · exact ⟨rfl, trivial⟩
    · exact ⟨rfl, trivial⟩
    rintro i ⟨hp1, hp2⟩
    refine T_seq ?_
    refine T_region ?_
    refine S_ 14 rfl rfl rfl _ (y_bin rfl rfl rfl (fun _ => b_lss)) ?_
    refine S_go (fun _ _ h => h) ?_
    refine T_seq ?_
    refine T_cond rfl (fun h14 => ?_) (fun h14 => ?_)
    · try simp only [decide_eq_true_eq, decide_eq_false_iff_not, Bool.or_eq_true, Bool.or_eq_false_iff, Bool.and_eq_true, Bool.and_eq_false_iff, Bool.not_eq_true', Bool.not_eq_false', Bool.not_eq_true, Bool.not_eq_false, Bool.not_true, Bool.not_false, Int.not_lt, Int.not_le, not_or, not_and, Classical.not_not] at h14
      obtain ⟨x0, hx1, hx2⟩ := ht.at (i := i) (by omega)
      refine T_skip_go (fun _ _ h => h) ?_
      refine T_seq ?_
      refine T_block ?_
      refine T_seq ?_
      refine T_region ?_
      refine S_ 15 rfl rfl rfl _ (y_indexAddr rfl rfl rfl Tryz.underlying74 sz157 (fun hg => ht.isSome (by omega)) (fun _ => by omega)) ?_
      refine S_ 16 rfl rfl rfl _ (y_loadT rfl rfl ht (fun _ => rfl) (fun _ => hx1) Tryz.underlying157 rfl sz157) ?_
      refine S_alloc 5 5 rfl rfl rfl rfl z157 ?_
      intro b5
      refine S_store 5 rfl rfl rfl rfl rfl rfl sz157 rfl rfl ?_
      refine S_go (fun _ _ h => h) ?_
      refine T_seq ?_
      refine T_seq ?_
      refine T_region ?_
      refine S_ 17 rfl rfl rfl _ (y_fieldAddr rfl rfl fa157_0) ?_
      refine S_ 18 rfl rfl rfl _ (y_load 5 rfl rfl rfl rfl Tryz.underlying9 rfl) ?_
      refine S_ 19 rfl rfl rfl _ (y_call rfl rfl rfl cf134 (fun _ w _ => IsName_any x0.id w)) ?_
      refine S_ 20 rfl rfl rfl _ (y_not rfl rfl) ?_
      refine S_ 21 rfl rfl rfl _ (y_move rfl rfl) ?_
      refine Sg_ 22 rfl rfl rfl rfl rfl rfl _ (y_fieldAddr rfl rfl fa157_1) ?_
      refine Sg_ 23 rfl rfl rfl rfl rfl rfl _ (y_load 5 rfl rfl rfl rfl Tryz.underlying9 rfl) ?_
      refine Sg_ 24 rfl rfl rfl rfl rfl rfl _ (y_call rfl rfl rfl cf134 (fun _ w _ => IsName_any x0.au w)) ?_
      refine Sg_ 25 rfl rfl rfl rfl rfl rfl _ (y_not rfl rfl) ?_
      refine S_ 26 rfl rfl rfl _ (y_or rfl rfl rfl) ?_
      refine S_go (fun _ _ h => h) ?_
      refine T_cond rfl (fun h26 => ?_) (fun h26 => ?_)
      · skip
        refine T_seq ?_
        refine T_region ?_
        refine S_ 2 rfl rfl rfl _ (y_assign rfl rfl) ?_
        refine S_go (fun _ _ h => h) ?_
        refine T_ret (fun a w hF hM => hRb a w (post1 rfl rfl (fun w hM => ?_) a w hF hM))
        exact ⟨by rw [commitsNo, if_neg (by omega), hp2, hx2, comsNo, if_pos h26], hM.below⟩
      · skip
        refine T_skip_go (fun _ _ h => h) ?_
        refine T_seq ?_
        refine T_seq ?_
        refine T_region ?_
        refine S_ 27 rfl rfl rfl _ (y_move rfl rfl) ?_
        refine S_ 28 rfl rfl rfl _ (y_fieldAddr rfl rfl fa157_0) ?_
        refine S_ 29 rfl rfl rfl _ (y_load 5 rfl rfl rfl rfl Tryz.underlying9 rfl) ?_
        refine S_ 30 rfl rfl rfl _ (y_as (v' := .bool (decide (x0.id ∈ (l.l.take i).map SCom.id))) (by exact mgetS x0.id _) (y_lookup 10 (enc := fun l : List UInt8 => str l) rfl rfl rfl rfl Tryz.underlying164 Tryz.underlying9 rfl same_str z4)) ?_
        refine S_go (fun _ _ h => h) ?_
        refine T_cond rfl (fun h30 => ?_) (fun h30 => ?_)
        · skip
          refine T_seq ?_
          refine T_region ?_
          refine S_ 2 rfl rfl rfl _ (y_assign rfl rfl) ?_
          refine S_go (fun _ _ h => h) ?_
          refine T_ret (fun a w hF hM => hRb a w (post1 rfl rfl (fun w hM => ?_) a w hF hM))
          exact ⟨by rw [commitsNo, if_neg (by omega), hp2, hx2, comsNo, if_neg (by rw [h26]; simp), if_pos (by simpa using h30)], hM.below⟩
        · skip
          refine T_skip_go (fun _ _ h => h) ?_
          refine T_seq ?_
          refine T_region ?_
          refine S_ 31 rfl rfl rfl _ (y_move rfl rfl) ?_
          refine S_ 32 rfl rfl rfl _ (y_fieldAddr rfl rfl fa157_0) ?_
          refine S_ 33 rfl rfl rfl _ (y_load 5 rfl rfl rfl rfl Tryz.underlying9 rfl) ?_
          refine S_mapUpdate 10 (enc := fun l : List UInt8 => str l) rfl rfl rfl rfl rfl rfl rfl Tryz.underlying164 Tryz.underlying9 rfl same_str fits_str (mputS _ _ (by simpa using h30)) ?_
          refine S_go (fun _ _ h => h) ?_
          refine T_seq ?_
          refine T_region ?_
          refine S_ 34 rfl rfl rfl _ (y_loadA 5 rfl rfl rfl Tryz.underlying157 rfl sz157) ?_
          refine S_ 35 rfl rfl rfl _ (y_call rfl rfl rfl cf135 (fun _ w hM => checkCommit_any x0 w ((hl.n x0 (mem_at hx1)).below hM.below))) ?_
          refine S_ 6 rfl rfl rfl _ (y_assign rfl rfl) ?_
          refine S_go (fun _ _ h => h) ?_
          refine T_seq ?_
          refine T_region ?_
          refine S_ 36 rfl rfl rfl _ (y_move rfl rfl) ?_
          refine S_ 37 rfl rfl rfl _ (y_bin rfl rfl rfl (fun _ => b_neq)) ?_
          refine S_go (fun _ _ h => h) ?_
          refine T_cond rfl (fun h37 => ?_) (fun h37 => ?_)
          · try simp only [decide_eq_true_eq, decide_eq_false_iff_not, Bool.or_eq_true, Bool.or_eq_false_iff, Bool.and_eq_true, Bool.and_eq_false_iff, Bool.not_eq_true', Bool.not_eq_false', Bool.not_eq_true, Bool.not_eq_false, Bool.not_true, Bool.not_false, Int.not_lt, Int.not_le, not_or, not_and, Classical.not_not] at h37
            refine T_seq ?_
            refine T_region ?_
            refine S_ 38 rfl rfl rfl _ (y_move rfl rfl) ?_
            refine S_ 2 rfl rfl rfl _ (y_assign rfl rfl) ?_
            refine S_go (fun _ _ h => h) ?_
            refine T_ret (fun a w hF hM => hRb a w (post1 rfl rfl (fun w hM => ?_) a w hF hM))
            exact ⟨by rw [commitsNo, if_neg (by omega), hp2, hx2, comsNo, if_neg (by rw [h26]; simp), if_neg (by simpa using h30), if_pos h37], hM.below⟩
          · try simp only [decide_eq_true_eq, decide_eq_false_iff_not, Bool.or_eq_true, Bool.or_eq_false_iff, Bool.and_eq_true, Bool.and_eq_false_iff, Bool.not_eq_true', Bool.not_eq_false', Bool.not_eq_true, Bool.not_eq_false, Bool.not_true, Bool.not_false, Int.not_lt, Int.not_le, not_or, not_and, Classical.not_not] at h37
            refine T_skip_go (fun _ _ h => h) ?_
            refine T_region ?_
            refine S_ 39 rfl rfl rfl _ (y_bin rfl rfl rfl (fun hg => b_add (by omega))) ?_
            refine S_ 13 rfl rfl rfl _ (y_move rfl rfl) ?_
            refine S_nil (nextK1 (kf := [(2, 2), (5, 6), (13, 39)]) (kl := [(2, 2), (5, 6), (10, 10), (13, 39)]) (i + 1) (by repeat (first | exact kf_nil | (apply kf_in; focus rfl) | (apply kf_out; focus rfl))) (by repeat (first | exact kl_nil | exact kl_rest (by assumption) rfl | (apply kl_in; focus rfl) | (apply kl_out; focus rfl))) ?_ ?_ ?_ ?_)
            · omega
            · exact ⟨by omega, by rw [hp2, hx2, comsNo, if_neg (by rw [h26]; simp), if_neg (by simpa using h30), if_neg (by omega), takeS hx1, List.map_append]; rfl⟩
            · exact ⟨rfl, trivial⟩
            · exact ⟨by rw [takeS hx1, List.map_append (f := SCom.id)]; rfl, trivial⟩
    · try simp only [decide_eq_true_eq, decide_eq_false_iff_not, Bool.or_eq_true, Bool.or_eq_false_iff, Bool.and_eq_true, Bool.and_eq_false_iff, Bool.not_eq_true', Bool.not_eq_false', Bool.not_eq_true, Bool.not_eq_false, Bool.not_true, Bool.not_false, Int.not_lt, Int.not_le, not_or, not_and, Classical.not_not] at h14
      refine T_exit_go (fun _ _ h => h) ?_
      refine T_seq ?_
      refine T_region ?_
      refine S_ 2 rfl rfl rfl _ (y_assign rfl rfl) ?_
      refine S_go (fun _ _ h => h) ?_
      refine T_ret (fun a w hF hM => hRb a w (post1 rfl rfl (fun w hM => ?_) a w hF hM))
      exact ⟨by rw [commitsNo, if_neg (by omega), hp2, ht.end (by omega)]; rfl, hM.below⟩
theorem CommitsFault1_any (x0 : SCom) (y : SCom) (b1 : Nat) (w : World) (h1 : CellsAt w b1 y.enc) :
    Calls Tryz.prog 129 #[x0.val, .pointer (some ⟨b1, 0, none⟩)] w fun e w' => e = .returned (.bool (decide (x0.id = y.id))) ∧ Below w.heap.size w w' := by
  refine enter_args (args := [.agg #[str x0.id, str x0.au, str x0.rel, .slice x0.fi.A x0.fi.q x0.fi.c], .pointer (some ⟨b1, 0, none⟩)]) (F := _) Tryz.func129 rfl Tryz.ntmps129 rfl rfl ?_
  intro Rb hRb hRn
  refine T_seq ?_
  refine T_region ?_
  refine S_box 2 2 rfl rfl rfl rfl rfl ?_
  intro b2
  refine S_ 3 rfl rfl rfl _ (y_assign rfl rfl) ?_
  refine S_go (fun _ _ h => h) ?_
  refine T_seq ?_
  refine T_region ?_
  refine S_ 4 rfl rfl rfl _ (y_fieldAddr rfl rfl fa157_0) ?_
  refine S_ 5 rfl rfl rfl _ (y_load 2 rfl rfl rfl rfl Tryz.underlying9 rfl) ?_
  refine S_ 6 rfl rfl rfl _ (y_fieldAddr rfl rfl fa157_0) ?_
  refine S_ 7 rfl rfl rfl _ (y_load_far rfl rfl (h1.one (j := 0) rfl).1 (h1.one (j := 0) (cs := y.enc) rfl).2 Tryz.underlying9 rfl) ?_
  refine S_ 8 rfl rfl rfl _ (y_bin rfl rfl rfl (fun _ => b_eqls)) ?_
  refine S_ 3 rfl rfl rfl _ (y_assign rfl rfl) ?_
  refine S_go (fun _ _ h => h) ?_
  refine T_ret (fun a w hF hM => hRb a w (post1 rfl rfl (fun w hM => ?_) a w hF hM))
  exact ⟨rfl, hM.below⟩
theorem IndexFC_any (A : Option Addr) (q c : Nat) (l : List SCom) (g : FuncId) (cap : Array Value) (p : SCom → Bool) (w : World) (ht : SlT SCom.enc 4 w A q l) (hq : q ≤ 4611686018427387904) (hcf : ∀ args w, (callFunc g args).run Tryz.prog w = .ok (.enter g args) w)
    (hA : ∀ x ∈ l, ∀ w', Below w.heap.size w w' → Calls Tryz.prog g (#[x.val] ++ cap) w' fun e w'' => e = .returned (.bool (p x)) ∧ Below w'.heap.size w' w'') :
    Calls Tryz.prog 217 #[.slice A q c, .func (.func g) #[] cap] w fun e w' => e = .returned (.int .i64 (findP p l 0)) ∧ Below w.heap.size w w' := by
  refine enter_args (args := [.slice A q c, .func (.func g) #[] cap]) (F := _) Tryz.func217 rfl Tryz.ntmps217 rfl rfl ?_
  intro Rb hRb hRn
  refine T_seq ?_
  refine T_region ?_
  refine S_ 4 rfl rfl rfl _ (y_assign rfl rfl) ?_
  refine S_go (fun _ _ h => h) ?_
  refine T_seq ?_
  refine T_seq ?_
  refine T_region ?_
  refine S_ 6 rfl rfl rfl _ (y_move rfl rfl) ?_
  refine S_ 7 rfl rfl rfl _ (y_len_slice rfl rfl Tryz.underlying74) ?_
  refine S_ 8 rfl rfl rfl _ (y_move rfl rfl) ?_
  refine S_go (fun _ _ h => h) ?_
  refine T_block ?_
  refine T_loopK1 (kf := [(4, 5), (8, 18)]) (kl := [(4, 5), (8, 18)]) (fun (i : Nat) => [(8, true, .int .i64 (i : Int))]) (fun (i : Nat) => []) (fun (i : Nat) => i ≤ q ∧ findP p l 0 = findP p (l.drop i) i) (fun (i : Nat) => q - i) 0 (by repeat (first | exact kf_nil | (apply kf_in; focus rfl) | (apply kf_out; focus rfl))) (by repeat (first | exact kl_nil | exact kl_rest (by assumption) rfl | (apply kl_in; focus rfl) | (apply kl_out; focus rfl))) ?_ ?_ ?_ ?_
  · exact ⟨by omega, rfl⟩
  · exact ⟨rfl, trivial⟩
  · exact trivial
  rintro i ⟨hp1, hp2⟩
  refine T_seq ?_
  refine T_region ?_
  refine S_ 9 rfl rfl rfl _ (y_bin rfl rfl rfl (fun _ => b_lss)) ?_
  refine S_go (fun _ _ h => h) ?_
  refine T_seq ?_
  refine T_cond rfl (fun h9 => ?_) (fun h9 => ?_)
  · try simp only [decide_eq_true_eq, decide_eq_false_iff_not, Bool.or_eq_true, Bool.or_eq_false_iff, Bool.and_eq_true, Bool.and_eq_false_iff, Bool.not_eq_true', Bool.not_eq_false', Bool.not_eq_true, Bool.not_eq_false, Bool.not_true, Bool.not_false, Int.not_lt, Int.not_le, not_or, not_and, Classical.not_not] at h9
    obtain ⟨x, hx1, hx2⟩ := ht.at (i := i) (by omega)
    refine T_skip_go (fun _ _ h => h) ?_
    refine T_seq ?_
    refine T_block ?_
    refine T_seq ?_
    refine T_region ?_
    refine S_ 10 rfl rfl rfl _ (y_move rfl rfl) ?_
    refine S_ 5 rfl rfl rfl _ (y_assign rfl rfl) ?_
    refine S_go (fun _ _ h => h) ?_
    refine T_seq ?_
    refine T_region ?_
    refine S_ 11 rfl rfl rfl _ (y_move rfl rfl) ?_
    refine S_ 12 rfl rfl rfl _ (y_move rfl rfl) ?_
    refine S_ 13 rfl rfl rfl _ (y_move rfl rfl) ?_
    refine S_ 14 rfl rfl rfl _ (y_indexAddr rfl rfl rfl Tryz.underlying74 sz157 (fun hg => ht.isSome (by omega)) (fun _ => by omega)) ?_
    refine S_ 15 rfl rfl rfl _ (y_loadT rfl rfl ht (fun _ => rfl) (fun _ => hx1) Tryz.underlying157 rfl sz157) ?_
    refine S_ 16 rfl rfl rfl _ (y_call rfl rfl rfl hcf (fun _ w hM => hA x (mem_at hx1) w hM.below)) ?_
    refine S_go (fun _ _ h => h) ?_
    refine T_cond rfl (fun h16 => ?_) (fun h16 => ?_)
    · skip
      refine T_seq ?_
      refine T_region ?_
      refine S_ 17 rfl rfl rfl _ (y_move rfl rfl) ?_
      refine S_ 4 rfl rfl rfl _ (y_assign rfl rfl) ?_
      refine S_go (fun _ _ h => h) ?_
      refine T_ret (fun a w hF hM => hRb a w (post1 rfl rfl (fun w hM => ?_) a w hF hM))
      exact ⟨by rw [hp2, hx2, findP, if_pos h16], hM.below⟩
    · skip
      refine T_skip_go (fun _ _ h => h) ?_
      refine T_region ?_
      refine S_ 18 rfl rfl rfl _ (y_bin rfl rfl rfl (fun hg => b_add (by omega))) ?_
      refine S_ 8 rfl rfl rfl _ (y_move rfl rfl) ?_
      refine S_nil (nextK1 (kf := [(4, 5), (8, 18)]) (kl := [(4, 5), (8, 18)]) (i + 1) (by repeat (first | exact kf_nil | (apply kf_in; focus rfl) | (apply kf_out; focus rfl))) (by repeat (first | exact kl_nil | exact kl_rest (by assumption) rfl | (apply kl_in; focus rfl) | (apply kl_out; focus rfl))) ?_ ?_ ?_ ?_)
      · omega
      · exact ⟨by omega, by rw [hp2, hx2, findP, if_neg (by simp [h16])]⟩
      · exact ⟨rfl, trivial⟩
      · exact trivial
  · try simp only [decide_eq_true_eq, decide_eq_false_iff_not, Bool.or_eq_true, Bool.or_eq_false_iff, Bool.and_eq_true, Bool.and_eq_false_iff, Bool.not_eq_true', Bool.not_eq_false', Bool.not_eq_true, Bool.not_eq_false, Bool.not_true, Bool.not_false, Int.not_lt, Int.not_le, not_or, not_and, Classical.not_not] at h9
    refine T_exit_go (fun _ _ h => h) ?_
    refine T_seq ?_
    refine T_region ?_
    refine S_ 4 rfl rfl rfl _ (y_assign rfl rfl) ?_
    refine S_go (fun _ _ h => h) ?_
    refine T_ret (fun a w hF hM => hRb a w (post1 rfl rfl (fun w hM => ?_) a w hF hM))
    exact ⟨by rw [hp2, ht.end (by omega)]; rfl, hM.below⟩
theorem any_find {α : Type} (p : α → Bool) (l : List α) : l.any p = decide (0 ≤ findP p l 0) := by
  have hf := findP_any p l 0
  cases h : l.any p with
  | false => rw [decide_eq_false]; have := hf.1.2 h; omega
  | true =>
    rw [decide_eq_true]
    rcases Int.lt_or_le (findP p l 0) 0 with h1 | h1
    · rw [hf.1.1 h1] at h; cases h
    · exact h1
theorem ContFC_any (A : Option Addr) (q c : Nat) (l : List SCom) (g : FuncId) (cap : Array Value) (p : SCom → Bool) (w : World) (ht : SlT SCom.enc 4 w A q l) (hq : q ≤ 4611686018427387904) (hcf : ∀ args w, (callFunc g args).run Tryz.prog w = .ok (.enter g args) w)
    (hA : ∀ x ∈ l, ∀ w', Below w.heap.size w w' → Calls Tryz.prog g (#[x.val] ++ cap) w' fun e w'' => e = .returned (.bool (p x)) ∧ Below w'.heap.size w' w'') :
    Calls Tryz.prog 128 #[.slice A q c, .func (.func g) #[] cap] w fun e w' => e = .returned (.bool (l.any p)) ∧ Below w.heap.size w w' := by
  rw [any_find]
  refine enter_args (args := [.slice A q c, .func (.func g) #[] cap]) (F := _) Tryz.func128 rfl Tryz.ntmps128 rfl rfl ?_
  intro Rb hRb hRn
  refine T_seq ?_
  refine T_region ?_
  refine S_ 4 rfl rfl rfl _ (y_assign rfl rfl) ?_
  refine S_go (fun _ _ h => h) ?_
  refine T_seq ?_
  refine T_region ?_
  refine S_ 5 rfl rfl rfl _ (y_move rfl rfl) ?_
  refine S_ 6 rfl rfl rfl _ (y_move rfl rfl) ?_
  refine S_ 7 rfl rfl rfl _ (y_call rfl rfl rfl cf217 (fun _ w hM => IndexFC_any A q c l g cap p w (ht.below hM.below) hq hcf fun x hx w1 hb => hA x hx w1 (hM.below.trans (hb.mono hM.below.size)))) ?_
  refine S_ 8 rfl rfl rfl _ (y_bin rfl rfl rfl (fun _ => b_geq)) ?_
  refine S_ 4 rfl rfl rfl _ (y_assign rfl rfl) ?_
  refine S_go (fun _ _ h => h) ?_
  refine T_ret (fun a w hF hM => hRb a w (post1 rfl rfl (fun w hM => ?_) a w hF hM))
  exact ⟨rfl, hM.below⟩
theorem any_mem (l : List SCom) (s : List UInt8) : (l.any fun x => decide (x.id = s)) = decide (s ∈ l.map SCom.id) := by
  induction l with
  | nil => rfl
  | cons a r ih =>
    rw [List.any_cons, ih, List.map_cons]
    by_cases h : a.id = s
    · simp [h]
    · rw [decide_eq_false h, Bool.false_or]
      exact decide_eq_decide.2 ⟨fun h1 => List.mem_cons_of_mem _ h1, fun h1 => (List.mem_cons.1 h1).resolve_left fun e => h e.symm⟩
set_option maxHeartbeats 1600000 in
theorem CommitsFault_any (l : Sl SCom) (w : World) (hl : ComsOk w l) :
    Calls Tryz.prog 46 #[.slice l.A l.q l.c] w fun e w' => e = .returned (.int .i64 (commitsNo l)) ∧ Below w.heap.size w w' := by
  have ht := hl.ok.t
  have hlen := ht.len
  have hcap := hl.ok.cap
  refine enter_args (args := [.slice l.A l.q l.c]) (F := _) Tryz.func46 rfl Tryz.ntmps46 rfl rfl ?_
  intro Rb hRb hRn
  refine T_seq ?_
  refine T_region ?_
  refine S_ 2 rfl rfl rfl _ (y_assign rfl rfl) ?_
  refine S_go (fun _ _ h => h) ?_
  refine T_seq ?_
  refine T_seq ?_
  refine T_region ?_
  refine S_ 10 rfl rfl rfl _ (y_move rfl rfl) ?_
  refine S_ 11 rfl rfl rfl _ (y_len_slice rfl rfl Tryz.underlying74) ?_
  refine S_ 12 rfl rfl rfl _ (y_bin rfl rfl rfl (fun _ => b_gtr)) ?_
  refine S_go (fun _ _ h => h) ?_
  refine T_cond rfl (fun h12 => ?_) (fun h12 => ?_)
  · try simp only [decide_eq_true_eq, decide_eq_false_iff_not, Bool.or_eq_true, Bool.or_eq_false_iff, Bool.and_eq_true, Bool.and_eq_false_iff, Bool.not_eq_true', Bool.not_eq_false', Bool.not_eq_true, Bool.not_eq_false, Bool.not_true, Bool.not_false, Int.not_lt, Int.not_le, not_or, not_and, Classical.not_not] at h12
    refine T_seq ?_
    refine T_region ?_
    refine S_ 2 rfl rfl rfl _ (y_assign rfl rfl) ?_
    refine S_go (fun _ _ h => h) ?_
    refine T_ret (fun a w hF hM => hRb a w (post1 rfl rfl (fun w hM => ?_) a w hF hM))
    exact ⟨by rw [commitsNo, if_pos (by omega)], hM.below⟩
  · try simp only [decide_eq_true_eq, decide_eq_false_iff_not, Bool.or_eq_true, Bool.or_eq_false_iff, Bool.and_eq_true, Bool.and_eq_false_iff, Bool.not_eq_true', Bool.not_eq_false', Bool.not_eq_true, Bool.not_eq_false, Bool.not_true, Bool.not_false, Int.not_lt, Int.not_le, not_or, not_and, Classical.not_not] at h12
    refine T_skip_go (fun _ _ h => h) ?_
    refine T_seq ?_
    refine T_seq ?_
    refine T_region ?_
    refine S_ 13 rfl rfl rfl _ (y_move rfl rfl) ?_
    refine S_ 14 rfl rfl rfl _ (y_len_slice rfl rfl Tryz.underlying74) ?_
    refine S_ 15 rfl rfl rfl _ (y_move rfl rfl) ?_
    refine S_go (fun _ _ h => h) ?_
    refine T_block ?_
    refine T_loopK1 (kf := [(2, 9), (15, 73)]) (kl := [(2, 9), (15, 73)]) (fun (i : Nat) => [(15, true, .int .i64 (i : Int))]) (fun (i : Nat) => []) (fun (i : Nat) => i ≤ l.q ∧ comsNo [] l.l = comsNo ((l.l.take i).map SCom.id) (l.l.drop i)) (fun (i : Nat) => l.q - i) 0 (by repeat (first | exact kf_nil | (apply kf_in; focus rfl) | (apply kf_out; focus rfl))) (by repeat (first | exact kl_nil | exact kl_rest (by assumption) rfl | (apply kl_in; focus rfl) | (apply kl_out; focus rfl))) ?_ ?_ ?_ ?_
    · exact ⟨by omega, rfl⟩
    · exact ⟨rfl, trivial⟩
    · exact trivial
    rintro i ⟨hp1, hp2⟩
    refine T_seq ?_
    refine T_region ?_
    refine S_ 16 rfl rfl rfl _ (y_bin rfl rfl rfl (fun _ => b_lss)) ?_
    refine S_go (fun _ _ h => h) ?_
    refine T_seq ?_
    refine T_cond rfl (fun h16 => ?_) (fun h16 => ?_)
    · try simp only [decide_eq_true_eq, decide_eq_false_iff_not, Bool.or_eq_true, Bool.or_eq_false_iff, Bool.and_eq_true, Bool.and_eq_false_iff, Bool.not_eq_true', Bool.not_eq_false', Bool.not_eq_true, Bool.not_eq_false, Bool.not_true, Bool.not_false, Int.not_lt, Int.not_le, not_or, not_and, Classical.not_not] at h16
      obtain ⟨x0, hx1, hx2⟩ := ht.at (i := i) (by omega)
      have hxo := hl.n x0 (mem_at hx1)
      have hft := hxo.ok.t
      have hfl := hft.len
      have hpre := ht.cut (lo := 0) (hi := i) (c := l.c) (fun _ => rfl) (by omega) (by omega) hcap
      refine T_skip_go (fun _ _ h => h) ?_
      refine T_seq ?_
      refine T_block ?_
      refine T_seq ?_
      refine T_region ?_
      refine S_ 17 rfl rfl rfl _ (y_move rfl rfl) ?_
      refine S_ 18 rfl rfl rfl _ (y_indexAddr rfl rfl rfl Tryz.underlying74 sz157 (fun hg => ht.isSome (by omega)) (fun _ => by omega)) ?_
      refine S_ 19 rfl rfl rfl _ (y_loadT rfl rfl ht (fun _ => rfl) (fun _ => hx1) Tryz.underlying157 rfl sz157) ?_
      refine S_alloc 4 4 rfl rfl rfl rfl z157 ?_
      intro b4
      refine S_ 3 rfl rfl rfl _ (y_assign rfl rfl) ?_
      refine S_store 4 rfl rfl rfl rfl rfl rfl sz157 rfl rfl ?_
      refine S_go (fun _ _ h => h) ?_
      refine T_seq ?_
      refine T_seq ?_
      refine T_region ?_
      refine S_ 20 rfl rfl rfl _ (y_fieldAddr rfl rfl fa157_0) ?_
      refine S_ 21 rfl rfl rfl _ (y_load 4 rfl rfl rfl rfl Tryz.underlying9 rfl) ?_
      refine S_ 22 rfl rfl rfl _ (y_call rfl rfl rfl cf63 (fun _ w _ => NameOk_any x0.id w)) ?_
      refine S_ 23 rfl rfl rfl _ (y_not rfl rfl) ?_
      refine S_ 24 rfl rfl rfl _ (y_move rfl rfl) ?_
      refine Sg_ 25 rfl rfl rfl rfl rfl rfl _ (y_fieldAddr rfl rfl fa157_1) ?_
      refine Sg_ 26 rfl rfl rfl rfl rfl rfl _ (y_load 4 rfl rfl rfl rfl Tryz.underlying9 rfl) ?_
      refine Sg_ 27 rfl rfl rfl rfl rfl rfl _ (y_call rfl rfl rfl cf63 (fun _ w _ => NameOk_any x0.au w)) ?_
      refine Sg_ 28 rfl rfl rfl rfl rfl rfl _ (y_not rfl rfl) ?_
      refine S_ 29 rfl rfl rfl _ (y_or rfl rfl rfl) ?_
      refine S_go (fun _ _ h => h) ?_
      refine T_cond rfl (fun h29 => ?_) (fun h29 => ?_)
      · skip
        refine T_seq ?_
        refine T_region ?_
        refine S_ 2 rfl rfl rfl _ (y_assign rfl rfl) ?_
        refine S_go (fun _ _ h => h) ?_
        refine T_ret (fun a w hF hM => hRb a w (post1 rfl rfl (fun w hM => ?_) a w hF hM))
        exact ⟨by rw [commitsNo, if_neg (by omega), hp2, hx2, comsNo, if_pos h29], hM.below⟩
      · skip
        refine T_skip_go (fun _ _ h => h) ?_
        refine T_seq ?_
        refine T_seq ?_
        refine T_region ?_
        refine S_ 30 rfl rfl rfl _ (y_move rfl rfl) ?_
        refine S_ 31 rfl rfl rfl _ (y_move rfl rfl) ?_
        refine S_ 32 rfl rfl rfl _ (y_slice rfl rfl Tryz.underlying74 sz157 (.inl ⟨rfl, rfl⟩) (.inr ⟨_, _, rfl, rfl⟩) (by omega) (by omega) (by omega)) ?_
        refine S_ 33 rfl rfl rfl _ (y_makeFunc rfl rfl rfl rfl rfl) ?_
        refine S_ 34 rfl rfl rfl _ (y_as (v' := .bool (decide (x0.id ∈ (l.l.take i).map SCom.id))) (by rw [any_mem]; rfl) (y_call rfl rfl rfl cf128 (fun _ w hM => ContFC_any _ _ _ ((l.l.drop 0).take (i - 0)) _ _ (fun x => decide (x.id = x0.id)) w (hpre.below hM.below) (by omega) cf129 fun x _ w1 hb => CommitsFault1_any x x0 b4 w1 (cells_below (hM.box_cells 4 rfl) hb)))) ?_
        refine S_go (fun _ _ h => h) ?_
        refine T_cond rfl (fun h34 => ?_) (fun h34 => ?_)
        · skip
          refine T_seq ?_
          refine T_region ?_
          refine S_ 2 rfl rfl rfl _ (y_assign rfl rfl) ?_
          refine S_go (fun _ _ h => h) ?_
          refine T_ret (fun a w hF hM => hRb a w (post1 rfl rfl (fun w hM => ?_) a w hF hM))
          exact ⟨by rw [commitsNo, if_neg (by omega), hp2, hx2, comsNo, if_neg (by rw [h29]; simp), if_pos (by simpa using h34)], hM.below⟩
        · skip
          refine T_skip_go (fun _ _ h => h) ?_
          refine T_seq ?_
          refine T_seq ?_
          refine T_region ?_
          refine S_ 36 rfl rfl rfl _ (y_fieldAddr rfl rfl fa157_2) ?_
          refine S_ 37 rfl rfl rfl _ (y_load 4 rfl rfl rfl rfl Tryz.underlying9 rfl) ?_
          refine S_callOwn 38 38 rfl rfl rfl rfl rfl rfl rfl cf25 (fun A c => .tuple #[pvV (parE x0.rel).1 A c, .int .i64 (parE x0.rel).2]) 9 1 ((parE x0.rel).1.pre.length) ((parE x0.rel).1.pre.flatMap strE) (fun w hM => VersionOf_any x0.rel w) ?_
          intro A38 c38
          refine S_ 35 rfl rfl rfl _ (y_move rfl rfl) ?_
          refine S_ 39 rfl rfl rfl _ (y_extract rfl rfl rfl) ?_
          refine S_ 40 rfl rfl rfl _ (y_extract rfl rfl rfl) ?_
          refine S_alloc 5 5 rfl rfl rfl rfl z42 ?_
          intro b5
          refine S_store 5 rfl rfl rfl rfl rfl rfl sz42 rfl rfl ?_
          refine S_ 6 rfl rfl rfl _ (y_assign rfl rfl) ?_
          refine S_go (fun _ _ h => h) ?_
          refine T_seq ?_
          refine T_region ?_
          refine S_ 41 rfl rfl rfl _ (y_move rfl rfl) ?_
          refine S_ 42 rfl rfl rfl _ (y_bin rfl rfl rfl (fun _ => b_neq)) ?_
          refine S_go (fun _ _ h => h) ?_
          refine T_cond rfl (fun h42 => ?_) (fun h42 => ?_)
          · skip
            have hr : relOk x0.rel = false := by
              cases hq : relOk x0.rel with
              | false => rfl
              | true => rw [parE, if_pos hq] at h42; simp at h42
            refine T_seq ?_
            refine T_region ?_
            refine S_ 2 rfl rfl rfl _ (y_assign rfl rfl) ?_
            refine S_go (fun _ _ h => h) ?_
            refine T_ret (fun a w hF hM => hRb a w (post1 rfl rfl (fun w hM => ?_) a w hF hM))
            have hc0 : comNo x0 = 8 := if_pos hr
            exact ⟨by rw [commitsNo, if_neg (by omega), hp2, hx2, comsNo, if_neg (by rw [h29]; simp), if_neg (by simpa using h34), if_pos (by rw [hc0]; decide), hc0], hM.below⟩
          · skip
            have hr : relOk x0.rel = true := by
              cases hq : relOk x0.rel with
              | true => rfl
              | false => rw [parE, if_neg (by rw [hq]; simp)] at h42; simp at h42
            refine T_skip_go (fun _ _ h => h) ?_
            refine T_seq ?_
            refine T_seq ?_
            refine T_region ?_
            refine S_ 43 rfl rfl rfl _ (y_fieldAddr rfl rfl fa157_3) ?_
            refine S_ 44 rfl rfl rfl _ (y_load 4 rfl rfl rfl rfl Tryz.underlying40 rfl) ?_
            refine S_ 45 rfl rfl rfl _ (y_len_slice rfl rfl Tryz.underlying40) ?_
            refine S_ 46 rfl rfl rfl _ (y_bin rfl rfl rfl (fun _ => b_gtr)) ?_
            refine S_go (fun _ _ h => h) ?_
            refine T_cond rfl (fun h46 => ?_) (fun h46 => ?_)
            · try simp only [decide_eq_true_eq, decide_eq_false_iff_not, Bool.or_eq_true, Bool.or_eq_false_iff, Bool.and_eq_true, Bool.and_eq_false_iff, Bool.not_eq_true', Bool.not_eq_false', Bool.not_eq_true, Bool.not_eq_false, Bool.not_true, Bool.not_false, Int.not_lt, Int.not_le, not_or, not_and, Classical.not_not] at h46
              refine T_seq ?_
              refine T_region ?_
              refine S_ 2 rfl rfl rfl _ (y_assign rfl rfl) ?_
              refine S_go (fun _ _ h => h) ?_
              refine T_ret (fun a w hF hM => hRb a w (post1 rfl rfl (fun w hM => ?_) a w hF hM))
              have hc0 : comNo x0 = 4 := by rw [comNo, if_neg (by rw [hr]; simp), if_pos (by omega)]
              exact ⟨by rw [commitsNo, if_neg (by omega), hp2, hx2, comsNo, if_neg (by rw [h29]; simp), if_neg (by simpa using h34), if_pos (by rw [hc0]; decide), hc0], hM.below⟩
            · try simp only [decide_eq_true_eq, decide_eq_false_iff_not, Bool.or_eq_true, Bool.or_eq_false_iff, Bool.and_eq_true, Bool.and_eq_false_iff, Bool.not_eq_true', Bool.not_eq_false', Bool.not_eq_true, Bool.not_eq_false, Bool.not_true, Bool.not_false, Int.not_lt, Int.not_le, not_or, not_and, Classical.not_not] at h46
              refine T_skip_go (fun _ _ h => h) ?_
              refine T_seq ?_
              refine T_region ?_
              refine S_ 47 rfl rfl rfl _ (y_fieldAddr rfl rfl fa157_3) ?_
              refine S_ 48 rfl rfl rfl _ (y_load 4 rfl rfl rfl rfl Tryz.underlying40 rfl) ?_
              refine S_ 49 rfl rfl rfl _ (y_len_slice rfl rfl Tryz.underlying40) ?_
              refine S_ 50 rfl rfl rfl _ (y_move rfl rfl) ?_
              refine S_go (fun _ _ h => h) ?_
              refine T_block ?_
              refine T_loopK1 (kf := [(2, 2), (7, 9), (50, 72)]) (kl := [(2, 2), (7, 9), (50, 72)]) (fun (j : Nat) => [(50, true, .int .i64 (j : Int))]) (fun (j : Nat) => []) (fun (j : Nat) => j ≤ x0.fi.q ∧ fisNo none x0.fi.l = fisNo (prv x0.fi.l j) (x0.fi.l.drop j)) (fun (j : Nat) => x0.fi.q - j) 0 (by repeat (first | exact kf_nil | (apply kf_in; focus rfl) | (apply kf_out; focus rfl))) (by repeat (first | exact kl_nil | exact kl_rest (by assumption) rfl | (apply kl_in; focus rfl) | (apply kl_out; focus rfl))) ?_ ?_ ?_ ?_
              · exact ⟨by omega, rfl⟩
              · exact ⟨rfl, trivial⟩
              · exact trivial
              rintro j ⟨hr1, hr2⟩
              refine T_seq ?_
              refine T_region ?_
              refine S_ 51 rfl rfl rfl _ (y_bin rfl rfl rfl (fun _ => b_lss)) ?_
              refine S_go (fun _ _ h => h) ?_
              refine T_seq ?_
              refine T_cond rfl (fun h51 => ?_) (fun h51 => ?_)
              · try simp only [decide_eq_true_eq, decide_eq_false_iff_not, Bool.or_eq_true, Bool.or_eq_false_iff, Bool.and_eq_true, Bool.and_eq_false_iff, Bool.not_eq_true', Bool.not_eq_false', Bool.not_eq_true, Bool.not_eq_false, Bool.not_true, Bool.not_false, Int.not_lt, Int.not_le, not_or, not_and, Classical.not_not] at h51
                obtain ⟨f, hf1, hf2⟩ := hft.at (i := j) (by omega)
                refine T_skip_go (fun _ _ h => h) ?_
                refine T_seq ?_
                refine T_block ?_
                refine T_seq ?_
                refine T_region ?_
                refine S_ 52 rfl rfl rfl _ (y_move rfl rfl) ?_
                refine S_ 53 rfl rfl rfl _ (y_indexAddr rfl rfl rfl Tryz.underlying40 sz9 (fun hg => hft.isSome (by omega)) (fun _ => by omega)) ?_
                refine S_ 54 rfl rfl rfl _ (y_loadT1 (val := (fun l : List UInt8 => str l)) rfl rfl hft (fun _ => hf1) Tryz.underlying9 rfl) ?_
                refine S_ 7 rfl rfl rfl _ (y_assign rfl rfl) ?_
                refine S_ 8 rfl rfl rfl _ (y_assign rfl rfl) ?_
                refine S_go (fun _ _ h => h) ?_
                refine T_seq ?_
                refine T_seq ?_
                refine T_region ?_
                refine S_ 55 rfl rfl rfl _ (y_move rfl rfl) ?_
                refine S_ 56 rfl rfl rfl _ (y_call rfl rfl rfl cf130 (fun _ w _ => pthFault_any f (hxo.n f (mem_at hf1)) w)) ?_
                refine S_ 9 rfl rfl rfl _ (y_assign rfl rfl) ?_
                refine S_go (fun _ _ h => h) ?_
                refine T_seq ?_
                refine T_region ?_
                refine S_ 57 rfl rfl rfl _ (y_move rfl rfl) ?_
                refine S_ 58 rfl rfl rfl _ (y_bin rfl rfl rfl (fun _ => b_neq)) ?_
                refine S_go (fun _ _ h => h) ?_
                refine T_cond rfl (fun h58 => ?_) (fun h58 => ?_)
                · try simp only [decide_eq_true_eq, decide_eq_false_iff_not, Bool.or_eq_true, Bool.or_eq_false_iff, Bool.and_eq_true, Bool.and_eq_false_iff, Bool.not_eq_true', Bool.not_eq_false', Bool.not_eq_true, Bool.not_eq_false, Bool.not_true, Bool.not_false, Int.not_lt, Int.not_le, not_or, not_and, Classical.not_not] at h58
                  refine T_seq ?_
                  refine T_region ?_
                  refine S_ 59 rfl rfl rfl _ (y_move rfl rfl) ?_
                  refine S_ 2 rfl rfl rfl _ (y_assign rfl rfl) ?_
                  refine S_go (fun _ _ h => h) ?_
                  refine T_ret (fun a w hF hM => hRb a w (post1 rfl rfl (fun w hM => ?_) a w hF hM))
                  have hc0 : comNo x0 = pthNo f := by rw [comNo, if_neg (by rw [hr]; simp), if_neg (by omega), hr2, hf2, fisNo, if_pos h58]
                  exact ⟨by rw [commitsNo, if_neg (by omega), hp2, hx2, comsNo, if_neg (by rw [h29]; simp), if_neg (by simpa using h34), if_pos (by rw [hc0]; exact h58), hc0], hM.below⟩
                · try simp only [decide_eq_true_eq, decide_eq_false_iff_not, Bool.or_eq_true, Bool.or_eq_false_iff, Bool.and_eq_true, Bool.and_eq_false_iff, Bool.not_eq_true', Bool.not_eq_false', Bool.not_eq_true, Bool.not_eq_false, Bool.not_true, Bool.not_false, Int.not_lt, Int.not_le, not_or, not_and, Classical.not_not] at h58
                  refine T_skip_go (fun _ _ h => h) ?_
                  refine T_seq ?_
                  refine T_region ?_
                  refine S_ 60 rfl rfl rfl _ (y_move rfl rfl) ?_
                  refine S_ 61 rfl rfl rfl _ (y_bin rfl rfl rfl (fun _ => b_gtr)) ?_
                  refine S_ 62 rfl rfl rfl _ (y_move rfl rfl) ?_
                  refine Sg_ 63 rfl rfl rfl rfl rfl rfl _ (y_move rfl rfl) ?_
                  refine Sg_ 64 rfl rfl rfl rfl rfl rfl _ (y_fieldAddr rfl rfl fa157_3) ?_
                  refine Sg_ 65 rfl rfl rfl rfl rfl rfl _ (y_load 4 rfl rfl rfl rfl Tryz.underlying40 rfl) ?_
                  refine Sg_ 66 rfl rfl rfl rfl rfl rfl _ (y_move rfl rfl) ?_
                  refine Sg_ 67 rfl rfl rfl rfl rfl rfl _ (y_bin rfl rfl rfl (fun hg => b_subv (((j - 1 : Nat) : Int)) (by simp only [Bool.true_and, Bool.and_eq_true, beq_iff_eq, decide_eq_true_eq, decide_eq_false_iff_not, Int.not_lt, Int.not_le] at hg; omega) (by simp only [Bool.true_and, Bool.and_eq_true, beq_iff_eq, decide_eq_true_eq, decide_eq_false_iff_not, Int.not_lt, Int.not_le] at hg; omega))) ?_
                  refine Sg_ 68 rfl rfl rfl rfl rfl rfl _ (y_indexAddr rfl rfl rfl Tryz.underlying40 sz9 (fun hg => hft.isSome (by simp only [Bool.true_and, Bool.and_eq_true, beq_iff_eq, decide_eq_true_eq, decide_eq_false_iff_not, Int.not_lt, Int.not_le] at hg; omega)) (fun hg => by simp only [Bool.true_and, Bool.and_eq_true, beq_iff_eq, decide_eq_true_eq, decide_eq_false_iff_not, Int.not_lt, Int.not_le] at hg; omega)) ?_
                  refine Sg_ 69 rfl rfl rfl rfl rfl rfl _ (y_loadT1 (val := (fun l : List UInt8 => str l)) rfl rfl hft (fun hg => prv_at (by simp only [Bool.true_and, Bool.and_eq_true, beq_iff_eq, decide_eq_true_eq, decide_eq_false_iff_not, Int.not_lt, Int.not_le] at hg; omega)) Tryz.underlying9 rfl) ?_
                  refine Sg_ 70 rfl rfl rfl rfl rfl rfl _ (y_bin rfl rfl rfl (fun _ => b_leqs)) ?_
                  refine S_ 71 rfl rfl rfl _ (y_and rfl rfl rfl) ?_
                  refine S_go (fun _ _ h => h) ?_
                  refine T_cond rfl (fun h71 => ?_) (fun h71 => ?_)
                  · skip
                    refine T_seq ?_
                    refine T_region ?_
                    refine S_ 2 rfl rfl rfl _ (y_assign rfl rfl) ?_
                    refine S_go (fun _ _ h => h) ?_
                    refine T_ret (fun a w hF hM => hRb a w (post1 rfl rfl (fun w hM => ?_) a w hF hM))
                    have hc0 : comNo x0 = 5 := by rw [comNo, if_neg (by rw [hr]; simp), if_neg (by omega), hr2, hf2, fisNo, if_neg (by omega), if_pos (by rw [prv_any (by omega)]; exact h71)]
                    exact ⟨by rw [commitsNo, if_neg (by omega), hp2, hx2, comsNo, if_neg (by rw [h29]; simp), if_neg (by simpa using h34), if_pos (by rw [hc0]; decide), hc0], hM.below⟩
                  · skip
                    refine T_skip_go (fun _ _ h => h) ?_
                    refine T_region ?_
                    refine S_ 72 rfl rfl rfl _ (y_bin rfl rfl rfl (fun hg => b_add (by omega))) ?_
                    refine S_ 50 rfl rfl rfl _ (y_move rfl rfl) ?_
                    refine S_nil (nextK1 (kf := [(2, 2), (7, 9), (50, 72)]) (kl := [(2, 2), (7, 9), (50, 72)]) (j + 1) (by repeat (first | exact kf_nil | (apply kf_in; focus rfl) | (apply kf_out; focus rfl))) (by repeat (first | exact kl_nil | exact kl_rest (by assumption) rfl | (apply kl_in; focus rfl) | (apply kl_out; focus rfl))) ?_ ?_ ?_ ?_)
                    · omega
                    · exact ⟨by omega, by rw [hr2, hf2, fisNo, if_neg (by omega), if_neg (by rw [prv_any (by omega), h71]; simp), prv_succ hf1]⟩
                    · exact ⟨rfl, trivial⟩
                    · exact trivial
              · try simp only [decide_eq_true_eq, decide_eq_false_iff_not, Bool.or_eq_true, Bool.or_eq_false_iff, Bool.and_eq_true, Bool.and_eq_false_iff, Bool.not_eq_true', Bool.not_eq_false', Bool.not_eq_true, Bool.not_eq_false, Bool.not_true, Bool.not_false, Int.not_lt, Int.not_le, not_or, not_and, Classical.not_not] at h51
                refine T_exit_go (fun _ _ h => h) ?_
                refine T_region ?_
                refine S_ 73 rfl rfl rfl _ (y_bin rfl rfl rfl (fun hg => b_add (by omega))) ?_
                refine S_ 15 rfl rfl rfl _ (y_move rfl rfl) ?_
                refine S_nil (nextK1 (kf := [(2, 9), (15, 73)]) (kl := [(2, 9), (15, 73)]) (i + 1) (by repeat (first | exact kf_nil | (apply kf_in; focus rfl) | (apply kf_out; focus rfl))) (by repeat (first | exact kl_nil | exact kl_rest (by assumption) rfl | (apply kl_in; focus rfl) | (apply kl_out; focus rfl))) ?_ ?_ ?_ ?_)
                · omega
                · have hc0 : comNo x0 = 0 := by rw [comNo, if_neg (by rw [hr]; simp), if_neg (by omega), hr2, hft.end (by omega)]; rfl
                  exact ⟨by omega, by rw [hp2, hx2, comsNo, if_neg (by rw [h29]; simp), if_neg (by simpa using h34), if_neg (by omega), takeS hx1, List.map_append]; rfl⟩
                · exact ⟨rfl, trivial⟩
                · exact trivial
    · try simp only [decide_eq_true_eq, decide_eq_false_iff_not, Bool.or_eq_true, Bool.or_eq_false_iff, Bool.and_eq_true, Bool.and_eq_false_iff, Bool.not_eq_true', Bool.not_eq_false', Bool.not_eq_true, Bool.not_eq_false, Bool.not_true, Bool.not_false, Int.not_lt, Int.not_le, not_or, not_and, Classical.not_not] at h16
      refine T_exit_go (fun _ _ h => h) ?_
      refine T_seq ?_
      refine T_region ?_
      refine S_ 2 rfl rfl rfl _ (y_assign rfl rfl) ?_
      refine S_go (fun _ _ h => h) ?_
      refine T_ret (fun a w hF hM => hRb a w (post1 rfl rfl (fun w hM => ?_) a w hF hM))
      exact ⟨by rw [commitsNo, if_neg (by omega), hp2, ht.end (by omega)]; rfl, hM.below⟩
end Go.Proofs.YtpmlgnbbkpplhaaGreatDoor
end
section
namespace Go.Proofs.YtpmlgnbbkpplhaaGreatDoor
set_option linter.unusedSimpArgs false
set_option linter.unusedVariables false
set_option maxRecDepth 20000
open Go.RowKit Go.Eng
section
variable {α : Type} {f : α → α → Int}
theorem swo3 (h : Cmp3 f) : Go.Sort.SWO (Go.Proofs.ltOf f) := by
  refine ⟨fun a => ?_, fun a b c h1 h2 => ?_, fun a b c h1 h2 => ?_⟩
  · simp only [Go.Proofs.ltOf, decide_eq_false_iff_not]; have := h.refl a; omega
  · simp only [Go.Proofs.ltOf, decide_eq_true_eq] at h1 h2 ⊢
    exact h.lt_le h1 (by omega)
  · simp only [Go.Proofs.ltOf, decide_eq_false_iff_not] at h1 h2 ⊢
    have a1 := h.anti a b
    have a2 := h.anti b c
    have a3 := h.anti a c
    have := h.tr c b a (by omega) (by omega)
    omega
end
/-- the order of texts: of what the reference reads of them -/
def relE (s t : List UInt8) : Int := cmpV (parE s).1 (parE t).1
/-! ### Made compact -/
/-! ### The best one -/
def beats {α : Type} (lt : α → α → Bool) (x : α) : Option α → Bool
  | none => true
  | some y => lt x y
/-- of those for which a test holds the first one that none after it beats -/
def bestF {α : Type} (p : α → Bool) (lt : α → α → Bool) : List α → Option α → Option α
  | [], o => o
  | x :: r, o => bestF p lt r (if (p x && beats lt x o) = true then some x else o)
theorem bestF_map {α β : Type} (g : α → β) (p : β → Bool) (lt : β → β → Bool) : ∀ (l : List α) (o : Option α), bestF p lt (l.map g) (o.map g) = (bestF (fun x => p (g x)) (fun x y => lt (g x) (g y)) l o).map g
  | [], o => rfl
  | x :: r, o => by
    rw [List.map_cons, bestF, bestF, ← bestF_map g p lt r]
    congr 1
    cases o with
    | none =>
      show (if (p (g x) && true) = true then some (g x) else none) = Option.map g (if (p (g x) && true) = true then some x else none)
      by_cases h : (p (g x) && true) = true
      · rw [if_pos h, if_pos h]; rfl
      · rw [if_neg h, if_neg h]; rfl
    | some y =>
      show (if (p (g x) && lt (g x) (g y)) = true then some (g x) else some (g y)) = Option.map g (if (p (g x) && lt (g x) (g y)) = true then some x else some y)
      by_cases h : (p (g x) && lt (g x) (g y)) = true
      · rw [if_pos h, if_pos h]; rfl
      · rw [if_neg h, if_neg h]; rfl
theorem bestF_mem {α : Type} {p : α → Bool} {lt : α → α → Bool} : ∀ {l : List α} {o : Option α} {x : α}, bestF p lt l o = some x → x ∈ l ∨ o = some x
  | [], o, x, h => .inr h
  | a :: r, o, x, h => by
    rw [bestF] at h
    rcases bestF_mem h with h | h
    · exact .inl (List.mem_cons_of_mem _ h)
    · split at h
      · exact .inl (by rw [Option.some.inj h]; exact List.mem_cons_self ..)
      · exact .inr h
end Go.Proofs.YtpmlgnbbkpplhaaGreatDoor
end
section
namespace Go.Proofs.YtpmlgnbbkpplhaaGreatDoor
set_option linter.unusedSimpArgs false
set_option linter.unusedVariables false
set_option maxRecDepth 20000
open Go.RowKit Go.Eng
def ver0 : SVer := ⟨[], 0, 0, 0, ⟨none, 0, 0, []⟩⟩
theorem ver0_ok (w : World) : VerOk w ver0 := ⟨⟨nilS, Nat.le_refl _⟩, Nat.zero_le _, (fun s h => by cases h), Nat.zero_le _, by decide, by decide, by decide⟩
theorem releasesCompare_any (s t : List UInt8) (w : World) : Calls Tryz.prog 120 #[str s, str t] w fun e w' => e = .returned (.int .i64 (relE s t)) ∧ Below w.heap.size w w' := by
  refine enter_args (args := [str s, str t]) (F := _) Tryz.func120 rfl Tryz.ntmps120 rfl rfl ?_
  intro Rb hRb hRn
  refine T_seq ?_
  refine T_region ?_
  refine S_ 4 rfl rfl rfl _ (y_assign rfl rfl) ?_
  refine S_go (fun _ _ h => h) ?_
  refine T_seq ?_
  refine T_region ?_
  refine S_ 10 rfl rfl rfl _ (y_move rfl rfl) ?_
  refine S_callOwn 11 11 rfl rfl rfl rfl rfl rfl rfl cf25 (fun A c => .tuple #[pvV (parE s).1 A c, .int .i64 (parE s).2]) 9 1 ((parE s).1.pre.length) ((parE s).1.pre.flatMap strE) (fun w hM => VersionOf_any s w) ?_
  intro A11 c11
  refine S_ 9 rfl rfl rfl _ (y_move rfl rfl) ?_
  refine S_ 12 rfl rfl rfl _ (y_extract rfl rfl rfl) ?_
  refine S_ 13 rfl rfl rfl _ (y_extract rfl rfl rfl) ?_
  refine S_alloc 5 5 rfl rfl rfl rfl z42 ?_
  intro b5
  refine S_store 5 rfl rfl rfl rfl rfl rfl sz42 rfl rfl ?_
  refine S_ 6 rfl rfl rfl _ (y_assign rfl rfl) ?_
  refine S_go (fun _ _ h => h) ?_
  refine T_seq ?_
  refine T_region ?_
  refine S_ 15 rfl rfl rfl _ (y_move rfl rfl) ?_
  refine S_callOwn 16 16 rfl rfl rfl rfl rfl rfl rfl cf25 (fun A c => .tuple #[pvV (parE t).1 A c, .int .i64 (parE t).2]) 9 1 ((parE t).1.pre.length) ((parE t).1.pre.flatMap strE) (fun w hM => VersionOf_any t w) ?_
  intro A16 c16
  refine S_ 14 rfl rfl rfl _ (y_move rfl rfl) ?_
  refine S_ 17 rfl rfl rfl _ (y_extract rfl rfl rfl) ?_
  refine S_ 18 rfl rfl rfl _ (y_extract rfl rfl rfl) ?_
  refine S_alloc 7 7 rfl rfl rfl rfl z42 ?_
  intro b7
  refine S_store 7 rfl rfl rfl rfl rfl rfl sz42 rfl rfl ?_
  refine S_ 8 rfl rfl rfl _ (y_assign rfl rfl) ?_
  refine S_go (fun _ _ h => h) ?_
  refine T_seq ?_
  refine T_region ?_
  refine S_ 19 rfl rfl rfl _ (y_loadA 5 rfl rfl rfl Tryz.underlying42 rfl sz42) ?_
  refine S_ 20 rfl rfl rfl _ (y_loadA 7 rfl rfl rfl Tryz.underlying42 rfl sz42) ?_
  refine S_ 21 rfl rfl rfl _ (y_call rfl rfl rfl cf23 (fun _ w hM => VersionsCompare_any (svr (parE s).1 A11 c11) (svr (parE t).1 A16 c16) w (svr_ok (parE_bound _) (owned_ok (enc := strE) hM rfl (i := 11) rfl)) (svr_ok (parE_bound _) (owned_ok (enc := strE) hM rfl (i := 16) rfl)))) ?_
  refine S_ 4 rfl rfl rfl _ (y_assign rfl rfl) ?_
  refine S_go (fun _ _ h => h) ?_
  refine T_ret (fun a w hF hM => hRb a w (post1 rfl rfl (fun w hM => ?_) a w hF hM))
  exact ⟨rfl, hM.below⟩
end Go.Proofs.YtpmlgnbbkpplhaaGreatDoor
end
section
namespace Go.Proofs.YtpmlgnbbkpplhaaGreatDoor
set_option linter.unusedSimpArgs false
set_option linter.unusedVariables false
set_option maxRecDepth 20000
open Go.RowKit Go.Eng
end Go.Proofs.YtpmlgnbbkpplhaaGreatDoor
end
section
namespace Go.Proofs.YtpmlgnbbkpplhaaGreatDoor
set_option linter.unusedSimpArgs false
set_option linter.unusedVariables false
set_option maxRecDepth 20000
open Go.RowKit Go.Eng
theorem beats_eq {α : Type} (cf : α → α → Int) (d x : α) (o : Option α) : (!o.isSome || decide (cf x (o.getD d) < 0)) = beats (fun x y => decide (cf x y < 0)) x o := by cases o <;> rfl
set_option maxHeartbeats 1600000 in
theorem best_any (vs : Sl SVer) (gt go : FuncId) (capt capo : Array Value) (p : SVer → Bool) (cf : SVer → SVer → Int) (w : World) (hv : VersR w vs) (hcf1 : ∀ args w, (callFunc gt args).run Tryz.prog w = .ok (.enter gt args) w) (hcf2 : ∀ args w, (callFunc go args).run Tryz.prog w = .ok (.enter go args) w)
    (hA : ∀ x ∈ vs.l, ∀ w', Below w.heap.size w w' → Calls Tryz.prog gt (#[x.val] ++ capt) w' fun e w'' => e = .returned (.bool (p x)) ∧ Below w'.heap.size w' w'')
    (hB : ∀ x y w', VerOk w' x → VerOk w' y → Calls Tryz.prog go (#[x.val, y.val] ++ capo) w' fun e w'' => e = .returned (.int .i64 (cf x y)) ∧ Below w'.heap.size w' w'') :
    Calls Tryz.prog 114 #[.slice vs.A vs.q vs.c, .func (.func gt) #[] capt, .func (.func go) #[] capo] w fun e w' => e = .returned (.tuple #[((bestF p (fun x y => decide (cf x y < 0)) vs.l none).getD ver0).val, .bool (bestF p (fun x y => decide (cf x y < 0)) vs.l none).isSome]) ∧ Below w.heap.size w w' := by
  have ht := hv.ok.t
  have hq := hv.q
  refine enter_args (args := [.slice vs.A vs.q vs.c, .func (.func gt) #[] capt, .func (.func go) #[] capo]) (F := _) Tryz.func114 rfl Tryz.ntmps114 rfl rfl ?_
  intro Rb hRb hRn
  refine T_seq ?_
  refine T_region ?_
  refine S_alloc 6 6 rfl rfl rfl rfl z42 ?_
  intro b6
  refine S_ 7 rfl rfl rfl _ (y_assign rfl rfl) ?_
  refine S_go (fun _ _ h => h) ?_
  refine T_seq ?_
  refine T_region ?_
  refine S_alloc 8 8 rfl rfl rfl rfl z42 ?_
  intro b8
  refine S_go (fun _ _ h => h) ?_
  refine T_seq ?_
  refine T_region ?_
  refine S_ 9 rfl rfl rfl _ (y_assign rfl rfl) ?_
  refine S_go (fun _ _ h => h) ?_
  refine T_seq ?_
  refine T_seq ?_
  refine T_region ?_
  refine S_ 12 rfl rfl rfl _ (y_move rfl rfl) ?_
  refine S_ 13 rfl rfl rfl _ (y_len_slice rfl rfl Tryz.underlying146) ?_
  refine S_ 14 rfl rfl rfl _ (y_move rfl rfl) ?_
  refine S_go (fun _ _ h => h) ?_
  refine T_block ?_
  refine T_loopK2 (kf := [(9, 9), (11, 11), (14, 33)]) (kl := [(8, 9), (11, 11), (14, 33)]) (fun (i : Nat) (o : Option SVer) => [(14, true, .int .i64 (i : Int)), (9, true, .bool o.isSome)]) (fun (i : Nat) (o : Option SVer) => [(8, .blk b8 (IsBox (o.getD ver0).enc 42))]) (fun (i : Nat) (o : Option SVer) => i ≤ vs.q ∧ bestF p (fun x y => decide (cf x y < 0)) (vs.l.drop i) o = bestF p (fun x y => decide (cf x y < 0)) vs.l none ∧ ∀ y, o = some y → y ∈ vs.l) (fun (i : Nat) (o : Option SVer) => vs.q - i) 0 none (by repeat (first | exact kf_nil | (apply kf_in; focus rfl) | (apply kf_out; focus rfl))) (by repeat (first | exact kl_nil | exact kl_rest (by assumption) rfl | (apply kl_in; focus rfl) | (apply kl_out; focus rfl))) ?_ ?_ ?_ ?_
  · exact ⟨by omega, rfl, fun y h => by cases h⟩
  · exact ⟨rfl, rfl, trivial⟩
  · exact ⟨rfl, trivial⟩
  rintro i o ⟨hp1, hp2, hp3⟩
  refine T_seq ?_
  refine T_region ?_
  refine S_ 15 rfl rfl rfl _ (y_bin rfl rfl rfl (fun _ => b_lss)) ?_
  refine S_go (fun _ _ h => h) ?_
  refine T_seq ?_
  refine T_cond rfl (fun h15 => ?_) (fun h15 => ?_)
  · try simp only [decide_eq_true_eq, decide_eq_false_iff_not, Bool.or_eq_true, Bool.or_eq_false_iff, Bool.and_eq_true, Bool.and_eq_false_iff, Bool.not_eq_true', Bool.not_eq_false', Bool.not_eq_true, Bool.not_eq_false, Bool.not_true, Bool.not_false, Int.not_lt, Int.not_le, not_or, not_and, Classical.not_not] at h15
    obtain ⟨x, hx1, hx2⟩ := ht.at (i := i) (by omega)
    have hog : ∀ w1, Below w.heap.size w w1 → VerOk w1 (o.getD ver0) := fun w1 hb => by
      cases ho : o with
      | none => exact ver0_ok w1
      | some y => exact (hv.n y (hp3 y ho)).below hb
    refine T_skip_go (fun _ _ h => h) ?_
    refine T_seq ?_
    refine T_block ?_
    refine T_seq ?_
    refine T_region ?_
    refine S_ 16 rfl rfl rfl _ (y_indexAddr rfl rfl rfl Tryz.underlying146 sz42 (fun hg => ht.isSome (by omega)) (fun _ => by omega)) ?_
    refine S_ 17 rfl rfl rfl _ (y_loadT rfl rfl ht (fun _ => rfl) (fun _ => hx1) Tryz.underlying42 rfl sz42) ?_
    refine S_alloc 11 11 rfl rfl rfl rfl z42 ?_
    intro b11
    refine S_store 11 rfl rfl rfl rfl rfl rfl sz42 rfl rfl ?_
    refine S_go (fun _ _ h => h) ?_
    refine T_seq ?_
    refine T_region ?_
    refine S_ 18 rfl rfl rfl _ (y_move rfl rfl) ?_
    refine S_ 19 rfl rfl rfl _ (y_loadA 11 rfl rfl rfl Tryz.underlying42 rfl sz42) ?_
    refine S_ 20 rfl rfl rfl _ (y_call rfl rfl rfl hcf1 (fun _ w hM => hA x (mem_at hx1) w hM.below)) ?_
    refine S_ 21 rfl rfl rfl _ (y_move rfl rfl) ?_
    refine Sg_ 22 rfl rfl rfl rfl rfl rfl _ (y_move rfl rfl) ?_
    refine Sg_ 23 rfl rfl rfl rfl rfl rfl _ (y_not rfl rfl) ?_
    refine Sg_ 24 rfl rfl rfl rfl rfl rfl _ (y_move rfl rfl) ?_
    refine Sg_ 25 rfl rfl rfl rfl rfl rfl _ (y_move rfl rfl) ?_
    refine Sg_ 26 rfl rfl rfl rfl rfl rfl _ (y_loadA 11 rfl rfl rfl Tryz.underlying42 rfl sz42) ?_
    refine Sg_ 27 rfl rfl rfl rfl rfl rfl _ (y_loadA 8 rfl rfl rfl Tryz.underlying42 rfl sz42) ?_
    refine Sg_ 28 rfl rfl rfl rfl rfl rfl _ (y_call rfl rfl rfl hcf2 (fun _ w hM => hB x (o.getD ver0) w ((hv.n x (mem_at hx1)).below hM.below) (hog w hM.below))) ?_
    refine Sg_ 29 rfl rfl rfl rfl rfl rfl _ (y_bin rfl rfl rfl (fun _ => b_lss)) ?_
    refine Sg_ 30 rfl rfl rfl rfl rfl rfl _ (y_or rfl rfl rfl) ?_
    refine S_ 31 rfl rfl rfl _ (y_as (v' := .bool (p x && beats (fun x y => decide (cf x y < 0)) x o)) (by rw [← beats_eq cf ver0]) (y_and rfl rfl rfl)) ?_
    refine S_go (fun _ _ h => h) ?_
    refine T_cond rfl (fun h31 => ?_) (fun h31 => ?_)
    · skip
      refine T_region ?_
      refine S_ 32 rfl rfl rfl _ (y_loadA 11 rfl rfl rfl Tryz.underlying42 rfl sz42) ?_
      refine S_store 8 rfl rfl rfl rfl rfl rfl sz42 rfl rfl ?_
      refine S_ 9 rfl rfl rfl _ (y_assign rfl rfl) ?_
      refine S_go (fun _ _ h => h) ?_
      refine T_region ?_
      refine S_ 33 rfl rfl rfl _ (y_bin rfl rfl rfl (fun hg => b_add (by omega))) ?_
      refine S_ 14 rfl rfl rfl _ (y_move rfl rfl) ?_
      refine S_nil (nextK2 (kf := [(9, 9), (11, 11), (14, 33)]) (kl := [(8, 9), (11, 11), (14, 33)]) (i + 1) (some x) (by repeat (first | exact kf_nil | (apply kf_in; focus rfl) | (apply kf_out; focus rfl))) (by repeat (first | exact kl_nil | exact kl_rest (by assumption) rfl | (apply kl_in; focus rfl) | (apply kl_out; focus rfl))) ?_ ?_ ?_ ?_)
      · omega
      · exact ⟨by omega, by rw [← hp2, hx2, bestF, if_pos h31], fun y h => by rw [← Option.some.inj h]; exact mem_at hx1⟩
      · exact ⟨rfl, rfl, trivial⟩
      · exact ⟨rfl, trivial⟩
    · skip
      refine T_skip_go (fun _ _ h => h) ?_
      refine T_region ?_
      refine S_ 33 rfl rfl rfl _ (y_bin rfl rfl rfl (fun hg => b_add (by omega))) ?_
      refine S_ 14 rfl rfl rfl _ (y_move rfl rfl) ?_
      refine S_nil (nextK2 (kf := [(9, 9), (11, 11), (14, 33)]) (kl := [(8, 9), (11, 11), (14, 33)]) (i + 1) o (by repeat (first | exact kf_nil | (apply kf_in; focus rfl) | (apply kf_out; focus rfl))) (by repeat (first | exact kl_nil | exact kl_rest (by assumption) rfl | (apply kl_in; focus rfl) | (apply kl_out; focus rfl))) ?_ ?_ ?_ ?_)
      · omega
      · exact ⟨by omega, by rw [← hp2, hx2, bestF, if_neg (by rw [h31]; simp)], hp3⟩
      · exact ⟨rfl, rfl, trivial⟩
      · exact ⟨rfl, trivial⟩
  · try simp only [decide_eq_true_eq, decide_eq_false_iff_not, Bool.or_eq_true, Bool.or_eq_false_iff, Bool.and_eq_true, Bool.and_eq_false_iff, Bool.not_eq_true', Bool.not_eq_false', Bool.not_eq_true, Bool.not_eq_false, Bool.not_true, Bool.not_false, Int.not_lt, Int.not_le, not_or, not_and, Classical.not_not] at h15
    refine T_exit_go (fun _ _ h => h) ?_
    refine T_seq ?_
    refine T_region ?_
    refine S_ 34 rfl rfl rfl _ (y_loadA 8 rfl rfl rfl Tryz.underlying42 rfl sz42) ?_
    refine S_ 35 rfl rfl rfl _ (y_move rfl rfl) ?_
    refine S_store 6 rfl rfl rfl rfl rfl rfl sz42 rfl rfl ?_
    refine S_ 7 rfl rfl rfl _ (y_assign rfl rfl) ?_
    refine S_go (fun _ _ h => h) ?_
    refine T_ret (fun a w hF hM => hRb a w (post_cell 6 rfl rfl rfl rfl Tryz.underlying42 rfl (by exact sz42) (fun w hM => ?_) a w hF hM))
    have hfin : bestF p (fun x y => decide (cf x y < 0)) vs.l none = o := by rw [← hp2, ht.end (by omega)]; rfl
    rw [hfin]
    exact ⟨rfl, hM.below⟩
theorem greatest1_any (x y : SVer) (w : World) (hx : VerOk w x) (hy : VerOk w y) : Calls Tryz.prog 210 #[x.val, y.val] w fun e w' => e = .returned (.int .i64 (cmpV y.says x.says)) ∧ Below w.heap.size w w' := by
  refine enter_args (args := [.agg #[str x.p, .int .i64 x.a, .int .i64 x.b, .int .i64 x.c, .slice x.pre.A x.pre.q x.pre.c], .agg #[str y.p, .int .i64 y.a, .int .i64 y.b, .int .i64 y.c, .slice y.pre.A y.pre.q y.pre.c]]) (F := _) Tryz.func210 rfl Tryz.ntmps210 rfl rfl ?_
  intro Rb hRb hRn
  refine T_seq ?_
  refine T_region ?_
  refine S_box 2 2 rfl rfl rfl rfl rfl ?_
  intro b2
  refine S_box 3 3 rfl rfl rfl rfl rfl ?_
  intro b3
  refine S_ 4 rfl rfl rfl _ (y_assign rfl rfl) ?_
  refine S_go (fun _ _ h => h) ?_
  refine T_seq ?_
  refine T_region ?_
  refine S_ 5 rfl rfl rfl _ (y_loadA 3 rfl rfl rfl Tryz.underlying42 rfl sz42) ?_
  refine S_ 6 rfl rfl rfl _ (y_loadA 2 rfl rfl rfl Tryz.underlying42 rfl sz42) ?_
  refine S_ 7 rfl rfl rfl _ (y_call rfl rfl rfl cf22 (fun _ w hM => Compare_any y x w (hy.below hM.below) (hx.below hM.below))) ?_
  refine S_ 4 rfl rfl rfl _ (y_assign rfl rfl) ?_
  refine S_go (fun _ _ h => h) ?_
  refine T_ret (fun a w hF hM => hRb a w (post1 rfl rfl (fun w hM => ?_) a w hF hM))
  exact ⟨rfl, hM.below⟩
theorem greatest_any (vs : Sl SVer) (gt : FuncId) (capt : Array Value) (p : SVer → Bool) (w : World) (hv : VersR w vs) (hcf1 : ∀ args w, (callFunc gt args).run Tryz.prog w = .ok (.enter gt args) w)
    (hA : ∀ x ∈ vs.l, ∀ w', Below w.heap.size w w' → Calls Tryz.prog gt (#[x.val] ++ capt) w' fun e w'' => e = .returned (.bool (p x)) ∧ Below w'.heap.size w' w'') :
    Calls Tryz.prog 116 #[.slice vs.A vs.q vs.c, .func (.func gt) #[] capt] w fun e w' => e = .returned (.tuple #[((bestF p (fun x y => decide (cmpV y.says x.says < 0)) vs.l none).getD ver0).val, .bool (bestF p (fun x y => decide (cmpV y.says x.says < 0)) vs.l none).isSome]) ∧ Below w.heap.size w w' := by
  refine enter_args (args := [.slice vs.A vs.q vs.c, .func (.func gt) #[] capt]) (F := _) Tryz.func116 rfl Tryz.ntmps116 rfl rfl ?_
  intro Rb hRb hRn
  refine T_seq ?_
  refine T_region ?_
  refine S_alloc 4 4 rfl rfl rfl rfl z42 ?_
  intro b4
  refine S_ 5 rfl rfl rfl _ (y_assign rfl rfl) ?_
  refine S_go (fun _ _ h => h) ?_
  refine T_seq ?_
  refine T_region ?_
  refine S_ 6 rfl rfl rfl _ (y_move rfl rfl) ?_
  refine S_ 7 rfl rfl rfl _ (y_move rfl rfl) ?_
  refine S_ 8 rfl rfl rfl _ (y_call rfl rfl rfl cf114 (fun _ w hM => best_any vs gt 210 capt #[] p (fun x y => cmpV y.says x.says) w (hv.below hM.below) hcf1 cf210 (fun x hx w1 hb => hA x hx w1 (hM.below.trans (hb.mono hM.below.size))) (fun x y w1 hx hy => greatest1_any x y w1 hx hy))) ?_
  refine S_ 9 rfl rfl rfl _ (y_extract rfl rfl rfl) ?_
  refine S_ 10 rfl rfl rfl _ (y_extract rfl rfl rfl) ?_
  refine S_store 4 rfl rfl rfl rfl rfl rfl sz42 rfl rfl ?_
  refine S_ 5 rfl rfl rfl _ (y_assign rfl rfl) ?_
  refine S_go (fun _ _ h => h) ?_
  refine T_ret (fun a w hF hM => hRb a w (post_cell 4 rfl rfl rfl rfl Tryz.underlying42 rfl (by exact sz42) (fun w hM => ?_) a w hF hM))
  exact ⟨rfl, hM.below⟩
/-- what is best of the versions is what is best of the texts -/
theorem best_texts {S : List (List UInt8)} {l : List SVer} (h : l.map SVer.says = S.map verV) (p : PVer → Bool) (lt : PVer → PVer → Bool) :
    (bestF (fun x : SVer => p x.says) (fun x y => lt x.says y.says) l none).map SVer.says = (bestF (fun t => p (verV t)) (fun x y => lt (verV x) (verV y)) S none).map verV := by
  rw [← bestF_map SVer.says p lt l none, ← bestF_map verV p lt S none, h]; rfl
end Go.Proofs.YtpmlgnbbkpplhaaGreatDoor
end
section
namespace Go.Proofs.YtpmlgnbbkpplhaaGreatDoor
set_option linter.unusedSimpArgs false
set_option linter.unusedVariables false
set_option maxRecDepth 20000
open Go.RowKit Go.Eng
end Go.Proofs.YtpmlgnbbkpplhaaGreatDoor
end
section
namespace Go.Proofs.YtpmlgnbbkpplhaaGreatDoor
set_option linter.unusedSimpArgs false
set_option linter.unusedVariables false
set_option maxRecDepth 20000
open Go.RowKit Go.Eng
theorem rel_nilX : relOk [] = false := by kernel_rfl
theorem rel_ne {s : List UInt8} (h : relOk s = true) : s ≠ [] := fun e => by rw [e, (show relOk [] = false from rel_nilX)] at h; cases h
theorem gt_lt (x y : PVer) : decide (0 < cmpV x y) = decide (cmpV y x < 0) := by
  have := cmp3_V.anti x y
  by_cases h : 0 < cmpV x y
  · rw [decide_eq_true h, decide_eq_true (by omega)]
  · rw [decide_eq_false h, decide_eq_false (by omega)]
theorem parE_g {s : List UInt8} (h : relOk s = true) : parE s = (verV s, 0) := if_pos h
end Go.Proofs.YtpmlgnbbkpplhaaGreatDoor
end
