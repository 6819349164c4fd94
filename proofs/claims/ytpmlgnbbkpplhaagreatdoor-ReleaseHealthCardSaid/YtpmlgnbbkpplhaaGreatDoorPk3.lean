/- Part 3, merged by a program. The reference's VersionOf, VersionText, VersionsCompare, SameVersion, walked. Conditions: those of each theorem. strings.Builder: what its methods do to a builder that the caller has made. Conditions: those of each theorem. parseAll, ContainsFunc at versions, and what the reference says of a list of releases, walked. Conditions: those of each theorem. States of groups: CheckState and StateFault, comesBack and after, resolvedAgain and SeenState, walked. Conditions: those of each theorem. Commits: CheckCommits and the reference's CommitsFault, walked. Conditions: those of each theorem. Lists of releases sorted, made compact, and the best one of them: plain lists. No program in sight. Versions and texts sorted, texts made compact: contracts over rows of ours. Conditions: those of each theorem. Sorted, Latest, After, and the reference's SortedReleases, LatestOf, AfterOf, walked. Conditions: those of each theorem. The best of releases: best, greatest, Latest, After, and the reference's LatestOf, AfterOf, walked. Conditions: those of each theorem. VersionText, and the law ReleaseVersions, walked. Conditions: those of each theorem. LatestOf and AfterOf, and the law ReleaseLists, walked. Conditions: those of each theorem. Suspects: ends, points, the order of suspects, the files of own frames, walked. Conditions: those of each theorem. -/
import Derived.Test.YtpmlgnbbkpplhaaGreatDoorBld
import Derived.Test.YtpmlgnbbkpplhaaGreatDoorLem
import Derived.Test.YtpmlgnbbkpplhaaGreatDoorMany
import Derived.Test.YtpmlgnbbkpplhaaGreatDoorPost
import Derived.Test.YtpmlgnbbkpplhaaGreatDoorSorta
import Derived.Lib.SlicesCompact
import Derived.Test.YtpmlgnbbkpplhaaGreatDoorSlsf
import Derived.Test.YtpmlgnbbkpplhaaGreatDoorSlst
import Derived.Test.YtpmlgnbbkpplhaaGreatDoorPk2
section
namespace Go.Proofs.YtpmlgnbbkpplhaaGreatDoor
set_option linter.unusedSimpArgs false
set_option linter.unusedVariables false
set_option maxRecDepth 20000
open Go.RowKit Go.Eng
theorem refR_eq (s : List UInt8) : refR s = parE s := by
  unfold parE
  cases h : relOk s with
  | true => rw [if_pos rfl]; exact ref_ok h
  | false => rw [if_neg (by simp)]; exact ref_bad h
theorem projectOk_any (s : List UInt8) (w : World) : Calls Tryz.prog 92 #[str s] w fun e w' => e = .returned (.bool (projOk s)) ∧ Below w.heap.size w w' := by
  refine enter_args (args := [str s]) (F := _) Tryz.func92 rfl Tryz.ntmps92 rfl rfl ?_
  intro Rb hRb hRn
  refine T_seq ?_
  refine T_region ?_
  refine S_ 2 rfl rfl rfl _ (y_assign rfl rfl) ?_
  refine S_go (fun _ _ h => h) ?_
  refine T_seq ?_
  refine T_region ?_
  refine S_ 3 rfl rfl rfl _ (y_move rfl rfl) ?_
  refine S_ 4 rfl rfl rfl _ (y_call rfl rfl rfl cf63 (fun _ w _ => NameOk_any s w)) ?_
  refine S_ 5 rfl rfl rfl _ (y_move rfl rfl) ?_
  refine Sg_ 6 rfl rfl rfl rfl rfl rfl _ (y_move rfl rfl) ?_
  refine Sg_ 7 rfl rfl rfl rfl rfl rfl _ (y_call rfl rfl rfl cf79 (fun _ w _ => Contains1_any s 46 w)) ?_
  refine Sg_ 8 rfl rfl rfl rfl rfl rfl _ (y_not rfl rfl) ?_
  refine S_ 9 rfl rfl rfl _ (y_and rfl rfl rfl) ?_
  refine S_ 2 rfl rfl rfl _ (y_assign rfl rfl) ?_
  refine S_go (fun _ _ h => h) ?_
  refine T_ret (fun a w hF hM => hRb a w (post1 rfl rfl (fun w hM => ?_) a w hF hM))
  exact ⟨rfl, hM.below⟩
theorem partOk_any (s : List UInt8) (hs : s.length ≤ 1000000000) (w : World) : Calls Tryz.prog 94 #[str s] w fun e w' => e = .returned (.bool (partB s)) ∧ Below w.heap.size w w' := by
  refine enter_args (args := [str s]) (F := _) Tryz.func94 rfl Tryz.ntmps94 rfl rfl ?_
  intro Rb hRb hRn
  refine T_seq ?_
  refine T_region ?_
  refine S_ 2 rfl rfl rfl _ (y_assign rfl rfl) ?_
  refine S_go (fun _ _ h => h) ?_
  refine T_seq ?_
  refine T_seq ?_
  refine T_region ?_
  refine S_ 5 rfl rfl rfl _ (y_move rfl rfl) ?_
  refine S_ 6 rfl rfl rfl _ (y_bin rfl rfl rfl (fun _ => b_eqls)) ?_
  refine S_ 7 rfl rfl rfl _ (y_move rfl rfl) ?_
  refine Sg_ 8 rfl rfl rfl rfl rfl rfl _ (y_move rfl rfl) ?_
  refine Sg_ 9 rfl rfl rfl rfl rfl rfl _ (y_call rfl rfl rfl cf84 (fun _ w _ => TrimLet_any s hs w)) ?_
  refine Sg_ 10 rfl rfl rfl rfl rfl rfl _ (y_bin rfl rfl rfl (fun _ => b_neqs)) ?_
  refine S_ 11 rfl rfl rfl _ (y_or rfl rfl rfl) ?_
  refine S_go (fun _ _ h => h) ?_
  refine T_cond rfl (fun h11 => ?_) (fun h11 => ?_)
  · skip
    refine T_seq ?_
    refine T_region ?_
    refine S_ 2 rfl rfl rfl _ (y_assign rfl rfl) ?_
    refine S_go (fun _ _ h => h) ?_
    refine T_ret (fun a w hF hM => hRb a w (post1 rfl rfl (fun w hM => ?_) a w hF hM))
    exact ⟨by rw [partB, if_pos h11], hM.below⟩
  · skip
    refine T_skip_go (fun _ _ h => h) ?_
    refine T_seq ?_
    refine T_region ?_
    refine S_ 13 rfl rfl rfl _ (y_move rfl rfl) ?_
    refine S_ 14 rfl rfl rfl _ (y_call rfl rfl rfl cf195 (fun _ w _ => whole_any s 6 (by decide) hs w)) ?_
    refine S_ 12 rfl rfl rfl _ (y_move rfl rfl) ?_
    refine S_ 15 rfl rfl rfl _ (y_extract rfl rfl rfl) ?_
    refine S_ 16 rfl rfl rfl _ (y_extract rfl rfl rfl) ?_
    refine S_ 3 rfl rfl rfl _ (y_assign rfl rfl) ?_
    refine S_ 4 rfl rfl rfl _ (y_assign rfl rfl) ?_
    refine S_go (fun _ _ h => h) ?_
    refine T_seq ?_
    refine T_region ?_
    refine S_ 17 rfl rfl rfl _ (y_move rfl rfl) ?_
    refine S_ 18 rfl rfl rfl _ (y_move rfl rfl) ?_
    refine Sg_ 19 rfl rfl rfl rfl rfl rfl _ (y_move rfl rfl) ?_
    refine Sg_ 20 rfl rfl rfl rfl rfl rfl _ (y_call rfl rfl rfl cf84 (fun _ w _ => TrimDig_any s hs w)) ?_
    refine Sg_ 21 rfl rfl rfl rfl rfl rfl _ (y_bin rfl rfl rfl (fun _ => b_neqs)) ?_
    refine S_ 22 rfl rfl rfl _ (y_or rfl rfl rfl) ?_
    refine S_ 2 rfl rfl rfl _ (y_assign rfl rfl) ?_
    refine S_go (fun _ _ h => h) ?_
    refine T_ret (fun a w hF hM => hRb a w (post1 rfl rfl (fun w hM => ?_) a w hF hM))
    exact ⟨by rw [partB, if_neg (by rw [h11]; exact Bool.false_ne_true)], hM.below⟩
theorem VersionOf1_any (s : List UInt8) (hs : s.length ≤ 1000000000) (w : World) : Calls Tryz.prog 107 #[str s] w fun e w' => e = .returned (.bool (!isPreB s)) ∧ Below w.heap.size w w' := by
  rw [preB_eq]
  refine enter_args (args := [str s]) (F := _) Tryz.func107 rfl Tryz.ntmps107 rfl rfl ?_
  intro Rb hRb hRn
  refine T_seq ?_
  refine T_region ?_
  refine S_ 2 rfl rfl rfl _ (y_assign rfl rfl) ?_
  refine S_go (fun _ _ h => h) ?_
  refine T_seq ?_
  refine T_region ?_
  refine S_ 3 rfl rfl rfl _ (y_move rfl rfl) ?_
  refine S_ 4 rfl rfl rfl _ (y_call rfl rfl rfl cf94 (fun _ w _ => partOk_any s hs w)) ?_
  refine S_ 5 rfl rfl rfl _ (y_not rfl rfl) ?_
  refine S_ 2 rfl rfl rfl _ (y_assign rfl rfl) ?_
  refine S_go (fun _ _ h => h) ?_
  refine T_ret (fun a w hF hM => hRb a w (post1 rfl rfl (fun w hM => ?_) a w hF hM))
  exact ⟨rfl, hM.below⟩
def whs (k : Nat) (l : List (List UInt8)) : List Int := if (l.all fun w => plainOk w k) = true then l.map fun w => ((plainJ w k : Nat) : Int) else []
theorem wholes_any (A : Option Addr) (q c k : Nat) (l : List (List UInt8)) (hk : k ≤ 18) (w : World) (hl : SlT strE 1 w A q l) (hq : q ≤ 1000000) (hn : ∀ s ∈ l, s.length ≤ 1000000000) :
    Calls Tryz.prog 106 #[.slice A q c, .int .i64 (k : Int)] w fun e w' => ∃ A' c', e = .returned (.tuple #[.slice A' (whs k l).length c', .bool (l.all fun w => plainOk w k)]) ∧ w'.ownsRow w.heap.size 3 1 (.slice A' (whs k l).length c') (whs k l).length ((whs k l).flatMap iE) ∧ Below w.heap.size w w' := by
  have hlen := hl.len
  refine enter_args (args := [.slice A q c, .int .i64 (k : Int)]) (F := _) Tryz.func106 rfl Tryz.ntmps106 rfl rfl ?_
  intro Rb hRb hRn
  refine T_seq ?_
  refine T_region ?_
  refine S_nilSlice 4 (e := 3) (size := 1) ?_
  refine S_ 4 rfl rfl rfl _ (y_assign rfl rfl) ?_
  refine S_ 5 rfl rfl rfl _ (y_assign rfl rfl) ?_
  refine S_go (fun _ _ h => h) ?_
  refine T_seq ?_
  refine T_region ?_
  refine S_nilSlice 6 (e := 3) (size := 1) ?_
  refine S_ 6 rfl rfl rfl _ (y_assign rfl rfl) ?_
  refine S_go (fun _ _ h => h) ?_
  refine T_seq ?_
  refine T_seq ?_
  refine T_region ?_
  refine S_ 11 rfl rfl rfl _ (y_move rfl rfl) ?_
  refine S_ 12 rfl rfl rfl _ (y_len_slice rfl rfl Tryz.underlying40) ?_
  refine S_ 13 rfl rfl rfl _ (y_move rfl rfl) ?_
  refine S_go (fun _ _ h => h) ?_
  refine T_block ?_
  refine T_loopK4 (kf := [(4, 6), (8, 10), (13, 29)]) (kl := [(4, 6), (8, 10), (13, 29)]) (fun (i : Nat) (ns : List Int) (A6 : Option Addr) (c6 : Nat) => [(13, true, .int .i64 (i : Int)), (6, true, .slice A6 i c6)]) (fun (i : Nat) (ns : List Int) (A6 : Option Addr) (c6 : Nat) => [(6, .own 3 1 (.slice A6 i c6) i (ns.flatMap iE))]) (fun (i : Nat) (ns : List Int) (A6 : Option Addr) (c6 : Nat) => i ≤ q ∧ ns.length = i ∧ ns ++ (l.drop i).map (fun w => ((plainJ w k : Nat) : Int)) = l.map (fun w => ((plainJ w k : Nat) : Int)) ∧ (l.all fun w => plainOk w k) = ((l.drop i).all fun w => plainOk w k)) (fun (i : Nat) (ns : List Int) (A6 : Option Addr) (c6 : Nat) => q - i) 0 [] none 0 (by repeat (first | exact kf_nil | (apply kf_in; focus rfl) | (apply kf_out; focus rfl))) (by repeat (first | exact kl_nil | exact kl_rest (by assumption) rfl | (apply kl_in; focus rfl) | (apply kl_out; focus rfl))) ?_ ?_ ?_ ?_
  · exact ⟨by omega, rfl, rfl, rfl⟩
  · exact ⟨rfl, rfl, trivial⟩
  · exact ⟨rfl, trivial⟩
  rintro i ns A6 c6 ⟨hp1, hp2, hp3, hp4⟩
  refine T_seq ?_
  refine T_region ?_
  refine S_ 14 rfl rfl rfl _ (y_bin rfl rfl rfl (fun _ => b_lss)) ?_
  refine S_go (fun _ _ h => h) ?_
  refine T_seq ?_
  refine T_cond rfl (fun h14 => ?_) (fun h14 => ?_)
  · try simp only [decide_eq_true_eq, decide_eq_false_iff_not, Bool.or_eq_true, Bool.or_eq_false_iff, Bool.and_eq_true, Bool.and_eq_false_iff, Bool.not_eq_true', Bool.not_eq_false', Bool.not_eq_true, Bool.not_eq_false, Bool.not_true, Bool.not_false, Int.not_lt, Int.not_le, not_or, not_and, Classical.not_not] at h14
    obtain ⟨x, hx1, hx2⟩ := hl.at (i := i) (by omega)
    refine T_skip_go (fun _ _ h => h) ?_
    refine T_seq ?_
    refine T_block ?_
    refine T_seq ?_
    refine T_region ?_
    refine S_ 15 rfl rfl rfl _ (y_indexAddr rfl rfl rfl Tryz.underlying40 sz9 (fun hg => hl.isSome (by omega)) (fun _ => by omega)) ?_
    refine S_ 16 rfl rfl rfl _ (y_loadT1 (val := (fun l : List UInt8 => str l)) rfl rfl hl (fun _ => hx1) Tryz.underlying9 rfl) ?_
    refine S_ 8 rfl rfl rfl _ (y_assign rfl rfl) ?_
    refine S_go (fun _ _ h => h) ?_
    refine T_seq ?_
    refine T_region ?_
    refine S_ 18 rfl rfl rfl _ (y_move rfl rfl) ?_
    refine S_ 19 rfl rfl rfl _ (y_move rfl rfl) ?_
    refine S_ 20 rfl rfl rfl _ (y_call rfl rfl rfl cf195 (fun _ w _ => whole_any x k hk (hn x (mem_at hx1)) w)) ?_
    refine S_ 17 rfl rfl rfl _ (y_move rfl rfl) ?_
    refine S_ 21 rfl rfl rfl _ (y_extract rfl rfl rfl) ?_
    refine S_ 22 rfl rfl rfl _ (y_extract rfl rfl rfl) ?_
    refine S_ 9 rfl rfl rfl _ (y_assign rfl rfl) ?_
    refine S_ 10 rfl rfl rfl _ (y_assign rfl rfl) ?_
    refine S_go (fun _ _ h => h) ?_
    refine T_seq ?_
    refine T_seq ?_
    refine T_region ?_
    refine S_ 23 rfl rfl rfl _ (y_move rfl rfl) ?_
    refine S_ 24 rfl rfl rfl _ (y_not rfl rfl) ?_
    refine S_go (fun _ _ h => h) ?_
    refine T_cond rfl (fun h24 => ?_) (fun h24 => ?_)
    · skip
      have h24 : plainOk x k = false := by simpa using h24
      refine T_seq ?_
      refine T_region ?_
      refine S_nilSlice 4 (e := 3) (size := 1) ?_
      refine S_ 4 rfl rfl rfl _ (y_assign rfl rfl) ?_
      refine S_ 5 rfl rfl rfl _ (y_assign rfl rfl) ?_
      refine S_go (fun _ _ h => h) ?_
      refine T_ret (fun a w hF hM => hRb a w (post2 rfl rfl rfl (fun w hM => ?_) a w hF hM))
      have ha : (l.all fun w => plainOk w k) = false := by rw [hp4, hx2, List.all_cons, h24, Bool.false_and]
      have hw : whs k l = [] := if_neg (by rw [ha]; exact Bool.false_ne_true)
      rw [ha, hw]
      exact ⟨none, 0, rfl, World.ownsRow_nil _ _ _ _, hM.below⟩
    · skip
      have h24 : plainOk x k = true := by simpa using h24
      refine T_skip_go (fun _ _ h => h) ?_
      refine T_region ?_
      refine S_ 25 rfl rfl rfl _ (y_move rfl rfl) ?_
      refine S_ 26 rfl rfl rfl _ (y_move rfl rfl) ?_
      refine S_buildSlice 27 27 rfl rfl rfl rfl rfl Tryz.underlying142 inf3 rfl (by decide) (by decide) rfl rfl (by decide) rfl (_) rfl ?_
      intro b27
      obtain ⟨i28, hi28, hz28, hs28, hy28⟩ := info_parts inf3
      refine S_append 28 6 27 rfl rfl rfl rfl rfl rfl rfl rfl Tryz.underlying142 hi28 hz28 hs28 hy28 rfl (by decide) (by decide) rfl ?_ ?_ (i + 1) ((ns ++ [((plainJ x k : Nat) : Int)]).flatMap iE) ?_ ?_ ?_
      · (simp only [maxLen]; omega)
      · omega
      · rfl
      · simp [List.flatMap_append]; rfl
      intro A28 c28
      refine S_ 6 rfl rfl rfl _ (y_assign rfl rfl) ?_
      refine S_go (fun _ _ h => h) ?_
      refine T_region ?_
      refine S_ 29 rfl rfl rfl _ (y_bin rfl rfl rfl (fun hg => b_add (by omega))) ?_
      refine S_ 13 rfl rfl rfl _ (y_move rfl rfl) ?_
      refine S_nil (nextK4 (kf := [(4, 6), (8, 10), (13, 29)]) (kl := [(4, 6), (8, 10), (13, 29)]) (i + 1) (ns ++ [((plainJ x k : Nat) : Int)]) A28 c28 (by repeat (first | exact kf_nil | (apply kf_in; focus rfl) | (apply kf_out; focus rfl))) (by repeat (first | exact kl_nil | exact kl_rest (by assumption) rfl | (apply kl_in; focus rfl) | (apply kl_out; focus rfl))) ?_ ?_ ?_ ?_)
      · omega
      · exact ⟨by omega, by rw [List.length_append, hp2]; rfl, by rw [← hp3, hx2, List.map_cons, List.append_assoc]; rfl, by rw [hp4, hx2, List.all_cons, h24, Bool.true_and]⟩
      · exact ⟨rfl, rfl, trivial⟩
      · exact ⟨rfl, trivial⟩
  · try simp only [decide_eq_true_eq, decide_eq_false_iff_not, Bool.or_eq_true, Bool.or_eq_false_iff, Bool.and_eq_true, Bool.and_eq_false_iff, Bool.not_eq_true', Bool.not_eq_false', Bool.not_eq_true, Bool.not_eq_false, Bool.not_true, Bool.not_false, Int.not_lt, Int.not_le, not_or, not_and, Classical.not_not] at h14
    refine T_exit_go (fun _ _ h => h) ?_
    refine T_seq ?_
    refine T_region ?_
    refine S_ 30 rfl rfl rfl _ (y_move rfl rfl) ?_
    refine S_ 4 rfl rfl rfl _ (y_assign rfl rfl) ?_
    refine S_ 5 rfl rfl rfl _ (y_assign rfl rfl) ?_
    refine S_go (fun _ _ h => h) ?_
    refine T_ret (fun a w hF hM => hRb a w (post2 rfl rfl rfl (fun w hM => ?_) a w hF hM))
    have he := hl.end (i := i) (by omega)
    rw [he] at hp3 hp4
    have ha : (l.all fun w => plainOk w k) = true := hp4
    have hw : whs k l = ns := by rw [whs, if_pos ha, ← hp3]; simp
    rw [ha, hw, hp2]
    exact ⟨A6, c6, rfl, hM.sat 6 _ rfl, hM.below⟩
def refBad (s : List UInt8) : Bool := !wholesOk (wdS s) || !decide (((wdS s).length : Int) = 3) || !projOk (prS s)
theorem whs_map {l : List (List UInt8)} (h : wholesOk l = true) : whs 6 l = l.map numI := by
  have h1 := wholes_iff.1 h
  rw [whs, if_pos (show (l.all fun w => plainOk w 6) = true from h)]
  refine List.map_congr_left fun w hw => ?_
  have h2 : plainOk w 6 = true := by rw [← numOk_plain]; exact h1 w hw
  rw [plainJ, if_pos h2, numI, if_pos (h1 w hw)]
theorem refBad_eq (s : List UInt8) : (!wholesOk (wdS s) || !decide (((whs 6 (wdS s)).length : Int) = 3) || !projOk (prS s)) = refBad s := by
  unfold refBad
  cases h : wholesOk (wdS s) with
  | false => simp
  | true => rw [whs_map h, List.length_map]
set_option maxHeartbeats 1600000 in
theorem VersionOf_any (s : List UInt8) (w : World) :
    Calls Tryz.prog 25 #[str s] w fun e w' => ∃ A c, e = .returned (.tuple #[pvV (parE s).1 A c, .int .i64 (parE s).2]) ∧ w'.ownsRow w.heap.size 9 1 (.slice A (parE s).1.pre.length c) (parE s).1.pre.length ((parE s).1.pre.flatMap strE) ∧ Below w.heap.size w w' := by
  rw [← refR_eq]
  have hge := Lib.indexByte_ge s 46
  refine enter_args (args := [str s]) (F := _) Tryz.func25 rfl Tryz.ntmps25 rfl rfl ?_
  intro Rb hRb hRn
  refine T_seq ?_
  refine T_region ?_
  refine S_alloc 2 2 rfl rfl rfl rfl z42 ?_
  intro b2
  refine S_ 3 rfl rfl rfl _ (y_assign rfl rfl) ?_
  refine S_go (fun _ _ h => h) ?_
  refine T_seq ?_
  refine T_seq ?_
  refine T_region ?_
  refine S_ 12 rfl rfl rfl _ (y_move rfl rfl) ?_
  refine S_ 13 rfl rfl rfl _ (y_call rfl rfl rfl cf63 (fun _ w _ => NameOk_any s w)) ?_
  refine S_ 14 rfl rfl rfl _ (y_not rfl rfl) ?_
  refine S_go (fun _ _ h => h) ?_
  refine T_cond rfl (fun h14 => ?_) (fun h14 => ?_)
  · skip
    have hr : refR s = (pver0, 8) := by rw [refR, if_pos (by simpa using h14)]
    refine T_seq ?_
    refine T_region ?_
    refine S_ 15 rfl rfl rfl _ (y_loadA 2 rfl rfl rfl Tryz.underlying42 rfl sz42) ?_
    refine S_store 2 rfl rfl rfl rfl rfl rfl sz42 rfl rfl ?_
    refine S_ 3 rfl rfl rfl _ (y_assign rfl rfl) ?_
    refine S_go (fun _ _ h => h) ?_
    refine T_ret (fun a w hF hM => hRb a w (post_cell 2 rfl rfl rfl rfl Tryz.underlying42 rfl (by exact sz42) (fun w hM => ?_) a w hF hM))
    rw [hr]
    exact ⟨none, 0, rfl, World.ownsRow_nil _ _ _ _, hM.below⟩
  · skip
    have hn : nameOk s = true := by simpa using h14
    have hs40 := (name_iff.1 hn).2.1
    have hpt : ptN s ≤ s.length := by
      unfold ptN
      rcases Int.lt_or_le (Lib.indexByte s 46) 0 with h | h
      · omega
      · obtain ⟨o, ho⟩ : ∃ o : Nat, Lib.indexByte s 46 = o := ⟨(Lib.indexByte s 46).toNat, by omega⟩
        have := (List.getElem?_eq_some_iff.1 (Lib.indexByte_some ho).1).1
        omega
    have hpl : (s.take (ptN s)).length = ptN s := by rw [List.length_take]; omega
    have hlb : lnI s < s.length ∨ lnI s = -1 := by
      rcases last_spec (s.take (ptN s)) 45 (s.take (ptN s)).length with ⟨h1, _⟩ | ⟨k, h1, h2, _⟩
      · exact .inr h1
      · left
        have h1 : lnI s = k := h1
        omega
    refine T_skip_go (fun _ _ h => h) ?_
    refine T_seq ?_
    refine T_region ?_
    refine S_ 16 rfl rfl rfl _ (y_move rfl rfl) ?_
    refine S_ 17 rfl rfl rfl _ (y_call rfl rfl rfl cf102 (fun _ w _ => IndexByte_any s 46 w)) ?_
    refine S_ 4 rfl rfl rfl _ (y_assign rfl rfl) ?_
    refine S_go (fun _ _ h => h) ?_
    refine T_seq ?_
    refine T_region ?_
    refine S_ 18 rfl rfl rfl _ (y_move rfl rfl) ?_
    refine S_ 19 rfl rfl rfl _ (y_move rfl rfl) ?_
    refine S_ 20 rfl rfl rfl _ (y_as (v' := .int .i64 ((ptN s : Nat) : Int)) (by congr 1; unfold ptN; omega) (y_max rfl rfl rfl)) ?_
    refine S_ 21 rfl rfl rfl _ (y_as (v' := str (s.take (ptN s))) (by exact rfl) (y_strTo rfl rfl rfl Tryz.underlying9 (fun _ => by omega))) ?_
    refine S_ 22 rfl rfl rfl _ (y_as (v' := .int .i64 (lnI s)) (by exact rfl) (y_call rfl rfl rfl cf103 (fun _ w _ => SLast_any (s.take (ptN s)) 45 (by rw [List.length_take]; omega) w))) ?_
    refine S_ 5 rfl rfl rfl _ (y_assign rfl rfl) ?_
    refine S_go (fun _ _ h => h) ?_
    refine T_seq ?_
    refine T_seq ?_
    refine T_region ?_
    refine S_ 23 rfl rfl rfl _ (y_move rfl rfl) ?_
    refine S_ 24 rfl rfl rfl _ (y_bin rfl rfl rfl (fun _ => b_lss)) ?_
    refine S_go (fun _ _ h => h) ?_
    refine T_cond rfl (fun h24 => ?_) (fun h24 => ?_)
    · try simp only [decide_eq_true_eq, decide_eq_false_iff_not, Bool.or_eq_true, Bool.or_eq_false_iff, Bool.and_eq_true, Bool.and_eq_false_iff, Bool.not_eq_true', Bool.not_eq_false', Bool.not_eq_true, Bool.not_eq_false, Bool.not_true, Bool.not_false, Int.not_lt, Int.not_le, not_or, not_and, Classical.not_not] at h24
      have hr : refR s = (pver0, 8) := by rw [refR, if_neg (by rw [hn]; simp), if_pos (by omega)]
      refine T_seq ?_
      refine T_region ?_
      refine S_ 25 rfl rfl rfl _ (y_loadA 2 rfl rfl rfl Tryz.underlying42 rfl sz42) ?_
      refine S_store 2 rfl rfl rfl rfl rfl rfl sz42 rfl rfl ?_
      refine S_ 3 rfl rfl rfl _ (y_assign rfl rfl) ?_
      refine S_go (fun _ _ h => h) ?_
      refine T_ret (fun a w hF hM => hRb a w (post_cell 2 rfl rfl rfl rfl Tryz.underlying42 rfl (by exact sz42) (fun w hM => ?_) a w hF hM))
      rw [hr]
      exact ⟨none, 0, rfl, World.ownsRow_nil _ _ _ _, hM.below⟩
    · try simp only [decide_eq_true_eq, decide_eq_false_iff_not, Bool.or_eq_true, Bool.or_eq_false_iff, Bool.and_eq_true, Bool.and_eq_false_iff, Bool.not_eq_true', Bool.not_eq_false', Bool.not_eq_true, Bool.not_eq_false, Bool.not_true, Bool.not_false, Int.not_lt, Int.not_le, not_or, not_and, Classical.not_not] at h24
      obtain ⟨k, hk⟩ : ∃ k : Nat, lnI s = k := ⟨(lnI s).toNat, by omega⟩
      have hrl : (rsS s).length ≤ 40 := by rw [rsS, List.length_drop]; omega
      obtain ⟨hc1, hc2⟩ : (cutC 45 (rsS s)).1.length ≤ 40 ∧ (cutC 45 (rsS s)).2.1.length ≤ 40 := by have := cut_le 45 (rsS s); omega
      have hwl : (wdS s).length ≤ 41 := split_len40 hc1
      have hql : (splitC 46 (cutC 45 (rsS s)).2.1).length ≤ 41 := split_len40 hc2
      refine T_skip_go (fun _ _ h => h) ?_
      refine T_seq ?_
      refine T_region ?_
      refine S_ 26 rfl rfl rfl _ (y_move rfl rfl) ?_
      refine S_ 27 rfl rfl rfl _ (y_move rfl rfl) ?_
      refine S_ 28 rfl rfl rfl _ (y_as (v' := str (prS s)) (by exact rfl) (y_strTo rfl rfl rfl Tryz.underlying9 (fun _ => by omega))) ?_
      refine S_ 29 rfl rfl rfl _ (y_fieldAddr rfl rfl fa42_0) ?_
      refine S_store 2 rfl rfl rfl rfl rfl rfl sz9 rfl rfl ?_
      refine S_go (fun _ _ h => h) ?_
      refine T_seq ?_
      refine T_region ?_
      refine S_ 31 rfl rfl rfl _ (y_move rfl rfl) ?_
      refine S_ 32 rfl rfl rfl _ (y_move rfl rfl) ?_
      refine S_ 33 rfl rfl rfl _ (y_bin rfl rfl rfl (fun hg => b_add (by omega))) ?_
      refine S_ 34 rfl rfl rfl _ (y_as (v' := str (rsS s)) (by rw [rsS, hk]; rfl) (y_strFrom rfl rfl rfl Tryz.underlying9 (fun _ => by omega))) ?_
      refine S_ 35 rfl rfl rfl _ (y_call rfl rfl rfl cf104 (fun _ w _ => Cut1_any (rsS s) 45 w (by omega))) ?_
      refine S_ 30 rfl rfl rfl _ (y_move rfl rfl) ?_
      refine S_ 36 rfl rfl rfl _ (y_extract rfl rfl rfl) ?_
      refine S_ 37 rfl rfl rfl _ (y_extract rfl rfl rfl) ?_
      refine S_ 38 rfl rfl rfl _ (y_extract rfl rfl rfl) ?_
      refine S_ 6 rfl rfl rfl _ (y_assign rfl rfl) ?_
      refine S_ 7 rfl rfl rfl _ (y_assign rfl rfl) ?_
      refine S_ 8 rfl rfl rfl _ (y_assign rfl rfl) ?_
      refine S_go (fun _ _ h => h) ?_
      refine T_seq ?_
      refine T_region ?_
      refine S_ 39 rfl rfl rfl _ (y_move rfl rfl) ?_
      refine S_callOwn 40 40 rfl rfl rfl rfl rfl rfl rfl cf105 (fun A c => .slice A ((wdS s).length) c) 9 1 ((wdS s).length) ((wdS s).flatMap strE) (fun w hM => Split1_any (cutC 45 (rsS s)).1 46 (by omega) w) ?_
      intro A40 c40
      refine S_ 9 rfl rfl rfl _ (y_assign rfl rfl) ?_
      refine S_go (fun _ _ h => h) ?_
      refine T_seq ?_
      refine T_region ?_
      refine S_ 42 rfl rfl rfl _ (y_move rfl rfl) ?_
      refine S_callOwn 43 43 rfl rfl rfl rfl rfl rfl rfl cf106 (fun A c => .tuple #[.slice A (whs 6 (wdS s)).length c, .bool (wholesOk (wdS s))]) 3 1 ((whs 6 (wdS s)).length) ((whs 6 (wdS s)).flatMap iE) (fun w hM => wholes_any _ _ _ 6 (wdS s) (by decide) w (owned_T (enc := strE) hM rfl (i := 40) rfl) (by omega) (fun u hu => by have := spl_le 46 _ u hu; omega)) ?_
      intro A43 c43
      refine S_ 41 rfl rfl rfl _ (y_move rfl rfl) ?_
      refine S_ 44 rfl rfl rfl _ (y_extract rfl rfl rfl) ?_
      refine S_ 45 rfl rfl rfl _ (y_extract rfl rfl rfl) ?_
      refine S_ 10 rfl rfl rfl _ (y_assign rfl rfl) ?_
      refine S_ 11 rfl rfl rfl _ (y_assign rfl rfl) ?_
      refine S_go (fun _ _ h => h) ?_
      refine T_seq ?_
      refine T_seq ?_
      refine T_region ?_
      refine S_ 46 rfl rfl rfl _ (y_move rfl rfl) ?_
      refine S_ 47 rfl rfl rfl _ (y_not rfl rfl) ?_
      refine S_ 48 rfl rfl rfl _ (y_move rfl rfl) ?_
      refine Sg_ 49 rfl rfl rfl rfl rfl rfl _ (y_move rfl rfl) ?_
      refine Sg_ 50 rfl rfl rfl rfl rfl rfl _ (y_len_slice rfl rfl Tryz.underlying142) ?_
      refine Sg_ 51 rfl rfl rfl rfl rfl rfl _ (y_bin rfl rfl rfl (fun _ => b_neq)) ?_
      refine S_ 52 rfl rfl rfl _ (y_or rfl rfl rfl) ?_
      refine S_ 53 rfl rfl rfl _ (y_move rfl rfl) ?_
      refine Sg_ 54 rfl rfl rfl rfl rfl rfl _ (y_fieldAddr rfl rfl fa42_0) ?_
      refine Sg_ 55 rfl rfl rfl rfl rfl rfl _ (y_load 2 rfl rfl rfl rfl Tryz.underlying9 rfl) ?_
      refine Sg_ 56 rfl rfl rfl rfl rfl rfl _ (y_call rfl rfl rfl cf92 (fun _ w _ => projectOk_any (prS s) w)) ?_
      refine Sg_ 57 rfl rfl rfl rfl rfl rfl _ (y_not rfl rfl) ?_
      refine S_ 58 rfl rfl rfl _ (y_as (v' := .bool (refBad s)) (by exact congrArg Value.bool (refBad_eq s)) (y_or rfl rfl rfl)) ?_
      refine S_go (fun _ _ h => h) ?_
      refine T_cond rfl (fun h58 => ?_) (fun h58 => ?_)
      · skip
        have hr : refR s = (pver0, 8) := by rw [refR, if_neg (by rw [hn]; simp), if_neg (by omega), if_pos (show (!wholesOk (wdS s) || !decide (((wdS s).length : Int) = 3) || !projOk (prS s)) = true from h58)]
        refine T_seq ?_
        refine T_region ?_
        refine S_ 59 rfl rfl rfl _ (y_build (zv := .agg #[.string ⟨#[]⟩, .int .i64 0, .int .i64 0, .int .i64 0, .slice none 0 0]) (pl := [(0, 1), (1, 1), (2, 1), (3, 1), (4, 1)]) (out := [.string ⟨#[]⟩, .int .i64 0, .int .i64 0, .int .i64 0, .slice none 0 0]) rfl rfl Tryz.underlying42 z42 (by kernel_rfl) rfl) ?_
        refine S_store 2 rfl rfl rfl rfl rfl rfl sz42 rfl rfl ?_
        refine S_ 3 rfl rfl rfl _ (y_assign rfl rfl) ?_
        refine S_go (fun _ _ h => h) ?_
        refine T_ret (fun a w hF hM => hRb a w (post_cell 2 rfl rfl rfl rfl Tryz.underlying42 rfl (by exact sz42) (fun w hM => ?_) a w hF hM))
        rw [hr]
        exact ⟨none, 0, rfl, World.ownsRow_nil _ _ _ _, hM.below⟩
      · skip
        have h58b := h58
        simp only [refBad, Bool.or_eq_false_iff, Bool.not_eq_false', decide_eq_true_eq] at h58
        obtain ⟨⟨hw1, hw2⟩, hw3⟩ := h58
        obtain ⟨x, y, z, hw⟩ := triple (l := wdS s) (by omega)
        have hwm : whs 6 (wdS s) = [numI x, numI y, numI z] := by rw [whs_map hw1, hw]; rfl
        refine T_skip_go (fun _ _ h => h) ?_
        refine T_seq ?_
        refine T_perm [0, 1, 2, 3, 4, 5, 6, 7, 8, 9, 10, 11, 12, 13, 14] [true, true, true, true, true, true, true, true, true, true, false, true, false, true, false] [0, 1, 3, 0, 8, 24, 0, 64, 192, 7, 519, 1599, 3647, 8191, 16383] [(1, [43]), (2, [43]), (4, [43]), (5, [43]), (7, [43]), (8, [43])] (by kernel_rfl) (by kernel_rfl) (by kernel_rfl) rfl (by kernel_rfl) ?_
        refine Rf_ 0 60 rfl rfl rfl rfl rfl _ trivial (Y.z (y_move rfl rfl) rfl) ?_
        refine Rf_ 1 61 rfl rfl rfl rfl rfl _ ⟨rfl, trivial⟩ (Y.z (y_indexOwnI (j := 0) 43 rfl rfl rfl (fun _ => rfl) rfl Tryz.underlying142 sz3 (fun _ => by rw [hwm]; show 0 < 3; omega)) rfl) ?_
        refine Rf_ 2 62 rfl rfl rfl rfl rfl _ ⟨rfl, trivial⟩ (Y.z (y_loadO1 43 (val := (fun n : Int => Value.int .i64 n)) rfl rfl rfl rfl (fun _ => (by rw [hwm]; rfl : (whs 6 (wdS s))[0]? = some (numI x))) Tryz.underlying3 rfl) rfl) ?_
        refine Rf_ 3 63 rfl rfl rfl rfl rfl _ trivial (Y.z (y_move rfl rfl) rfl) ?_
        refine Rf_ 4 64 rfl rfl rfl rfl rfl _ ⟨rfl, trivial⟩ (Y.z (y_indexOwnI (j := 1) 43 rfl rfl rfl (fun _ => rfl) rfl Tryz.underlying142 sz3 (fun _ => by rw [hwm]; show 1 < 3; omega)) rfl) ?_
        refine Rf_ 5 65 rfl rfl rfl rfl rfl _ ⟨rfl, trivial⟩ (Y.z (y_loadO1 43 (val := (fun n : Int => Value.int .i64 n)) rfl rfl rfl rfl (fun _ => (by rw [hwm]; rfl : (whs 6 (wdS s))[1]? = some (numI y))) Tryz.underlying3 rfl) rfl) ?_
        refine Rf_ 6 66 rfl rfl rfl rfl rfl _ trivial (Y.z (y_move rfl rfl) rfl) ?_
        refine Rf_ 7 67 rfl rfl rfl rfl rfl _ ⟨rfl, trivial⟩ (Y.z (y_indexOwnI (j := 2) 43 rfl rfl rfl (fun _ => rfl) rfl Tryz.underlying142 sz3 (fun _ => by rw [hwm]; show 2 < 3; omega)) rfl) ?_
        refine Rf_ 8 68 rfl rfl rfl rfl rfl _ ⟨rfl, trivial⟩ (Y.z (y_loadO1 43 (val := (fun n : Int => Value.int .i64 n)) rfl rfl rfl rfl (fun _ => (by rw [hwm]; rfl : (whs 6 (wdS s))[2]? = some (numI z))) Tryz.underlying3 rfl) rfl) ?_
        refine Rf_ 9 69 rfl rfl rfl rfl rfl _ trivial (Y.z (y_fieldAddr rfl rfl fa42_1) rfl) ?_
        refine R_chain 10 rfl rfl ?_
        refine S_store 2 rfl rfl rfl rfl rfl rfl sz3 rfl rfl ?_
        refine R_next ⟨.inl rfl, .inl rfl, .inr ⟨rfl, trivial⟩, .inr ⟨rfl, trivial⟩, .inr ⟨rfl, trivial⟩, .inr ⟨rfl, trivial⟩, trivial⟩ ?_
        refine Rf_ 11 70 rfl rfl rfl rfl rfl _ trivial (Y.z (y_fieldAddr rfl rfl fa42_2) rfl) ?_
        refine R_chain 12 rfl rfl ?_
        refine S_store 2 rfl rfl rfl rfl rfl rfl sz3 rfl rfl ?_
        refine R_next ⟨.inl rfl, .inl rfl, .inl rfl, .inl rfl, .inr ⟨rfl, trivial⟩, .inr ⟨rfl, trivial⟩, trivial⟩ ?_
        refine Rf_ 13 71 rfl rfl rfl rfl rfl _ trivial (Y.z (y_fieldAddr rfl rfl fa42_3) rfl) ?_
        refine R_chain 14 rfl rfl ?_
        refine S_store 2 rfl rfl rfl rfl rfl rfl sz3 rfl rfl ?_
        refine R_next ⟨.inl rfl, .inl rfl, .inl rfl, .inl rfl, .inl rfl, .inl rfl, trivial⟩ ?_
        refine R_go (fun _ _ h => h) ?_
        refine T_seq ?_
        refine T_seq ?_
        refine T_region ?_
        refine S_ 72 rfl rfl rfl _ (y_move rfl rfl) ?_
        refine S_go (fun _ _ h => h) ?_
        refine T_cond rfl (fun h72 => ?_) (fun h72 => ?_)
        · skip
          have hpre : preS s = splitC 46 (cutC 45 (rsS s)).2.1 := by rw [preS, if_pos h72]
          refine T_seq ?_
          refine T_region ?_
          refine S_ 73 rfl rfl rfl _ (y_move rfl rfl) ?_
          refine S_callOwn 74 74 rfl rfl rfl rfl rfl rfl rfl cf105 (fun A c => .slice A (splitC 46 (cutC 45 (rsS s)).2.1).length c) 9 1 ((splitC 46 (cutC 45 (rsS s)).2.1).length) ((splitC 46 (cutC 45 (rsS s)).2.1).flatMap strE) (fun w hM => Split1_any (cutC 45 (rsS s)).2.1 46 (by omega) w) ?_
          intro A74 c74
          refine S_ 75 rfl rfl rfl _ (y_fieldAddr rfl rfl fa42_4) ?_
          refine S_store 2 rfl rfl rfl rfl rfl rfl sz40 rfl rfl ?_
          refine S_go (fun _ _ h => h) ?_
          refine T_seq ?_
          refine T_region ?_
          refine S_ 76 rfl rfl rfl _ (y_fieldAddr rfl rfl fa42_4) ?_
          refine S_ 77 rfl rfl rfl _ (y_load 2 rfl rfl rfl rfl Tryz.underlying40 rfl) ?_
          refine S_ 78 rfl rfl rfl _ (y_len_slice rfl rfl Tryz.underlying40) ?_
          refine S_ 79 rfl rfl rfl _ (y_bin rfl rfl rfl (fun _ => b_gtr)) ?_
          refine S_ 80 rfl rfl rfl _ (y_move rfl rfl) ?_
          refine Sg_ 81 rfl rfl rfl rfl rfl rfl _ (y_fieldAddr rfl rfl fa42_4) ?_
          refine Sg_ 82 rfl rfl rfl rfl rfl rfl _ (y_load 2 rfl rfl rfl rfl Tryz.underlying40 rfl) ?_
          refine Sg_ 83 rfl rfl rfl rfl rfl rfl _ (y_call rfl rfl rfl cf38 (fun _ w hM => ContFS_any _ _ _ (splitC 46 (cutC 45 (rsS s)).2.1) _ _ (fun p => !isPreB p) w (owned_T (enc := strE) hM rfl (i := 74) rfl) (by omega) cf107 fun x hx w1 _ => VersionOf1_any x (by have := spl_le 46 _ x hx; omega) w1)) ?_
          refine S_ 84 rfl rfl rfl _ (y_or rfl rfl rfl) ?_
          refine S_go (fun _ _ h => h) ?_
          refine T_cond rfl (fun h84 => ?_) (fun h84 => ?_)
          · skip
            have hr : refR s = (pver0, 8) := by
              have he : (fun p => !partB p) = fun p => !isPreB p := funext fun p => by rw [preB_eq]
              rw [refR, if_neg (by rw [hn]; simp), if_neg (by omega), if_neg (by rw [show (!wholesOk (wdS s) || !decide (((wdS s).length : Int) = 3) || !projOk (prS s)) = false from h58b]; exact Bool.false_ne_true), if_pos h72, hpre, he, if_pos h84]
            refine T_seq ?_
            refine T_region ?_
            refine S_ 85 rfl rfl rfl _ (y_build (zv := .agg #[.string ⟨#[]⟩, .int .i64 0, .int .i64 0, .int .i64 0, .slice none 0 0]) (pl := [(0, 1), (1, 1), (2, 1), (3, 1), (4, 1)]) (out := [.string ⟨#[]⟩, .int .i64 0, .int .i64 0, .int .i64 0, .slice none 0 0]) rfl rfl Tryz.underlying42 z42 (by kernel_rfl) rfl) ?_
            refine S_store 2 rfl rfl rfl rfl rfl rfl sz42 rfl rfl ?_
            refine S_ 3 rfl rfl rfl _ (y_assign rfl rfl) ?_
            refine S_go (fun _ _ h => h) ?_
            refine T_ret (fun a w hF hM => hRb a w (post_cell 2 rfl rfl rfl rfl Tryz.underlying42 rfl (by exact sz42) (fun w hM => ?_) a w hF hM))
            rw [hr]
            exact ⟨none, 0, rfl, World.ownsRow_nil _ _ _ _, hM.below⟩
          · skip
            have hr : refR s = (⟨prS s, numI x, numI y, numI z, splitC 46 (cutC 45 (rsS s)).2.1⟩, 0) := by
              have he : (fun p => !partB p) = fun p => !isPreB p := funext fun p => by rw [preB_eq]
              rw [refR, if_neg (by rw [hn]; simp), if_neg (by omega), if_neg (by rw [show (!wholesOk (wdS s) || !decide (((wdS s).length : Int) = 3) || !projOk (prS s)) = false from h58b]; exact Bool.false_ne_true), if_pos h72, hpre, he, if_neg (by rw [h84]; exact Bool.false_ne_true), verV, hw, hpre]; rfl
            refine T_skip_go (fun _ _ h => h) ?_
            refine T_seq ?_
            refine T_region ?_
            refine S_ 86 rfl rfl rfl _ (y_loadA 2 rfl rfl rfl Tryz.underlying42 rfl sz42) ?_
            refine S_store 2 rfl rfl rfl rfl rfl rfl sz42 rfl rfl ?_
            refine S_ 3 rfl rfl rfl _ (y_assign rfl rfl) ?_
            refine S_go (fun _ _ h => h) ?_
            refine T_ret (fun a w hF hM => hRb a w (post_cell 2 rfl rfl rfl rfl Tryz.underlying42 rfl (by exact sz42) (fun w hM => ?_) a w hF hM))
            rw [hr]
            exact ⟨A74, c74, rfl, hM.sat 74 _ rfl, hM.below⟩
        · skip
          have hpre : preS s = [] := by rw [preS, if_neg (by simp [h72])]
          refine T_skip_go (fun _ _ h => h) ?_
          refine T_seq ?_
          refine T_region ?_
          refine S_ 86 rfl rfl rfl _ (y_loadA 2 rfl rfl rfl Tryz.underlying42 rfl sz42) ?_
          refine S_store 2 rfl rfl rfl rfl rfl rfl sz42 rfl rfl ?_
          refine S_ 3 rfl rfl rfl _ (y_assign rfl rfl) ?_
          refine S_go (fun _ _ h => h) ?_
          refine T_ret (fun a w hF hM => hRb a w (post_cell 2 rfl rfl rfl rfl Tryz.underlying42 rfl (by exact sz42) (fun w hM => ?_) a w hF hM))
          have hr : refR s = (⟨prS s, numI x, numI y, numI z, []⟩, 0) := by
            rw [refR, if_neg (by rw [hn]; simp), if_neg (by omega), if_neg (by rw [show (!wholesOk (wdS s) || !decide (((wdS s).length : Int) = 3) || !projOk (prS s)) = false from h58b]; exact Bool.false_ne_true), if_neg (by rw [h72]; exact Bool.false_ne_true), verV, hw, hpre]; rfl
          rw [hr]
          exact ⟨none, 0, rfl, World.ownsRow_nil _ _ _ _, hM.below⟩
theorem partNumber_any (s : List UInt8) (hs : s.length ≤ 1000000000) (w : World) : Calls Tryz.prog 100 #[str s] w fun e w' => e = .returned (.tuple #[.int .i64 (if ptNum s = true then ((valD s : Nat) : Int) else 0), .bool (ptNum s)]) ∧ Below w.heap.size w w' := by
  refine enter_args (args := [str s]) (F := _) Tryz.func100 rfl Tryz.ntmps100 rfl rfl ?_
  intro Rb hRb hRn
  refine T_seq ?_
  refine T_region ?_
  refine S_ 2 rfl rfl rfl _ (y_assign rfl rfl) ?_
  refine S_ 3 rfl rfl rfl _ (y_assign rfl rfl) ?_
  refine S_go (fun _ _ h => h) ?_
  refine T_seq ?_
  refine T_seq ?_
  refine T_region ?_
  refine S_ 6 rfl rfl rfl _ (y_move rfl rfl) ?_
  refine S_ 7 rfl rfl rfl _ (y_bin rfl rfl rfl (fun _ => b_eqls)) ?_
  refine S_ 8 rfl rfl rfl _ (y_move rfl rfl) ?_
  refine Sg_ 9 rfl rfl rfl rfl rfl rfl _ (y_move rfl rfl) ?_
  refine Sg_ 10 rfl rfl rfl rfl rfl rfl _ (y_len_str rfl rfl Tryz.underlying9) ?_
  refine Sg_ 11 rfl rfl rfl rfl rfl rfl _ (y_bin rfl rfl rfl (fun _ => b_gtr)) ?_
  refine S_ 12 rfl rfl rfl _ (y_or rfl rfl rfl) ?_
  refine S_ 13 rfl rfl rfl _ (y_move rfl rfl) ?_
  refine Sg_ 14 rfl rfl rfl rfl rfl rfl _ (y_move rfl rfl) ?_
  refine Sg_ 15 rfl rfl rfl rfl rfl rfl _ (y_call rfl rfl rfl cf84 (fun _ w _ => TrimDig_any s hs w)) ?_
  refine Sg_ 16 rfl rfl rfl rfl rfl rfl _ (y_bin rfl rfl rfl (fun _ => b_neqs)) ?_
  refine S_ 17 rfl rfl rfl _ (y_as (v' := .bool (!ptNum s)) (by exact congrArg Value.bool (by
    unfold ptNum allOf
    by_cases h6 : (6 : Int) < s.length
    · rw [decide_eq_true h6, decide_eq_false (show ¬ (s.length : Int) ≤ 6 by omega)]; simp
    · rw [decide_eq_false h6, decide_eq_true (show (s.length : Int) ≤ 6 by omega)]; simp)) (y_or rfl rfl rfl)) ?_
  refine S_go (fun _ _ h => h) ?_
  refine T_cond rfl (fun h17 => ?_) (fun h17 => ?_)
  · skip
    have hn : ptNum s = false := by simpa using h17
    refine T_seq ?_
    refine T_region ?_
    refine S_ 2 rfl rfl rfl _ (y_assign rfl rfl) ?_
    refine S_ 3 rfl rfl rfl _ (y_assign rfl rfl) ?_
    refine S_go (fun _ _ h => h) ?_
    refine T_ret (fun a w hF hM => hRb a w (post2 rfl rfl rfl (fun w hM => ?_) a w hF hM))
    exact ⟨by rw [hn]; rfl, hM.below⟩
  · skip
    have hn : ptNum s = true := by simpa using h17
    have hd := ptNum_dig hn
    refine T_skip_go (fun _ _ h => h) ?_
    refine T_seq ?_
    refine T_region ?_
    refine S_ 19 rfl rfl rfl _ (y_move rfl rfl) ?_
    refine S_ 20 rfl rfl rfl _ (y_call rfl rfl rfl cf199 (fun _ w _ => Atoi_any s hd.1 (by omega) hd.2.2 w)) ?_
    refine S_ 18 rfl rfl rfl _ (y_move rfl rfl) ?_
    refine S_ 21 rfl rfl rfl _ (y_extract rfl rfl rfl) ?_
    refine S_ 22 rfl rfl rfl _ (y_extract rfl rfl rfl) ?_
    refine S_ 4 rfl rfl rfl _ (y_assign rfl rfl) ?_
    refine S_ 5 rfl rfl rfl _ (y_assign rfl rfl) ?_
    refine S_go (fun _ _ h => h) ?_
    refine T_seq ?_
    refine T_draws (by kernel_rfl) (by kernel_rfl) ?_
    refine D_ 23 rfl rfl rfl _ (y_move rfl rfl) ?_
    refine D_ 24 rfl rfl rfl _ (y_move rfl rfl) ?_
    refine D_ 25 rfl rfl rfl _ (y_bin rfl rfl rfl (fun _ => b_eqlII Tryz.underlying202)) ?_
    refine D_ 2 rfl rfl rfl _ (y_assign rfl rfl) ?_
    refine D_ 3 rfl rfl rfl _ (y_assign rfl rfl) ?_
    refine D_go (fun _ _ h => h) ?_
    refine T_ret (fun a w hF hM => hRb a w (post2 rfl rfl rfl (fun w hM => ?_) a w hF hM))
    exact ⟨by rw [hn]; rfl, hM.below⟩
theorem cmpL_len {α : Type} (f : α → α → Int) : ∀ (l m : List α) (i : Nat), i = min l.length m.length → cmpL f (l.drop i) (m.drop i) = cmpJ l.length m.length := by
  intro l m i hi
  rcases Nat.lt_trichotomy l.length m.length with h | h | h
  · have h1 : l.drop i = [] := List.drop_eq_nil_of_le (by omega)
    have h2 : m.drop i = m[i] :: m.drop (i + 1) := List.drop_eq_getElem_cons (by omega)
    rw [h1, h2, cmpJ, if_pos (by omega)]; rfl
  · have h1 : l.drop i = [] := List.drop_eq_nil_of_le (by omega)
    have h2 : m.drop i = [] := List.drop_eq_nil_of_le (by omega)
    rw [h1, h2, cmpJ, if_neg (by omega), if_neg (by omega)]; rfl
  · have h1 : m.drop i = [] := List.drop_eq_nil_of_le (by omega)
    have h2 : l.drop i = l[i] :: l.drop (i + 1) := List.drop_eq_getElem_cons (by omega)
    rw [h1, h2, cmpJ, if_neg (by omega), if_pos (by omega)]; rfl
set_option maxHeartbeats 1600000 in
theorem VersionsCompare_any (x y : SVer) (w : World) (hx : VerOk w x) (hy : VerOk w y) :
    Calls Tryz.prog 23 #[x.val, y.val] w fun e w' => e = .returned (.int .i64 (cmpV x.says y.says)) ∧ Below w.heap.size w w' := by
  have hxt := hx.ok.t
  have hyt := hy.ok.t
  have hxl := hxt.len
  have hyl := hyt.len
  have hxq := hx.q
  have hyq := hy.q
  have nil_iff : ∀ {l : List (List UInt8)} {q : Nat}, l.length = q → (l = [] ↔ (q : Int) = 0) := by
    intro l q h
    constructor
    · intro e; subst e; simp at h; omega
    · intro e; exact List.eq_nil_of_length_eq_zero (by omega)
  have hxn : x.says.pre = [] ↔ (x.pre.q : Int) = 0 := nil_iff hxl
  have hyn : y.says.pre = [] ↔ (y.pre.q : Int) = 0 := nil_iff hyl
  refine enter_args (args := [.agg #[str x.p, .int .i64 x.a, .int .i64 x.b, .int .i64 x.c, .slice x.pre.A x.pre.q x.pre.c], .agg #[str y.p, .int .i64 y.a, .int .i64 y.b, .int .i64 y.c, .slice y.pre.A y.pre.q y.pre.c]]) (F := _) Tryz.func23 rfl Tryz.ntmps23 rfl rfl ?_
  intro Rb hRb hRn
  refine T_seq ?_
  refine T_region ?_
  refine S_box 2 2 rfl rfl rfl rfl rfl ?_
  intro b2
  refine S_box 3 3 rfl rfl rfl rfl rfl ?_
  intro b3
  refine S_ 4 rfl rfl rfl _ (y_assign rfl rfl) ?_
  refine S_go (fun _ _ h => h) ?_
  refine T_seq ?_
  refine T_seq ?_
  refine T_drawsTail 20 (by kernel_rfl) (by kernel_rfl) ?_
  refine D_ 12 rfl rfl rfl _ (y_fieldAddr rfl rfl fa42_0) ?_
  refine D_ 13 rfl rfl rfl _ (y_load 2 rfl rfl rfl rfl Tryz.underlying9 rfl) ?_
  refine D_ 14 rfl rfl rfl _ (y_fieldAddr rfl rfl fa42_0) ?_
  refine D_ 15 rfl rfl rfl _ (y_load 3 rfl rfl rfl rfl Tryz.underlying9 rfl) ?_
  refine D_ 16 rfl rfl rfl _ (y_call rfl rfl rfl cf96 (fun _ w _ => cmpB_any _ _ w)) ?_
  refine D_ 17 rfl rfl rfl _ (y_fieldAddr rfl rfl fa42_1) ?_
  refine D_ 18 rfl rfl rfl _ (y_load 2 rfl rfl rfl rfl Tryz.underlying3 rfl) ?_
  refine D_ 19 rfl rfl rfl _ (y_fieldAddr rfl rfl fa42_1) ?_
  refine D_ 20 rfl rfl rfl _ (y_load 3 rfl rfl rfl rfl Tryz.underlying3 rfl) ?_
  refine D_ 21 rfl rfl rfl _ (y_call rfl rfl rfl cf97 (fun _ w _ => cmpJ_any _ _ w)) ?_
  refine D_ 22 rfl rfl rfl _ (y_fieldAddr rfl rfl fa42_2) ?_
  refine D_ 23 rfl rfl rfl _ (y_load 2 rfl rfl rfl rfl Tryz.underlying3 rfl) ?_
  refine D_ 24 rfl rfl rfl _ (y_fieldAddr rfl rfl fa42_2) ?_
  refine D_ 25 rfl rfl rfl _ (y_load 3 rfl rfl rfl rfl Tryz.underlying3 rfl) ?_
  refine D_ 26 rfl rfl rfl _ (y_call rfl rfl rfl cf97 (fun _ w _ => cmpJ_any _ _ w)) ?_
  refine D_ 27 rfl rfl rfl _ (y_fieldAddr rfl rfl fa42_3) ?_
  refine D_ 28 rfl rfl rfl _ (y_load 2 rfl rfl rfl rfl Tryz.underlying3 rfl) ?_
  refine D_ 29 rfl rfl rfl _ (y_fieldAddr rfl rfl fa42_3) ?_
  refine D_ 30 rfl rfl rfl _ (y_load 3 rfl rfl rfl rfl Tryz.underlying3 rfl) ?_
  refine D_ 31 rfl rfl rfl _ (y_call rfl rfl rfl cf97 (fun _ w _ => cmpJ_any _ _ w)) ?_
  refine D_tail ?_
  refine S_buildSlice 32 32 rfl rfl rfl rfl rfl Tryz.underlying142 inf3 rfl (by decide) (by decide) rfl rfl (by decide) rfl (_) rfl ?_
  intro b32
  refine S_ 33 rfl rfl rfl _ (y_as (v' := .int .i64 (headC x.says y.says)) (by exact rfl) (y_call rfl rfl rfl cf95 (fun _ w hM => or4_any _ _ (cmpB x.p y.p) (cmpJ x.a y.a) (cmpJ x.b y.b) (cmpJ x.c y.c) w ⟨own_reads hM (i := 32) rfl, rfl⟩))) ?_
  refine S_ 5 rfl rfl rfl _ (y_assign rfl rfl) ?_
  refine S_go (fun _ _ h => h) ?_
  refine T_seq ?_
  refine T_region ?_
  refine S_ 34 rfl rfl rfl _ (y_move rfl rfl) ?_
  refine S_ 35 rfl rfl rfl _ (y_bin rfl rfl rfl (fun _ => b_neq)) ?_
  refine S_go (fun _ _ h => h) ?_
  refine T_cond rfl (fun h35 => ?_) (fun h35 => ?_)
  · skip
    have h35 : headC x.says y.says ≠ 0 := by simpa using h35
    refine T_seq ?_
    refine T_region ?_
    refine S_ 36 rfl rfl rfl _ (y_move rfl rfl) ?_
    refine S_ 4 rfl rfl rfl _ (y_assign rfl rfl) ?_
    refine S_go (fun _ _ h => h) ?_
    refine T_ret (fun a w hF hM => hRb a w (post1 rfl rfl (fun w hM => ?_) a w hF hM))
    exact ⟨by rw [cmpV, if_pos h35], hM.below⟩
  · skip
    have h35 : ¬ headC x.says y.says ≠ 0 := by simpa using h35
    refine T_skip_go (fun _ _ h => h) ?_
    refine T_seq ?_
    refine T_seq ?_
    refine T_region ?_
    refine S_ 37 rfl rfl rfl _ (y_fieldAddr rfl rfl fa42_4) ?_
    refine S_ 38 rfl rfl rfl _ (y_load 2 rfl rfl rfl rfl Tryz.underlying40 rfl) ?_
    refine S_ 39 rfl rfl rfl _ (y_len_slice rfl rfl Tryz.underlying40) ?_
    refine S_ 40 rfl rfl rfl _ (y_bin rfl rfl rfl (fun _ => b_eql)) ?_
    refine S_ 41 rfl rfl rfl _ (y_fieldAddr rfl rfl fa42_4) ?_
    refine S_ 42 rfl rfl rfl _ (y_load 3 rfl rfl rfl rfl Tryz.underlying40 rfl) ?_
    refine S_ 43 rfl rfl rfl _ (y_len_slice rfl rfl Tryz.underlying40) ?_
    refine S_ 44 rfl rfl rfl _ (y_bin rfl rfl rfl (fun _ => b_eql)) ?_
    refine S_ 45 rfl rfl rfl _ (y_bin rfl rfl rfl (fun _ => b_neqb Tryz.underlying4)) ?_
    refine S_go (fun _ _ h => h) ?_
    refine T_cond rfl (fun h45 => ?_) (fun h45 => ?_)
    · skip
      refine T_seq ?_
      refine T_seq ?_
      refine T_region ?_
      refine S_ 46 rfl rfl rfl _ (y_fieldAddr rfl rfl fa42_4) ?_
      refine S_ 47 rfl rfl rfl _ (y_load 2 rfl rfl rfl rfl Tryz.underlying40 rfl) ?_
      refine S_ 48 rfl rfl rfl _ (y_len_slice rfl rfl Tryz.underlying40) ?_
      refine S_ 49 rfl rfl rfl _ (y_bin rfl rfl rfl (fun _ => b_eql)) ?_
      refine S_go (fun _ _ h => h) ?_
      refine T_cond rfl (fun h49 => ?_) (fun h49 => ?_)
      · try simp only [decide_eq_true_eq, decide_eq_false_iff_not, Bool.or_eq_true, Bool.or_eq_false_iff, Bool.and_eq_true, Bool.and_eq_false_iff, Bool.not_eq_true', Bool.not_eq_false', Bool.not_eq_true, Bool.not_eq_false, Bool.not_true, Bool.not_false, Int.not_lt, Int.not_le, not_or, not_and, Classical.not_not] at h49
        refine T_seq ?_
        refine T_region ?_
        refine S_ 4 rfl rfl rfl _ (y_assign rfl rfl) ?_
        refine S_go (fun _ _ h => h) ?_
        refine T_ret (fun a w hF hM => hRb a w (post1 rfl rfl (fun w hM => ?_) a w hF hM))
        exact ⟨by rw [cmpV, if_neg h35, cmpPre, if_pos (hxn.2 h49), if_neg (fun h => by have := hyn.1 h; simp [this, h49] at h45)], hM.below⟩
      · try simp only [decide_eq_true_eq, decide_eq_false_iff_not, Bool.or_eq_true, Bool.or_eq_false_iff, Bool.and_eq_true, Bool.and_eq_false_iff, Bool.not_eq_true', Bool.not_eq_false', Bool.not_eq_true, Bool.not_eq_false, Bool.not_true, Bool.not_false, Int.not_lt, Int.not_le, not_or, not_and, Classical.not_not] at h49
        refine T_skip_go (fun _ _ h => h) ?_
        refine T_seq ?_
        refine T_region ?_
        refine S_ 4 rfl rfl rfl _ (y_assign rfl rfl) ?_
        refine S_go (fun _ _ h => h) ?_
        refine T_ret (fun a w hF hM => hRb a w (post1 rfl rfl (fun w hM => ?_) a w hF hM))
        exact ⟨by rw [cmpV, if_neg h35, cmpPre, if_neg (fun h => h49 (hxn.1 h)), if_pos (hyn.2 (by simp [h49] at h45; omega))], hM.below⟩
    · skip
      have hcp : cmpPre x.says.pre y.says.pre = cmpL cmpPart x.pre.l y.pre.l := by
        unfold cmpPre
        by_cases h1 : x.says.pre = []
        · have h2 : y.says.pre = [] := hyn.2 (by have := hxn.1 h1; simp [this] at h45; omega)
          rw [if_pos h1, if_pos h2, show x.pre.l = [] from h1, show y.pre.l = [] from h2]; rfl
        · have h2 : ¬ y.says.pre = [] := fun h2 => h1 (hxn.2 (by have := hyn.1 h2; simp [this] at h45; omega))
          rw [if_neg h1, if_neg h2]; rfl
      refine T_skip_go (fun _ _ h => h) ?_
      refine T_seq ?_
      refine T_seq ?_
      refine T_region ?_
      refine S_ 50 rfl rfl rfl _ (y_fieldAddr rfl rfl fa42_4) ?_
      refine S_ 51 rfl rfl rfl _ (y_load 2 rfl rfl rfl rfl Tryz.underlying40 rfl) ?_
      refine S_ 52 rfl rfl rfl _ (y_len_slice rfl rfl Tryz.underlying40) ?_
      refine S_ 53 rfl rfl rfl _ (y_fieldAddr rfl rfl fa42_4) ?_
      refine S_ 54 rfl rfl rfl _ (y_load 3 rfl rfl rfl rfl Tryz.underlying40 rfl) ?_
      refine S_ 55 rfl rfl rfl _ (y_len_slice rfl rfl Tryz.underlying40) ?_
      refine S_ 56 rfl rfl rfl _ (y_as (v' := .int .i64 ((min x.pre.q y.pre.q : Nat) : Int)) (by congr 1; omega) (y_min rfl rfl rfl)) ?_
      refine S_ 57 rfl rfl rfl _ (y_move rfl rfl) ?_
      refine S_go (fun _ _ h => h) ?_
      refine T_block ?_
      refine T_loopK1 (kf := [(4, 4), (6, 11), (57, 104)]) (kl := [(4, 4), (6, 11), (57, 104)]) (fun (i : Nat) => [(57, true, .int .i64 (i : Int))]) (fun (i : Nat) => []) (fun (i : Nat) => i ≤ min x.pre.q y.pre.q ∧ cmpL cmpPart x.pre.l y.pre.l = cmpL cmpPart (x.pre.l.drop i) (y.pre.l.drop i)) (fun (i : Nat) => min x.pre.q y.pre.q - i) 0 (by repeat (first | exact kf_nil | (apply kf_in; focus rfl) | (apply kf_out; focus rfl))) (by repeat (first | exact kl_nil | exact kl_rest (by assumption) rfl | (apply kl_in; focus rfl) | (apply kl_out; focus rfl))) ?_ ?_ ?_ ?_
      · exact ⟨by omega, rfl⟩
      · exact ⟨rfl, trivial⟩
      · exact trivial
      rintro i ⟨hp1, hp2⟩
      refine T_seq ?_
      refine T_region ?_
      refine S_ 58 rfl rfl rfl _ (y_bin rfl rfl rfl (fun _ => b_lss)) ?_
      refine S_go (fun _ _ h => h) ?_
      refine T_seq ?_
      refine T_cond rfl (fun h58 => ?_) (fun h58 => ?_)
      · try simp only [decide_eq_true_eq, decide_eq_false_iff_not, Bool.or_eq_true, Bool.or_eq_false_iff, Bool.and_eq_true, Bool.and_eq_false_iff, Bool.not_eq_true', Bool.not_eq_false', Bool.not_eq_true, Bool.not_eq_false, Bool.not_true, Bool.not_false, Int.not_lt, Int.not_le, not_or, not_and, Classical.not_not] at h58
        obtain ⟨a, ha1, ha2⟩ := hxt.at (i := i) (by omega)
        obtain ⟨b, hb1, hb2⟩ := hyt.at (i := i) (by omega)
        refine T_skip_go (fun _ _ h => h) ?_
        refine T_seq ?_
        refine T_block ?_
        refine T_seq ?_
        refine T_region ?_
        refine S_ 59 rfl rfl rfl _ (y_move rfl rfl) ?_
        refine S_ 6 rfl rfl rfl _ (y_assign rfl rfl) ?_
        refine S_go (fun _ _ h => h) ?_
        refine T_seq ?_
        refine T_region ?_
        refine S_ 61 rfl rfl rfl _ (y_fieldAddr rfl rfl fa42_4) ?_
        refine S_ 62 rfl rfl rfl _ (y_load 2 rfl rfl rfl rfl Tryz.underlying40 rfl) ?_
        refine S_ 63 rfl rfl rfl _ (y_move rfl rfl) ?_
        refine S_ 64 rfl rfl rfl _ (y_indexAddr rfl rfl rfl Tryz.underlying40 sz9 (fun hg => hxt.isSome (by omega)) (fun _ => by omega)) ?_
        refine S_ 65 rfl rfl rfl _ (y_loadT1 (val := (fun l : List UInt8 => str l)) rfl rfl hxt (fun _ => ha1) Tryz.underlying9 rfl) ?_
        refine S_ 66 rfl rfl rfl _ (y_call rfl rfl rfl cf100 (fun _ w _ => partNumber_any a (hx.n a (mem_at ha1)) w)) ?_
        refine S_ 60 rfl rfl rfl _ (y_move rfl rfl) ?_
        refine S_ 67 rfl rfl rfl _ (y_extract rfl rfl rfl) ?_
        refine S_ 68 rfl rfl rfl _ (y_extract rfl rfl rfl) ?_
        refine S_ 7 rfl rfl rfl _ (y_assign rfl rfl) ?_
        refine S_ 8 rfl rfl rfl _ (y_assign rfl rfl) ?_
        refine S_go (fun _ _ h => h) ?_
        refine T_seq ?_
        refine T_region ?_
        refine S_ 70 rfl rfl rfl _ (y_fieldAddr rfl rfl fa42_4) ?_
        refine S_ 71 rfl rfl rfl _ (y_load 3 rfl rfl rfl rfl Tryz.underlying40 rfl) ?_
        refine S_ 72 rfl rfl rfl _ (y_move rfl rfl) ?_
        refine S_ 73 rfl rfl rfl _ (y_indexAddr rfl rfl rfl Tryz.underlying40 sz9 (fun hg => hyt.isSome (by omega)) (fun _ => by omega)) ?_
        refine S_ 74 rfl rfl rfl _ (y_loadT1 (val := (fun l : List UInt8 => str l)) rfl rfl hyt (fun _ => hb1) Tryz.underlying9 rfl) ?_
        refine S_ 75 rfl rfl rfl _ (y_call rfl rfl rfl cf100 (fun _ w _ => partNumber_any b (hy.n b (mem_at hb1)) w)) ?_
        refine S_ 69 rfl rfl rfl _ (y_move rfl rfl) ?_
        refine S_ 76 rfl rfl rfl _ (y_extract rfl rfl rfl) ?_
        refine S_ 77 rfl rfl rfl _ (y_extract rfl rfl rfl) ?_
        refine S_ 9 rfl rfl rfl _ (y_assign rfl rfl) ?_
        refine S_ 10 rfl rfl rfl _ (y_assign rfl rfl) ?_
        refine S_go (fun _ _ h => h) ?_
        refine T_seq ?_
        refine T_region ?_
        refine S_ 11 rfl rfl rfl _ (y_assign rfl rfl) ?_
        refine S_go (fun _ _ h => h) ?_
        refine T_seq ?_
        refine T_block ?_
        refine T_seq ?_
        refine T_region ?_
        refine S_ 90 rfl rfl rfl _ (y_move rfl rfl) ?_
        refine S_ 91 rfl rfl rfl _ (y_move rfl rfl) ?_
        refine Sg_ 92 rfl rfl rfl rfl rfl rfl _ (y_move rfl rfl) ?_
        refine S_ 93 rfl rfl rfl _ (y_and rfl rfl rfl) ?_
        refine S_ 89 rfl rfl rfl _ (y_assign rfl rfl) ?_
        refine S_go (fun _ _ h => h) ?_
        refine T_cond rfl (fun h89 => ?_) (fun h89 => ?_)
        · skip
          have hc : cmpPart a b = cmpJ (if ptNum a = true then ((valD a : Nat) : Int) else 0) (if ptNum b = true then ((valD b : Nat) : Int) else 0) := by
            have h1 := h89
            simp only [Bool.and_eq_true] at h1
            rw [cmpPart, if_pos h89, if_pos h1.1, if_pos h1.2]
          refine T_region ?_
          refine S_ 94 rfl rfl rfl _ (y_move rfl rfl) ?_
          refine S_ 95 rfl rfl rfl _ (y_move rfl rfl) ?_
          refine S_ 96 rfl rfl rfl _ (y_call rfl rfl rfl cf97 (fun _ w _ => cmpJ_any _ _ w)) ?_
          refine S_ 11 rfl rfl rfl _ (y_assign rfl rfl) ?_
          refine S_go (fun _ _ h => h) ?_
          refine T_seq ?_
          refine T_region ?_
          refine S_ 101 rfl rfl rfl _ (y_move rfl rfl) ?_
          refine S_ 102 rfl rfl rfl _ (y_bin rfl rfl rfl (fun _ => b_neq)) ?_
          refine S_go (fun _ _ h => h) ?_
          refine T_cond rfl (fun h102 => ?_) (fun h102 => ?_)
          · skip
            have h102 : cmpPart a b ≠ 0 := by rw [hc]; simpa using h102
            refine T_seq ?_
            refine T_region ?_
            refine S_ 103 rfl rfl rfl _ (y_move rfl rfl) ?_
            refine S_ 4 rfl rfl rfl _ (y_assign rfl rfl) ?_
            refine S_go (fun _ _ h => h) ?_
            refine T_ret (fun a w hF hM => hRb a w (post1 rfl rfl (fun w hM => ?_) a w hF hM))
            exact ⟨by rw [cmpV, if_neg h35, hcp, hp2, ha2, hb2, cmpL, if_pos h102, hc], hM.below⟩
          · skip
            have h102 : ¬ cmpPart a b ≠ 0 := by rw [hc]; simpa using h102
            refine T_skip_go (fun _ _ h => h) ?_
            refine T_region ?_
            refine S_ 104 rfl rfl rfl _ (y_bin rfl rfl rfl (fun hg => b_add (by omega))) ?_
            refine S_ 57 rfl rfl rfl _ (y_move rfl rfl) ?_
            refine S_nil (nextK1 (kf := [(4, 4), (6, 11), (57, 104)]) (kl := [(4, 4), (6, 11), (57, 104)]) (i + 1) (by repeat (first | exact kf_nil | (apply kf_in; focus rfl) | (apply kf_out; focus rfl))) (by repeat (first | exact kl_nil | exact kl_rest (by assumption) rfl | (apply kl_in; focus rfl) | (apply kl_out; focus rfl))) ?_ ?_ ?_ ?_)
            · omega
            · exact ⟨by omega, by rw [hp2, ha2, hb2, cmpL, if_neg h102]⟩
            · exact ⟨rfl, trivial⟩
            · exact trivial
        · skip
          refine T_seq ?_
          refine T_region ?_
          refine S_ 98 rfl rfl rfl _ (y_move rfl rfl) ?_
          refine S_ 97 rfl rfl rfl _ (y_assign rfl rfl) ?_
          refine S_go (fun _ _ h => h) ?_
          refine T_cond rfl (fun h97 => ?_) (fun h97 => ?_)
          · skip
            have hc : cmpPart a b = -1 := by rw [cmpPart, if_neg (by rw [h89]; exact Bool.false_ne_true), if_pos h97]
            refine T_region ?_
            refine S_ 11 rfl rfl rfl _ (y_assign rfl rfl) ?_
            refine S_go (fun _ _ h => h) ?_
            refine T_seq ?_
            refine T_region ?_
            refine S_ 101 rfl rfl rfl _ (y_move rfl rfl) ?_
            refine S_ 102 rfl rfl rfl _ (y_bin rfl rfl rfl (fun _ => b_neq)) ?_
            refine S_go (fun _ _ h => h) ?_
            refine T_cond rfl (fun h102 => ?_) (fun h102 => ?_)
            · skip
              have h102 : cmpPart a b ≠ 0 := by rw [hc]; decide
              refine T_seq ?_
              refine T_region ?_
              refine S_ 103 rfl rfl rfl _ (y_move rfl rfl) ?_
              refine S_ 4 rfl rfl rfl _ (y_assign rfl rfl) ?_
              refine S_go (fun _ _ h => h) ?_
              refine T_ret (fun a w hF hM => hRb a w (post1 rfl rfl (fun w hM => ?_) a w hF hM))
              exact ⟨by rw [cmpV, if_neg h35, hcp, hp2, ha2, hb2, cmpL, if_pos h102, hc], hM.below⟩
            · skip
              simp at h102
          · skip
            refine T_seq ?_
            refine T_region ?_
            refine S_ 100 rfl rfl rfl _ (y_move rfl rfl) ?_
            refine S_ 99 rfl rfl rfl _ (y_assign rfl rfl) ?_
            refine S_go (fun _ _ h => h) ?_
            refine T_cond rfl (fun h99 => ?_) (fun h99 => ?_)
            · skip
              have hc : cmpPart a b = 1 := by rw [cmpPart, if_neg (by rw [h89]; exact Bool.false_ne_true), if_neg (by rw [h97]; exact Bool.false_ne_true), if_pos h99]
              refine T_region ?_
              refine S_ 11 rfl rfl rfl _ (y_assign rfl rfl) ?_
              refine S_go (fun _ _ h => h) ?_
              refine T_seq ?_
              refine T_region ?_
              refine S_ 101 rfl rfl rfl _ (y_move rfl rfl) ?_
              refine S_ 102 rfl rfl rfl _ (y_bin rfl rfl rfl (fun _ => b_neq)) ?_
              refine S_go (fun _ _ h => h) ?_
              refine T_cond rfl (fun h102 => ?_) (fun h102 => ?_)
              · skip
                have h102 : cmpPart a b ≠ 0 := by rw [hc]; decide
                refine T_seq ?_
                refine T_region ?_
                refine S_ 103 rfl rfl rfl _ (y_move rfl rfl) ?_
                refine S_ 4 rfl rfl rfl _ (y_assign rfl rfl) ?_
                refine S_go (fun _ _ h => h) ?_
                refine T_ret (fun a w hF hM => hRb a w (post1 rfl rfl (fun w hM => ?_) a w hF hM))
                exact ⟨by rw [cmpV, if_neg h35, hcp, hp2, ha2, hb2, cmpL, if_pos h102, hc], hM.below⟩
              · skip
                simp at h102
            · skip
              have hc : cmpPart a b = cmpB a b := by rw [cmpPart, if_neg (by rw [h89]; exact Bool.false_ne_true), if_neg (by rw [h97]; exact Bool.false_ne_true), if_neg (by rw [h99]; exact Bool.false_ne_true)]
              refine T_draws (by kernel_rfl) (by kernel_rfl) ?_
              refine D_ 78 rfl rfl rfl _ (y_fieldAddr rfl rfl fa42_4) ?_
              refine D_ 79 rfl rfl rfl _ (y_load 2 rfl rfl rfl rfl Tryz.underlying40 rfl) ?_
              refine D_ 80 rfl rfl rfl _ (y_move rfl rfl) ?_
              refine D_ 81 rfl rfl rfl _ (y_indexAddr rfl rfl rfl Tryz.underlying40 sz9 (fun hg => hxt.isSome (by omega)) (fun _ => by omega)) ?_
              refine D_ 82 rfl rfl rfl _ (y_loadT1 (val := (fun l : List UInt8 => str l)) rfl rfl hxt (fun _ => ha1) Tryz.underlying9 rfl) ?_
              refine D_ 83 rfl rfl rfl _ (y_fieldAddr rfl rfl fa42_4) ?_
              refine D_ 84 rfl rfl rfl _ (y_load 3 rfl rfl rfl rfl Tryz.underlying40 rfl) ?_
              refine D_ 85 rfl rfl rfl _ (y_move rfl rfl) ?_
              refine D_ 86 rfl rfl rfl _ (y_indexAddr rfl rfl rfl Tryz.underlying40 sz9 (fun hg => hyt.isSome (by omega)) (fun _ => by omega)) ?_
              refine D_ 87 rfl rfl rfl _ (y_loadT1 (val := (fun l : List UInt8 => str l)) rfl rfl hyt (fun _ => hb1) Tryz.underlying9 rfl) ?_
              refine D_ 88 rfl rfl rfl _ (y_call rfl rfl rfl cf96 (fun _ w _ => cmpB_any a b w)) ?_
              refine D_ 11 rfl rfl rfl _ (y_assign rfl rfl) ?_
              refine D_go (fun _ _ h => h) ?_
              refine T_seq ?_
              refine T_region ?_
              refine S_ 101 rfl rfl rfl _ (y_move rfl rfl) ?_
              refine S_ 102 rfl rfl rfl _ (y_bin rfl rfl rfl (fun _ => b_neq)) ?_
              refine S_go (fun _ _ h => h) ?_
              refine T_cond rfl (fun h102 => ?_) (fun h102 => ?_)
              · skip
                have h102 : cmpPart a b ≠ 0 := by rw [hc]; simpa using h102
                refine T_seq ?_
                refine T_region ?_
                refine S_ 103 rfl rfl rfl _ (y_move rfl rfl) ?_
                refine S_ 4 rfl rfl rfl _ (y_assign rfl rfl) ?_
                refine S_go (fun _ _ h => h) ?_
                refine T_ret (fun a w hF hM => hRb a w (post1 rfl rfl (fun w hM => ?_) a w hF hM))
                exact ⟨by rw [cmpV, if_neg h35, hcp, hp2, ha2, hb2, cmpL, if_pos h102, hc], hM.below⟩
              · skip
                have h102 : ¬ cmpPart a b ≠ 0 := by rw [hc]; simpa using h102
                refine T_skip_go (fun _ _ h => h) ?_
                refine T_region ?_
                refine S_ 104 rfl rfl rfl _ (y_bin rfl rfl rfl (fun hg => b_add (by omega))) ?_
                refine S_ 57 rfl rfl rfl _ (y_move rfl rfl) ?_
                refine S_nil (nextK1 (kf := [(4, 4), (6, 11), (57, 104)]) (kl := [(4, 4), (6, 11), (57, 104)]) (i + 1) (by repeat (first | exact kf_nil | (apply kf_in; focus rfl) | (apply kf_out; focus rfl))) (by repeat (first | exact kl_nil | exact kl_rest (by assumption) rfl | (apply kl_in; focus rfl) | (apply kl_out; focus rfl))) ?_ ?_ ?_ ?_)
                · omega
                · exact ⟨by omega, by rw [hp2, ha2, hb2, cmpL, if_neg h102]⟩
                · exact ⟨rfl, trivial⟩
                · exact trivial
      · try simp only [decide_eq_true_eq, decide_eq_false_iff_not, Bool.or_eq_true, Bool.or_eq_false_iff, Bool.and_eq_true, Bool.and_eq_false_iff, Bool.not_eq_true', Bool.not_eq_false', Bool.not_eq_true, Bool.not_eq_false, Bool.not_true, Bool.not_false, Int.not_lt, Int.not_le, not_or, not_and, Classical.not_not] at h58
        refine T_exit_go (fun _ _ h => h) ?_
        refine T_seq ?_
        refine T_region ?_
        refine S_ 105 rfl rfl rfl _ (y_fieldAddr rfl rfl fa42_4) ?_
        refine S_ 106 rfl rfl rfl _ (y_load 2 rfl rfl rfl rfl Tryz.underlying40 rfl) ?_
        refine S_ 107 rfl rfl rfl _ (y_len_slice rfl rfl Tryz.underlying40) ?_
        refine S_ 108 rfl rfl rfl _ (y_fieldAddr rfl rfl fa42_4) ?_
        refine S_ 109 rfl rfl rfl _ (y_load 3 rfl rfl rfl rfl Tryz.underlying40 rfl) ?_
        refine S_ 110 rfl rfl rfl _ (y_len_slice rfl rfl Tryz.underlying40) ?_
        refine S_ 111 rfl rfl rfl _ (y_call rfl rfl rfl cf97 (fun _ w _ => cmpJ_any _ _ w)) ?_
        refine S_ 4 rfl rfl rfl _ (y_assign rfl rfl) ?_
        refine S_go (fun _ _ h => h) ?_
        refine T_ret (fun a w hF hM => hRb a w (post1 rfl rfl (fun w hM => ?_) a w hF hM))
        exact ⟨by rw [cmpV, if_neg h35, hcp, hp2, cmpL_len cmpPart _ _ i (by rw [hxl, hyl]; omega), hxl, hyl], hM.below⟩
end Go.Proofs.YtpmlgnbbkpplhaaGreatDoor
end
section
namespace Go.Proofs.YtpmlgnbbkpplhaaGreatDoor
set_option linter.unusedSimpArgs false
set_option linter.unusedVariables false
set_option maxRecDepth 20000
open Go.RowKit Go.Eng
/-! ### .. by the bytes alone -/
end Go.Proofs.YtpmlgnbbkpplhaaGreatDoor
end
section
namespace Go.Proofs.YtpmlgnbbkpplhaaGreatDoor
set_option linter.unusedSimpArgs false
set_option linter.unusedVariables false
set_option maxRecDepth 20000
open Go.RowKit Go.Eng
def allNo (l : List (List UInt8)) : Int := if (2000 : Int) < l.length then 4 else if (l.all fun s => relOk s) = true then 0 else 8
structure AllR where
  A : Option Addr
  c : Nat
  l : List SVer
  rs : List Row
structure AllR.Ok (w0 : World) (z : AllR) (S : List (List UInt8)) : Prop where
  says : z.l.map SVer.says = if allNo S = 0 then S.map verV else []
  n : ∀ v ∈ z.l, Sees w0 z.rs fun w => VerOk w v
theorem AllR.nil {w0 : World} {S : List (List UInt8)} {rs : List Row} (h : allNo S ≠ 0) : AllR.Ok w0 ⟨none, 0, [], rs⟩ S := ⟨by rw [if_neg h]; rfl, fun v hv => by cases hv⟩
theorem all_bad {S : List (List UInt8)} {s : List UInt8} (h : ¬ (2000 : Int) < S.length) (hs : s ∈ S) (hb : relOk s = false) : allNo S = 8 := by
  rw [allNo, if_neg h, if_neg]
  intro ha
  rw [List.all_eq_true.1 ha s hs] at hb; cases hb
theorem all_good {S : List (List UInt8)} (h : ¬ (2000 : Int) < S.length) (hs : ∀ s ∈ S, relOk s = true) : allNo S = 0 := by
  rw [allNo, if_neg h, if_pos (List.all_eq_true.2 hs)]
theorem all_ok {S : List (List UInt8)} (h : allNo S = 0) : S.length ≤ 2000 ∧ ∀ s ∈ S, relOk s = true := by
  unfold allNo at h
  split at h
  · omega
  · split at h
    · rename_i h1 h2
      exact ⟨by omega, List.all_eq_true.1 h2⟩
    · omega
set_option maxHeartbeats 1600000 in
theorem parseAll_any {w0 : World} {K : HL} (hK : FromK K) (A : Option Addr) (q c : Nat) (S : List (List UInt8)) (w : World) (hl : SlT strE 1 w0 A q S) (hM0 : Mem w0 ([] ++ K) w) :
    Calls Tryz.prog 110 #[.slice A q c] w fun e w' => ∃ z : AllR, e = .returned (.tuple #[.slice z.A z.l.length z.c, .int .i64 (allNo S)]) ∧ z.Ok w0 S ∧ Mem w0 ([(4, .own 42 5 (.slice z.A z.l.length z.c) z.l.length (z.l.flatMap SVer.enc)), (900, .many z.rs)] ++ K) w' := by
  have hlen := hl.len
  refine enterM_args (args := [.slice A q c]) (F := _) hM0 Tryz.func110 rfl Tryz.ntmps110 rfl rfl ?_
  intro Rb hRb hRn
  refine T_many0 900 ?_
  refine T_seq ?_
  refine T_region ?_
  refine S_nilSlice 2 (e := 42) (size := 5) ?_
  refine S_ 2 rfl rfl rfl _ (y_assign rfl rfl) ?_
  refine S_ 3 rfl rfl rfl _ (y_assign rfl rfl) ?_
  refine S_go (fun _ _ h => h) ?_
  refine T_seq ?_
  refine T_seq ?_
  refine T_region ?_
  refine S_ 9 rfl rfl rfl _ (y_move rfl rfl) ?_
  refine S_ 10 rfl rfl rfl _ (y_len_slice rfl rfl Tryz.underlying40) ?_
  refine S_ 11 rfl rfl rfl _ (y_bin rfl rfl rfl (fun _ => b_gtr)) ?_
  refine S_go (fun _ _ h => h) ?_
  refine T_cond rfl (fun h11 => ?_) (fun h11 => ?_)
  · try simp only [decide_eq_true_eq, decide_eq_false_iff_not, Bool.or_eq_true, Bool.or_eq_false_iff, Bool.and_eq_true, Bool.and_eq_false_iff, Bool.not_eq_true', Bool.not_eq_false', Bool.not_eq_true, Bool.not_eq_false, Bool.not_true, Bool.not_false, Int.not_lt, Int.not_le, not_or, not_and, Classical.not_not] at h11
    have hno : allNo S = 4 := by rw [allNo, if_pos (by omega)]
    refine T_seq ?_
    refine T_region ?_
    refine S_nilSlice 2 (e := 42) (size := 5) ?_
    refine S_ 2 rfl rfl rfl _ (y_assign rfl rfl) ?_
    refine S_nilSlice 4 (e := 42) (size := 5) ?_
    refine S_ 3 rfl rfl rfl _ (y_assign rfl rfl) ?_
    refine S_go (fun _ _ h => h) ?_
    refine T_ret (fun a w hF hM => hRb a w (post2 rfl rfl rfl (fun w hM => ?_) a w hF hM))
    rw [hno]
    exact ⟨⟨none, 0, [], []⟩, rfl, AllR.nil (by rw [hno]; decide), (hM.keep (ks := [(0, 999)]) (by repeat (first | exact kl_rest (by assumption) rfl | (apply kl_in; focus rfl))) _ ⟨rfl, rfl, trivial⟩)⟩
  · try simp only [decide_eq_true_eq, decide_eq_false_iff_not, Bool.or_eq_true, Bool.or_eq_false_iff, Bool.and_eq_true, Bool.and_eq_false_iff, Bool.not_eq_true', Bool.not_eq_false', Bool.not_eq_true, Bool.not_eq_false, Bool.not_true, Bool.not_false, Int.not_lt, Int.not_le, not_or, not_and, Classical.not_not] at h11
    have hq : q ≤ 2000 := by omega
    refine T_skip_go (fun _ _ h => h) ?_
    refine T_seq ?_
    refine T_region ?_
    refine S_nilSlice 4 (e := 42) (size := 5) ?_
    refine S_ 4 rfl rfl rfl _ (y_assign rfl rfl) ?_
    refine S_go (fun _ _ h => h) ?_
    refine T_seq ?_
    refine T_seq ?_
    refine T_region ?_
    refine S_ 12 rfl rfl rfl _ (y_move rfl rfl) ?_
    refine S_ 13 rfl rfl rfl _ (y_len_slice rfl rfl Tryz.underlying40) ?_
    refine S_ 14 rfl rfl rfl _ (y_move rfl rfl) ?_
    refine S_go (fun _ _ h => h) ?_
    refine T_block ?_
    refine T_loopK5 (kf := [(2, 4), (6, 8), (14, 29)]) (kl := [(2, 4), (6, 8), (14, 29), (900, 900)]) (fun (i : Nat) (L : List SVer) (A4 : Option Addr) (c4 : Nat) (rs : List Row) => [(14, true, .int .i64 (i : Int)), (4, true, .slice A4 i c4)]) (fun (i : Nat) (L : List SVer) (A4 : Option Addr) (c4 : Nat) (rs : List Row) => [(4, .own 42 5 (.slice A4 i c4) i (L.flatMap SVer.enc)), (900, .many rs)]) (fun (i : Nat) (L : List SVer) (A4 : Option Addr) (c4 : Nat) (rs : List Row) => i ≤ q ∧ L.length = i ∧ L.map SVer.says = (S.take i).map verV ∧ (∀ s ∈ S.take i, relOk s = true) ∧ ∀ v ∈ L, Sees w0 rs fun w => VerOk w v) (fun (i : Nat) (L : List SVer) (A4 : Option Addr) (c4 : Nat) (rs : List Row) => q - i) 0 [] none 0 [] (by repeat (first | exact kf_nil | (apply kf_in; focus rfl) | (apply kf_out; focus rfl))) (by repeat (first | exact kl_nil | exact kl_rest (by assumption) rfl | (apply kl_in; focus rfl) | (apply kl_out; focus rfl))) ?_ ?_ ?_ ?_
    · exact ⟨by omega, rfl, rfl, (fun s h => by cases h), (fun v h => by cases h)⟩
    · exact ⟨rfl, rfl, trivial⟩
    · exact ⟨rfl, rfl, trivial⟩
    rintro i L A4 c4 rs ⟨hp1, hp2, hp3, hp4, hp5⟩
    refine T_seq ?_
    refine T_region ?_
    refine S_ 15 rfl rfl rfl _ (y_bin rfl rfl rfl (fun _ => b_lss)) ?_
    refine S_go (fun _ _ h => h) ?_
    refine T_seq ?_
    refine T_cond rfl (fun h15 => ?_) (fun h15 => ?_)
    · try simp only [decide_eq_true_eq, decide_eq_false_iff_not, Bool.or_eq_true, Bool.or_eq_false_iff, Bool.and_eq_true, Bool.and_eq_false_iff, Bool.not_eq_true', Bool.not_eq_false', Bool.not_eq_true, Bool.not_eq_false, Bool.not_true, Bool.not_false, Int.not_lt, Int.not_le, not_or, not_and, Classical.not_not] at h15
      obtain ⟨x, hx1, hx2⟩ := hl.at (i := i) (by omega)
      refine T_skip_go (fun _ _ h => h) ?_
      refine T_seq ?_
      refine T_block ?_
      refine T_seq ?_
      refine T_region ?_
      refine S_ 16 rfl rfl rfl _ (y_indexAddr rfl rfl rfl Tryz.underlying40 sz9 (fun hg => hl.isSome (by omega)) (fun _ => by omega)) ?_
      refine S_ 17 rfl rfl rfl _ (y_loadT1 (val := (fun l : List UInt8 => str l)) rfl rfl hl (fun _ => hx1) Tryz.underlying9 rfl) ?_
      refine S_ 6 rfl rfl rfl _ (y_assign rfl rfl) ?_
      refine S_go (fun _ _ h => h) ?_
      refine T_seq ?_
      refine T_region ?_
      refine S_ 19 rfl rfl rfl _ (y_move rfl rfl) ?_
      refine S_callOwn 20 20 rfl rfl rfl rfl rfl rfl rfl cf101 (fun A c => .tuple #[pvV (parseR x).1 A c, .bool (parseR x).2]) 9 1 ((parseR x).1.pre.length) ((parseR x).1.pre.flatMap strE) (fun w hM => parse_any x w) ?_
      intro A20 c20
      refine S_ 18 rfl rfl rfl _ (y_move rfl rfl) ?_
      refine S_ 21 rfl rfl rfl _ (y_extract rfl rfl rfl) ?_
      refine S_ 22 rfl rfl rfl _ (y_extract rfl rfl rfl) ?_
      refine S_alloc 7 7 rfl rfl rfl rfl z42 ?_
      intro b7
      refine S_store 7 rfl rfl rfl rfl rfl rfl sz42 rfl rfl ?_
      refine S_ 8 rfl rfl rfl _ (y_assign rfl rfl) ?_
      refine S_go (fun _ _ h => h) ?_
      refine T_seq ?_
      refine T_seq ?_
      refine T_region ?_
      refine S_ 23 rfl rfl rfl _ (y_move rfl rfl) ?_
      refine S_ 24 rfl rfl rfl _ (y_not rfl rfl) ?_
      refine S_go (fun _ _ h => h) ?_
      refine T_cond rfl (fun h24 => ?_) (fun h24 => ?_)
      · skip
        have h24 : relOk x = false := by simpa using h24
        have hno : allNo S = 8 := all_bad (by omega) (mem_at hx1) h24
        refine T_seq ?_
        refine T_region ?_
        refine S_nilSlice 2 (e := 42) (size := 5) ?_
        refine S_ 2 rfl rfl rfl _ (y_assign rfl rfl) ?_
        refine S_nilSlice 4 (e := 42) (size := 5) ?_
        refine S_ 3 rfl rfl rfl _ (y_assign rfl rfl) ?_
        refine S_go (fun _ _ h => h) ?_
        refine T_ret (fun a w hF hM => hRb a w (post2 rfl rfl rfl (fun w hM => ?_) a w hF hM))
        rw [hno]
        exact ⟨⟨none, 0, [], rs⟩, rfl, AllR.nil (by rw [hno]; decide), (hM.keep (ks := [(0, 999)]) (by repeat (first | exact kl_rest (by assumption) rfl | (apply kl_in; focus rfl))) _ ⟨rfl, rfl, trivial⟩)⟩
      · skip
        have h24 : relOk x = true := by simpa using h24
        refine T_skip_go (fun _ _ h => h) ?_
        refine T_region ?_
        refine S_ 25 rfl rfl rfl _ (y_move rfl rfl) ?_
        refine S_ 26 rfl rfl rfl _ (y_loadA 7 rfl rfl rfl Tryz.underlying42 rfl sz42) ?_
        refine S_buildSlice 27 27 rfl rfl rfl rfl rfl Tryz.underlying146 inf42 rfl (by decide) (by decide) rfl rfl (by decide) rfl (_) rfl ?_
        intro b27
        obtain ⟨i28, hi28, hz28, hs28, hy28⟩ := info_parts inf42
        refine S_append 28 4 27 rfl rfl rfl rfl rfl rfl rfl rfl Tryz.underlying146 hi28 hz28 hs28 hy28 rfl (by decide) (by decide) rfl ?_ ?_ (i + 1) ((L ++ [svr (parseR x).1 A20 c20]).flatMap SVer.enc) ?_ ?_ ?_
        · (simp only [maxLen]; omega)
        · omega
        · rfl
        · simp [List.flatMap_append]; rfl
        intro A28 c28
        refine S_ 4 rfl rfl rfl _ (y_assign rfl rfl) ?_
        refine S_go (fun _ _ h => h) ?_
        refine T_region ?_
        refine S_ 29 rfl rfl rfl _ (y_bin rfl rfl rfl (fun hg => b_add (by omega))) ?_
        refine S_ 14 rfl rfl rfl _ (y_move rfl rfl) ?_
        refine S_bank [(20, 20), (900, 900)] 900 20 rfl rfl rfl rfl (by repeat (first | exact kl_nil | exact kl_rest (by assumption) rfl | (apply kl_in; focus rfl) | (apply kl_out; focus rfl))) ?_
        refine S_nil (nextK5 (kf := [(2, 4), (6, 8), (14, 29)]) (kl := [(2, 4), (6, 8), (14, 29), (900, 900)]) (i + 1) (L ++ [svr (parseR x).1 A20 c20]) A28 c28 (rs ++ [⟨9, 1, .slice A20 (parseR x).1.pre.length c20, (parseR x).1.pre.length, (parseR x).1.pre.flatMap strE⟩]) (by repeat (first | exact kf_nil | (apply kf_in; focus rfl) | (apply kf_out; focus rfl))) (by repeat (first | exact kl_nil | exact kl_rest (by assumption) rfl | (apply kl_in; focus rfl) | (apply kl_out; focus rfl))) ?_ ?_ ?_ ?_)
        · omega
        · have htk : S.take (i + 1) = S.take i ++ [x] := by rw [List.take_add_one, hx1]; rfl
          exact ⟨by omega, by rw [List.length_append, hp2]; rfl, by rw [htk, List.map_append, List.map_append, hp3]; exact congrArg (_ ++ [·]) (parse_ver h24), by rw [htk]; intro s hs; rcases List.mem_append.1 hs with h | h; exact hp4 s h; rw [List.mem_singleton.1 h]; exact h24, fun v hv => by
            rcases List.mem_append.1 hv with h | h
            · exact (hp5 v h).app
            · rw [List.mem_singleton.1 h]
              exact Sees.map (Sees.row (A := A20) (c := c20) (q := (parseR x).1.pre.length) (l := (parseR x).1.pre) (enc := strE) (List.mem_append_right _ (List.mem_singleton.2 rfl)) rfl) fun w hw => svr_ok (parseR_bound x) hw⟩
        · exact ⟨rfl, rfl, trivial⟩
        · exact ⟨rfl, rfl, trivial⟩
    · try simp only [decide_eq_true_eq, decide_eq_false_iff_not, Bool.or_eq_true, Bool.or_eq_false_iff, Bool.and_eq_true, Bool.and_eq_false_iff, Bool.not_eq_true', Bool.not_eq_false', Bool.not_eq_true, Bool.not_eq_false, Bool.not_true, Bool.not_false, Int.not_lt, Int.not_le, not_or, not_and, Classical.not_not] at h15
      refine T_exit_go (fun _ _ h => h) ?_
      refine T_seq ?_
      refine T_region ?_
      refine S_ 30 rfl rfl rfl _ (y_move rfl rfl) ?_
      refine S_ 2 rfl rfl rfl _ (y_assign rfl rfl) ?_
      refine S_ 3 rfl rfl rfl _ (y_assign rfl rfl) ?_
      refine S_go (fun _ _ h => h) ?_
      refine T_ret (fun a w hF hM => hRb a w (post2 rfl rfl rfl (fun w hM => ?_) a w hF hM))
      have htk : S.take i = S := List.take_of_length_le (by omega)
      rw [htk] at hp3 hp4
      have hno : allNo S = 0 := all_good (by omega) hp4
      rw [hno]
      subst hp2
      exact ⟨⟨A4, c4, L, rs⟩, rfl, ⟨by rw [if_pos hno]; exact hp3, hp5⟩, (hM.keep (ks := [(0, 999)]) (by repeat (first | exact kl_rest (by assumption) rfl | (apply kl_in; focus rfl))) _ ⟨rfl, rfl, trivial⟩)⟩
/-! ### A list of versions asked -/
structure VersR (w : World) (l : Sl SVer) : Prop where
  ok : l.Ok SVer.enc 5 w
  q : l.q ≤ 1000000000
  n : ∀ v ∈ l.l, VerOk w v
theorem VersR.below {w w' : World} {l : Sl SVer} (h : VersR w l) (hb : Below w.heap.size w w') : VersR w' l := ⟨h.ok.below hb, h.q, fun v hv => (h.n v hv).below hb⟩
theorem AllR.len {w0 : World} {z : AllR} {S : List (List UInt8)} (h : z.Ok w0 S) : z.l.length ≤ 2000 := by
  have h1 := congrArg List.length h.says
  rw [List.length_map] at h1
  split at h1
  · rename_i h2
    rw [List.length_map] at h1
    have := (all_ok h2).1
    omega
  · rw [h1]; exact Nat.zero_le _
end Go.Proofs.YtpmlgnbbkpplhaaGreatDoor
end
section
namespace Go.Proofs.YtpmlgnbbkpplhaaGreatDoor
set_option linter.unusedSimpArgs false
set_option linter.unusedVariables false
set_option maxRecDepth 20000
open Go.RowKit Go.Eng
structure PSt where
  k : Int
  at_ : Int
  inn : List UInt8
  nx : Bool
  till : Int
  more : Int
  ppl : Int
  again : Int
def PSt.enc (s : PSt) : List Value := [.int .i64 s.k, .int .i64 s.at_, str s.inn, .bool s.nx, .int .i64 s.till, .int .i64 s.more, .int .i64 s.ppl, .int .i64 s.again]
abbrev PSt.val (s : PSt) : Value := .agg #[.int .i64 s.k, .int .i64 s.at_, str s.inn, .bool s.nx, .int .i64 s.till, .int .i64 s.more, .int .i64 s.ppl, .int .i64 s.again]
/-- a block's cells, as they stand for good -/
abbrev CellsAt (w : World) (b : Nat) (cs : List Value) : Prop := (∀ j u, cs[j]? = some u → w.cell? ((⟨b, 0, none⟩ : Addr).add j) = some u) ∧ b < w.heap.size
theorem CellsAt.one {w : World} {b j : Nat} {cs : List Value} {u : Value} (h : CellsAt w b cs) (hj : cs[j]? = some u) : w.cell? ((⟨b, 0, none⟩ : Addr).add j) = some u ∧ ((⟨b, 0, none⟩ : Addr).add j).block < w.heap.size := ⟨h.1 j u hj, by rw [block_of_add]; exact h.2⟩
def opened (s : PSt) (at_ : Int) : PSt := ⟨1, at_, [], false, -1, -1, -1, min (s.again + 1) 1000000⟩
end Go.Proofs.YtpmlgnbbkpplhaaGreatDoor
end
section
namespace Go.Proofs.YtpmlgnbbkpplhaaGreatDoor
set_option linter.unusedSimpArgs false
set_option linter.unusedVariables false
set_option maxRecDepth 20000
open Go.RowKit Go.Eng
structure SCom where
  id : List UInt8
  au : List UInt8
  rel : List UInt8
  fi : Sl (List UInt8)
def SCom.enc (c : SCom) : List Value := [str c.id, str c.au, str c.rel, .slice c.fi.A c.fi.q c.fi.c]
def SCom.val (c : SCom) : Value := .agg c.enc.toArray
structure ComOk (w : World) (c : SCom) : Prop where
  ok : c.fi.Ok strE 1 w
  q : c.fi.q ≤ 4611686018427387904
  n : ∀ s ∈ c.fi.l, s.length ≤ 4611686018427387904
theorem ComOk.below {w w' : World} {c : SCom} (h : ComOk w c) (hb : Below w.heap.size w w') : ComOk w' c := ⟨h.ok.below hb, h.q, h.n⟩
structure ComsOk (w : World) (l : Sl SCom) : Prop where
  ok : l.Ok SCom.enc 4 w
  q : l.q ≤ 4611686018427387904
  n : ∀ c ∈ l.l, ComOk w c
theorem ComsOk.below {w w' : World} {l : Sl SCom} (h : ComsOk w l) (hb : Below w.heap.size w w') : ComsOk w' l := ⟨h.ok.below hb, h.q, fun c hc => (h.n c hc).below hb⟩
theorem takeS {α : Type} {l : List α} {i : Nat} {x : α} (h : l[i]? = some x) : l.take (i + 1) = l.take i ++ [x] := by
  rw [List.take_add_one, h]; rfl
end Go.Proofs.YtpmlgnbbkpplhaaGreatDoor
end
section
namespace Go.Proofs.YtpmlgnbbkpplhaaGreatDoor
set_option linter.unusedSimpArgs false
set_option linter.unusedVariables false
set_option maxRecDepth 20000
open Go.RowKit Go.Eng
section
variable {α : Type} {f : α → α → Int}
theorem swo3 (h : Cmp3 f) : Go.Sort.SWO (Go.Proofs.ltOf f) := by
  refine ⟨fun a => ?_, fun a b c h1 h2 => ?_, fun a b c h1 h2 => ?_⟩
  · simp only [Go.Proofs.ltOf, decide_eq_false_iff_not]; have := h.refl a; omega
  · simp only [Go.Proofs.ltOf, decide_eq_true_eq] at h1 h2 ⊢
    exact h.lt_le h1 (by omega)
  · simp only [Go.Proofs.ltOf, decide_eq_false_iff_not] at h1 h2 ⊢
    have a1 := h.anti a b
    have a2 := h.anti b c
    have a3 := h.anti a c
    have := h.tr c b a (by omega) (by omega)
    omega
/-- a list sorted and another one, a permutation of it, sorted as well: where none but equal elements tie they are one list -/
theorem sorted_uniq {R : α → α → Prop} : ∀ {l m : List α}, l.Perm m → l.Pairwise R → m.Pairwise R → (∀ x ∈ l, ∀ y ∈ l, R x y → R y x → x = y) → l = m
  | [], m, hp, _, _, _ => (List.Perm.eq_nil hp.symm).symm
  | a :: r, m, hp, hl, hm, ha => by
    cases m with
    | nil => exact absurd hp.eq_nil (by simp)
    | cons b s =>
      have e : a = b := by
        have h1 : a ∈ b :: s := hp.subset (List.mem_cons_self ..)
        have h2 : b ∈ a :: r := hp.symm.subset (List.mem_cons_self ..)
        rcases List.mem_cons.1 h1 with h1 | h1
        · exact h1
        · rcases List.mem_cons.1 h2 with h2 | h2
          · exact h2.symm
          · exact ha a (List.mem_cons_self ..) b (List.mem_cons_of_mem _ h2) ((List.pairwise_cons.1 hl).1 b h2) ((List.pairwise_cons.1 hm).1 a h1)
      subst e
      rw [sorted_uniq ((List.perm_cons a).1 hp) (List.pairwise_cons.1 hl).2 (List.pairwise_cons.1 hm).2 fun x hx y hy => ha x (List.mem_cons_of_mem _ hx) y (List.mem_cons_of_mem _ hy)]
end
/-- the order of texts: of what the reference reads of them -/
def relE (s t : List UInt8) : Int := cmpV (parE s).1 (parE t).1
theorem cmp3_E : Cmp3 relE := cmp3_V.comap fun s => (parE s).1
def srtL (S : List (List UInt8)) : List (List UInt8) := pdqL relE S
theorem ltOf_f {α : Type} {f : α → α → Int} {x y : α} (h : Go.Proofs.ltOf f y x = false) (hf : Cmp3 f) : f x y ≤ 0 := by
  simp only [Go.Proofs.ltOf, decide_eq_false_iff_not] at h
  have := hf.anti x y
  omega
theorem srt_perm (S : List (List UInt8)) : (srtL S).Perm S := (pdqL_facts (swo3 cmp3_E) S).1
theorem srt_sorted (S : List (List UInt8)) : (srtL S).Pairwise fun s t => relE s t ≤ 0 := (pdqL_facts (swo3 cmp3_E) S).2.imp fun h => ltOf_f h cmp3_E
theorem parE_ok' {s : List UInt8} (h : relOk s = true) : (parE s).1 = verV s := by rw [parE, if_pos h]
theorem relE_zero {s t : List UInt8} (hs : relOk s = true) (ht : relOk t = true) (h1 : relE s t ≤ 0) (h2 : relE t s ≤ 0) : s = t := by
  have h3 := cmp3_E.anti s t
  have h4 : cmpV (verV s) (verV t) = 0 := by rw [← parE_ok' hs, ← parE_ok' ht]; show relE s t = 0; omega
  rw [← verT_of hs, ← verT_of ht, cmpV_zero (ver_right hs) (ver_right ht) h4]
/-- right texts sorted by any means are what the sort makes -/
theorem srt_uniq {S X : List (List UInt8)} (hS : ∀ s ∈ S, relOk s = true) (hp : X.Perm S) (hs : X.Pairwise fun s t => relE s t ≤ 0) : X = srtL S :=
  sorted_uniq (hp.trans (srt_perm S).symm) hs (srt_sorted S) fun x hx y hy => relE_zero (hS x (hp.subset hx)) (hS y (hp.subset hy))
/-- versions sorted, their texts -/
theorem srt_vers {S : List (List UInt8)} {V : List PVer} (hS : ∀ s ∈ S, relOk s = true) (hp : V.Perm (S.map verV)) (hs : V.Pairwise fun x y => cmpV x y ≤ 0) : V.map verT = srtL S := by
  have hm : ∀ v ∈ V, VRight v ∧ (verT v).length ≤ 40 := fun v hv => by
    obtain ⟨s, h1, rfl⟩ := List.mem_map.1 (hp.subset hv)
    exact ⟨ver_right (hS s h1), by rw [verT_of (hS s h1)]; exact rel_len (hS s h1)⟩
  refine srt_uniq hS ?_ ?_
  · have h1 := hp.map verT
    rw [List.map_map] at h1
    have h2 : S.map (verT ∘ verV) = S := by
      conv => rhs; rw [← List.map_id S]
      exact List.map_congr_left fun s hs => verT_of (hS s hs)
    rwa [h2] at h1
  · rw [List.pairwise_map]
    refine (List.pairwise_iff_forall_sublist.2 fun {a b} hab => ?_)
    have h3 := List.pairwise_iff_forall_sublist.1 hs hab
    have ha : a ∈ V := hab.subset (by simp)
    have hb : b ∈ V := hab.subset (by simp)
    have e : ∀ v, VRight v ∧ (verT v).length ≤ 40 → (parE (verT v)).1 = v := fun v hv => by
      have := of_verT hv.1 hv.2
      rw [parE_ok' this.1, this.2]
    show cmpV (parE (verT a)).1 (parE (verT b)).1 ≤ 0
    rw [e a (hm a ha), e b (hm b hb)]; exact h3
/-! ### Made compact -/
def cptF (out : List (List UInt8)) : List (List UInt8) → List (List UInt8)
  | [] => out
  | s :: r => if out.getLast? = some s then cptF out r else cptF (out ++ [s]) r
theorem cpt_up (d : List (List UInt8)) : ∀ (k m : Nat), d.length - m = k → m ≤ d.length → (∀ j : Nat, m = j + 1 → (Lib.compactUpTo d.toArray m).getLast? = d[j]?) → cptF (Lib.compactUpTo d.toArray m) (d.drop m) = Lib.compactUpTo d.toArray d.length
  | 0, m, hk, hm, _ => by
    have : m = d.length := by omega
    subst this
    rw [List.drop_eq_nil_of_le (Nat.le_refl _)]; rfl
  | k + 1, m, hk, hm, hl => by
    have hlt : m < d.length := by omega
    have ex : d.toArray[m]! = d[m] := by rw [getElem!_pos _ m (by simpa using hlt)]; simp
    rw [List.drop_eq_getElem_cons hlt, cptF]
    have hs := Lib.compactUpTo_succ d.toArray m
    rw [ex] at hs
    cases m with
    | zero =>
      have h0 : Lib.compactUpTo d.toArray 0 = [] := rfl
      have hk0 : Lib.keeps d.toArray 0 = true := Lib.keeps_lt_one _ 0 (by decide)
      rw [hk0, if_pos rfl] at hs
      rw [if_neg (by rw [h0]; simp), ← hs]
      refine cpt_up d k 1 (by omega) (by omega) fun j hj => ?_
      have : j = 0 := by omega
      subst this
      rw [hs, h0]; simp [List.getElem?_eq_getElem hlt]
    | succ j =>
      have hl1 := hl j rfl
      have ej : d.toArray[j + 1 - 1]! = d[j] := by rw [Nat.add_sub_cancel, getElem!_pos _ j (by simp; omega)]; simp
      by_cases he : d[j + 1] = d[j]
      · have hkn : Lib.keeps d.toArray (j + 1) = false := Lib.keeps_neg (by omega) (by rw [ex, ej]; exact he)
        rw [hkn] at hs
        simp only [Bool.false_eq_true, if_false, List.append_nil] at hs
        rw [if_pos (by rw [hl1, List.getElem?_eq_getElem (by omega), he]), ← hs]
        refine cpt_up d k (j + 1 + 1) (by omega) (by omega) fun i hi => ?_
        have : i = j + 1 := by omega
        subst this
        rw [hs, hl1, List.getElem?_eq_getElem (by omega), List.getElem?_eq_getElem hlt, he]
      · have hkp : Lib.keeps d.toArray (j + 1) = true := Lib.keeps_pos (by rw [ex, ej]; exact he)
        rw [hkp, if_pos rfl] at hs
        rw [if_neg (by rw [hl1, List.getElem?_eq_getElem (by omega)]; exact fun h => he (Option.some.inj h).symm), ← hs]
        refine cpt_up d k (j + 1 + 1) (by omega) (by omega) fun i hi => ?_
        have : i = j + 1 := by omega
        subst this
        rw [hs, List.getLast?_concat, List.getElem?_eq_getElem hlt]
theorem cpt_eq (d : List (List UInt8)) : cptF [] d = Lib.compact d := cpt_up d d.length 0 (by omega) (Nat.zero_le _) fun j hj => by omega
theorem cpt_len : ∀ (d out : List (List UInt8)), (cptF out d).length ≤ out.length + d.length
  | [], out => Nat.le_refl _
  | s :: r, out => by
    rw [cptF]
    split
    · have := cpt_len r out; rw [List.length_cons]; omega
    · have := cpt_len r (out ++ [s]); rw [List.length_append, List.length_singleton] at this; rw [List.length_cons]; omega
/-! ### The best one -/
end Go.Proofs.YtpmlgnbbkpplhaaGreatDoor
end
section
namespace Go.Proofs.YtpmlgnbbkpplhaaGreatDoor
set_option linter.unusedSimpArgs false
set_option linter.unusedVariables false
set_option maxRecDepth 20000
open Go.RowKit Go.Eng
def ver0 : SVer := ⟨[], 0, 0, 0, ⟨none, 0, 0, []⟩⟩
theorem ver0_ok (w : World) : VerOk w ver0 := ⟨⟨nilS, Nat.le_refl _⟩, Nat.zero_le _, (fun s h => by cases h), Nat.zero_le _, by decide, by decide, by decide⟩
theorem flat_val {β : Type} {good : SVer → Prop} (e : SVer → List β) (L : List {v : SVer // good v}) : L.flatMap (fun x => e x.1) = (L.map Subtype.val).flatMap e := by
  induction L with
  | nil => rfl
  | cons a r ih => rw [List.flatMap_cons, ih]; rfl
theorem SortV_any {w0 : World} {K : HL} (A : Option Addr) (q c : Nat) (l : List SVer) (rs : List Row) (w : World) (hlen : l.length = q) (hq : q ≤ 1000000) (hn : ∀ v ∈ l, Sees w0 rs fun w => VerOk w v)
    (hM : Mem w0 ([(0, .own 42 5 (.slice A q c) q (l.flatMap SVer.enc)), (1, .many rs)] ++ K) w) :
    Calls Tryz.prog 113 #[.slice A q c, .func (.func 22) #[] #[]] w fun e w' => ∃ l' : List SVer, e = .returned (.tuple #[]) ∧ (l'.Perm l ∧ l'.Pairwise fun x y => cmpV x.says y.says ≤ 0) ∧ Mem w0 ([(0, .own 42 5 (.slice A q c) q (l'.flatMap SVer.enc)), (1, .many rs)] ++ K) w' := by
  let good : SVer → Prop := fun v => ∀ w', w.grownBy w' (Value.slice A q c).ownBlock → VerOk w' v
  have hg : ∀ v ∈ l, good v := fun v hv w' hw' => by
    obtain ⟨hb, hs⟩ := Mem.others hM (i := 0) (j := 1) rfl hw' (by decide) rfl
    exact hn v hv w' hb hs
  have : Inhabited {v : SVer // good v} := ⟨⟨ver0, fun w' _ => ver0_ok w'⟩⟩
  let L : List {v : SVer // good v} := l.pmap Subtype.mk hg
  have hL : L.map Subtype.val = l := by
    show (l.pmap Subtype.mk hg).map Subtype.val = l
    rw [List.map_pmap]; exact List.pmap_eq_self.2 fun _ _ => rfl
  have hf : L.flatMap (fun x => x.1.enc) = l.flatMap SVer.enc := by rw [flat_val SVer.enc L, hL]
  have hO : Go.Sort.SWO (Go.Proofs.ltOf fun x y : {v : SVer // good v} => cmpV x.1.says y.1.says) := swo3 (cmp3_V.comap fun x : {v : SVer // good v} => x.1.says)
  have h := sort_ownX Tryz.laysSort113 (k := 5) (enc := fun x : {v : SVer // good v} => x.1.enc) Tryz.isAgg42 Tryz.sizeOf42 (fun _ => rfl)
    (fun x v hv => by simp only [SVer.enc, List.mem_cons, List.not_mem_nil, or_false] at hv; rcases hv with rfl | rfl | rfl | rfl | rfl <;> rfl) (fun x y => cmpV x.1.says y.1.says) hO 22 #[] cf22 (w0 := w0) (K := [(1, .many rs)] ++ K) 42 A q c L w (by rw [← List.length_map (f := Subtype.val), hL, hlen]) (by omega)
    (fun w' hw' x y => Compare_any x.1 y.1 w' (x.2 w' hw') (y.2 w' hw')) (by rw [hf]; exact hM)
  refine Calls.mono h ?_
  rintro e w' ⟨l', rfl, rfl, hM'⟩
  obtain ⟨h1, h2⟩ := pdqL_facts hO L
  refine ⟨(pdqL (fun x y : {v : SVer // good v} => cmpV x.1.says y.1.says) L).map Subtype.val, rfl, ⟨by rw [← hL]; exact h1.map _, ?_⟩, ?_⟩
  · rw [List.pairwise_map]
    exact h2.imp fun h => ltOf_f (f := fun x y : {v : SVer // good v} => cmpV x.1.says y.1.says) h (cmp3_V.comap fun x : {v : SVer // good v} => x.1.says)
  · rw [← flat_val SVer.enc]; exact hM'
theorem releasesCompare_any (s t : List UInt8) (w : World) : Calls Tryz.prog 120 #[str s, str t] w fun e w' => e = .returned (.int .i64 (relE s t)) ∧ Below w.heap.size w w' := by
  refine enter_args (args := [str s, str t]) (F := _) Tryz.func120 rfl Tryz.ntmps120 rfl rfl ?_
  intro Rb hRb hRn
  refine T_seq ?_
  refine T_region ?_
  refine S_ 4 rfl rfl rfl _ (y_assign rfl rfl) ?_
  refine S_go (fun _ _ h => h) ?_
  refine T_seq ?_
  refine T_region ?_
  refine S_ 10 rfl rfl rfl _ (y_move rfl rfl) ?_
  refine S_callOwn 11 11 rfl rfl rfl rfl rfl rfl rfl cf25 (fun A c => .tuple #[pvV (parE s).1 A c, .int .i64 (parE s).2]) 9 1 ((parE s).1.pre.length) ((parE s).1.pre.flatMap strE) (fun w hM => VersionOf_any s w) ?_
  intro A11 c11
  refine S_ 9 rfl rfl rfl _ (y_move rfl rfl) ?_
  refine S_ 12 rfl rfl rfl _ (y_extract rfl rfl rfl) ?_
  refine S_ 13 rfl rfl rfl _ (y_extract rfl rfl rfl) ?_
  refine S_alloc 5 5 rfl rfl rfl rfl z42 ?_
  intro b5
  refine S_store 5 rfl rfl rfl rfl rfl rfl sz42 rfl rfl ?_
  refine S_ 6 rfl rfl rfl _ (y_assign rfl rfl) ?_
  refine S_go (fun _ _ h => h) ?_
  refine T_seq ?_
  refine T_region ?_
  refine S_ 15 rfl rfl rfl _ (y_move rfl rfl) ?_
  refine S_callOwn 16 16 rfl rfl rfl rfl rfl rfl rfl cf25 (fun A c => .tuple #[pvV (parE t).1 A c, .int .i64 (parE t).2]) 9 1 ((parE t).1.pre.length) ((parE t).1.pre.flatMap strE) (fun w hM => VersionOf_any t w) ?_
  intro A16 c16
  refine S_ 14 rfl rfl rfl _ (y_move rfl rfl) ?_
  refine S_ 17 rfl rfl rfl _ (y_extract rfl rfl rfl) ?_
  refine S_ 18 rfl rfl rfl _ (y_extract rfl rfl rfl) ?_
  refine S_alloc 7 7 rfl rfl rfl rfl z42 ?_
  intro b7
  refine S_store 7 rfl rfl rfl rfl rfl rfl sz42 rfl rfl ?_
  refine S_ 8 rfl rfl rfl _ (y_assign rfl rfl) ?_
  refine S_go (fun _ _ h => h) ?_
  refine T_seq ?_
  refine T_region ?_
  refine S_ 19 rfl rfl rfl _ (y_loadA 5 rfl rfl rfl Tryz.underlying42 rfl sz42) ?_
  refine S_ 20 rfl rfl rfl _ (y_loadA 7 rfl rfl rfl Tryz.underlying42 rfl sz42) ?_
  refine S_ 21 rfl rfl rfl _ (y_call rfl rfl rfl cf23 (fun _ w hM => VersionsCompare_any (svr (parE s).1 A11 c11) (svr (parE t).1 A16 c16) w (svr_ok (parE_bound _) (owned_ok (enc := strE) hM rfl (i := 11) rfl)) (svr_ok (parE_bound _) (owned_ok (enc := strE) hM rfl (i := 16) rfl)))) ?_
  refine S_ 4 rfl rfl rfl _ (y_assign rfl rfl) ?_
  refine S_go (fun _ _ h => h) ?_
  refine T_ret (fun a w hF hM => hRb a w (post1 rfl rfl (fun w hM => ?_) a w hF hM))
  exact ⟨rfl, hM.below⟩
theorem SortS_any {w0 : World} {K : HL} (A : Option Addr) (q c : Nat) (l : List (List UInt8)) (w : World) (hlen : l.length = q) (hq : q ≤ 1000000)
    (hM : Mem w0 ([(0, .own 9 1 (.slice A q c) q (l.flatMap strE))] ++ K) w) :
    Calls Tryz.prog 119 #[.slice A q c, .func (.func 120) #[] #[]] w fun e w' => ∃ u : Unit, e = .returned (.tuple #[]) ∧ True ∧ Mem w0 ([(0, .own 9 1 (.slice A q c) q ((srtL l).flatMap strE))] ++ K) w' := by
  have h := sort_own1 Tryz.laysStr119 (enc := fun s : List UInt8 => str s) (e1 := strE) (fun _ => rfl) (fun _ => rfl) relE (swo3 cmp3_E) 120 #[] cf120 9 A q c l w hlen (by omega)
    (fun w' _ x y => releasesCompare_any x y w') (Go.Proofs.AnyF.slices_SortFunc_none Tryz.laysSort119 none 0 _ w) hM
  refine Calls.mono h ?_
  rintro e w' ⟨l', rfl, rfl, hM'⟩
  exact ⟨(), rfl, trivial, hM'⟩
theorem CompactS_any {w0 : World} {K : HL} (A : Option Addr) (q c : Nat) (l : List (List UInt8)) (w : World) (hlen : l.length = q) (hq : q ≤ 1000000)
    (hM : Mem w0 ([(0, .own 9 1 (.slice A q c) q (l.flatMap strE))] ++ K) w) :
    Calls Tryz.prog 121 #[.slice A q c] w fun e w' => ∃ u : Unit, e = .returned (.slice A (Lib.compact l).length c) ∧ True ∧ Mem w0 ([(0, .own 9 1 (.slice A (Lib.compact l).length c) (Lib.compact l).length ((Lib.compact l).flatMap strE))] ++ K) w' := by
  have he : ∀ x : List UInt8, strE x = [(fun s : List UInt8 => str s) x] := fun _ => rfl
  have hcl : (Lib.compact l).length ≤ l.length := by rw [← cpt_eq]; have := cpt_len l []; simpa using this
  rw [flat_one he] at hM
  have h0 := hM.sat 0 _ rfl
  obtain ⟨hx, hv⟩ := h0
  rcases hv with ⟨hv, hn⟩ | ⟨b, cap, cur, hv, hb, hg, hc1, hc2, hc3, hc4⟩
  · simp only [Value.slice.injEq] at hv
    obtain ⟨rfl, rfl, rfl⟩ := hv
    have hl0 : l = [] := List.eq_nil_of_length_eq_zero hlen
    subst hl0
    refine (Tryz.slices_Compact_string_empty none 0 w).mono ?_
    rintro e w' ⟨rfl, rfl⟩
    exact ⟨(), rfl, trivial, hM⟩
  · simp only [Value.slice.injEq] at hv
    obtain ⟨rfl, _, rfl⟩ := hv
    subst hlen
    have hlt : b < w.heap.size := (Array.getElem?_eq_some_iff.1 hg).1
    have hH : Go.Sort.Holds encStr w b 0 l.toArray := holds_own1 hg (by simpa using hc4)
    refine (Tryz.slices_Compact_string b 0 c l w hH (by omega) hc1).mono ?_
    rintro e w' ⟨rfl, m, hw⟩
    have hw2 : w' = Go.Proofs.sortWorld encStr w b 0 m (Lib.compact l ++ List.replicate (l.length - (Lib.compact l).length) []).toArray #[] := by
      rw [hw]; unfold Go.Proofs.sortWorld; rw [Go.Sort.grow_empty]
    have hsz : (Lib.compact l ++ List.replicate (l.length - (Lib.compact l).length) ([] : List UInt8)).toArray.size = l.length := by simp; omega
    obtain ⟨cur', g1, g2, g3⟩ := heap_sorted1 (enc := encStr) (m := m) (os := #[]) (d' := (Lib.compact l ++ List.replicate (l.length - (Lib.compact l).length) []).toArray) hg (by rw [hsz]; omega)
    rw [← hw2] at g1
    rw [flat_one he]
    have hT := hM.turn (i := 0) rfl (p' := .own 9 1 (.slice (some ⟨b, 0, none⟩) (Lib.compact l).length c) (Lib.compact l).length ((Lib.compact l).map fun s => str s)) (w' := w') (by rw [hw2]; exact sorted_grown1 hlt) ⟨by
      rw [List.length_map, Nat.mul_one], .inr ⟨b, c, cur', rfl, hb, g1, by omega, by omega, by omega, by
        have h4 := congrArg (List.take ((Lib.compact l).length * 1)) g3
        rw [hsz, List.take_take, Nat.min_eq_left (by omega)] at h4
        rw [h4]
        simp only [List.map_append]
        rw [List.take_left' (by simp)]⟩⟩ (.inl rfl)
    refine ⟨(), rfl, trivial, ?_⟩
    have conv : ∀ i p, HL.get ([(0, It.own 9 1 (.slice (some ⟨b, 0, none⟩) (Lib.compact l).length c) (Lib.compact l).length ((Lib.compact l).map fun s => str s))] ++ K) i = some p → HL.get ((0, It.own 9 1 (.slice (some ⟨b, 0, none⟩) (Lib.compact l).length c) (Lib.compact l).length ((Lib.compact l).map fun s => str s)) :: ([(0, It.own 9 1 (.slice (some ⟨b, 0, none⟩) l.length c) l.length (l.map fun s => str s))] ++ K)) i = some p := by
      intro i p hp
      simp only [HL.get, List.cons_append, List.nil_append] at hp ⊢
      cases hb : Nat.beq 0 i
      · rw [hb] at hp; exact hp
      · rw [hb] at hp; exact hp
    exact ⟨hT.below, fun i p hp => hT.sat i p (conv i p hp), fun i j p q hij hp hq => hT.apart i j p q hij (conv i p hp) (conv j q hq)⟩
end Go.Proofs.YtpmlgnbbkpplhaaGreatDoor
end
section
namespace Go.Proofs.YtpmlgnbbkpplhaaGreatDoor
set_option linter.unusedSimpArgs false
set_option linter.unusedVariables false
set_option maxRecDepth 20000
open Go.RowKit Go.Eng
theorem S_keepL {P : Program} {w0 : World} {n : Nat} {ops : Array Oper} {l : List Oper} {F : FL} {L : HL} {Q : Exit → Act → World → Prop} (ks : List (Nat × Nat)) (KL : HL) (hK : KeepL ks L KL) (h : S P w0 n ops l F KL Q) : S P w0 n ops l F L Q := fun a w hF hM => h a w hF (hM.keep hK [] trivial)
def srtR (S : List (List UInt8)) : List (List UInt8) := if allNo S = 0 then cptF [] (srtL S) else []
theorem last_at {out : List (List UInt8)} (h : 0 < out.length) : out[out.length - 1]? = some (out.getLastD []) ∧ out.getLast? = some (out.getLastD []) := by
  rw [← List.getLast?_eq_getElem?]
  cases out with
  | nil => simp at h
  | cons a r => simp [List.getLast?_cons, List.getLastD_eq_getLast?]
theorem srt_len (S : List (List UInt8)) : (srtL S).length = S.length := (srt_perm S).length_eq
set_option maxHeartbeats 1600000 in
theorem Sorted_any (A : Option Addr) (q c : Nat) (S : List (List UInt8)) (w : World) (hS : SlT strE 1 w A q S) (hP : P10 w) :
    Calls Tryz.prog 33 #[.slice A q c] w fun e w' => ∃ A' c', e = .returned (.tuple #[.slice A' (srtR S).length c', .int .i64 (allNo S)]) ∧ w'.ownsRow w.heap.size 9 1 (.slice A' (srtR S).length c') (srtR S).length ((srtR S).flatMap strE) ∧ Below w.heap.size w w' := by
  refine enter_args (args := [.slice A q c]) (F := _) Tryz.func33 rfl Tryz.ntmps33 rfl rfl ?_
  intro Rb hRb hRn
  refine T_seq ?_
  refine T_region ?_
  refine S_nilSlice 2 (e := 9) (size := 1) ?_
  refine S_ 2 rfl rfl rfl _ (y_assign rfl rfl) ?_
  refine S_ 3 rfl rfl rfl _ (y_assign rfl rfl) ?_
  refine S_go (fun _ _ h => h) ?_
  refine T_seq ?_
  refine T_region ?_
  refine S_ 13 rfl rfl rfl _ (y_move rfl rfl) ?_
  refine S_callN 14 [] [(4, 904), (900, 920)] (X := AllR) rfl rfl rfl rfl rfl rfl rfl cf110 rfl (fun z => .tuple #[.slice z.A z.l.length z.c, .int .i64 (allNo S)]) (fun z => z.Ok w S) (fun z => [(4, .own 42 5 (.slice z.A z.l.length z.c) z.l.length (z.l.flatMap SVer.enc)), (900, .many z.rs)]) (fun _ => rfl) (fun _ => rfl) (fun K1 hK1 w1 hM => parseAll_any hK1 A q c S w1 hS hM) ?_
  intro x14 hx14
  refine S_ 12 rfl rfl rfl _ (y_move rfl rfl) ?_
  refine S_ 15 rfl rfl rfl _ (y_extract rfl rfl rfl) ?_
  refine S_ 16 rfl rfl rfl _ (y_extract rfl rfl rfl) ?_
  refine S_ 4 rfl rfl rfl _ (y_assign rfl rfl) ?_
  refine S_ 5 rfl rfl rfl _ (y_assign rfl rfl) ?_
  refine S_go (fun _ _ h => h) ?_
  refine T_seq ?_
  refine T_seq ?_
  refine T_region ?_
  refine S_ 17 rfl rfl rfl _ (y_move rfl rfl) ?_
  refine S_ 18 rfl rfl rfl _ (y_bin rfl rfl rfl (fun _ => b_neq)) ?_
  refine S_go (fun _ _ h => h) ?_
  refine T_cond rfl (fun h18 => ?_) (fun h18 => ?_)
  · try simp only [decide_eq_true_eq, decide_eq_false_iff_not, Bool.or_eq_true, Bool.or_eq_false_iff, Bool.and_eq_true, Bool.and_eq_false_iff, Bool.not_eq_true', Bool.not_eq_false', Bool.not_eq_true, Bool.not_eq_false, Bool.not_true, Bool.not_false, Int.not_lt, Int.not_le, not_or, not_and, Classical.not_not] at h18
    have hr : srtR S = [] := if_neg h18
    refine T_seq ?_
    refine T_region ?_
    refine S_ 19 rfl rfl rfl _ (y_move rfl rfl) ?_
    refine S_nilSlice 2 (e := 9) (size := 1) ?_
    refine S_ 2 rfl rfl rfl _ (y_assign rfl rfl) ?_
    refine S_ 3 rfl rfl rfl _ (y_assign rfl rfl) ?_
    refine S_go (fun _ _ h => h) ?_
    refine T_ret (fun a w hF hM => hRb a w (post2 rfl rfl rfl (fun w hM => ?_) a w hF hM))
    rw [hr]
    exact ⟨none, 0, rfl, World.ownsRow_nil _ _ _ _, hM.below⟩
  · try simp only [decide_eq_true_eq, decide_eq_false_iff_not, Bool.or_eq_true, Bool.or_eq_false_iff, Bool.and_eq_true, Bool.and_eq_false_iff, Bool.not_eq_true', Bool.not_eq_false', Bool.not_eq_true, Bool.not_eq_false, Bool.not_true, Bool.not_false, Int.not_lt, Int.not_le, not_or, not_and, Classical.not_not] at h18
    have h18 : allNo S = 0 := h18
    have hal := all_ok h18
    have hxl := AllR.len hx14
    refine T_skip_go (fun _ _ h => h) ?_
    refine T_seq ?_
    refine T_region ?_
    refine S_ 20 rfl rfl rfl _ (y_move rfl rfl) ?_
    refine S_callM 21 [(0, 904), (1, 920)] (X := List SVer) rfl rfl rfl rfl rfl rfl rfl cf113 rfl (fun _ => .tuple #[]) (fun l => l.Perm x14.l ∧ l.Pairwise fun (x y : SVer) => cmpV x.says y.says ≤ 0) (fun l => [(0, .own 42 5 (.slice x14.A x14.l.length x14.c) x14.l.length (l.flatMap SVer.enc)), (1, .many x14.rs)]) (fun _ => rfl) (fun _ => rfl) (fun K1 hK1 w1 hM => SortV_any _ _ _ x14.l x14.rs w1 rfl (by omega) hx14.n hM) ?_
    intro x21 hx21
    refine S_go (fun _ _ h => h) ?_
    refine T_seq ?_
    refine T_region ?_
    refine S_keepL [(0, 2)] [(904, .own 42 5 (.slice x14.A x14.l.length x14.c) x14.l.length (x21.flatMap SVer.enc)), (920, .many x14.rs)] (by repeat (first | exact kl_none | refine kl_cons rfl rfl ?_)) ?_
    obtain ⟨hpm, hpw⟩ := hx21
    have hvl : x21.length = x14.l.length := hpm.length_eq
    have hsm : x14.l.map SVer.says = S.map verV := by have := hx14.says; rw [if_pos h18] at this; exact this
    have hgood : ∀ v ∈ x14.l, VRight v.says ∧ (verT v.says).length ≤ 40 := fun v hv => by
      have h1 : v.says ∈ S.map verV := by rw [← hsm]; exact List.mem_map_of_mem hv
      obtain ⟨s, hs, e⟩ := List.mem_map.1 h1
      rw [← e]
      exact ⟨ver_right (hal.2 s hs), by rw [verT_of (hal.2 s hs)]; exact rel_len (hal.2 s hs)⟩
    have hsrt : (x21.map fun v => verT v.says) = srtL S := by
      have h1 := srt_vers (V := x21.map SVer.says) hal.2 (by rw [← hsm]; exact hpm.map _) (by rw [List.pairwise_map]; exact hpw)
      rw [List.map_map] at h1; exact h1
    refine S_nilSlice 6 (e := 9) (size := 1) ?_
    refine S_ 6 rfl rfl rfl _ (y_assign rfl rfl) ?_
    refine S_go (fun _ _ h => h) ?_
    refine T_seq ?_
    refine T_seq ?_
    refine T_region ?_
    refine S_ 22 rfl rfl rfl _ (y_move rfl rfl) ?_
    refine S_ 23 rfl rfl rfl _ (y_len_slice rfl rfl Tryz.underlying146) ?_
    refine S_ 24 rfl rfl rfl _ (y_move rfl rfl) ?_
    refine S_go (fun _ _ h => h) ?_
    refine T_block ?_
    refine T_loopK4 (kf := [(6, 6), (8, 11), (24, 50)]) (kl := [(6, 6), (8, 11), (24, 50)]) (fun (i : Nat) (out : List (List UInt8)) (A6 : Option Addr) (c6 : Nat) => [(24, true, .int .i64 (i : Int)), (6, true, .slice A6 out.length c6)]) (fun (i : Nat) (out : List (List UInt8)) (A6 : Option Addr) (c6 : Nat) => [(6, .own 9 1 (.slice A6 out.length c6) out.length (out.flatMap strE))]) (fun (i : Nat) (out : List (List UInt8)) (A6 : Option Addr) (c6 : Nat) => i ≤ x14.l.length ∧ cptF out ((x21.map fun v => verT v.says).drop i) = cptF [] (x21.map fun v => verT v.says) ∧ out.length ≤ i) (fun (i : Nat) (out : List (List UInt8)) (A6 : Option Addr) (c6 : Nat) => x14.l.length - i) 0 [] none 0 (by repeat (first | exact kf_nil | (apply kf_in; focus rfl) | (apply kf_out; focus rfl))) (by repeat (first | exact kl_nil | exact kl_rest (by assumption) rfl | (apply kl_in; focus rfl) | (apply kl_out; focus rfl))) ?_ ?_ ?_ ?_
    · exact ⟨by omega, rfl, Nat.le_refl _⟩
    · exact ⟨rfl, rfl, trivial⟩
    · exact ⟨rfl, trivial⟩
    rintro i out A6 c6 ⟨hp1, hp2, hp3⟩
    refine T_seq ?_
    refine T_region ?_
    refine S_ 25 rfl rfl rfl _ (y_bin rfl rfl rfl (fun _ => b_lss)) ?_
    refine S_go (fun _ _ h => h) ?_
    refine T_seq ?_
    refine T_cond rfl (fun h25 => ?_) (fun h25 => ?_)
    · try simp only [decide_eq_true_eq, decide_eq_false_iff_not, Bool.or_eq_true, Bool.or_eq_false_iff, Bool.and_eq_true, Bool.and_eq_false_iff, Bool.not_eq_true', Bool.not_eq_false', Bool.not_eq_true, Bool.not_eq_false, Bool.not_true, Bool.not_false, Int.not_lt, Int.not_le, not_or, not_and, Classical.not_not] at h25
      obtain ⟨v, hv1⟩ : ∃ v, x21[i]? = some v := ⟨_, List.getElem?_eq_getElem (by omega)⟩
      have hvm : v ∈ x14.l := hpm.subset (List.mem_of_getElem? hv1)
      obtain ⟨hvr, hvt⟩ := hgood v hvm
      have hdr : (x21.map fun v => verT v.says).drop i = verT v.says :: (x21.map fun v => verT v.says).drop (i + 1) := List.drop_eq_getElem?_toList_append.trans (by rw [List.getElem?_map, hv1]; rfl)
      refine T_skip_go (fun _ _ h => h) ?_
      refine T_seq ?_
      refine T_block ?_
      refine T_seq ?_
      refine T_region ?_
      refine S_ 26 rfl rfl rfl _ (y_indexOwn 904 rfl rfl rfl rfl Tryz.underlying146 sz42 (fun _ => by omega)) ?_
      refine S_ 27 rfl rfl rfl _ (y_loadO 904 rfl rfl rfl hvl (fun _ => rfl) (fun _ => hv1) Tryz.underlying42 rfl sz42) ?_
      refine S_alloc 8 8 rfl rfl rfl rfl z42 ?_
      intro b8
      refine S_store 8 rfl rfl rfl rfl rfl rfl sz42 rfl rfl ?_
      refine S_go (fun _ _ h => h) ?_
      refine T_seq ?_
      refine T_region ?_
      refine S_ 29 rfl rfl rfl _ (y_loadA 8 rfl rfl rfl Tryz.underlying42 rfl sz42) ?_
      refine S_ 30 rfl rfl rfl _ (y_as (v' := .tuple #[str (verT v.says), .int .i64 0]) (by rw [right_txt hvr hvt]) (y_call rfl rfl rfl cf19 (fun _ w hM => Text_any v w ((hx14.n v hvm).at hM 920 rfl) (hP.below hM.below)))) ?_
      refine S_ 28 rfl rfl rfl _ (y_move rfl rfl) ?_
      refine S_ 31 rfl rfl rfl _ (y_extract rfl rfl rfl) ?_
      refine S_ 32 rfl rfl rfl _ (y_extract rfl rfl rfl) ?_
      refine S_ 9 rfl rfl rfl _ (y_assign rfl rfl) ?_
      refine S_ 10 rfl rfl rfl _ (y_assign rfl rfl) ?_
      refine S_go (fun _ _ h => h) ?_
      refine T_seq ?_
      refine T_region ?_
      refine S_ 33 rfl rfl rfl _ (y_move rfl rfl) ?_
      refine S_ 34 rfl rfl rfl _ (y_len_slice rfl rfl Tryz.underlying40) ?_
      refine S_ 11 rfl rfl rfl _ (y_assign rfl rfl) ?_
      refine S_go (fun _ _ h => h) ?_
      refine T_seq ?_
      refine T_region ?_
      refine S_ 35 rfl rfl rfl _ (y_move rfl rfl) ?_
      refine S_ 36 rfl rfl rfl _ (y_bin rfl rfl rfl (fun _ => b_eql)) ?_
      refine S_ 37 rfl rfl rfl _ (y_move rfl rfl) ?_
      refine Sg_ 38 rfl rfl rfl rfl rfl rfl _ (y_move rfl rfl) ?_
      refine Sg_ 39 rfl rfl rfl rfl rfl rfl _ (y_move rfl rfl) ?_
      refine Sg_ 40 rfl rfl rfl rfl rfl rfl _ (y_bin rfl rfl rfl (fun hg => b_subv (((out.length - 1 : Nat) : Int)) (by simp only [Bool.true_and, Bool.and_eq_true, beq_iff_eq, decide_eq_true_eq, decide_eq_false_iff_not, Int.not_lt, Int.not_le] at hg; omega) (by simp only [Bool.true_and, Bool.and_eq_true, beq_iff_eq, decide_eq_true_eq, decide_eq_false_iff_not, Int.not_lt, Int.not_le] at hg; omega))) ?_
      refine Sg_ 41 rfl rfl rfl rfl rfl rfl _ (y_indexOwnI (j := out.length - 1) 6 rfl rfl rfl (fun hg => by simp only [Bool.true_and, Bool.and_eq_true, beq_iff_eq, decide_eq_true_eq, decide_eq_false_iff_not, Int.not_lt, Int.not_le] at hg; omega) rfl Tryz.underlying40 sz9 (fun hg => by simp only [Bool.true_and, Bool.and_eq_true, beq_iff_eq, decide_eq_true_eq, decide_eq_false_iff_not, Int.not_lt, Int.not_le] at hg; omega)) ?_
      refine Sg_ 42 rfl rfl rfl rfl rfl rfl _ (y_loadO1 6 (val := (fun l : List UInt8 => str l)) rfl rfl rfl rfl (fun hg => (last_at (by simp only [Bool.true_and, Bool.and_eq_true, beq_iff_eq, decide_eq_true_eq, decide_eq_false_iff_not, Int.not_lt, Int.not_le] at hg; omega)).1) Tryz.underlying9 rfl) ?_
      refine Sg_ 43 rfl rfl rfl rfl rfl rfl _ (y_move rfl rfl) ?_
      refine Sg_ 44 rfl rfl rfl rfl rfl rfl _ (y_bin rfl rfl rfl (fun _ => b_neqs)) ?_
      refine S_ 45 rfl rfl rfl _ (y_or rfl rfl rfl) ?_
      refine S_go (fun _ _ h => h) ?_
      refine T_cond rfl (fun h45 => ?_) (fun h45 => ?_)
      · skip
        have hne : ¬ out.getLast? = some (verT v.says) := by
          intro e
          have hpos : 0 < out.length := by cases out with
            | nil => simp at e
            | cons a r => simp
          rw [(last_at hpos).2] at e
          rw [Option.some.inj e] at h45
          simp at h45
          rw [h45] at hpos; simp at hpos
        refine T_region ?_
        refine S_ 46 rfl rfl rfl _ (y_move rfl rfl) ?_
        refine S_ 47 rfl rfl rfl _ (y_move rfl rfl) ?_
        refine S_buildSlice 48 48 rfl rfl rfl rfl rfl Tryz.underlying40 inf9 rfl (by decide) (by decide) rfl rfl (by decide) rfl (_) rfl ?_
        intro b48
        obtain ⟨i49, hi49, hz49, hs49, hy49⟩ := info_parts inf9
        refine S_append 49 6 48 rfl rfl rfl rfl rfl rfl rfl rfl Tryz.underlying40 hi49 hz49 hs49 hy49 rfl (by decide) (by decide) rfl ?_ ?_ ((out ++ [verT v.says]).length) ((out ++ [verT v.says]).flatMap strE) ?_ ?_ ?_
        · (simp only [maxLen]; omega)
        · omega
        · simp
        · simp [List.flatMap_append]; rfl
        intro A49 c49
        refine S_ 6 rfl rfl rfl _ (y_assign rfl rfl) ?_
        refine S_go (fun _ _ h => h) ?_
        refine T_region ?_
        refine S_ 50 rfl rfl rfl _ (y_bin rfl rfl rfl (fun hg => b_add (by omega))) ?_
        refine S_ 24 rfl rfl rfl _ (y_move rfl rfl) ?_
        refine S_nil (nextK4 (kf := [(6, 6), (8, 11), (24, 50)]) (kl := [(6, 6), (8, 11), (24, 50)]) (i + 1) (out ++ [verT v.says]) A49 c49 (by repeat (first | exact kf_nil | (apply kf_in; focus rfl) | (apply kf_out; focus rfl))) (by repeat (first | exact kl_none | exact kl_tail (by assumption) rfl (by repeat (first | exact ti_refl | (apply ti_cons; focus rfl))) | refine kl_cons rfl rfl ?_)) ?_ ?_ ?_ ?_)
        · omega
        · exact ⟨by omega, by rw [← hp2, hdr, cptF, if_neg hne], by rw [List.length_append, List.length_singleton]; omega⟩
        · exact ⟨rfl, rfl, trivial⟩
        · exact ⟨rfl, trivial⟩
      · skip
        have heq : out.getLast? = some (verT v.says) := by
          simp only [Bool.or_eq_false_iff, decide_eq_false_iff_not, Bool.not_eq_false', decide_eq_true_eq] at h45
          rw [(last_at (by omega)).2, h45.2]
        refine T_skip_go (fun _ _ h => h) ?_
        refine T_region ?_
        refine S_ 50 rfl rfl rfl _ (y_bin rfl rfl rfl (fun hg => b_add (by omega))) ?_
        refine S_ 24 rfl rfl rfl _ (y_move rfl rfl) ?_
        refine S_nil (nextK4 (kf := [(6, 6), (8, 11), (24, 50)]) (kl := [(6, 6), (8, 11), (24, 50)]) (i + 1) out A6 c6 (by repeat (first | exact kf_nil | (apply kf_in; focus rfl) | (apply kf_out; focus rfl))) (by repeat (first | exact kl_none | exact kl_tail (by assumption) rfl (by repeat (first | exact ti_refl | (apply ti_cons; focus rfl))) | refine kl_cons rfl rfl ?_)) ?_ ?_ ?_ ?_)
        · omega
        · exact ⟨by omega, by rw [← hp2, hdr, cptF, if_pos heq], by omega⟩
        · exact ⟨rfl, rfl, trivial⟩
        · exact ⟨rfl, trivial⟩
    · try simp only [decide_eq_true_eq, decide_eq_false_iff_not, Bool.or_eq_true, Bool.or_eq_false_iff, Bool.and_eq_true, Bool.and_eq_false_iff, Bool.not_eq_true', Bool.not_eq_false', Bool.not_eq_true, Bool.not_eq_false, Bool.not_true, Bool.not_false, Int.not_lt, Int.not_le, not_or, not_and, Classical.not_not] at h25
      refine T_exit_go (fun _ _ h => h) ?_
      refine T_seq ?_
      refine T_region ?_
      refine S_ 51 rfl rfl rfl _ (y_move rfl rfl) ?_
      refine S_ 2 rfl rfl rfl _ (y_assign rfl rfl) ?_
      refine S_ 3 rfl rfl rfl _ (y_assign rfl rfl) ?_
      refine S_go (fun _ _ h => h) ?_
      refine T_ret (fun a w hF hM => hRb a w (post2 rfl rfl rfl (fun w hM => ?_) a w hF hM))
      have hfin : out = srtR S := by
        rw [srtR, if_pos h18, ← hsrt, ← hp2, List.drop_eq_nil_of_le (by rw [List.length_map]; omega)]; rfl
      subst hfin
      rw [h18]
      exact ⟨A6, c6, rfl, hM.sat 6 _ rfl, hM.below⟩
set_option maxHeartbeats 1600000 in
theorem SortedReleases_any (A : Option Addr) (q c : Nat) (S : List (List UInt8)) (w : World) (hS : SlT strE 1 w A q S) (hq : q ≤ 2000) :
    Calls Tryz.prog 40 #[.slice A q c] w fun e w' => ∃ A' c', e = .returned (.slice A' (cptF [] (srtL S)).length c') ∧ w'.ownsRow w.heap.size 9 1 (.slice A' (cptF [] (srtL S)).length c') (cptF [] (srtL S)).length ((cptF [] (srtL S)).flatMap strE) ∧ Below w.heap.size w w' := by
  have hlen := hS.len
  have hsl := srt_len S
  rw [cpt_eq]
  refine enter_args (args := [.slice A q c]) (F := _) Tryz.func40 rfl Tryz.ntmps40 rfl rfl ?_
  intro Rb hRb hRn
  refine T_seq ?_
  refine T_region ?_
  refine S_nilSlice 2 (e := 9) (size := 1) ?_
  refine S_ 2 rfl rfl rfl _ (y_assign rfl rfl) ?_
  refine S_go (fun _ _ h => h) ?_
  refine T_seq ?_
  refine T_region ?_
  refine S_ 3 rfl rfl rfl _ (y_move rfl rfl) ?_
  refine S_callOwn 4 4 rfl rfl rfl rfl rfl rfl rfl cf118 (fun A c => .slice A q c) 9 1 (q) (S.flatMap strE) (fun w hM => CloneStr_any A q c S w (hS.below hM.below) (by omega)) ?_
  intro A4 c4
  refine S_ 0 rfl rfl rfl _ (y_assign rfl rfl) ?_
  refine S_go (fun _ _ h => h) ?_
  refine T_seq ?_
  refine T_region ?_
  refine S_ 5 rfl rfl rfl _ (y_move rfl rfl) ?_
  refine S_callM 6 [(0, 4)] (X := Unit) rfl rfl rfl rfl rfl rfl rfl cf119 rfl (fun _ => .tuple #[]) (fun _ => True) (fun _ => [(0, .own 9 1 (.slice A4 q c4) q ((srtL S).flatMap strE))]) (fun _ => rfl) (fun _ => rfl) (fun K1 hK1 w1 hM => SortS_any A4 q c4 S w1 hlen (by omega) hM) ?_
  intro u6 _
  refine S_go (fun _ _ h => h) ?_
  refine T_seq ?_
  refine T_region ?_
  refine S_ 7 rfl rfl rfl _ (y_move rfl rfl) ?_
  refine S_callM 8 [(0, 4)] (X := Unit) rfl rfl rfl rfl rfl rfl rfl cf121 rfl (fun _ => .slice A4 (Lib.compact (srtL S)).length c4) (fun _ => True) (fun _ => [(0, .own 9 1 (.slice A4 (Lib.compact (srtL S)).length c4) (Lib.compact (srtL S)).length ((Lib.compact (srtL S)).flatMap strE))]) (fun _ => rfl) (fun _ => rfl) (fun K1 hK1 w1 hM => CompactS_any A4 q c4 (srtL S) w1 (by omega) (by omega) hM) ?_
  intro u8 _
  refine S_ 2 rfl rfl rfl _ (y_assign rfl rfl) ?_
  refine S_go (fun _ _ h => h) ?_
  refine T_ret (fun a w hF hM => hRb a w (post1 rfl rfl (fun w hM => ?_) a w hF hM))
  exact ⟨A4, c4, rfl, hM.sat 4 _ rfl, hM.below⟩
end Go.Proofs.YtpmlgnbbkpplhaaGreatDoor
end
section
namespace Go.Proofs.YtpmlgnbbkpplhaaGreatDoor
set_option linter.unusedSimpArgs false
set_option linter.unusedVariables false
set_option maxRecDepth 20000
open Go.RowKit Go.Eng
end Go.Proofs.YtpmlgnbbkpplhaaGreatDoor
end
section
namespace Go.Proofs.YtpmlgnbbkpplhaaGreatDoor
set_option linter.unusedSimpArgs false
set_option linter.unusedVariables false
set_option maxRecDepth 20000
open Go.RowKit Go.Eng
end Go.Proofs.YtpmlgnbbkpplhaaGreatDoor
end
section
namespace Go.Proofs.YtpmlgnbbkpplhaaGreatDoor
set_option linter.unusedSimpArgs false
set_option linter.unusedVariables false
set_option maxRecDepth 20000
open Go.RowKit Go.Eng
theorem parE_g {s : List UInt8} (h : relOk s = true) : parE s = (verV s, 0) := if_pos h
end Go.Proofs.YtpmlgnbbkpplhaaGreatDoor
end
section
namespace Go.Proofs.YtpmlgnbbkpplhaaGreatDoor
set_option linter.unusedSimpArgs false
set_option linter.unusedVariables false
set_option maxRecDepth 20000
open Go.RowKit Go.Eng
/-! ### Paths that end alike -/
/-! ### Points -/
/-! ### Suspects and their order -/
structure SSus where
  id : List UInt8
  n : Int
def SSus.enc (s : SSus) : List Value := [str s.id, .int .i64 s.n]
instance : Inhabited SSus := ⟨⟨[], 0⟩⟩
def SSus.eqB (a b : SSus) : Bool := decide (a.id = b.id) && decide (a.n = b.n)
theorem SSus.eqB_refl (a : SSus) : SSus.eqB a a = true := by simp [SSus.eqB]
end Go.Proofs.YtpmlgnbbkpplhaaGreatDoor
end
