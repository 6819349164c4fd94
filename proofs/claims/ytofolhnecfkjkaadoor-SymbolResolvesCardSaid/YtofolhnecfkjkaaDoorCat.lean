/- slices.Grow and slices.Concat of places. Conditions: those of each theorem. -/
import Derived.Test.YtofolhnecfkjkaaDoorResv
import Derived.Test.YtofolhnecfkjkaaDoorApp
namespace Go.Proofs.YtofolhnecfkjkaaDoor
set_option linter.unusedSimpArgs false
set_option linter.unusedVariables false
set_option maxRecDepth 20000
open Go.RowKit Go.Eng
theorem Grow_any (m : Nat) (h0 : 0 < m) (hm : m ≤ 1000000) (w : World) :
    Calls Tryd.prog 139 #[.slice none 0 0, .int .i64 (m : Int)] w fun e w' => ∃ A c, e = .returned (.slice A 0 c) ∧ w'.ownsRow w.heap.size 46 3 (.slice A 0 c) 0 [] ∧ Below w.heap.size w w' := by
  refine enter_args (args := [.slice none 0 0, .int .i64 (m : Int)]) (F := _) Tryd.func139 rfl Tryd.ntmps139 rfl rfl ?_
  intro Rb hRb hRn
  refine T_seq ?_
  refine T_region ?_
  refine S_nilSlice 4 (e := 46) (size := 3) ?_
  refine S_ 4 rfl rfl rfl _ (y_assign rfl rfl) ?_
  refine S_go (fun _ _ h => h) ?_
  refine T_seq ?_
  refine T_seq ?_
  refine T_region ?_
  refine S_ 5 rfl rfl rfl _ (y_move rfl rfl) ?_
  refine S_ 6 rfl rfl rfl _ (y_bin rfl rfl rfl (fun _ => b_lss)) ?_
  refine S_go (fun _ _ h => h) ?_
  refine T_cond rfl (fun h6 => ?_) (fun h6 => ?_)
  · try simp only [decide_eq_true_eq, decide_eq_false_iff_not, Bool.or_eq_true, Bool.or_eq_false_iff, Bool.and_eq_true, Bool.and_eq_false_iff, Bool.not_eq_true', Bool.not_eq_false', Bool.not_eq_true, Bool.not_eq_false, Bool.not_true, Bool.not_false, Int.not_lt, Int.not_le, not_or, not_and, Classical.not_not] at h6
    omega
  · try simp only [decide_eq_true_eq, decide_eq_false_iff_not, Bool.or_eq_true, Bool.or_eq_false_iff, Bool.and_eq_true, Bool.and_eq_false_iff, Bool.not_eq_true', Bool.not_eq_false', Bool.not_eq_true, Bool.not_eq_false, Bool.not_true, Bool.not_false, Int.not_lt, Int.not_le, not_or, not_and, Classical.not_not] at h6
    refine T_skip_go (fun _ _ h => h) ?_
    refine T_seq ?_
    refine T_seq ?_
    refine T_region ?_
    refine S_ 8 rfl rfl rfl _ (y_move rfl rfl) ?_
    refine S_ 9 rfl rfl rfl _ (y_move rfl rfl) ?_
    refine S_ 10 rfl rfl rfl _ (y_cap rfl rfl Tryd.underlying42) ?_
    refine S_ 11 rfl rfl rfl _ (y_move rfl rfl) ?_
    refine S_ 12 rfl rfl rfl _ (y_len_slice rfl rfl Tryd.underlying42) ?_
    refine S_ 13 rfl rfl rfl _ (y_bin rfl rfl rfl (fun hg => b_sub (by omega))) ?_
    refine S_ 14 rfl rfl rfl _ (y_bin rfl rfl rfl (fun hg => b_subv ((m : Int)) (by omega) (by omega))) ?_
    refine S_ 1 rfl rfl rfl _ (y_assign rfl rfl) ?_
    refine S_go (fun _ _ h => h) ?_
    refine T_seq ?_
    refine T_region ?_
    refine S_ 15 rfl rfl rfl _ (y_move rfl rfl) ?_
    refine S_ 16 rfl rfl rfl _ (y_bin rfl rfl rfl (fun _ => b_gtr)) ?_
    refine S_go (fun _ _ h => h) ?_
    refine T_cond rfl (fun h16 => ?_) (fun h16 => ?_)
    · try simp only [decide_eq_true_eq, decide_eq_false_iff_not, Bool.or_eq_true, Bool.or_eq_false_iff, Bool.and_eq_true, Bool.and_eq_false_iff, Bool.not_eq_true', Bool.not_eq_false', Bool.not_eq_true, Bool.not_eq_false, Bool.not_true, Bool.not_false, Int.not_lt, Int.not_le, not_or, not_and, Classical.not_not] at h16
      refine T_region ?_
      refine S_ 17 rfl rfl rfl _ (y_move rfl rfl) ?_
      refine S_ 18 rfl rfl rfl _ (y_move rfl rfl) ?_
      refine S_ 19 rfl rfl rfl _ (y_cap rfl rfl Tryd.underlying42) ?_
      refine S_ 20 rfl rfl rfl _ (y_slice rfl rfl Tryd.underlying42 sz46 (.inl ⟨rfl, rfl⟩) (.inr ⟨_, _, rfl, rfl⟩) (by omega) (by omega) (by omega)) ?_
      refine S_ 21 rfl rfl rfl _ (y_move rfl rfl) ?_
      obtain ⟨i22, hi22, hz22, hs22, hy22⟩ := info_parts inf46
      refine S_appendMake0 22 22 rfl rfl rfl rfl rfl rfl Tryd.underlying42 Tryd.underlying3 hi22 hz22 hs22 hy22 rfl (by decide) ((by omega)) ((by simp only [maxLen]; omega)) ((by omega)) ?_
      intro b22 c22 xs22 hc22
      refine S_ 23 rfl rfl rfl _ (y_move rfl rfl) ?_
      refine S_ 24 rfl rfl rfl _ (y_len_slice rfl rfl Tryd.underlying42) ?_
      refine S_shrink 22 0 rfl (Nat.zero_le _) ?_
      refine S_ 25 rfl rfl rfl _ (y_slice rfl rfl Tryd.underlying42 sz46 (.inl ⟨rfl, rfl⟩) (.inr ⟨_, _, rfl, rfl⟩) (by omega) (by omega) (by omega)) ?_
      refine S_ 0 rfl rfl rfl _ (y_assign rfl rfl) ?_
      refine S_go (fun _ _ h => h) ?_
      refine T_seq ?_
      refine T_region ?_
      refine S_ 26 rfl rfl rfl _ (y_move rfl rfl) ?_
      refine S_ 4 rfl rfl rfl _ (y_assign rfl rfl) ?_
      refine S_go (fun _ _ h => h) ?_
      refine T_ret (fun a w hF hM => hRb a w (post1 rfl rfl (fun w hM => ?_) a w hF hM))
      have hz : c22 ≠ 0 := by omega
      refine ⟨some ⟨b22, 0, none⟩, c22, ?_, hM.sat 22 _ rfl, hM.below⟩
      rw [if_neg hz]; rfl
    · try simp only [decide_eq_true_eq, decide_eq_false_iff_not, Bool.or_eq_true, Bool.or_eq_false_iff, Bool.and_eq_true, Bool.and_eq_false_iff, Bool.not_eq_true', Bool.not_eq_false', Bool.not_eq_true, Bool.not_eq_false, Bool.not_true, Bool.not_false, Int.not_lt, Int.not_le, not_or, not_and, Classical.not_not] at h16
      omega
abbrev sls (s : Sl SPlace) : List Value := [.slice s.A s.q s.c]
def sumQ : List (Sl SPlace) → Nat
  | [] => 0
  | s :: r => s.q + sumQ r
def catL : List (Sl SPlace) → List SPlace
  | [] => []
  | s :: r => s.l ++ catL r
theorem Concat_any (A : Option Addr) (k c : Nat) (ss : List (Sl SPlace)) (w : World) (hl : SlT sls 1 w A k ss) (hk : k ≤ 10) (hs : ∀ s ∈ ss, s.Ok SPlace.enc 3 w) (h0 : 0 < sumQ ss) (hm : sumQ ss ≤ 1000000) :
    Calls Tryd.prog 118 #[.slice A k c] w fun e w' => ∃ A' c', e = .returned (.slice A' (catL ss).length c') ∧ w'.ownsRow w.heap.size 46 3 (.slice A' (catL ss).length c') (catL ss).length ((catL ss).flatMap SPlace.enc) ∧ Below w.heap.size w w' := by
  refine enter_args (args := [.slice A k c]) (F := _) Tryd.func118 rfl Tryd.ntmps118 rfl rfl ?_
  intro Rb hRb hRn
  refine T_seq ?_
  refine T_region ?_
  refine S_nilSlice 2 (e := 46) (size := 3) ?_
  refine S_ 2 rfl rfl rfl _ (y_assign rfl rfl) ?_
  refine S_go (fun _ _ h => h) ?_
  refine T_seq ?_
  refine T_region ?_
  refine S_ 3 rfl rfl rfl _ (y_assign rfl rfl) ?_
  refine S_go (fun _ _ h => h) ?_
  refine T_seq ?_
  refine T_seq ?_
  refine T_region ?_
  refine S_ 9 rfl rfl rfl _ (y_move rfl rfl) ?_
  refine S_ 10 rfl rfl rfl _ (y_len_slice rfl rfl Tryd.underlying168) ?_
  refine S_ 11 rfl rfl rfl _ (y_move rfl rfl) ?_
  refine S_go (fun _ _ h => h) ?_
  refine T_block ?_
  refine T_loopK2 (kf := [(3, 3), (5, 5), (11, 22)]) (kl := [(3, 3), (5, 5), (11, 22)]) (fun (i : Nat) (n : Nat) => [(11, true, .int .i64 (i : Int)), (3, true, .int .i64 (n : Int))]) (fun (i : Nat) (n : Nat) => []) (fun (i : Nat) (n : Nat) => i ≤ k ∧ n + sumQ (ss.drop i) = sumQ ss) (fun (i : Nat) (n : Nat) => k - i) 0 0 (by repeat (first | exact kf_nil | (apply kf_in; focus rfl) | (apply kf_out; focus rfl))) (by repeat (first | exact kl_nil | exact kl_rest (by assumption) rfl | (apply kl_in; focus rfl) | (apply kl_out; focus rfl))) ?_ ?_ ?_ ?_
  · exact ⟨by omega, by simp⟩
  · exact ⟨rfl, rfl, trivial⟩
  · exact trivial
  rintro i n ⟨hp1, hp2⟩
  refine T_seq ?_
  refine T_region ?_
  refine S_ 12 rfl rfl rfl _ (y_bin rfl rfl rfl (fun _ => b_lss)) ?_
  refine S_go (fun _ _ h => h) ?_
  refine T_seq ?_
  refine T_cond rfl (fun h12 => ?_) (fun h12 => ?_)
  · try simp only [decide_eq_true_eq, decide_eq_false_iff_not, Bool.or_eq_true, Bool.or_eq_false_iff, Bool.and_eq_true, Bool.and_eq_false_iff, Bool.not_eq_true', Bool.not_eq_false', Bool.not_eq_true, Bool.not_eq_false, Bool.not_true, Bool.not_false, Int.not_lt, Int.not_le, not_or, not_and, Classical.not_not] at h12
    obtain ⟨x, hx1, hx2⟩ := hl.at (i := i) (by omega)
    rw [hx2, sumQ] at hp2
    refine T_skip_go (fun _ _ h => h) ?_
    refine T_seq ?_
    refine T_block ?_
    refine T_seq ?_
    refine T_region ?_
    refine S_ 13 rfl rfl rfl _ (y_indexAddr rfl rfl rfl Tryd.underlying168 sz42 (fun hg => hl.isSome (by omega)) (fun _ => by omega)) ?_
    refine S_ 14 rfl rfl rfl _ (y_loadT1 (val := (fun s : Sl SPlace => Value.slice s.A s.q s.c)) rfl rfl hl (fun _ => hx1) Tryd.underlying42 rfl) ?_
    refine S_ 5 rfl rfl rfl _ (y_assign rfl rfl) ?_
    refine S_go (fun _ _ h => h) ?_
    refine T_seq ?_
    refine T_region ?_
    refine S_ 15 rfl rfl rfl _ (y_move rfl rfl) ?_
    refine S_ 16 rfl rfl rfl _ (y_move rfl rfl) ?_
    refine S_ 17 rfl rfl rfl _ (y_len_slice rfl rfl Tryd.underlying42) ?_
    refine S_ 18 rfl rfl rfl _ (y_bin rfl rfl rfl (fun hg => b_addv (((n + x.q : Nat) : Int)) (by omega) (by omega))) ?_
    refine S_ 3 rfl rfl rfl _ (y_assign rfl rfl) ?_
    refine S_go (fun _ _ h => h) ?_
    refine T_seq ?_
    refine T_region ?_
    refine S_ 19 rfl rfl rfl _ (y_move rfl rfl) ?_
    refine S_ 20 rfl rfl rfl _ (y_bin rfl rfl rfl (fun _ => b_lss)) ?_
    refine S_go (fun _ _ h => h) ?_
    refine T_cond rfl (fun h20 => ?_) (fun h20 => ?_)
    · try simp only [decide_eq_true_eq, decide_eq_false_iff_not, Bool.or_eq_true, Bool.or_eq_false_iff, Bool.and_eq_true, Bool.and_eq_false_iff, Bool.not_eq_true', Bool.not_eq_false', Bool.not_eq_true, Bool.not_eq_false, Bool.not_true, Bool.not_false, Int.not_lt, Int.not_le, not_or, not_and, Classical.not_not] at h20
      omega
    · try simp only [decide_eq_true_eq, decide_eq_false_iff_not, Bool.or_eq_true, Bool.or_eq_false_iff, Bool.and_eq_true, Bool.and_eq_false_iff, Bool.not_eq_true', Bool.not_eq_false', Bool.not_eq_true, Bool.not_eq_false, Bool.not_true, Bool.not_false, Int.not_lt, Int.not_le, not_or, not_and, Classical.not_not] at h20
      refine T_skip_go (fun _ _ h => h) ?_
      refine T_region ?_
      refine S_ 22 rfl rfl rfl _ (y_bin rfl rfl rfl (fun hg => b_add (by omega))) ?_
      refine S_ 11 rfl rfl rfl _ (y_move rfl rfl) ?_
      refine S_nil (nextK2 (kf := [(3, 3), (5, 5), (11, 22)]) (kl := [(3, 3), (5, 5), (11, 22)]) (i + 1) (n + x.q) (by repeat (first | exact kf_nil | (apply kf_in; focus rfl) | (apply kf_out; focus rfl))) (by repeat (first | exact kl_nil | exact kl_rest (by assumption) rfl | (apply kl_in; focus rfl) | (apply kl_out; focus rfl))) ?_ ?_ ?_ ?_)
      · omega
      · exact ⟨by omega, by omega⟩
      · exact ⟨rfl, rfl, trivial⟩
      · exact trivial
  · try simp only [decide_eq_true_eq, decide_eq_false_iff_not, Bool.or_eq_true, Bool.or_eq_false_iff, Bool.and_eq_true, Bool.and_eq_false_iff, Bool.not_eq_true', Bool.not_eq_false', Bool.not_eq_true, Bool.not_eq_false, Bool.not_true, Bool.not_false, Int.not_lt, Int.not_le, not_or, not_and, Classical.not_not] at h12
    have hz : ss.drop i = [] := hl.end (by omega)
    rw [hz, sumQ] at hp2
    refine T_exit_go (fun _ _ h => h) ?_
    refine T_seq ?_
    refine T_region ?_
    refine S_ 23 rfl rfl rfl _ (y_move rfl rfl) ?_
    refine S_callOwn 24 24 rfl rfl rfl rfl rfl rfl rfl cf139 (fun A c => .slice A (0) c) 46 3 (0) ([]) (fun w hM => Grow_any n (by omega) (by omega) w) ?_
    intro A24 c24
    refine S_ 6 rfl rfl rfl _ (y_assign rfl rfl) ?_
    refine S_go (fun _ _ h => h) ?_
    refine T_seq ?_
    refine T_seq ?_
    refine T_region ?_
    refine S_ 25 rfl rfl rfl _ (y_move rfl rfl) ?_
    refine S_ 26 rfl rfl rfl _ (y_len_slice rfl rfl Tryd.underlying168) ?_
    refine S_ 27 rfl rfl rfl _ (y_move rfl rfl) ?_
    refine S_go (fun _ _ h => h) ?_
    refine T_block ?_
    refine T_loopK5 (kf := [(6, 6), (8, 8), (27, 34)]) (kl := [(6, 6), (8, 8), (24, 24), (27, 34)]) (fun (i : Nat) (out : List SPlace) (q : Nat) (A2 : Option Addr) (c2 : Nat) => [(27, true, .int .i64 (i : Int)), (6, true, .slice A2 q c2)]) (fun (i : Nat) (out : List SPlace) (q : Nat) (A2 : Option Addr) (c2 : Nat) => [(24, .own 46 3 (.slice A2 q c2) q (out.flatMap SPlace.enc))]) (fun (i : Nat) (out : List SPlace) (q : Nat) (A2 : Option Addr) (c2 : Nat) => i ≤ k ∧ out.length = q ∧ out ++ catL (ss.drop i) = catL ss ∧ q + sumQ (ss.drop i) = sumQ ss) (fun (i : Nat) (out : List SPlace) (q : Nat) (A2 : Option Addr) (c2 : Nat) => k - i) 0 [] 0 A24 c24 (by repeat (first | exact kf_nil | (apply kf_in; focus rfl) | (apply kf_out; focus rfl))) (by repeat (first | exact kl_nil | exact kl_rest (by assumption) rfl | (apply kl_in; focus rfl) | (apply kl_out; focus rfl))) ?_ ?_ ?_ ?_
    · exact ⟨by omega, rfl, rfl, by simp⟩
    · exact ⟨rfl, rfl, trivial⟩
    · exact ⟨rfl, trivial⟩
    rintro i out q A2 c2 ⟨hr1, hr2, hr3, hr4⟩
    refine T_seq ?_
    refine T_region ?_
    refine S_ 28 rfl rfl rfl _ (y_bin rfl rfl rfl (fun _ => b_lss)) ?_
    refine S_go (fun _ _ h => h) ?_
    refine T_seq ?_
    refine T_cond rfl (fun h28 => ?_) (fun h28 => ?_)
    · try simp only [decide_eq_true_eq, decide_eq_false_iff_not, Bool.or_eq_true, Bool.or_eq_false_iff, Bool.and_eq_true, Bool.and_eq_false_iff, Bool.not_eq_true', Bool.not_eq_false', Bool.not_eq_true, Bool.not_eq_false, Bool.not_true, Bool.not_false, Int.not_lt, Int.not_le, not_or, not_and, Classical.not_not] at h28
      obtain ⟨x, hx1, hx2⟩ := hl.at (i := i) (by omega)
      have hxo := hs x (mem_at hx1)
      have hxl := hxo.t.len
      rw [hx2] at hr3 hr4
      rw [catL] at hr3
      rw [sumQ] at hr4
      refine T_skip_go (fun _ _ h => h) ?_
      refine T_seq ?_
      refine T_block ?_
      refine T_seq ?_
      refine T_region ?_
      refine S_ 29 rfl rfl rfl _ (y_indexAddr rfl rfl rfl Tryd.underlying168 sz42 (fun hg => hl.isSome (by omega)) (fun _ => by omega)) ?_
      refine S_ 30 rfl rfl rfl _ (y_loadT1 (val := (fun s : Sl SPlace => Value.slice s.A s.q s.c)) rfl rfl hl (fun _ => hx1) Tryd.underlying42 rfl) ?_
      refine S_ 8 rfl rfl rfl _ (y_assign rfl rfl) ?_
      refine S_go (fun _ _ h => h) ?_
      refine T_region ?_
      refine S_ 31 rfl rfl rfl _ (y_move rfl rfl) ?_
      refine S_ 32 rfl rfl rfl _ (y_move rfl rfl) ?_
      obtain ⟨i33, hi33, hz33, hs33, hy33⟩ := info_parts inf46
      refine S_appendG 33 24 (news := x.l.flatMap SPlace.enc) rfl rfl rfl rfl rfl rfl rfl (fun w hM => hxo.t.rd.below hM.below) Tryd.underlying42 hi33 hz33 hs33 hy33 rfl (by decide) (allOne_of (fun u hu => by obtain ⟨a, _, ha⟩ := List.mem_flatMap.1 hu; simp [SPlace.enc] at ha; rcases ha with rfl | rfl | rfl <;> rfl)) ?_ ?_ (q + x.q) ((out ++ x.l).flatMap SPlace.enc) ?_ ?_ ?_
      · (simp only [maxLen]; omega)
      · omega
      · rfl
      · simp [List.flatMap_append]
      intro A33 c33
      refine S_ 6 rfl rfl rfl _ (y_assign rfl rfl) ?_
      refine S_go (fun _ _ h => h) ?_
      refine T_region ?_
      refine S_ 34 rfl rfl rfl _ (y_bin rfl rfl rfl (fun hg => b_add (by omega))) ?_
      refine S_ 27 rfl rfl rfl _ (y_move rfl rfl) ?_
      refine S_nil (nextK5 (kf := [(6, 6), (8, 8), (27, 34)]) (kl := [(6, 6), (8, 8), (24, 24), (27, 34)]) (i + 1) (out ++ x.l) (q + x.q) A33 c33 (by repeat (first | exact kf_nil | (apply kf_in; focus rfl) | (apply kf_out; focus rfl))) (by repeat (first | exact kl_nil | exact kl_rest (by assumption) rfl | (apply kl_in; focus rfl) | (apply kl_out; focus rfl))) ?_ ?_ ?_ ?_)
      · omega
      · exact ⟨by omega, by simp [hr2, hxl], by rw [← hr3, List.append_assoc], by omega⟩
      · exact ⟨rfl, rfl, trivial⟩
      · exact ⟨rfl, trivial⟩
    · try simp only [decide_eq_true_eq, decide_eq_false_iff_not, Bool.or_eq_true, Bool.or_eq_false_iff, Bool.and_eq_true, Bool.and_eq_false_iff, Bool.not_eq_true', Bool.not_eq_false', Bool.not_eq_true, Bool.not_eq_false, Bool.not_true, Bool.not_false, Int.not_lt, Int.not_le, not_or, not_and, Classical.not_not] at h28
      refine T_exit_go (fun _ _ h => h) ?_
      refine T_seq ?_
      refine T_region ?_
      refine S_ 35 rfl rfl rfl _ (y_move rfl rfl) ?_
      refine S_ 2 rfl rfl rfl _ (y_assign rfl rfl) ?_
      refine S_go (fun _ _ h => h) ?_
      refine T_ret (fun a w hF hM => hRb a w (post1 rfl rfl (fun w hM => ?_) a w hF hM))
      have e : catL ss = out := by rw [← hr3, hl.end (by omega)]; simp [catL]
      rw [e, hr2]
      exact ⟨A2, c2, rfl, hM.sat 24 _ rfl, hM.below⟩
end Go.Proofs.YtofolhnecfkjkaaDoor
