/- Part 6, merged by a program. slices.Grow and slices.Concat of places. Conditions: those of each theorem. The reference: PlacesAt. Condition: the table is right. The order of shares is strict and total. No program in sight. slices.SortFunc sorts shares: the premise SortsShares is paid. No condition. digits writes a natural number in base 128. Conditions: 0 <= n, n at most 2^62. The reference's number, and the two readers of numbers. Conditions: those of each theorem. The bytes of a table, in plain lists. No program in sight. Tables read from bytes, in plain lists. No program in sight. strings.Builder: what its methods do to a builder that the caller has made. Conditions: those of each theorem. symbol.readTable and its closures. Conditions: those of each theorem. symbol.readTable: the closures that take one element, and the lists. Conditions: those of each theorem. symbol.readTable: its lists. Conditions: those of each theorem. symbol.readTable and symbol.Read. Conditions: those of each theorem. SymbolChecks: the program's answers and the reference's are one. symbol.Read. Conditions: those of each theorem. Strings at a seat of tables: one byte looked for, cut and split at it. Conditions: those of each theorem. Numbers as texts at a seat of tables: Itoa, Atoi, plainNumber, whole. Conditions: those of each theorem. -/
import Derived.Test.YtkkngcdikbhkjaaGreatDoorApp
import Derived.Sort.Walk0
import Derived.Test.YtkkngcdikbhkjaaGreatDoorSort
import Derived.Test.YtkkngcdikbhkjaaGreatDoorSlsf
import Derived.Test.YtkkngcdikbhkjaaGreatDoorLem
import Derived.Test.YtkkngcdikbhkjaaGreatDoorBld
import Derived.Test.YtkkngcdikbhkjaaGreatDoorStrs
import Derived.Test.YtkkngcdikbhkjaaGreatDoorByt
import Derived.Test.YtkkngcdikbhkjaaGreatDoorClr
import Derived.Test.YtkkngcdikbhkjaaGreatDoorMany
import Derived.Test.YtkkngcdikbhkjaaGreatDoorIfc
import Derived.Test.YtkkngcdikbhkjaaGreatDoorSit
import Derived.Lib.ItoaLen
import Derived.Test.YtkkngcdikbhkjaaGreatDoorPk5
section
namespace Go.Proofs.YtkkngcdikbhkjaaGreatDoor
set_option linter.unusedSimpArgs false
set_option linter.unusedVariables false
set_option maxRecDepth 20000
open Go.RowKit Go.Eng
theorem Grow_any (m : Nat) (h0 : 0 < m) (hm : m ≤ 1000000) (w : World) :
    Calls Tryz.prog 297 #[.slice none 0 0, .int .i64 (m : Int)] w fun e w' => ∃ A c, e = .returned (.slice A 0 c) ∧ w'.ownsRow w.heap.size 134 3 (.slice A 0 c) 0 [] ∧ Below w.heap.size w w' := by
  refine enter_args (args := [.slice none 0 0, .int .i64 (m : Int)]) (F := _) Tryz.func297 rfl Tryz.ntmps297 rfl rfl ?_
  intro Rb hRb hRn
  refine T_seq ?_
  refine T_region ?_
  refine S_nilSlice 4 (e := 134) (size := 3) ?_
  refine S_ 4 rfl rfl rfl _ (y_assign rfl rfl) ?_
  refine S_go (fun _ _ h => h) ?_
  refine T_seq ?_
  refine T_seq ?_
  refine T_region ?_
  refine S_ 5 rfl rfl rfl _ (y_move rfl rfl) ?_
  refine S_ 6 rfl rfl rfl _ (y_bin rfl rfl rfl (fun _ => b_lss)) ?_
  refine S_go (fun _ _ h => h) ?_
  refine T_cond rfl (fun h6 => ?_) (fun h6 => ?_)
  · try simp only [decide_eq_true_eq, decide_eq_false_iff_not, Bool.or_eq_true, Bool.or_eq_false_iff, Bool.and_eq_true, Bool.and_eq_false_iff, Bool.not_eq_true', Bool.not_eq_false', Bool.not_eq_true, Bool.not_eq_false, Bool.not_true, Bool.not_false, Int.not_lt, Int.not_le, not_or, not_and, Classical.not_not] at h6
    omega
  · try simp only [decide_eq_true_eq, decide_eq_false_iff_not, Bool.or_eq_true, Bool.or_eq_false_iff, Bool.and_eq_true, Bool.and_eq_false_iff, Bool.not_eq_true', Bool.not_eq_false', Bool.not_eq_true, Bool.not_eq_false, Bool.not_true, Bool.not_false, Int.not_lt, Int.not_le, not_or, not_and, Classical.not_not] at h6
    refine T_skip_go (fun _ _ h => h) ?_
    refine T_seq ?_
    refine T_seq ?_
    refine T_region ?_
    refine S_ 8 rfl rfl rfl _ (y_move rfl rfl) ?_
    refine S_ 9 rfl rfl rfl _ (y_move rfl rfl) ?_
    refine S_ 10 rfl rfl rfl _ (y_cap rfl rfl Tryz.underlying119) ?_
    refine S_ 11 rfl rfl rfl _ (y_move rfl rfl) ?_
    refine S_ 12 rfl rfl rfl _ (y_len_slice rfl rfl Tryz.underlying119) ?_
    refine S_ 13 rfl rfl rfl _ (y_bin rfl rfl rfl (fun hg => b_sub (by omega))) ?_
    refine S_ 14 rfl rfl rfl _ (y_bin rfl rfl rfl (fun hg => b_subv ((m : Int)) (by omega) (by omega))) ?_
    refine S_ 1 rfl rfl rfl _ (y_assign rfl rfl) ?_
    refine S_go (fun _ _ h => h) ?_
    refine T_seq ?_
    refine T_region ?_
    refine S_ 15 rfl rfl rfl _ (y_move rfl rfl) ?_
    refine S_ 16 rfl rfl rfl _ (y_bin rfl rfl rfl (fun _ => b_gtr)) ?_
    refine S_go (fun _ _ h => h) ?_
    refine T_cond rfl (fun h16 => ?_) (fun h16 => ?_)
    · try simp only [decide_eq_true_eq, decide_eq_false_iff_not, Bool.or_eq_true, Bool.or_eq_false_iff, Bool.and_eq_true, Bool.and_eq_false_iff, Bool.not_eq_true', Bool.not_eq_false', Bool.not_eq_true, Bool.not_eq_false, Bool.not_true, Bool.not_false, Int.not_lt, Int.not_le, not_or, not_and, Classical.not_not] at h16
      refine T_region ?_
      refine S_ 17 rfl rfl rfl _ (y_move rfl rfl) ?_
      refine S_ 18 rfl rfl rfl _ (y_move rfl rfl) ?_
      refine S_ 19 rfl rfl rfl _ (y_cap rfl rfl Tryz.underlying119) ?_
      refine S_ 20 rfl rfl rfl _ (y_slice rfl rfl Tryz.underlying119 sz134 (.inl ⟨rfl, rfl⟩) (.inr ⟨_, _, rfl, rfl⟩) (by omega) (by omega) (by omega)) ?_
      refine S_ 21 rfl rfl rfl _ (y_move rfl rfl) ?_
      obtain ⟨i22, hi22, hz22, hs22, hy22⟩ := info_parts inf134
      refine S_appendMake0 22 22 rfl rfl rfl rfl rfl rfl Tryz.underlying119 Tryz.underlying3 hi22 hz22 hs22 hy22 rfl (by decide) ((by omega)) ((by simp only [maxLen]; omega)) ((by omega)) ?_
      intro b22 c22 xs22 hc22
      refine S_ 23 rfl rfl rfl _ (y_move rfl rfl) ?_
      refine S_ 24 rfl rfl rfl _ (y_len_slice rfl rfl Tryz.underlying119) ?_
      refine S_shrink 22 0 rfl (Nat.zero_le _) ?_
      refine S_ 25 rfl rfl rfl _ (y_slice rfl rfl Tryz.underlying119 sz134 (.inl ⟨rfl, rfl⟩) (.inr ⟨_, _, rfl, rfl⟩) (by omega) (by omega) (by omega)) ?_
      refine S_ 0 rfl rfl rfl _ (y_assign rfl rfl) ?_
      refine S_go (fun _ _ h => h) ?_
      refine T_seq ?_
      refine T_region ?_
      refine S_ 26 rfl rfl rfl _ (y_move rfl rfl) ?_
      refine S_ 4 rfl rfl rfl _ (y_assign rfl rfl) ?_
      refine S_go (fun _ _ h => h) ?_
      refine T_ret (fun a w hF hM => hRb a w (post1 rfl rfl (fun w hM => ?_) a w hF hM))
      have hz : c22 ≠ 0 := by omega
      refine ⟨some ⟨b22, 0, none⟩, c22, ?_, hM.sat 22 _ rfl, hM.below⟩
      rw [if_neg hz]; rfl
    · try simp only [decide_eq_true_eq, decide_eq_false_iff_not, Bool.or_eq_true, Bool.or_eq_false_iff, Bool.and_eq_true, Bool.and_eq_false_iff, Bool.not_eq_true', Bool.not_eq_false', Bool.not_eq_true, Bool.not_eq_false, Bool.not_true, Bool.not_false, Int.not_lt, Int.not_le, not_or, not_and, Classical.not_not] at h16
      omega
abbrev sls (s : Sl SPlace) : List Value := [.slice s.A s.q s.c]
def sumQ : List (Sl SPlace) → Nat
  | [] => 0
  | s :: r => s.q + sumQ r
def catL : List (Sl SPlace) → List SPlace
  | [] => []
  | s :: r => s.l ++ catL r
theorem Concat_any (A : Option Addr) (k c : Nat) (ss : List (Sl SPlace)) (w : World) (hl : SlT sls 1 w A k ss) (hk : k ≤ 10) (hs : ∀ s ∈ ss, s.Ok SPlace.enc 3 w) (h0 : 0 < sumQ ss) (hm : sumQ ss ≤ 1000000) :
    Calls Tryz.prog 176 #[.slice A k c] w fun e w' => ∃ A' c', e = .returned (.slice A' (catL ss).length c') ∧ w'.ownsRow w.heap.size 134 3 (.slice A' (catL ss).length c') (catL ss).length ((catL ss).flatMap SPlace.enc) ∧ Below w.heap.size w w' := by
  refine enter_args (args := [.slice A k c]) (F := _) Tryz.func176 rfl Tryz.ntmps176 rfl rfl ?_
  intro Rb hRb hRn
  refine T_seq ?_
  refine T_region ?_
  refine S_nilSlice 2 (e := 134) (size := 3) ?_
  refine S_ 2 rfl rfl rfl _ (y_assign rfl rfl) ?_
  refine S_go (fun _ _ h => h) ?_
  refine T_seq ?_
  refine T_region ?_
  refine S_ 3 rfl rfl rfl _ (y_assign rfl rfl) ?_
  refine S_go (fun _ _ h => h) ?_
  refine T_seq ?_
  refine T_seq ?_
  refine T_region ?_
  refine S_ 9 rfl rfl rfl _ (y_move rfl rfl) ?_
  refine S_ 10 rfl rfl rfl _ (y_len_slice rfl rfl Tryz.underlying328) ?_
  refine S_ 11 rfl rfl rfl _ (y_move rfl rfl) ?_
  refine S_go (fun _ _ h => h) ?_
  refine T_block ?_
  refine T_loopK2 (kf := [(3, 3), (5, 5), (11, 22)]) (kl := [(3, 3), (5, 5), (11, 22)]) (fun (i : Nat) (n : Nat) => [(11, true, .int .i64 (i : Int)), (3, true, .int .i64 (n : Int))]) (fun (i : Nat) (n : Nat) => []) (fun (i : Nat) (n : Nat) => i ≤ k ∧ n + sumQ (ss.drop i) = sumQ ss) (fun (i : Nat) (n : Nat) => k - i) 0 0 (by repeat (first | exact kf_nil | (apply kf_in; focus rfl) | (apply kf_out; focus rfl))) (by repeat (first | exact kl_nil | exact kl_rest (by assumption) rfl | (apply kl_in; focus rfl) | (apply kl_out; focus rfl))) ?_ ?_ ?_ ?_
  · exact ⟨by omega, by simp⟩
  · exact ⟨rfl, rfl, trivial⟩
  · exact trivial
  rintro i n ⟨hp1, hp2⟩
  refine T_seq ?_
  refine T_region ?_
  refine S_ 12 rfl rfl rfl _ (y_bin rfl rfl rfl (fun _ => b_lss)) ?_
  refine S_go (fun _ _ h => h) ?_
  refine T_seq ?_
  refine T_cond rfl (fun h12 => ?_) (fun h12 => ?_)
  · try simp only [decide_eq_true_eq, decide_eq_false_iff_not, Bool.or_eq_true, Bool.or_eq_false_iff, Bool.and_eq_true, Bool.and_eq_false_iff, Bool.not_eq_true', Bool.not_eq_false', Bool.not_eq_true, Bool.not_eq_false, Bool.not_true, Bool.not_false, Int.not_lt, Int.not_le, not_or, not_and, Classical.not_not] at h12
    obtain ⟨x, hx1, hx2⟩ := hl.at (i := i) (by omega)
    rw [hx2, sumQ] at hp2
    refine T_skip_go (fun _ _ h => h) ?_
    refine T_seq ?_
    refine T_block ?_
    refine T_seq ?_
    refine T_region ?_
    refine S_ 13 rfl rfl rfl _ (y_indexAddr rfl rfl rfl Tryz.underlying328 sz119 (fun hg => hl.isSome (by omega)) (fun _ => by omega)) ?_
    refine S_ 14 rfl rfl rfl _ (y_loadT1 (val := (fun s : Sl SPlace => Value.slice s.A s.q s.c)) rfl rfl hl (fun _ => hx1) Tryz.underlying119 rfl) ?_
    refine S_ 5 rfl rfl rfl _ (y_assign rfl rfl) ?_
    refine S_go (fun _ _ h => h) ?_
    refine T_seq ?_
    refine T_region ?_
    refine S_ 15 rfl rfl rfl _ (y_move rfl rfl) ?_
    refine S_ 16 rfl rfl rfl _ (y_move rfl rfl) ?_
    refine S_ 17 rfl rfl rfl _ (y_len_slice rfl rfl Tryz.underlying119) ?_
    refine S_ 18 rfl rfl rfl _ (y_bin rfl rfl rfl (fun hg => b_addv (((n + x.q : Nat) : Int)) (by omega) (by omega))) ?_
    refine S_ 3 rfl rfl rfl _ (y_assign rfl rfl) ?_
    refine S_go (fun _ _ h => h) ?_
    refine T_seq ?_
    refine T_region ?_
    refine S_ 19 rfl rfl rfl _ (y_move rfl rfl) ?_
    refine S_ 20 rfl rfl rfl _ (y_bin rfl rfl rfl (fun _ => b_lss)) ?_
    refine S_go (fun _ _ h => h) ?_
    refine T_cond rfl (fun h20 => ?_) (fun h20 => ?_)
    · try simp only [decide_eq_true_eq, decide_eq_false_iff_not, Bool.or_eq_true, Bool.or_eq_false_iff, Bool.and_eq_true, Bool.and_eq_false_iff, Bool.not_eq_true', Bool.not_eq_false', Bool.not_eq_true, Bool.not_eq_false, Bool.not_true, Bool.not_false, Int.not_lt, Int.not_le, not_or, not_and, Classical.not_not] at h20
      omega
    · try simp only [decide_eq_true_eq, decide_eq_false_iff_not, Bool.or_eq_true, Bool.or_eq_false_iff, Bool.and_eq_true, Bool.and_eq_false_iff, Bool.not_eq_true', Bool.not_eq_false', Bool.not_eq_true, Bool.not_eq_false, Bool.not_true, Bool.not_false, Int.not_lt, Int.not_le, not_or, not_and, Classical.not_not] at h20
      refine T_skip_go (fun _ _ h => h) ?_
      refine T_region ?_
      refine S_ 22 rfl rfl rfl _ (y_bin rfl rfl rfl (fun hg => b_add (by omega))) ?_
      refine S_ 11 rfl rfl rfl _ (y_move rfl rfl) ?_
      refine S_nil (nextK2 (kf := [(3, 3), (5, 5), (11, 22)]) (kl := [(3, 3), (5, 5), (11, 22)]) (i + 1) (n + x.q) (by repeat (first | exact kf_nil | (apply kf_in; focus rfl) | (apply kf_out; focus rfl))) (by repeat (first | exact kl_nil | exact kl_rest (by assumption) rfl | (apply kl_in; focus rfl) | (apply kl_out; focus rfl))) ?_ ?_ ?_ ?_)
      · omega
      · exact ⟨by omega, by omega⟩
      · exact ⟨rfl, rfl, trivial⟩
      · exact trivial
  · try simp only [decide_eq_true_eq, decide_eq_false_iff_not, Bool.or_eq_true, Bool.or_eq_false_iff, Bool.and_eq_true, Bool.and_eq_false_iff, Bool.not_eq_true', Bool.not_eq_false', Bool.not_eq_true, Bool.not_eq_false, Bool.not_true, Bool.not_false, Int.not_lt, Int.not_le, not_or, not_and, Classical.not_not] at h12
    have hz : ss.drop i = [] := hl.end (by omega)
    rw [hz, sumQ] at hp2
    refine T_exit_go (fun _ _ h => h) ?_
    refine T_seq ?_
    refine T_region ?_
    refine S_ 23 rfl rfl rfl _ (y_move rfl rfl) ?_
    refine S_callOwn 24 24 rfl rfl rfl rfl rfl rfl rfl cf297 (fun A c => .slice A (0) c) 134 3 (0) ([]) (fun w hM => Grow_any n (by omega) (by omega) w) ?_
    intro A24 c24
    refine S_ 6 rfl rfl rfl _ (y_assign rfl rfl) ?_
    refine S_go (fun _ _ h => h) ?_
    refine T_seq ?_
    refine T_seq ?_
    refine T_region ?_
    refine S_ 25 rfl rfl rfl _ (y_move rfl rfl) ?_
    refine S_ 26 rfl rfl rfl _ (y_len_slice rfl rfl Tryz.underlying328) ?_
    refine S_ 27 rfl rfl rfl _ (y_move rfl rfl) ?_
    refine S_go (fun _ _ h => h) ?_
    refine T_block ?_
    refine T_loopK5 (kf := [(6, 6), (8, 8), (27, 34)]) (kl := [(6, 6), (8, 8), (24, 24), (27, 34)]) (fun (i : Nat) (out : List SPlace) (q : Nat) (A2 : Option Addr) (c2 : Nat) => [(27, true, .int .i64 (i : Int)), (6, true, .slice A2 q c2)]) (fun (i : Nat) (out : List SPlace) (q : Nat) (A2 : Option Addr) (c2 : Nat) => [(24, .own 134 3 (.slice A2 q c2) q (out.flatMap SPlace.enc))]) (fun (i : Nat) (out : List SPlace) (q : Nat) (A2 : Option Addr) (c2 : Nat) => i ≤ k ∧ out.length = q ∧ out ++ catL (ss.drop i) = catL ss ∧ q + sumQ (ss.drop i) = sumQ ss) (fun (i : Nat) (out : List SPlace) (q : Nat) (A2 : Option Addr) (c2 : Nat) => k - i) 0 [] 0 A24 c24 (by repeat (first | exact kf_nil | (apply kf_in; focus rfl) | (apply kf_out; focus rfl))) (by repeat (first | exact kl_nil | exact kl_rest (by assumption) rfl | (apply kl_in; focus rfl) | (apply kl_out; focus rfl))) ?_ ?_ ?_ ?_
    · exact ⟨by omega, rfl, rfl, by simp⟩
    · exact ⟨rfl, rfl, trivial⟩
    · exact ⟨rfl, trivial⟩
    rintro i out q A2 c2 ⟨hr1, hr2, hr3, hr4⟩
    refine T_seq ?_
    refine T_region ?_
    refine S_ 28 rfl rfl rfl _ (y_bin rfl rfl rfl (fun _ => b_lss)) ?_
    refine S_go (fun _ _ h => h) ?_
    refine T_seq ?_
    refine T_cond rfl (fun h28 => ?_) (fun h28 => ?_)
    · try simp only [decide_eq_true_eq, decide_eq_false_iff_not, Bool.or_eq_true, Bool.or_eq_false_iff, Bool.and_eq_true, Bool.and_eq_false_iff, Bool.not_eq_true', Bool.not_eq_false', Bool.not_eq_true, Bool.not_eq_false, Bool.not_true, Bool.not_false, Int.not_lt, Int.not_le, not_or, not_and, Classical.not_not] at h28
      obtain ⟨x, hx1, hx2⟩ := hl.at (i := i) (by omega)
      have hxo := hs x (mem_at hx1)
      have hxl := hxo.t.len
      rw [hx2] at hr3 hr4
      rw [catL] at hr3
      rw [sumQ] at hr4
      refine T_skip_go (fun _ _ h => h) ?_
      refine T_seq ?_
      refine T_block ?_
      refine T_seq ?_
      refine T_region ?_
      refine S_ 29 rfl rfl rfl _ (y_indexAddr rfl rfl rfl Tryz.underlying328 sz119 (fun hg => hl.isSome (by omega)) (fun _ => by omega)) ?_
      refine S_ 30 rfl rfl rfl _ (y_loadT1 (val := (fun s : Sl SPlace => Value.slice s.A s.q s.c)) rfl rfl hl (fun _ => hx1) Tryz.underlying119 rfl) ?_
      refine S_ 8 rfl rfl rfl _ (y_assign rfl rfl) ?_
      refine S_go (fun _ _ h => h) ?_
      refine T_region ?_
      refine S_ 31 rfl rfl rfl _ (y_move rfl rfl) ?_
      refine S_ 32 rfl rfl rfl _ (y_move rfl rfl) ?_
      obtain ⟨i33, hi33, hz33, hs33, hy33⟩ := info_parts inf134
      refine S_appendG 33 24 (news := x.l.flatMap SPlace.enc) rfl rfl rfl rfl rfl rfl rfl (fun w hM => hxo.t.rd.below hM.below) Tryz.underlying119 hi33 hz33 hs33 hy33 rfl (by decide) (allOne_of (fun u hu => by obtain ⟨a, _, ha⟩ := List.mem_flatMap.1 hu; simp [SPlace.enc] at ha; rcases ha with rfl | rfl | rfl <;> rfl)) ?_ ?_ (q + x.q) ((out ++ x.l).flatMap SPlace.enc) ?_ ?_ ?_
      · (simp only [maxLen]; omega)
      · omega
      · rfl
      · simp [List.flatMap_append]
      intro A33 c33
      refine S_ 6 rfl rfl rfl _ (y_assign rfl rfl) ?_
      refine S_go (fun _ _ h => h) ?_
      refine T_region ?_
      refine S_ 34 rfl rfl rfl _ (y_bin rfl rfl rfl (fun hg => b_add (by omega))) ?_
      refine S_ 27 rfl rfl rfl _ (y_move rfl rfl) ?_
      refine S_nil (nextK5 (kf := [(6, 6), (8, 8), (27, 34)]) (kl := [(6, 6), (8, 8), (24, 24), (27, 34)]) (i + 1) (out ++ x.l) (q + x.q) A33 c33 (by repeat (first | exact kf_nil | (apply kf_in; focus rfl) | (apply kf_out; focus rfl))) (by repeat (first | exact kl_nil | exact kl_rest (by assumption) rfl | (apply kl_in; focus rfl) | (apply kl_out; focus rfl))) ?_ ?_ ?_ ?_)
      · omega
      · exact ⟨by omega, by simp [hr2, hxl], by rw [← hr3, List.append_assoc], by omega⟩
      · exact ⟨rfl, rfl, trivial⟩
      · exact ⟨rfl, trivial⟩
    · try simp only [decide_eq_true_eq, decide_eq_false_iff_not, Bool.or_eq_true, Bool.or_eq_false_iff, Bool.and_eq_true, Bool.and_eq_false_iff, Bool.not_eq_true', Bool.not_eq_false', Bool.not_eq_true, Bool.not_eq_false, Bool.not_true, Bool.not_false, Int.not_lt, Int.not_le, not_or, not_and, Classical.not_not] at h28
      refine T_exit_go (fun _ _ h => h) ?_
      refine T_seq ?_
      refine T_region ?_
      refine S_ 35 rfl rfl rfl _ (y_move rfl rfl) ?_
      refine S_ 2 rfl rfl rfl _ (y_assign rfl rfl) ?_
      refine S_go (fun _ _ h => h) ?_
      refine T_ret (fun a w hF hM => hRb a w (post1 rfl rfl (fun w hM => ?_) a w hF hM))
      have e : catL ss = out := by rw [← hr3, hl.end (by omega)]; simp [catL]
      rw [e, hr2]
      exact ⟨A2, c2, rfl, hM.sat 24 _ rfl, hM.below⟩
end Go.Proofs.YtkkngcdikbhkjaaGreatDoor
end
section
namespace Go.Proofs.YtkkngcdikbhkjaaGreatDoor
set_option linter.unusedSimpArgs false
set_option linter.unusedVariables false
set_option maxRecDepth 20000
open Go.RowKit Go.Eng
theorem T_known {P : Program} {w0 : World} {n : Nat} {c : Code} {F : FL} {L : HL} {Q : Exit → Act → World → Prop} {p : Prop} (h : ∀ w, Mem w0 L w → p) (hK : p → T P w0 n c F L Q) : T P w0 n c F L Q := fun a w hF hM => hK (h w hM) a w hF hM
theorem Concat2_any (A A1 A2 : Option Addr) (c c1 q2 c2 : Nat) (a b : SPlace) (qs : List SPlace) (w : World) (hl : SlT sls 1 w A 2 [⟨A1, 2, c1, [a, b]⟩, ⟨A2, q2, c2, qs⟩]) (h1 : Sl.Ok SPlace.enc 3 w ⟨A1, 2, c1, [a, b]⟩) (h2 : Sl.Ok SPlace.enc 3 w ⟨A2, q2, c2, qs⟩) (hq : q2 ≤ 10000) :
    Calls Tryz.prog 176 #[.slice A 2 c] w fun e w' => ∃ A' c', e = .returned (.slice A' (q2 + 2) c') ∧ w'.ownsRow w.heap.size 134 3 (.slice A' (q2 + 2) c') (q2 + 2) ((a :: b :: qs).flatMap SPlace.enc) ∧ Below w.heap.size w w' := by
  have h := Concat_any A 2 c _ w hl (by omega) (fun s hs => by
    rcases List.mem_cons.1 hs with rfl | hs
    · exact h1
    · rw [List.mem_singleton.1 hs]; exact h2) (by simp only [sumQ]; omega) (by simp only [sumQ]; omega)
  have e : catL [⟨A1, 2, c1, [a, b]⟩, ⟨A2, q2, c2, qs⟩] = a :: b :: qs := by simp [catL]
  have e2 : (a :: b :: qs).length = q2 + 2 := by
    have := h2.t.len
    simp only [List.length_cons]
    show qs.length + 1 + 1 = q2 + 2
    have : qs.length = q2 := this
    omega
  rw [e, e2] at h
  exact h
theorem cut_tail {w : World} {A : Option Addr} {q c : Nat} {p : SPlace} {qs : List SPlace} (h : Sl.Ok SPlace.enc 3 w ⟨A, q, c, p :: qs⟩) (hq : 1 ≤ q) : Sl.Ok SPlace.enc 3 w ⟨if c = 1 then A else A.map (·.add (1 * 3)), q - 1, c - 1, qs⟩ := by
  have hlen : qs.length + 1 = q := h.t.len
  have hcap : q ≤ c := h.cap
  have hc := h.t.cut (lo := 1) (hi := q) (fun _ => rfl) hq (Nat.le_refl _) hcap
  have e : ((p :: qs).drop 1).take (q - 1) = qs := by
    rw [List.drop_one, List.tail_cons]
    exact List.take_of_length_le (by omega)
  rw [e] at hc
  exact ⟨hc, by show q - 1 ≤ c - 1; omega⟩
def refAt (t : Tab) (x : Int) : List SPlace := if outB x 0 (t.size - 1) = true then [] else atOut t x
def refAtNo (t : Tab) (x : Int) : Int := if outB x 0 (t.size - 1) = true then 2 else if findI (SFunc.has x) t.fu.l 0 < 0 then 7 else 0
set_option maxHeartbeats 800000 in
theorem PlacesAt_any (t : Tab) (x : Int) (w : World) (hok : t.Ok w) (h0 : tabNo t = 0) :
    Calls Tryz.prog 66 #[.agg #[str t.id, .int .i64 t.size, .slice t.fi.A t.fi.q t.fi.c, .slice t.fu.A t.fu.q t.fu.c, .slice t.ro.A t.ro.q t.ro.c, .slice t.ca.A t.ca.q t.ca.c], .int .i64 x] w fun e w' => ∃ A c, e = .returned (.tuple #[.slice A (refAt t x).length c, .int .i64 (refAtNo t x)]) ∧
      w'.ownsRow w.heap.size 134 3 (.slice A (refAt t x).length c) (refAt t x).length ((refAt t x).flatMap SPlace.enc) ∧ Below w.heap.size w w' := by
  have hq := hok.small
  have hr := rows_of h0
  have hsz := size_of_out hr.1.2
  have hct := hok.ca.t
  have hrt := hok.ro.t
  have hf := hok.fi.t
  have hlf := hf.len
  have hall := calls_right _ _ _ (tab_calls h0)
  have hrall := (rows_right _ _ (tab_rows h0)).1
  refine enter_args (args := [.agg #[str t.id, .int .i64 t.size, .slice t.fi.A t.fi.q t.fi.c, .slice t.fu.A t.fu.q t.fu.c, .slice t.ro.A t.ro.q t.ro.c, .slice t.ca.A t.ca.q t.ca.c], .int .i64 x]) (F := _) Tryz.func66 rfl Tryz.ntmps66 rfl rfl ?_
  intro Rb hRb hRn
  refine T_seq ?_
  refine T_region ?_
  refine S_box 2 2 rfl rfl rfl rfl rfl ?_
  intro b2
  refine S_nilSlice 4 (e := 134) (size := 3) ?_
  refine S_ 4 rfl rfl rfl _ (y_assign rfl rfl) ?_
  refine S_ 5 rfl rfl rfl _ (y_assign rfl rfl) ?_
  refine S_go (fun _ _ h => h) ?_
  refine T_seq ?_
  refine T_seq ?_
  refine T_region ?_
  refine S_ 16 rfl rfl rfl _ (y_move rfl rfl) ?_
  refine S_ 17 rfl rfl rfl _ (y_fieldAddr rfl rfl fa62_1) ?_
  refine S_ 18 rfl rfl rfl _ (y_load 2 rfl rfl rfl rfl Tryz.underlying3 rfl) ?_
  refine S_ 19 rfl rfl rfl _ (y_bin rfl rfl rfl (fun hg => b_sub (by omega))) ?_
  refine S_ 20 rfl rfl rfl _ (y_call rfl rfl rfl cf83 (fun _ w _ => outB_any _ _ _ w)) ?_
  refine S_go (fun _ _ h => h) ?_
  refine T_cond rfl (fun h20 => ?_) (fun h20 => ?_)
  · skip
    refine T_seq ?_
    refine T_region ?_
    refine S_nilSlice 4 (e := 134) (size := 3) ?_
    refine S_ 4 rfl rfl rfl _ (y_assign rfl rfl) ?_
    refine S_ 5 rfl rfl rfl _ (y_assign rfl rfl) ?_
    refine S_go (fun _ _ h => h) ?_
    refine T_ret (fun a w hF hM => hRb a w (post2 rfl rfl rfl (fun w hM => ?_) a w hF hM))
    have e : refAt t x = [] := if_pos h20
    rw [e, refAtNo, if_pos h20]
    exact ⟨none, 0, rfl, hM.sat 4 _ rfl, hM.below⟩
  · skip
    refine T_skip_go (fun _ _ h => h) ?_
    refine T_seq ?_
    refine T_region ?_
    refine S_ 22 rfl rfl rfl _ (y_loadA 2 rfl rfl rfl Tryz.underlying62 rfl sz62) ?_
    refine S_ 23 rfl rfl rfl _ (y_move rfl rfl) ?_
    refine S_ 24 rfl rfl rfl _ (y_call rfl rfl rfl cf175 (fun _ w hM => FuncOf_any t x w (hok.below hM.below))) ?_
    refine S_ 21 rfl rfl rfl _ (y_move rfl rfl) ?_
    refine S_ 25 rfl rfl rfl _ (y_extract rfl rfl rfl) ?_
    refine S_ 26 rfl rfl rfl _ (y_extract rfl rfl rfl) ?_
    refine S_ 6 rfl rfl rfl _ (y_assign rfl rfl) ?_
    refine S_ 7 rfl rfl rfl _ (y_assign rfl rfl) ?_
    refine S_go (fun _ _ h => h) ?_
    refine T_seq ?_
    refine T_seq ?_
    refine T_region ?_
    refine S_ 27 rfl rfl rfl _ (y_move rfl rfl) ?_
    refine S_ 28 rfl rfl rfl _ (y_not rfl rfl) ?_
    refine S_go (fun _ _ h => h) ?_
    refine T_cond rfl (fun h28 => ?_) (fun h28 => ?_)
    · try simp only [decide_eq_true_eq, decide_eq_false_iff_not, Bool.or_eq_true, Bool.or_eq_false_iff, Bool.and_eq_true, Bool.and_eq_false_iff, Bool.not_eq_true', Bool.not_eq_false', Bool.not_eq_true, Bool.not_eq_false, Bool.not_true, Bool.not_false, Int.not_lt, Int.not_le, not_or, not_and, Classical.not_not] at h28
      refine T_seq ?_
      refine T_region ?_
      refine S_nilSlice 4 (e := 134) (size := 3) ?_
      refine S_ 4 rfl rfl rfl _ (y_assign rfl rfl) ?_
      refine S_ 5 rfl rfl rfl _ (y_assign rfl rfl) ?_
      refine S_go (fun _ _ h => h) ?_
      refine T_ret (fun a w hF hM => hRb a w (post2 rfl rfl rfl (fun w hM => ?_) a w hF hM))
      have e : refAt t x = [] := by rw [refAt, if_f h20, atOut]; exact if_pos h28
      rw [e, refAtNo, if_f h20, if_pos h28]
      exact ⟨none, 0, rfl, hM.sat 4 _ rfl, hM.below⟩
    · try simp only [decide_eq_true_eq, decide_eq_false_iff_not, Bool.or_eq_true, Bool.or_eq_false_iff, Bool.and_eq_true, Bool.and_eq_false_iff, Bool.not_eq_true', Bool.not_eq_false', Bool.not_eq_true, Bool.not_eq_false, Bool.not_true, Bool.not_false, Int.not_lt, Int.not_le, not_or, not_and, Classical.not_not] at h28
      obtain ⟨n, fn, hfi0, hfn, _⟩ := findI_at t.fu.l 0 (by omega) (by omega)
      have hif : (if findI (SFunc.has x) t.fu.l 0 < 0 then 0 else findI (SFunc.has x) t.fu.l 0) = (n : Int) := by rw [if_neg (by omega)]; omega
      have hnl := (List.getElem?_eq_some_iff.1 hfn).1
      have hfl := hok.fu.t.len
      have hge : t.fu.l.getD n ⟨[], 0, 0⟩ = fn := by simp [List.getD, hfn]
      refine T_skip_go (fun _ _ h => h) ?_
      refine T_seq ?_
      refine T_region ?_
      refine S_ 29 rfl rfl rfl _ (y_build (zv := .agg #[.string ⟨#[]⟩, .string ⟨#[]⟩, .int .i64 0]) (pl := [(0, 1), (1, 1), (2, 1)]) (out := [.string ⟨#[]⟩, .string ⟨#[]⟩, .int .i64 0]) rfl rfl Tryz.underlying134 z134 (by kernel_rfl) rfl) ?_
      refine S_alloc 8 8 rfl rfl rfl rfl z134 ?_
      intro b8
      refine S_store 8 rfl rfl rfl rfl rfl rfl sz134 rfl rfl ?_
      refine S_go (fun _ _ h => h) ?_
      refine T_seq ?_
      refine T_seq ?_
      refine T_region ?_
      refine S_ 30 rfl rfl rfl _ (y_fieldAddr rfl rfl fa62_4) ?_
      refine S_ 31 rfl rfl rfl _ (y_load 2 rfl rfl rfl rfl Tryz.underlying59 rfl) ?_
      refine S_ 32 rfl rfl rfl _ (y_len_slice rfl rfl Tryz.underlying59) ?_
      refine S_ 33 rfl rfl rfl _ (y_move rfl rfl) ?_
      refine S_go (fun _ _ h => h) ?_
      refine T_block ?_
      refine T_loopK2 (kf := [(10, 10), (33, 54)]) (kl := [(8, 8), (10, 10), (33, 54)]) (fun (i : Nat) (o : Option SRow) => [(33, true, .int .i64 (i : Int))]) (fun (i : Nat) (o : Option SRow) => [(8, .blk b8 (IsBox [str [], str (lineFile t.fi.l o), .int .i64 (lineLine o)] 134))]) (fun (i : Nat) (o : Option SRow) => i ≤ t.ro.q ∧ atRow x t.ro.l none = atRow x (t.ro.l.drop i) o) (fun (i : Nat) (o : Option SRow) => t.ro.q - i) 0 none (by repeat (first | exact kf_nil | (apply kf_in; focus rfl) | (apply kf_out; focus rfl))) (by repeat (first | exact kl_nil | exact kl_rest (by assumption) rfl | (apply kl_in; focus rfl) | (apply kl_out; focus rfl))) ?_ ?_ ?_ ?_
      · exact ⟨by omega, rfl⟩
      · exact ⟨rfl, trivial⟩
      · exact ⟨rfl, trivial⟩
      rintro i o ⟨hp1, hp2⟩
      refine T_seq ?_
      refine T_region ?_
      refine S_ 34 rfl rfl rfl _ (y_bin rfl rfl rfl (fun _ => b_lss)) ?_
      refine S_go (fun _ _ h => h) ?_
      refine T_seq ?_
      refine T_cond rfl (fun h34 => ?_) (fun h34 => ?_)
      · try simp only [decide_eq_true_eq, decide_eq_false_iff_not, Bool.or_eq_true, Bool.or_eq_false_iff, Bool.and_eq_true, Bool.and_eq_false_iff, Bool.not_eq_true', Bool.not_eq_false', Bool.not_eq_true, Bool.not_eq_false, Bool.not_true, Bool.not_false, Int.not_lt, Int.not_le, not_or, not_and, Classical.not_not] at h34
        obtain ⟨r, hx1, hx2⟩ := hrt.at (i := i) (by omega)
        have hfr := fi_of_row (hrall i r hx1).1
        refine T_skip_go (fun _ _ h => h) ?_
        refine T_seq ?_
        refine T_block ?_
        refine T_seq ?_
        refine T_region ?_
        refine S_ 35 rfl rfl rfl _ (y_indexAddr rfl rfl rfl Tryz.underlying59 sz198 (fun hg => hrt.isSome (by omega)) (fun _ => by omega)) ?_
        refine S_ 36 rfl rfl rfl _ (y_loadT rfl rfl hrt (fun _ => rfl) (fun _ => hx1) Tryz.underlying198 rfl sz198) ?_
        refine S_alloc 10 10 rfl rfl rfl rfl z198 ?_
        intro b10
        refine S_store 10 rfl rfl rfl rfl rfl rfl sz198 rfl rfl ?_
        refine S_go (fun _ _ h => h) ?_
        refine T_seq ?_
        refine T_seq ?_
        refine T_region ?_
        refine S_ 37 rfl rfl rfl _ (y_fieldAddr rfl rfl fa198_0) ?_
        refine S_ 38 rfl rfl rfl _ (y_load 10 rfl rfl rfl rfl Tryz.underlying3 rfl) ?_
        refine S_ 39 rfl rfl rfl _ (y_move rfl rfl) ?_
        refine S_ 40 rfl rfl rfl _ (y_bin rfl rfl rfl (fun _ => b_gtr)) ?_
        refine S_go (fun _ _ h => h) ?_
        refine T_cond rfl (fun h40 => ?_) (fun h40 => ?_)
        · try simp only [decide_eq_true_eq, decide_eq_false_iff_not, Bool.or_eq_true, Bool.or_eq_false_iff, Bool.and_eq_true, Bool.and_eq_false_iff, Bool.not_eq_true', Bool.not_eq_false', Bool.not_eq_true, Bool.not_eq_false, Bool.not_true, Bool.not_false, Int.not_lt, Int.not_le, not_or, not_and, Classical.not_not] at h40
          have hro : atRow x t.ro.l none = o := by rw [hp2, hx2, atRow, if_pos (by omega)]
          refine T_exit_go (fun _ _ h => h) ?_
          refine T_seq ?_
          refine T_region ?_
          refine S_ 55 rfl rfl rfl _ (y_fieldAddr rfl rfl fa62_3) ?_
          refine S_ 56 rfl rfl rfl _ (y_load 2 rfl rfl rfl rfl Tryz.underlying58 rfl) ?_
          refine S_ 57 rfl rfl rfl _ (y_move rfl rfl) ?_
          refine S_ 58 rfl rfl rfl _ (y_indexAddrI (j := n) rfl rfl rfl (fun _ => by omega) Tryz.underlying58 sz196 (fun hg => hok.fu.t.isSome (by omega)) (fun _ => by omega)) ?_
          refine S_ 59 rfl rfl rfl _ (y_fieldEl rfl rfl hok.fu.t.rd (fun _ => by omega) fa196_0) ?_
          refine S_ 60 rfl rfl rfl _ (y_load_fT rfl rfl hok.fu.t (fun _ => rfl) (fun _ => hfn) rfl Tryz.underlying9 rfl) ?_
          refine S_ 61 rfl rfl rfl _ (y_fieldAddr rfl rfl fa134_0) ?_
          refine S_store 8 rfl rfl rfl rfl rfl rfl sz9 rfl rfl ?_
          refine S_go (fun _ _ h => h) ?_
          refine T_seq ?_
          refine T_region ?_
          refine S_ 62 rfl rfl rfl _ (y_loadA 8 rfl rfl rfl Tryz.underlying134 rfl sz134) ?_
          refine S_buildSlice 63 63 rfl rfl rfl rfl rfl Tryz.underlying119 inf134 rfl (by decide) (by decide) rfl rfl (by decide) rfl (_) rfl ?_
          intro b63
          refine S_ 11 rfl rfl rfl _ (y_assign rfl rfl) ?_
          refine S_go (fun _ _ h => h) ?_
          refine T_seq ?_
          refine T_seq ?_
          refine T_region ?_
          refine S_ 64 rfl rfl rfl _ (y_fieldAddr rfl rfl fa62_5) ?_
          refine S_ 65 rfl rfl rfl _ (y_load 2 rfl rfl rfl rfl Tryz.underlying60 rfl) ?_
          refine S_ 66 rfl rfl rfl _ (y_len_slice rfl rfl Tryz.underlying60) ?_
          refine S_ 67 rfl rfl rfl _ (y_move rfl rfl) ?_
          refine S_go (fun _ _ h => h) ?_
          refine T_block ?_
          refine T_loopK6 (kf := [(11, 11), (13, 15), (67, 105)]) (kl := [(11, 11), (13, 15), (63, 63), (67, 105)]) (fun (j : Nat) (p : SPlace) (qs : List SPlace) (q : Nat) (A : Option Addr) (c : Nat) => [(67, true, .int .i64 (j : Int)), (11, true, .slice A q c)]) (fun (j : Nat) (p : SPlace) (qs : List SPlace) (q : Nat) (A : Option Addr) (c : Nat) => [(63, .own 134 3 (.slice A q c) q ((p :: qs).flatMap SPlace.enc))]) (fun (j : Nat) (p : SPlace) (qs : List SPlace) (q : Nat) (A : Option Addr) (c : Nat) => j ≤ t.ca.q ∧ q = qs.length + 1 ∧ q ≤ j + 1 ∧ refP x t.fi.l (t.ca.l.drop j) p qs = atOut t x) (fun (j : Nat) (p : SPlace) (qs : List SPlace) (q : Nat) (A : Option Addr) (c : Nat) => t.ca.q - j) 0 ⟨fn.name, lineFile t.fi.l o, lineLine o⟩ [] 1 (some ⟨b63, 0, none⟩) 1 (by repeat (first | exact kf_nil | (apply kf_in; focus rfl) | (apply kf_out; focus rfl))) (by repeat (first | exact kl_nil | exact kl_rest (by assumption) rfl | (apply kl_in; focus rfl) | (apply kl_out; focus rfl))) ?_ ?_ ?_ ?_
          · exact ⟨by omega, rfl, by omega, by have := refP_atOut (t := t) (x := x) (n := n) (by omega); rw [hge, hro] at this; exact this⟩
          · exact ⟨rfl, rfl, trivial⟩
          · exact ⟨rfl, trivial⟩
          rintro j p qs q A c ⟨hr1, hr2, hr3, hr4⟩
          refine T_seq ?_
          refine T_region ?_
          refine S_ 68 rfl rfl rfl _ (y_bin rfl rfl rfl (fun _ => b_lss)) ?_
          refine S_go (fun _ _ h => h) ?_
          refine T_seq ?_
          refine T_cond rfl (fun h68 => ?_) (fun h68 => ?_)
          · try simp only [decide_eq_true_eq, decide_eq_false_iff_not, Bool.or_eq_true, Bool.or_eq_false_iff, Bool.and_eq_true, Bool.and_eq_false_iff, Bool.not_eq_true', Bool.not_eq_false', Bool.not_eq_true, Bool.not_eq_false, Bool.not_true, Bool.not_false, Int.not_lt, Int.not_le, not_or, not_and, Classical.not_not] at h68
            obtain ⟨c0, hc1, hc2⟩ := hct.at (i := j) (by omega)
            obtain ⟨_, hb, _⟩ := hall j c0 hc1
            have hfi := fi_of_call hb
            have hfile := get_file (l := t.fi.l) (i := c0.fi.toNat) (by omega)
            refine T_skip_go (fun _ _ h => h) ?_
            refine T_seq ?_
            refine T_block ?_
            refine T_seq ?_
            refine T_region ?_
            refine S_ 69 rfl rfl rfl _ (y_indexAddr rfl rfl rfl Tryz.underlying60 sz200 (fun hg => hct.isSome (by omega)) (fun _ => by omega)) ?_
            refine S_ 70 rfl rfl rfl _ (y_loadT rfl rfl hct (fun _ => rfl) (fun _ => hc1) Tryz.underlying200 rfl sz200) ?_
            refine S_alloc 13 13 rfl rfl rfl rfl z200 ?_
            intro b13
            refine S_store 13 rfl rfl rfl rfl rfl rfl sz200 rfl rfl ?_
            refine S_go (fun _ _ h => h) ?_
            refine T_seq ?_
            refine T_seq ?_
            refine T_region ?_
            refine S_ 71 rfl rfl rfl _ (y_fieldAddr rfl rfl fa200_1) ?_
            refine S_ 72 rfl rfl rfl _ (y_load 13 rfl rfl rfl rfl Tryz.underlying3 rfl) ?_
            refine S_ 73 rfl rfl rfl _ (y_move rfl rfl) ?_
            refine S_ 74 rfl rfl rfl _ (y_bin rfl rfl rfl (fun _ => b_gtr)) ?_
            refine S_ 75 rfl rfl rfl _ (y_move rfl rfl) ?_
            refine Sg_ 76 rfl rfl rfl rfl rfl rfl _ (y_move rfl rfl) ?_
            refine Sg_ 77 rfl rfl rfl rfl rfl rfl _ (y_fieldAddr rfl rfl fa200_2) ?_
            refine Sg_ 78 rfl rfl rfl rfl rfl rfl _ (y_load 13 rfl rfl rfl rfl Tryz.underlying3 rfl) ?_
            refine Sg_ 79 rfl rfl rfl rfl rfl rfl _ (y_bin rfl rfl rfl (fun _ => b_geq)) ?_
            refine S_ 80 rfl rfl rfl _ (y_or rfl rfl rfl) ?_
            refine S_go (fun _ _ h => h) ?_
            refine T_cond rfl (fun h80 => ?_) (fun h80 => ?_)
            · skip
              have hno : c0.has x = false := by
                have h : x < c0.fr ∨ c0.tu ≤ x := by simpa using h80
                simp only [SCall.has, Bool.and_eq_false_iff, decide_eq_false_iff_not]; omega
              refine T_exit_go (fun _ _ h => h) ?_
              refine T_region ?_
              refine S_ 105 rfl rfl rfl _ (y_bin rfl rfl rfl (fun hg => b_add (by omega))) ?_
              refine S_ 67 rfl rfl rfl _ (y_move rfl rfl) ?_
              refine S_nil (nextK6 (kf := [(11, 11), (13, 15), (67, 105)]) (kl := [(11, 11), (13, 15), (63, 63), (67, 105)]) (j + 1) p qs q A c (by repeat (first | exact kf_nil | (apply kf_in; focus rfl) | (apply kf_out; focus rfl))) (by repeat (first | exact kl_nil | exact kl_rest (by assumption) rfl | (apply kl_in; focus rfl) | (apply kl_out; focus rfl))) ?_ ?_ ?_ ?_)
              · omega
              · exact ⟨by omega, hr2, by omega, by rw [← hr4, hc2, refP, if_neg (by simp [hno])]⟩
              · exact ⟨rfl, rfl, trivial⟩
              · exact ⟨rfl, trivial⟩
            · skip
              have hyes : c0.has x = true := by simpa [SCall.has] using h80
              refine T_known (p := q ≤ c) (fun w hM => (own_ok2 (enc := SPlace.enc) (l := p :: qs) hM (by simp; omega) (i := 63) rfl).cap) (fun hcap => ?_)
              refine T_skip_go (fun _ _ h => h) ?_
              refine T_seq ?_
              refine T_region ?_
              refine S_ 81 rfl rfl rfl _ (y_move rfl rfl) ?_
              refine S_ 82 rfl rfl rfl _ (y_indexOwnI (j := 0) 63 rfl rfl rfl (fun _ => rfl) rfl Tryz.underlying119 sz134 (fun _ => by omega)) ?_
              refine S_ 83 rfl rfl rfl _ (y_loadO 63 rfl rfl rfl (by simp; omega : (p :: qs).length = q) (fun _ => rfl) (fun _ => rfl) Tryz.underlying134 rfl sz134) ?_
              refine S_alloc 14 14 rfl rfl rfl rfl z134 ?_
              intro b14
              refine S_store 14 rfl rfl rfl rfl rfl rfl sz134 rfl rfl ?_
              refine S_go (fun _ _ h => h) ?_
              refine T_seq ?_
              refine T_perm [0, 1, 2, 3, 4, 5, 6, 7, 8, 9, 10, 11, 12] [true, true, true, true, true, true, true, true, true, true, true, false, false] [0, 1, 0, 4, 0, 16, 60, 124, 0, 256, 1023, 0, 4095] [(1, [14]), (3, [2]), (5, [13]), (9, [13])] (by kernel_rfl) (by kernel_rfl) (by kernel_rfl) rfl (by kernel_rfl) ?_
              refine Rf_ 0 84 rfl rfl rfl rfl rfl _ trivial (Y.z (y_fieldAddr rfl rfl fa134_0) rfl) ?_
              refine Rf_ 1 85 rfl rfl rfl rfl rfl _ ⟨rfl, trivial⟩ (Y.z (y_load 14 rfl rfl rfl rfl Tryz.underlying9 rfl) rfl) ?_
              refine Rf_ 2 86 rfl rfl rfl rfl rfl _ trivial (Y.z (y_fieldAddr rfl rfl fa62_2) rfl) ?_
              refine Rf_ 3 87 rfl rfl rfl rfl rfl _ ⟨rfl, trivial⟩ (Y.z (y_load 2 rfl rfl rfl rfl Tryz.underlying57 rfl) rfl) ?_
              refine Rf_ 4 88 rfl rfl rfl rfl rfl _ trivial (Y.z (y_fieldAddr rfl rfl fa200_3) rfl) ?_
              refine Rf_ 5 89 rfl rfl rfl rfl rfl _ ⟨rfl, trivial⟩ (Y.z (y_load 13 rfl rfl rfl rfl Tryz.underlying3 rfl) rfl) ?_
              refine Rf_ 6 90 rfl rfl rfl rfl rfl _ trivial (Y.z (y_indexAddrI (j := c0.fi.toNat) rfl rfl rfl (fun _ => by omega) Tryz.underlying57 sz9 (fun hg => hf.isSome (by omega)) (fun _ => by omega)) rfl) ?_
              refine Rf_ 7 91 rfl rfl rfl rfl rfl _ trivial (Y.z (y_loadT1 (val := (fun l : List UInt8 => str l)) rfl rfl hf (fun _ => hfile) Tryz.underlying9 rfl) rfl) ?_
              refine Rf_ 8 92 rfl rfl rfl rfl rfl _ trivial (Y.z (y_fieldAddr rfl rfl fa200_4) rfl) ?_
              refine Rf_ 9 93 rfl rfl rfl rfl rfl _ ⟨rfl, trivial⟩ (Y.z (y_load 13 rfl rfl rfl rfl Tryz.underlying3 rfl) rfl) ?_
              refine Rf_ 10 94 rfl rfl rfl rfl rfl _ trivial (Y.z (y_build (zv := .agg #[.string ⟨#[]⟩, .string ⟨#[]⟩, .int .i64 0]) (pl := [(0, 1), (1, 1), (2, 1)]) (out := [_, _, _]) rfl rfl Tryz.underlying134 z134 (by kernel_rfl) rfl) rfl) ?_
              refine R_chain 11 rfl rfl ?_
              refine S_alloc 15 15 rfl rfl rfl rfl z134 ?_
              intro b15
              refine R_next ⟨.inr ⟨rfl, trivial⟩, .inr ⟨rfl, trivial⟩, .inr ⟨rfl, trivial⟩, .inr ⟨rfl, trivial⟩, trivial⟩ ?_
              refine R_chain 12 rfl rfl ?_
              refine S_store 15 rfl rfl rfl rfl rfl rfl sz134 rfl rfl ?_
              refine R_next ⟨.inl rfl, .inl rfl, .inl rfl, .inl rfl, trivial⟩ ?_
              refine R_go (fun _ _ h => h) ?_
              refine T_seq ?_
              refine T_region ?_
              refine S_ 95 rfl rfl rfl _ (y_fieldAddr rfl rfl fa200_0) ?_
              refine S_ 96 rfl rfl rfl _ (y_load 13 rfl rfl rfl rfl Tryz.underlying9 rfl) ?_
              refine S_ 97 rfl rfl rfl _ (y_fieldAddr rfl rfl fa134_0) ?_
              refine S_store 14 rfl rfl rfl rfl rfl rfl sz9 rfl rfl ?_
              refine S_go (fun _ _ h => h) ?_
              refine T_perm [0, 1, 3, 4, 2, 5, 6, 7] [true, true, false, true, true, false, false, true] [0, 0, 3, 0, 8, 31, 63, 127] [(0, [14]), (1, [15])] (by kernel_rfl) (by kernel_rfl) (by kernel_rfl) rfl (by kernel_rfl) ?_
              refine Rf_ 0 98 rfl rfl rfl rfl rfl _ ⟨rfl, trivial⟩ (Y.z (y_loadA 14 rfl rfl rfl Tryz.underlying134 rfl sz134) rfl) ?_
              refine Rf_ 1 99 rfl rfl rfl rfl rfl _ ⟨rfl, trivial⟩ (Y.z (y_loadA 15 rfl rfl rfl Tryz.underlying134 rfl sz134) rfl) ?_
              refine Rf_ 3 101 rfl rfl rfl rfl rfl _ trivial (Y.z (y_move rfl rfl) rfl) ?_
              refine Rf_ 4 102 rfl rfl rfl rfl rfl _ trivial (Y.z (y_slice rfl rfl Tryz.underlying119 sz134 (.inr ⟨_, _, rfl, rfl⟩) (.inl ⟨rfl, rfl⟩) (show 1 ≤ q by omega) (Nat.le_refl _) hcap) rfl) ?_
              refine R_chain 2 rfl rfl ?_
              refine S_buildSlice 100 100 rfl rfl rfl rfl rfl Tryz.underlying119 inf134 rfl (by decide) (by decide) rfl rfl (by decide) rfl (_) rfl ?_
              intro b100
              refine R_next ⟨.inl rfl, .inl rfl, trivial⟩ ?_
              refine R_chain 5 rfl rfl ?_
              refine S_buildSlice 103 103 rfl rfl rfl rfl rfl Tryz.underlying328 inf119 rfl (by decide) (by decide) rfl rfl (by decide) rfl (_) rfl ?_
              intro b103
              refine R_next ⟨.inl rfl, .inl rfl, trivial⟩ ?_
              refine R_chain 6 rfl rfl ?_
              refine S_callOwn 104 63 rfl rfl rfl rfl rfl rfl rfl cf176 (fun A c => .slice A (q - 1 + 2) c) 134 3 (q - 1 + 2) (((⟨c0.name, p.fi, p.ln⟩ : SPlace) :: (⟨p.fn, t.fi.l.getD c0.fi.toNat [], c0.ln⟩ : SPlace) :: qs).flatMap SPlace.enc) (fun w hM => Concat2_any _ _ _ _ _ _ _ ⟨c0.name, p.fi, p.ln⟩ ⟨p.fn, t.fi.l.getD c0.fi.toNat [], c0.ln⟩ qs w ⟨own_reads hM (i := 103) rfl, rfl⟩ (own_ok2 (enc := SPlace.enc) (l := [⟨c0.name, p.fi, p.ln⟩, ⟨p.fn, t.fi.l.getD c0.fi.toNat [], c0.ln⟩]) hM rfl (i := 100) rfl) (cut_tail (own_ok2 (enc := SPlace.enc) (l := p :: qs) hM (by simp; omega) (i := 63) rfl) (by omega)) (by omega)) ?_
              intro A104 c104
              refine R_next ⟨.inl rfl, .inl rfl, trivial⟩ ?_
              refine Rf_ 7 11 rfl rfl rfl rfl rfl _ trivial (Y.z (y_assign rfl rfl) rfl) ?_
              refine R_go (fun _ _ h => h) ?_
              refine T_region ?_
              refine S_ 105 rfl rfl rfl _ (y_bin rfl rfl rfl (fun hg => b_add (by omega))) ?_
              refine S_ 67 rfl rfl rfl _ (y_move rfl rfl) ?_
              refine S_nil (nextK6 (kf := [(11, 11), (13, 15), (67, 105)]) (kl := [(11, 11), (13, 15), (63, 63), (67, 105)]) (j + 1) ⟨c0.name, p.fi, p.ln⟩ (⟨p.fn, t.fi.l.getD c0.fi.toNat [], c0.ln⟩ :: qs) (q - 1 + 2) A104 c104 (by repeat (first | exact kf_nil | (apply kf_in; focus rfl) | (apply kf_out; focus rfl))) (by repeat (first | exact kl_nil | exact kl_rest (by assumption) rfl | (apply kl_in; focus rfl) | (apply kl_out; focus rfl))) ?_ ?_ ?_ ?_)
              · omega
              · exact ⟨by omega, by simp; omega, by omega, by rw [← hr4, hc2, refP, if_t hyes]⟩
              · exact ⟨rfl, rfl, trivial⟩
              · exact ⟨rfl, trivial⟩
          · try simp only [decide_eq_true_eq, decide_eq_false_iff_not, Bool.or_eq_true, Bool.or_eq_false_iff, Bool.and_eq_true, Bool.and_eq_false_iff, Bool.not_eq_true', Bool.not_eq_false', Bool.not_eq_true, Bool.not_eq_false, Bool.not_true, Bool.not_false, Int.not_lt, Int.not_le, not_or, not_and, Classical.not_not] at h68
            refine T_exit_go (fun _ _ h => h) ?_
            refine T_seq ?_
            refine T_region ?_
            refine S_ 106 rfl rfl rfl _ (y_move rfl rfl) ?_
            refine S_ 4 rfl rfl rfl _ (y_assign rfl rfl) ?_
            refine S_ 5 rfl rfl rfl _ (y_assign rfl rfl) ?_
            refine S_go (fun _ _ h => h) ?_
            refine T_ret (fun a w hF hM => hRb a w (post2 rfl rfl rfl (fun w hM => ?_) a w hF hM))
            have e : refAt t x = p :: qs := by rw [refAt, if_f h20, ← hr4, hct.end (by omega)]; rfl
            rw [e, refAtNo, if_f h20, if_neg (by omega), show (p :: qs).length = q by simp; omega]
            exact ⟨A, c, rfl, hM.sat 63 _ rfl, hM.below⟩
        · try simp only [decide_eq_true_eq, decide_eq_false_iff_not, Bool.or_eq_true, Bool.or_eq_false_iff, Bool.and_eq_true, Bool.and_eq_false_iff, Bool.not_eq_true', Bool.not_eq_false', Bool.not_eq_true, Bool.not_eq_false, Bool.not_true, Bool.not_false, Int.not_lt, Int.not_le, not_or, not_and, Classical.not_not] at h40
          refine T_skip_go (fun _ _ h => h) ?_
          refine T_seq ?_
          refine T_region ?_
          refine S_ 41 rfl rfl rfl _ (y_build (zv := .agg #[.string ⟨#[]⟩, .string ⟨#[]⟩, .int .i64 0]) (pl := [(0, 1), (1, 1), (2, 1)]) (out := [.string ⟨#[]⟩, .string ⟨#[]⟩, .int .i64 0]) rfl rfl Tryz.underlying134 z134 (by kernel_rfl) rfl) ?_
          refine S_store 8 rfl rfl rfl rfl rfl rfl sz134 rfl rfl ?_
          refine S_go (fun _ _ h => h) ?_
          refine T_seq ?_
          refine T_region ?_
          refine S_ 42 rfl rfl rfl _ (y_fieldAddr rfl rfl fa198_1) ?_
          refine S_ 43 rfl rfl rfl _ (y_load 10 rfl rfl rfl rfl Tryz.underlying3 rfl) ?_
          refine S_ 44 rfl rfl rfl _ (y_bin rfl rfl rfl (fun _ => b_geq)) ?_
          refine S_go (fun _ _ h => h) ?_
          refine T_cond rfl (fun h44 => ?_) (fun h44 => ?_)
          · try simp only [decide_eq_true_eq, decide_eq_false_iff_not, Bool.or_eq_true, Bool.or_eq_false_iff, Bool.and_eq_true, Bool.and_eq_false_iff, Bool.not_eq_true', Bool.not_eq_false', Bool.not_eq_true, Bool.not_eq_false, Bool.not_true, Bool.not_false, Int.not_lt, Int.not_le, not_or, not_and, Classical.not_not] at h44
            have hrf := get_file (l := t.fi.l) (i := r.fi.toNat) (by omega)
            refine T_drawsTail 9 (by kernel_rfl) (by kernel_rfl) ?_
            refine D_ 45 rfl rfl rfl _ (y_fieldAddr rfl rfl fa62_2) ?_
            refine D_ 46 rfl rfl rfl _ (y_load 2 rfl rfl rfl rfl Tryz.underlying57 rfl) ?_
            refine D_ 47 rfl rfl rfl _ (y_fieldAddr rfl rfl fa198_1) ?_
            refine D_ 48 rfl rfl rfl _ (y_load 10 rfl rfl rfl rfl Tryz.underlying3 rfl) ?_
            refine D_ 49 rfl rfl rfl _ (y_indexAddrI (j := r.fi.toNat) rfl rfl rfl (fun _ => by omega) Tryz.underlying57 sz9 (fun hg => hf.isSome (by omega)) (fun _ => by omega)) ?_
            refine D_ 50 rfl rfl rfl _ (y_loadT1 (val := (fun l : List UInt8 => str l)) rfl rfl hf (fun _ => hrf) Tryz.underlying9 rfl) ?_
            refine D_ 51 rfl rfl rfl _ (y_fieldAddr rfl rfl fa198_2) ?_
            refine D_ 52 rfl rfl rfl _ (y_load 10 rfl rfl rfl rfl Tryz.underlying3 rfl) ?_
            refine D_ 53 rfl rfl rfl _ (y_build (zv := .agg #[.string ⟨#[]⟩, .string ⟨#[]⟩, .int .i64 0]) (pl := [(0, 1), (1, 1), (2, 1)]) (out := [.string ⟨#[]⟩, _, _]) rfl rfl Tryz.underlying134 z134 (by kernel_rfl) rfl) ?_
            refine D_tail ?_
            refine S_store 8 rfl rfl rfl rfl rfl rfl sz134 rfl rfl ?_
            refine S_go (fun _ _ h => h) ?_
            refine T_region ?_
            refine S_ 54 rfl rfl rfl _ (y_bin rfl rfl rfl (fun hg => b_add (by omega))) ?_
            refine S_ 33 rfl rfl rfl _ (y_move rfl rfl) ?_
            refine S_nil (nextK2 (kf := [(10, 10), (33, 54)]) (kl := [(8, 8), (10, 10), (33, 54)]) (i + 1) (some r) (by repeat (first | exact kf_nil | (apply kf_in; focus rfl) | (apply kf_out; focus rfl))) (by repeat (first | exact kl_nil | exact kl_rest (by assumption) rfl | (apply kl_in; focus rfl) | (apply kl_out; focus rfl))) ?_ ?_ ?_ ?_)
            · omega
            · exact ⟨by omega, by rw [hp2, hx2, atRow, if_neg (by omega)]⟩
            · exact ⟨rfl, trivial⟩
            · exact ⟨by rw [lineFile, lineLine, if_neg (by omega), if_neg (by omega)]; rfl, trivial⟩
          · try simp only [decide_eq_true_eq, decide_eq_false_iff_not, Bool.or_eq_true, Bool.or_eq_false_iff, Bool.and_eq_true, Bool.and_eq_false_iff, Bool.not_eq_true', Bool.not_eq_false', Bool.not_eq_true, Bool.not_eq_false, Bool.not_true, Bool.not_false, Int.not_lt, Int.not_le, not_or, not_and, Classical.not_not] at h44
            refine T_skip_go (fun _ _ h => h) ?_
            refine T_region ?_
            refine S_ 54 rfl rfl rfl _ (y_bin rfl rfl rfl (fun hg => b_add (by omega))) ?_
            refine S_ 33 rfl rfl rfl _ (y_move rfl rfl) ?_
            refine S_nil (nextK2 (kf := [(10, 10), (33, 54)]) (kl := [(8, 8), (10, 10), (33, 54)]) (i + 1) (some r) (by repeat (first | exact kf_nil | (apply kf_in; focus rfl) | (apply kf_out; focus rfl))) (by repeat (first | exact kl_nil | exact kl_rest (by assumption) rfl | (apply kl_in; focus rfl) | (apply kl_out; focus rfl))) ?_ ?_ ?_ ?_)
            · omega
            · exact ⟨by omega, by rw [hp2, hx2, atRow, if_neg (by omega)]⟩
            · exact ⟨rfl, trivial⟩
            · exact ⟨by rw [lineFile, lineLine, if_pos (by omega), if_pos (by omega)]; rfl, trivial⟩
      · try simp only [decide_eq_true_eq, decide_eq_false_iff_not, Bool.or_eq_true, Bool.or_eq_false_iff, Bool.and_eq_true, Bool.and_eq_false_iff, Bool.not_eq_true', Bool.not_eq_false', Bool.not_eq_true, Bool.not_eq_false, Bool.not_true, Bool.not_false, Int.not_lt, Int.not_le, not_or, not_and, Classical.not_not] at h34
        have hro : atRow x t.ro.l none = o := by rw [hp2, hrt.end (by omega)]; rfl
        refine T_exit_go (fun _ _ h => h) ?_
        refine T_seq ?_
        refine T_region ?_
        refine S_ 55 rfl rfl rfl _ (y_fieldAddr rfl rfl fa62_3) ?_
        refine S_ 56 rfl rfl rfl _ (y_load 2 rfl rfl rfl rfl Tryz.underlying58 rfl) ?_
        refine S_ 57 rfl rfl rfl _ (y_move rfl rfl) ?_
        refine S_ 58 rfl rfl rfl _ (y_indexAddrI (j := n) rfl rfl rfl (fun _ => by omega) Tryz.underlying58 sz196 (fun hg => hok.fu.t.isSome (by omega)) (fun _ => by omega)) ?_
        refine S_ 59 rfl rfl rfl _ (y_fieldEl rfl rfl hok.fu.t.rd (fun _ => by omega) fa196_0) ?_
        refine S_ 60 rfl rfl rfl _ (y_load_fT rfl rfl hok.fu.t (fun _ => rfl) (fun _ => hfn) rfl Tryz.underlying9 rfl) ?_
        refine S_ 61 rfl rfl rfl _ (y_fieldAddr rfl rfl fa134_0) ?_
        refine S_store 8 rfl rfl rfl rfl rfl rfl sz9 rfl rfl ?_
        refine S_go (fun _ _ h => h) ?_
        refine T_seq ?_
        refine T_region ?_
        refine S_ 62 rfl rfl rfl _ (y_loadA 8 rfl rfl rfl Tryz.underlying134 rfl sz134) ?_
        refine S_buildSlice 63 63 rfl rfl rfl rfl rfl Tryz.underlying119 inf134 rfl (by decide) (by decide) rfl rfl (by decide) rfl (_) rfl ?_
        intro b63
        refine S_ 11 rfl rfl rfl _ (y_assign rfl rfl) ?_
        refine S_go (fun _ _ h => h) ?_
        refine T_seq ?_
        refine T_seq ?_
        refine T_region ?_
        refine S_ 64 rfl rfl rfl _ (y_fieldAddr rfl rfl fa62_5) ?_
        refine S_ 65 rfl rfl rfl _ (y_load 2 rfl rfl rfl rfl Tryz.underlying60 rfl) ?_
        refine S_ 66 rfl rfl rfl _ (y_len_slice rfl rfl Tryz.underlying60) ?_
        refine S_ 67 rfl rfl rfl _ (y_move rfl rfl) ?_
        refine S_go (fun _ _ h => h) ?_
        refine T_block ?_
        refine T_loopK6 (kf := [(11, 11), (13, 15), (67, 105)]) (kl := [(11, 11), (13, 15), (63, 63), (67, 105)]) (fun (j : Nat) (p : SPlace) (qs : List SPlace) (q : Nat) (A : Option Addr) (c : Nat) => [(67, true, .int .i64 (j : Int)), (11, true, .slice A q c)]) (fun (j : Nat) (p : SPlace) (qs : List SPlace) (q : Nat) (A : Option Addr) (c : Nat) => [(63, .own 134 3 (.slice A q c) q ((p :: qs).flatMap SPlace.enc))]) (fun (j : Nat) (p : SPlace) (qs : List SPlace) (q : Nat) (A : Option Addr) (c : Nat) => j ≤ t.ca.q ∧ q = qs.length + 1 ∧ q ≤ j + 1 ∧ refP x t.fi.l (t.ca.l.drop j) p qs = atOut t x) (fun (j : Nat) (p : SPlace) (qs : List SPlace) (q : Nat) (A : Option Addr) (c : Nat) => t.ca.q - j) 0 ⟨fn.name, lineFile t.fi.l o, lineLine o⟩ [] 1 (some ⟨b63, 0, none⟩) 1 (by repeat (first | exact kf_nil | (apply kf_in; focus rfl) | (apply kf_out; focus rfl))) (by repeat (first | exact kl_nil | exact kl_rest (by assumption) rfl | (apply kl_in; focus rfl) | (apply kl_out; focus rfl))) ?_ ?_ ?_ ?_
        · exact ⟨by omega, rfl, by omega, by have := refP_atOut (t := t) (x := x) (n := n) (by omega); rw [hge, hro] at this; exact this⟩
        · exact ⟨rfl, rfl, trivial⟩
        · exact ⟨rfl, trivial⟩
        rintro j p qs q A c ⟨hr1, hr2, hr3, hr4⟩
        refine T_seq ?_
        refine T_region ?_
        refine S_ 68 rfl rfl rfl _ (y_bin rfl rfl rfl (fun _ => b_lss)) ?_
        refine S_go (fun _ _ h => h) ?_
        refine T_seq ?_
        refine T_cond rfl (fun h68 => ?_) (fun h68 => ?_)
        · try simp only [decide_eq_true_eq, decide_eq_false_iff_not, Bool.or_eq_true, Bool.or_eq_false_iff, Bool.and_eq_true, Bool.and_eq_false_iff, Bool.not_eq_true', Bool.not_eq_false', Bool.not_eq_true, Bool.not_eq_false, Bool.not_true, Bool.not_false, Int.not_lt, Int.not_le, not_or, not_and, Classical.not_not] at h68
          obtain ⟨c0, hc1, hc2⟩ := hct.at (i := j) (by omega)
          obtain ⟨_, hb, _⟩ := hall j c0 hc1
          have hfi := fi_of_call hb
          have hfile := get_file (l := t.fi.l) (i := c0.fi.toNat) (by omega)
          refine T_skip_go (fun _ _ h => h) ?_
          refine T_seq ?_
          refine T_block ?_
          refine T_seq ?_
          refine T_region ?_
          refine S_ 69 rfl rfl rfl _ (y_indexAddr rfl rfl rfl Tryz.underlying60 sz200 (fun hg => hct.isSome (by omega)) (fun _ => by omega)) ?_
          refine S_ 70 rfl rfl rfl _ (y_loadT rfl rfl hct (fun _ => rfl) (fun _ => hc1) Tryz.underlying200 rfl sz200) ?_
          refine S_alloc 13 13 rfl rfl rfl rfl z200 ?_
          intro b13
          refine S_store 13 rfl rfl rfl rfl rfl rfl sz200 rfl rfl ?_
          refine S_go (fun _ _ h => h) ?_
          refine T_seq ?_
          refine T_seq ?_
          refine T_region ?_
          refine S_ 71 rfl rfl rfl _ (y_fieldAddr rfl rfl fa200_1) ?_
          refine S_ 72 rfl rfl rfl _ (y_load 13 rfl rfl rfl rfl Tryz.underlying3 rfl) ?_
          refine S_ 73 rfl rfl rfl _ (y_move rfl rfl) ?_
          refine S_ 74 rfl rfl rfl _ (y_bin rfl rfl rfl (fun _ => b_gtr)) ?_
          refine S_ 75 rfl rfl rfl _ (y_move rfl rfl) ?_
          refine Sg_ 76 rfl rfl rfl rfl rfl rfl _ (y_move rfl rfl) ?_
          refine Sg_ 77 rfl rfl rfl rfl rfl rfl _ (y_fieldAddr rfl rfl fa200_2) ?_
          refine Sg_ 78 rfl rfl rfl rfl rfl rfl _ (y_load 13 rfl rfl rfl rfl Tryz.underlying3 rfl) ?_
          refine Sg_ 79 rfl rfl rfl rfl rfl rfl _ (y_bin rfl rfl rfl (fun _ => b_geq)) ?_
          refine S_ 80 rfl rfl rfl _ (y_or rfl rfl rfl) ?_
          refine S_go (fun _ _ h => h) ?_
          refine T_cond rfl (fun h80 => ?_) (fun h80 => ?_)
          · skip
            have hno : c0.has x = false := by
              have h : x < c0.fr ∨ c0.tu ≤ x := by simpa using h80
              simp only [SCall.has, Bool.and_eq_false_iff, decide_eq_false_iff_not]; omega
            refine T_exit_go (fun _ _ h => h) ?_
            refine T_region ?_
            refine S_ 105 rfl rfl rfl _ (y_bin rfl rfl rfl (fun hg => b_add (by omega))) ?_
            refine S_ 67 rfl rfl rfl _ (y_move rfl rfl) ?_
            refine S_nil (nextK6 (kf := [(11, 11), (13, 15), (67, 105)]) (kl := [(11, 11), (13, 15), (63, 63), (67, 105)]) (j + 1) p qs q A c (by repeat (first | exact kf_nil | (apply kf_in; focus rfl) | (apply kf_out; focus rfl))) (by repeat (first | exact kl_nil | exact kl_rest (by assumption) rfl | (apply kl_in; focus rfl) | (apply kl_out; focus rfl))) ?_ ?_ ?_ ?_)
            · omega
            · exact ⟨by omega, hr2, by omega, by rw [← hr4, hc2, refP, if_neg (by simp [hno])]⟩
            · exact ⟨rfl, rfl, trivial⟩
            · exact ⟨rfl, trivial⟩
          · skip
            have hyes : c0.has x = true := by simpa [SCall.has] using h80
            refine T_known (p := q ≤ c) (fun w hM => (own_ok2 (enc := SPlace.enc) (l := p :: qs) hM (by simp; omega) (i := 63) rfl).cap) (fun hcap => ?_)
            refine T_skip_go (fun _ _ h => h) ?_
            refine T_seq ?_
            refine T_region ?_
            refine S_ 81 rfl rfl rfl _ (y_move rfl rfl) ?_
            refine S_ 82 rfl rfl rfl _ (y_indexOwnI (j := 0) 63 rfl rfl rfl (fun _ => rfl) rfl Tryz.underlying119 sz134 (fun _ => by omega)) ?_
            refine S_ 83 rfl rfl rfl _ (y_loadO 63 rfl rfl rfl (by simp; omega : (p :: qs).length = q) (fun _ => rfl) (fun _ => rfl) Tryz.underlying134 rfl sz134) ?_
            refine S_alloc 14 14 rfl rfl rfl rfl z134 ?_
            intro b14
            refine S_store 14 rfl rfl rfl rfl rfl rfl sz134 rfl rfl ?_
            refine S_go (fun _ _ h => h) ?_
            refine T_seq ?_
            refine T_perm [0, 1, 2, 3, 4, 5, 6, 7, 8, 9, 10, 11, 12] [true, true, true, true, true, true, true, true, true, true, true, false, false] [0, 1, 0, 4, 0, 16, 60, 124, 0, 256, 1023, 0, 4095] [(1, [14]), (3, [2]), (5, [13]), (9, [13])] (by kernel_rfl) (by kernel_rfl) (by kernel_rfl) rfl (by kernel_rfl) ?_
            refine Rf_ 0 84 rfl rfl rfl rfl rfl _ trivial (Y.z (y_fieldAddr rfl rfl fa134_0) rfl) ?_
            refine Rf_ 1 85 rfl rfl rfl rfl rfl _ ⟨rfl, trivial⟩ (Y.z (y_load 14 rfl rfl rfl rfl Tryz.underlying9 rfl) rfl) ?_
            refine Rf_ 2 86 rfl rfl rfl rfl rfl _ trivial (Y.z (y_fieldAddr rfl rfl fa62_2) rfl) ?_
            refine Rf_ 3 87 rfl rfl rfl rfl rfl _ ⟨rfl, trivial⟩ (Y.z (y_load 2 rfl rfl rfl rfl Tryz.underlying57 rfl) rfl) ?_
            refine Rf_ 4 88 rfl rfl rfl rfl rfl _ trivial (Y.z (y_fieldAddr rfl rfl fa200_3) rfl) ?_
            refine Rf_ 5 89 rfl rfl rfl rfl rfl _ ⟨rfl, trivial⟩ (Y.z (y_load 13 rfl rfl rfl rfl Tryz.underlying3 rfl) rfl) ?_
            refine Rf_ 6 90 rfl rfl rfl rfl rfl _ trivial (Y.z (y_indexAddrI (j := c0.fi.toNat) rfl rfl rfl (fun _ => by omega) Tryz.underlying57 sz9 (fun hg => hf.isSome (by omega)) (fun _ => by omega)) rfl) ?_
            refine Rf_ 7 91 rfl rfl rfl rfl rfl _ trivial (Y.z (y_loadT1 (val := (fun l : List UInt8 => str l)) rfl rfl hf (fun _ => hfile) Tryz.underlying9 rfl) rfl) ?_
            refine Rf_ 8 92 rfl rfl rfl rfl rfl _ trivial (Y.z (y_fieldAddr rfl rfl fa200_4) rfl) ?_
            refine Rf_ 9 93 rfl rfl rfl rfl rfl _ ⟨rfl, trivial⟩ (Y.z (y_load 13 rfl rfl rfl rfl Tryz.underlying3 rfl) rfl) ?_
            refine Rf_ 10 94 rfl rfl rfl rfl rfl _ trivial (Y.z (y_build (zv := .agg #[.string ⟨#[]⟩, .string ⟨#[]⟩, .int .i64 0]) (pl := [(0, 1), (1, 1), (2, 1)]) (out := [_, _, _]) rfl rfl Tryz.underlying134 z134 (by kernel_rfl) rfl) rfl) ?_
            refine R_chain 11 rfl rfl ?_
            refine S_alloc 15 15 rfl rfl rfl rfl z134 ?_
            intro b15
            refine R_next ⟨.inr ⟨rfl, trivial⟩, .inr ⟨rfl, trivial⟩, .inr ⟨rfl, trivial⟩, .inr ⟨rfl, trivial⟩, trivial⟩ ?_
            refine R_chain 12 rfl rfl ?_
            refine S_store 15 rfl rfl rfl rfl rfl rfl sz134 rfl rfl ?_
            refine R_next ⟨.inl rfl, .inl rfl, .inl rfl, .inl rfl, trivial⟩ ?_
            refine R_go (fun _ _ h => h) ?_
            refine T_seq ?_
            refine T_region ?_
            refine S_ 95 rfl rfl rfl _ (y_fieldAddr rfl rfl fa200_0) ?_
            refine S_ 96 rfl rfl rfl _ (y_load 13 rfl rfl rfl rfl Tryz.underlying9 rfl) ?_
            refine S_ 97 rfl rfl rfl _ (y_fieldAddr rfl rfl fa134_0) ?_
            refine S_store 14 rfl rfl rfl rfl rfl rfl sz9 rfl rfl ?_
            refine S_go (fun _ _ h => h) ?_
            refine T_perm [0, 1, 3, 4, 2, 5, 6, 7] [true, true, false, true, true, false, false, true] [0, 0, 3, 0, 8, 31, 63, 127] [(0, [14]), (1, [15])] (by kernel_rfl) (by kernel_rfl) (by kernel_rfl) rfl (by kernel_rfl) ?_
            refine Rf_ 0 98 rfl rfl rfl rfl rfl _ ⟨rfl, trivial⟩ (Y.z (y_loadA 14 rfl rfl rfl Tryz.underlying134 rfl sz134) rfl) ?_
            refine Rf_ 1 99 rfl rfl rfl rfl rfl _ ⟨rfl, trivial⟩ (Y.z (y_loadA 15 rfl rfl rfl Tryz.underlying134 rfl sz134) rfl) ?_
            refine Rf_ 3 101 rfl rfl rfl rfl rfl _ trivial (Y.z (y_move rfl rfl) rfl) ?_
            refine Rf_ 4 102 rfl rfl rfl rfl rfl _ trivial (Y.z (y_slice rfl rfl Tryz.underlying119 sz134 (.inr ⟨_, _, rfl, rfl⟩) (.inl ⟨rfl, rfl⟩) (show 1 ≤ q by omega) (Nat.le_refl _) hcap) rfl) ?_
            refine R_chain 2 rfl rfl ?_
            refine S_buildSlice 100 100 rfl rfl rfl rfl rfl Tryz.underlying119 inf134 rfl (by decide) (by decide) rfl rfl (by decide) rfl (_) rfl ?_
            intro b100
            refine R_next ⟨.inl rfl, .inl rfl, trivial⟩ ?_
            refine R_chain 5 rfl rfl ?_
            refine S_buildSlice 103 103 rfl rfl rfl rfl rfl Tryz.underlying328 inf119 rfl (by decide) (by decide) rfl rfl (by decide) rfl (_) rfl ?_
            intro b103
            refine R_next ⟨.inl rfl, .inl rfl, trivial⟩ ?_
            refine R_chain 6 rfl rfl ?_
            refine S_callOwn 104 63 rfl rfl rfl rfl rfl rfl rfl cf176 (fun A c => .slice A (q - 1 + 2) c) 134 3 (q - 1 + 2) (((⟨c0.name, p.fi, p.ln⟩ : SPlace) :: (⟨p.fn, t.fi.l.getD c0.fi.toNat [], c0.ln⟩ : SPlace) :: qs).flatMap SPlace.enc) (fun w hM => Concat2_any _ _ _ _ _ _ _ ⟨c0.name, p.fi, p.ln⟩ ⟨p.fn, t.fi.l.getD c0.fi.toNat [], c0.ln⟩ qs w ⟨own_reads hM (i := 103) rfl, rfl⟩ (own_ok2 (enc := SPlace.enc) (l := [⟨c0.name, p.fi, p.ln⟩, ⟨p.fn, t.fi.l.getD c0.fi.toNat [], c0.ln⟩]) hM rfl (i := 100) rfl) (cut_tail (own_ok2 (enc := SPlace.enc) (l := p :: qs) hM (by simp; omega) (i := 63) rfl) (by omega)) (by omega)) ?_
            intro A104 c104
            refine R_next ⟨.inl rfl, .inl rfl, trivial⟩ ?_
            refine Rf_ 7 11 rfl rfl rfl rfl rfl _ trivial (Y.z (y_assign rfl rfl) rfl) ?_
            refine R_go (fun _ _ h => h) ?_
            refine T_region ?_
            refine S_ 105 rfl rfl rfl _ (y_bin rfl rfl rfl (fun hg => b_add (by omega))) ?_
            refine S_ 67 rfl rfl rfl _ (y_move rfl rfl) ?_
            refine S_nil (nextK6 (kf := [(11, 11), (13, 15), (67, 105)]) (kl := [(11, 11), (13, 15), (63, 63), (67, 105)]) (j + 1) ⟨c0.name, p.fi, p.ln⟩ (⟨p.fn, t.fi.l.getD c0.fi.toNat [], c0.ln⟩ :: qs) (q - 1 + 2) A104 c104 (by repeat (first | exact kf_nil | (apply kf_in; focus rfl) | (apply kf_out; focus rfl))) (by repeat (first | exact kl_nil | exact kl_rest (by assumption) rfl | (apply kl_in; focus rfl) | (apply kl_out; focus rfl))) ?_ ?_ ?_ ?_)
            · omega
            · exact ⟨by omega, by simp; omega, by omega, by rw [← hr4, hc2, refP, if_t hyes]⟩
            · exact ⟨rfl, rfl, trivial⟩
            · exact ⟨rfl, trivial⟩
        · try simp only [decide_eq_true_eq, decide_eq_false_iff_not, Bool.or_eq_true, Bool.or_eq_false_iff, Bool.and_eq_true, Bool.and_eq_false_iff, Bool.not_eq_true', Bool.not_eq_false', Bool.not_eq_true, Bool.not_eq_false, Bool.not_true, Bool.not_false, Int.not_lt, Int.not_le, not_or, not_and, Classical.not_not] at h68
          refine T_exit_go (fun _ _ h => h) ?_
          refine T_seq ?_
          refine T_region ?_
          refine S_ 106 rfl rfl rfl _ (y_move rfl rfl) ?_
          refine S_ 4 rfl rfl rfl _ (y_assign rfl rfl) ?_
          refine S_ 5 rfl rfl rfl _ (y_assign rfl rfl) ?_
          refine S_go (fun _ _ h => h) ?_
          refine T_ret (fun a w hF hM => hRb a w (post2 rfl rfl rfl (fun w hM => ?_) a w hF hM))
          have e : refAt t x = p :: qs := by rw [refAt, if_f h20, ← hr4, hct.end (by omega)]; rfl
          rw [e, refAtNo, if_f h20, if_neg (by omega), show (p :: qs).length = q by simp; omega]
          exact ⟨A, c, rfl, hM.sat 63 _ rfl, hM.below⟩
end Go.Proofs.YtkkngcdikbhkjaaGreatDoor
end
section
namespace Go.Proofs.YtkkngcdikbhkjaaGreatDoor
set_option linter.unusedSimpArgs false
set_option linter.unusedVariables false
set_option maxRecDepth 20000
open Go.RowKit Go.Eng
def ltS (x y : SShare) : Bool := decide (cfS x y < 0)
theorem ltS_iff (x y : SShare) : ltS x y = true ↔ y.n < x.n ∨ (x.n = y.n ∧ x.name < y.name) := by
  unfold ltS cfS cmpJ cmpB
  rw [Go.Proofs.bytesLess_eq]
  simp only [decide_eq_true_eq]
  by_cases h1 : y.n < x.n
  · rw [if_pos h1]; simp [h1]
  · rw [if_neg h1]
    by_cases h2 : x.n < y.n
    · rw [if_pos h2]; simp; omega
    · rw [if_neg h2]
      have : x.n = y.n := by omega
      by_cases h3 : x.name < y.name
      · simp [h3, this]
      · rw [if_neg h3]
        by_cases h4 : x.name = y.name
        · rw [if_pos h4]; simp [h3, this]
        · rw [if_neg h4]; simp [h3, this]
theorem bl_irrefl (a : Nm) : ¬ a < a := List.lt_irrefl a
theorem bl_trans {a b c : Nm} (h1 : a < b) (h2 : b < c) : a < c := List.lt_trans h1 h2
theorem bl_total {a b : Nm} (h1 : ¬ a < b) (h2 : ¬ b < a) : a = b := List.le_antisymm (List.not_lt.1 h2) (List.not_lt.1 h1)
theorem ltS_irrefl (x : SShare) : ltS x x = false := by
  rw [← Bool.not_eq_true, ltS_iff]
  rintro (h | h)
  · omega
  · exact bl_irrefl _ h.2
theorem ltS_trans {x y z : SShare} (h1 : ltS x y = true) (h2 : ltS y z = true) : ltS x z = true := by
  rw [ltS_iff] at *
  rcases h1 with h1 | h1 <;> rcases h2 with h2 | h2
  · left; omega
  · left; omega
  · left; omega
  · exact .inr ⟨by omega, bl_trans h1.2 h2.2⟩
theorem ltS_total {x y : SShare} (h1 : ltS x y = false) (h2 : ltS y x = false) : x = y := by
  rw [← Bool.not_eq_true, ltS_iff] at h1 h2
  have e : x.n = y.n := by omega
  have e2 : x.name = y.name := bl_total (fun h => h1 (.inr ⟨e, h⟩)) (fun h => h2 (.inr ⟨e.symm, h⟩))
  cases x; cases y; simp_all
theorem ltS_ntrans {x y z : SShare} (h1 : ltS x y = false) (h2 : ltS y z = false) : ltS x z = false := by
  cases h : ltS x z with
  | false => rfl
  | true =>
    cases h3 : ltS y x with
    | true => rw [ltS_trans h3 h] at h2; cases h2
    | false =>
      have := ltS_total h1 h3
      subst this
      rw [h] at h2; cases h2
end Go.Proofs.YtkkngcdikbhkjaaGreatDoor
end
section
namespace Go.Proofs.YtkkngcdikbhkjaaGreatDoor
set_option linter.unusedSimpArgs false
set_option linter.unusedVariables false
set_option maxRecDepth 20000
open Go.RowKit Go.Eng
instance : Inhabited SShare := ⟨⟨[], 0⟩⟩
def leS (x y : SShare) : Bool := !ltS y x
theorem swoS : Go.Sort.SWO (Go.Proofs.ltOf cfS) := ⟨ltS_irrefl, fun _ _ _ => ltS_trans, fun _ _ _ => ltS_ntrans⟩
theorem sortsShares : SortsShares leS := by
  intro w0 K hK A q c l w hlen hq hM
  have h := sort_own Tryz.laysSort170 (k := 2) (enc := SShare.enc) Tryz.isAgg140 Tryz.sizeOf140 (fun _ => rfl)
    (fun x v hv => by simp only [SShare.enc, List.mem_cons, List.not_mem_nil, or_false] at hv; rcases hv with rfl | rfl <;> rfl) cfS swoS 171 #[] cf171 hK 140 A q c l w hlen (by omega) (fun w' _ x y => shares2_any x y w') hM
  refine Calls.mono h ?_
  rintro e w' ⟨l', rfl, rfl, hM'⟩
  exact ⟨_, rfl, pdqL_total swoS (fun x y h1 h2 => ltS_total h1 h2) l, hM'⟩
end Go.Proofs.YtkkngcdikbhkjaaGreatDoor
end
section
namespace Go.Proofs.YtkkngcdikbhkjaaGreatDoor
set_option linter.unusedSimpArgs false
set_option linter.unusedVariables false
set_option maxRecDepth 20000
open Go.RowKit Go.Eng
/-- base 128, the least digits first, a digit that others follow has 128 more -/
def dig128 (n : Nat) : List UInt8 :=
  if h : n < 128 then [UInt8.ofNat n] else UInt8.ofNat (n % 128 + 128) :: dig128 (n / 128)
termination_by n
decreasing_by omega

theorem dig_last {n : Nat} (h : n < 128) : dig128 n = [UInt8.ofNat n] := by rw [dig128, dif_pos h]
theorem dig_len : ∀ (k n : Nat), n < 128 ^ (k + 1) → (dig128 n).length ≤ k + 1
  | 0, n, h => by rw [dig_last (by omega)]; simp
  | k + 1, n, h => by
    by_cases hn : n < 128
    · rw [dig_last hn]; simp
    · rw [dig128, dif_neg hn]
      have := dig_len k (n / 128) (by rw [Nat.div_lt_iff_lt_mul (by decide)]; rw [Nat.pow_succ] at h; exact h)
      simp; omega

end Go.Proofs.YtkkngcdikbhkjaaGreatDoor
end
section
namespace Go.Proofs.YtkkngcdikbhkjaaGreatDoor
set_option linter.unusedSimpArgs false
set_option linter.unusedVariables false
set_option maxRecDepth 20000
open Go.RowKit Go.Eng
def rd (most : Nat) : List UInt8 → Nat → Nat → Option (Nat × Nat)
  | [], _, _ => none
  | d :: r, i, n =>
    if most ≤ i then none
    else if 128 ≤ d.toNat then rd most r (i + 1) (n + d.toNat % 128 * 2 ^ (7 * i))
    else if 281474976710656 < n + d.toNat % 128 * 2 ^ (7 * i) ∨ (d.toNat = 0 ∧ 0 < i) then none
    else some (n + d.toNat % 128 * 2 ^ (7 * i), i + 1)
end Go.Proofs.YtkkngcdikbhkjaaGreatDoor
end
section
namespace Go.Proofs.YtkkngcdikbhkjaaGreatDoor
set_option linter.unusedSimpArgs false
set_option linter.unusedVariables false
set_option maxRecDepth 20000
open Go.RowKit Go.Eng
theorem dig_le {n : Nat} (h : n ≤ 4611686018427387904) : (dig128 n).length ≤ 9 := dig_len 8 n (by omega)
theorem digI_le {n : Int} (h : n ≤ 4611686018427387904) : (dig128 n.toNat).length ≤ 9 := dig_le (by omega)
def magic : List UInt8 := [73, 81, 84, 49]
def headB (t : Tab) : List UInt8 := magic ++ t.id ++ dig128 t.size.toNat ++ dig128 (t.fi.q : Int).toNat
/-! ### What a right table bounds -/
theorem words_len {m f fi : List UInt8} (h : wordsNo m f fi = 0) : m.length ≤ 200 ∧ f.length ≤ 200 ∧ fi.length ≤ 200 := by
  unfold wordsNo at h
  split at h
  · cases h
  · rename_i hb
    simp only [Bool.or_eq_true, decide_eq_true_eq, not_or, Int.not_lt] at hb
    omega
theorem name_len {s : List UInt8} (h : nameNo s = 0) : s.length ≤ 200 := by
  unfold nameNo at h
  split at h
  · rename_i h1; exact absurd h h1
  · rename_i h1
    exact (words_len (Classical.not_not.1 h1)).2.1
theorem files_len : ∀ (l seen : List (List UInt8)), filesNo seen l = 0 → ∀ s ∈ l, s.length ≤ 200
  | [], _, _, s, hs => by cases hs
  | a :: r, seen, h, s, hs => by
    unfold filesNo at h
    split at h
    · cases h
    split at h
    · rename_i h1; exact absurd h h1
    rename_i h1
    split at h
    · cases h
    cases hs with
    | head => exact (words_len (Classical.not_not.1 h1)).2.2
    | tail _ hm => exact files_len r _ h s hm
theorem funcs_right {size : Int} : ∀ (l : List SFunc) (last : Int), funcsNo size l last = 0 → ∀ (i : Nat) (f : SFunc), l[i]? = some f → nameNo f.name = 0 ∧ spanBad size f.fr f.tu = false ∧ last ≤ f.fr ∧ ∀ g, l[i + 1]? = some g → f.tu ≤ g.fr
  | [], _, _, i, f, hf => by simp at hf
  | a :: r, last, h, i, f, hf => by
    unfold funcsNo at h
    split at h
    · rename_i h1; exact absurd h h1
    rename_i h1
    split at h
    · cases h
    rename_i h2
    split at h
    · cases h
    rename_i h3
    have ih := funcs_right r a.tu h
    have hs : spanBad size a.fr a.tu = false := by simpa using h2
    have hso := span_ok hs
    cases i with
    | zero =>
      simp at hf; subst hf
      exact ⟨Classical.not_not.1 h1, hs, by omega, fun g hg => (ih 0 g (by simpa using hg)).2.2.1⟩
    | succ i =>
      obtain ⟨x1, x2, x3, x4⟩ := ih i f (by simpa using hf)
      exact ⟨x1, x2, by omega, fun g hg => x4 g (by simpa using hg)⟩
theorem tab_parts {t : Tab} (h : tabNo t = 0) : filesNo [] t.fi.l = 0 ∧ funcsNo t.size t.fu.l 0 = 0 := by
  unfold tabNo at h
  split at h
  · cases h
  split at h
  · cases h
  obtain ⟨a, h⟩ := fst_zero h
  obtain ⟨b, h⟩ := fst_zero h
  exact ⟨(le_of_ite a).2, (le_of_ite b).2⟩
theorem calls_rise {size nf : Int} {fu : List SFunc} : ∀ (l before : List SCall) (b : SCall), callsNo size nf fu before l b = 0 → ∀ (i : Nat) (c : SCall), l[i]? = some c → b.fr ≤ c.fr ∧ ∀ g, l[i + 1]? = some g → c.fr ≤ g.fr
  | [], _, _, _, i, c, hc => by simp at hc
  | a :: r, before, b, h, i, c, hc => by
    unfold callsNo at h
    split at h
    · rename_i h1; exact absurd h h1
    split at h
    · cases h
    split at h
    · cases h
    rename_i h3
    split at h
    · rename_i h4; exact absurd h h4
    have ih := calls_rise r (before ++ [a]) a h
    have hl : b.fr ≤ a.fr := by
      simp only [callLate, Bool.or_eq_true, decide_eq_true_eq, not_or] at h3; omega
    cases i with
    | zero => simp at hc; subst hc; exact ⟨hl, fun g hg => (ih 0 g (by simpa using hg)).1⟩
    | succ i =>
      obtain ⟨x1, x2⟩ := ih i c (by simpa using hc)
      exact ⟨by omega, fun g hg => x2 g (by simpa using hg)⟩
theorem span_in {size fr tu : Int} (h : spanBad size fr tu = false) : 0 ≤ fr ∧ fr < tu ∧ tu ≤ size := by
  simp only [spanBad, outB, Bool.or_eq_false_iff, decide_eq_false_iff_not] at h; omega
theorem call_in {size nf : Int} {c : SCall} (h : callBad size nf c = false) : 0 ≤ c.fr ∧ c.fr < c.tu ∧ c.tu ≤ size ∧ 0 ≤ c.fi ∧ c.fi ≤ nf - 1 ∧ 1 ≤ c.ln ∧ c.ln ≤ 9999999 := by
  simp only [callBad, Bool.or_eq_false_iff] at h
  have h1 := span_in h.1.1
  have h2 := h.1.2
  have h3 := h.2
  simp only [outB, Bool.or_eq_false_iff, decide_eq_false_iff_not] at h2 h3
  omega
theorem row_in {size nf : Int} {r : SRow} (h : rowBad size nf r = false) : 0 ≤ r.pos ∧ r.pos < size ∧ -1 ≤ r.fi ∧ r.fi ≤ nf - 1 ∧ 0 ≤ r.ln ∧ r.ln ≤ 9999999 := by
  simp only [rowBad, outB, Bool.or_eq_false_iff, decide_eq_false_iff_not] at h; omega
end Go.Proofs.YtkkngcdikbhkjaaGreatDoor
end
section
namespace Go.Proofs.YtkkngcdikbhkjaaGreatDoor
set_option linter.unusedSimpArgs false
set_option linter.unusedVariables false
set_option maxRecDepth 20000
open Go.RowKit Go.Eng
abbrev Pa (α : Type) := List UInt8 → Option (α × List UInt8)
def nm : Pa Nat := fun s => (rd 8 s 0 0).map fun p => (p.1, s.drop p.2)
def bnd {α β : Type} (p : Pa α) (q : α → Pa β) : Pa β := fun s => match p s with
  | some (x, s1) => q x s1
  | none => none
def giv {α : Type} (x : α) : Pa α := fun s => some (x, s)
/-- what a reader leaves: a value, the rest, whether all was right so far -/
def PRes {α : Type} (p : Pa α) (s : List UInt8) (ok : Bool) (x : α) (s1 : List UInt8) (ok1 : Bool) : Prop := ok1 = (ok && (p s).isSome) ∧ (ok1 = true → p s = some (x, s1))
section
variable {α β : Type} {p : Pa α} {q : α → Pa β} {s s1 s2 : List UInt8} {ok ok1 ok2 : Bool} {x : α} {y : β}
theorem PRes.bnd (h1 : PRes p s ok x s1 ok1) (h2 : PRes (q x) s1 ok1 y s2 ok2) : PRes (bnd p q) s ok y s2 ok2 := by
  obtain ⟨a1, b1⟩ := h1
  obtain ⟨a2, b2⟩ := h2
  cases ok1 with
  | true =>
    have := b1 rfl
    have hs : (p s).isSome = true := by rw [this]; rfl
    rw [hs, Bool.and_true] at a1
    refine ⟨?_, fun h => ?_⟩
    · rw [a2, ← a1]; simp [Go.Proofs.YtkkngcdikbhkjaaGreatDoor.bnd, this]
    · simp [Go.Proofs.YtkkngcdikbhkjaaGreatDoor.bnd, this, b2 h]
  | false =>
    rw [Bool.false_and] at a2
    subst a2
    refine ⟨?_, fun h => by cases h⟩
    cases ok with
    | false => rfl
    | true =>
      simp only [Bool.true_and] at a1 ⊢
      have : p s = none := by
        cases hp : p s with
        | none => rfl
        | some u => rw [hp] at a1; cases a1
      simp [Go.Proofs.YtkkngcdikbhkjaaGreatDoor.bnd, this]
theorem PRes.giv : PRes (giv x) s ok x s ok := ⟨by simp [Go.Proofs.YtkkngcdikbhkjaaGreatDoor.giv], fun _ => rfl⟩
theorem PRes.map {γ : Type} {f : α → γ} (h : PRes p s ok x s1 ok1) : PRes (Go.Proofs.YtkkngcdikbhkjaaGreatDoor.bnd p fun x => Go.Proofs.YtkkngcdikbhkjaaGreatDoor.giv (f x)) s ok (f x) s1 ok1 := h.bnd PRes.giv
theorem PRes.some (h : PRes p s ok x s1 true) : p s = some (x, s1) ∧ ok = true := by
  refine ⟨h.2 rfl, ?_⟩
  have := h.1
  cases ok with
  | true => rfl
  | false => cases this
end
/-! ### Lists -/
def iter {σ : Type} (one : σ → Pa σ) : Nat → σ → Pa σ
  | 0, a => giv a
  | n + 1, a => bnd (one a) (iter one n)
structure IterInv {σ : Type} (one : σ → Pa σ) (N : Nat) (a0 : σ) (s0 : List UInt8) (ok0 : Bool) (m : Nat) (a : σ) (s : List UInt8) (ok : Bool) : Prop where
  on : ok = true → iter one N a0 s0 = iter one m a s ∧ ok0 = true
  off : ok = false → ok0 = false ∨ iter one N a0 s0 = none
section
variable {σ : Type} {one : σ → Pa σ} {N m : Nat} {a0 a a' : σ} {s0 s s1 : List UInt8} {ok0 ok ok1 : Bool}
theorem IterInv.start : IterInv one N a0 s0 ok0 N a0 s0 ok0 := ⟨fun h => ⟨rfl, h⟩, fun h => .inl h⟩
theorem IterInv.step (h : IterInv one N a0 s0 ok0 (m + 1) a s true) (hr : PRes (one a) s true a' s1 ok1) : IterInv one N a0 s0 ok0 m a' s1 ok1 := by
  have h1 := h.on rfl
  refine ⟨fun h2 => ⟨?_, h1.2⟩, fun h2 => .inr ?_⟩
  · subst h2
    rw [h1.1]
    simp [iter, Go.Proofs.YtkkngcdikbhkjaaGreatDoor.bnd, (hr.2 rfl)]
  · subst h2
    rw [h1.1]
    have := hr.1
    rw [Bool.true_and] at this
    have hn : one a s = none := by
      cases hp : one a s with
      | none => rfl
      | some u => rw [hp] at this; cases this
    simp [iter, Go.Proofs.YtkkngcdikbhkjaaGreatDoor.bnd, hn]
theorem IterInv.done (h : IterInv one N a0 s0 ok0 m a s ok) (he : m = 0 ∨ ok = false) : PRes (iter one N a0) s0 ok0 a s ok := by
  cases ok with
  | true =>
    have h1 := h.on rfl
    have hm : m = 0 := by rcases he with he | he <;> first | exact he | cases he
    subst hm
    refine ⟨?_, fun _ => by rw [h1.1]; rfl⟩
    rw [h1.1, h1.2]; rfl
  | false =>
    refine ⟨?_, fun h => by cases h⟩
    rcases h.off rfl with h1 | h1
    · rw [h1]; rfl
    · rw [h1]; simp
end
/-- a table's contents -/
structure PT where
  id : List UInt8
  size : Int
  fi : List (List UInt8)
  fu : List SFunc
  ro : List SRow
  ca : List SCall
end Go.Proofs.YtkkngcdikbhkjaaGreatDoor
end
section
namespace Go.Proofs.YtkkngcdikbhkjaaGreatDoor
set_option linter.unusedSimpArgs false
set_option linter.unusedVariables false
set_option maxRecDepth 20000
open Go.RowKit Go.Eng
/-! ### .. by the bytes alone -/
end Go.Proofs.YtkkngcdikbhkjaaGreatDoor
end
section
namespace Go.Proofs.YtkkngcdikbhkjaaGreatDoor
set_option linter.unusedSimpArgs false
set_option linter.unusedVariables false
set_option maxRecDepth 20000
open Go.RowKit Go.Eng
abbrev rF (A : Option Addr) (c : Nat) (l : List (List UInt8)) : It := .own 9 1 (.slice A l.length c) l.length (l.flatMap strEnc)
abbrev rU (A : Option Addr) (c : Nat) (l : List SFunc) : It := .own 196 3 (.slice A l.length c) l.length (l.flatMap SFunc.enc)
abbrev rR (A : Option Addr) (c : Nat) (l : List SRow) : It := .own 198 3 (.slice A l.length c) l.length (l.flatMap SRow.enc)
abbrev rC (A : Option Addr) (c : Nat) (l : List SCall) : It := .own 200 5 (.slice A l.length c) l.length (l.flatMap SCall.enc)
end Go.Proofs.YtkkngcdikbhkjaaGreatDoor
end
section
namespace Go.Proofs.YtkkngcdikbhkjaaGreatDoor
set_option linter.unusedSimpArgs false
set_option linter.unusedVariables false
set_option maxRecDepth 20000
open Go.RowKit Go.Eng
end Go.Proofs.YtkkngcdikbhkjaaGreatDoor
end
section
namespace Go.Proofs.YtkkngcdikbhkjaaGreatDoor
set_option linter.unusedSimpArgs false
set_option linter.unusedVariables false
set_option maxRecDepth 20000
open Go.RowKit Go.Eng
theorem IterInv.next {σ : Type} {one : σ → Pa σ} {N m : Nat} {a0 a a' : σ} {s0 s s1 : List UInt8} {ok0 ok ok1 : Bool} (hm : 0 < m) (hok : ok = true) (h : IterInv one N a0 s0 ok0 m a s ok) (hr : PRes (one a) s ok a' s1 ok1) : IterInv one N a0 s0 ok0 (m - 1) a' s1 ok1 := by
  subst hok
  rw [show m = m - 1 + 1 by omega] at h
  exact h.step hr
end Go.Proofs.YtkkngcdikbhkjaaGreatDoor
end
section
namespace Go.Proofs.YtkkngcdikbhkjaaGreatDoor
set_option linter.unusedSimpArgs false
set_option linter.unusedVariables false
set_option maxRecDepth 20000
open Go.RowKit Go.Eng
theorem z117 : ∀ w, (zeroValue 117).run Tryz.prog w = .ok .nilFunc w := fun _ => by kernel_rfl
def Tab.pl (t : Tab) : PT := ⟨t.id, t.size, t.fi.l, t.fu.l, t.ro.l, t.ca.l⟩
/-- a table whose slices are rows of the call's own -/
structure OT where
  id : List UInt8
  size : Int
  fA : Option Addr
  fc : Nat
  fl : List (List UInt8)
  uA : Option Addr
  uc : Nat
  ul : List SFunc
  rA : Option Addr
  rc : Nat
  rl : List SRow
  cA : Option Addr
  cc : Nat
  cl : List SCall
def OT.tab (o : OT) : Tab := ⟨o.id, o.size, ⟨o.fA, o.fl.length, o.fc, o.fl⟩, ⟨o.uA, o.ul.length, o.uc, o.ul⟩, ⟨o.rA, o.rl.length, o.rc, o.rl⟩, ⟨o.cA, o.cl.length, o.cc, o.cl⟩⟩
def OT.small (o : OT) : Prop := o.id.length ≤ 1000000 ∧ (o.fl.length ≤ 1000001 ∧ ∀ x ∈ o.fl, x.length ≤ 1000000) ∧ (o.ul.length ≤ 1000001 ∧ ∀ x ∈ o.ul, x.name.length ≤ 1000000) ∧ o.rl.length ≤ 1000001 ∧ (o.cl.length ≤ 1000001 ∧ ∀ x ∈ o.cl, x.name.length ≤ 1000000)
theorem own_ok {α : Type} {enc : α → List Value} {size : Nat} {e : TypeId} {w0 w : World} {L : HL} {i : Nat} {A : Option Addr} {c : Nat} {l : List α} (hM : Mem w0 L w) (hL : L.get i = some (.own e size (.slice A l.length c) l.length (l.flatMap enc))) : Sl.Ok enc size w ⟨A, l.length, c, l⟩ := by
  refine ⟨⟨own_reads hM hL, rfl⟩, ?_⟩
  have h : w.ownsRow w0.heap.size e size (.slice A l.length c) l.length (l.flatMap enc) := hM.sat i _ hL
  rcases h.2 with ⟨hv, h0⟩ | ⟨g, cap, cur, hv, _, _, hnc, _⟩
  · show l.length ≤ c
    omega
  · have : c = cap := by injection hv
    show l.length ≤ c
    omega
def OT.items (o : OT) (i : Nat) : HL := [(i, rF o.fA o.fc o.fl), (i + 1, rU o.uA o.uc o.ul), (i + 2, rR o.rA o.rc o.rl), (i + 3, rC o.cA o.cc o.cl)]
theorem OT.okI {o : OT} (i : Nat) {w0 w : World} {L : HL} (hM : Mem w0 L w) (hs : o.small) (h1 : L.get i = some (rF o.fA o.fc o.fl)) (h2 : L.get (i + 1) = some (rU o.uA o.uc o.ul)) (h3 : L.get (i + 2) = some (rR o.rA o.rc o.rl)) (h4 : L.get (i + 3) = some (rC o.cA o.cc o.cl)) : o.tab.Ok w := by
  obtain ⟨s1, s2, s3, s4, s5⟩ := hs
  refine ⟨own_ok hM h1, own_ok hM h2, own_ok hM h3, own_ok hM h4, ⟨?_, ?_, ?_, ?_, ?_⟩, fun s hx => ?_, fun s hx => ?_, fun s hx => ?_⟩
  · show o.id.length ≤ _; omega
  · show o.fl.length ≤ _; omega
  · show o.ul.length ≤ _; omega
  · show o.rl.length ≤ _; omega
  · show o.cl.length ≤ _; omega
  · have := s2.2 s hx; omega
  · have := s3.2 s hx; omega
  · have := s5.2 s hx; omega
theorem OT.ok {o : OT} {w0 w : World} {L : HL} (hM : Mem w0 L w) (hs : o.small) (h1 : L.get 908 = some (rF o.fA o.fc o.fl)) (h2 : L.get 909 = some (rU o.uA o.uc o.ul)) (h3 : L.get 910 = some (rR o.rA o.rc o.rl)) (h4 : L.get 911 = some (rC o.cA o.cc o.cl)) : o.tab.Ok w := OT.okI 908 hM hs h1 h2 h3 h4
end Go.Proofs.YtkkngcdikbhkjaaGreatDoor
end
section
namespace Go.Proofs.YtkkngcdikbhkjaaGreatDoor
set_option linter.unusedSimpArgs false
set_option linter.unusedVariables false
set_option maxRecDepth 20000
open Go.RowKit Go.Eng
end Go.Proofs.YtkkngcdikbhkjaaGreatDoor
end
section
namespace Go.Proofs.YtkkngcdikbhkjaaGreatDoor
set_option linter.unusedSimpArgs false
set_option linter.unusedVariables false
set_option maxRecDepth 20000
open Go.RowKit Go.Eng
def Tab0 : Tab := ⟨[], 0, ⟨none, 0, 0, []⟩, ⟨none, 0, 0, []⟩, ⟨none, 0, 0, []⟩, ⟨none, 0, 0, []⟩⟩
theorem slOk_nil {α : Type} {enc : α → List Value} {size : Nat} {w : World} : Sl.Ok enc size w ⟨none, 0, 0, []⟩ := ⟨⟨⟨by simp, fun h => absurd h (by simp)⟩, rfl⟩, Nat.le_refl _⟩
theorem Tab0.ok {w : World} : Tab0.Ok w := ⟨slOk_nil, slOk_nil, slOk_nil, slOk_nil, by simp [Tab0], by simp [Tab0]⟩
end Go.Proofs.YtkkngcdikbhkjaaGreatDoor
end
section
namespace Go.Proofs.YtkkngcdikbhkjaaGreatDoor
set_option linter.unusedSimpArgs false
set_option linter.unusedVariables false
set_option maxRecDepth 20000
open Go.RowKit Go.Eng
/-! ### Split -/
/-! ### Cut -/
end Go.Proofs.YtkkngcdikbhkjaaGreatDoor
end
section
namespace Go.Proofs.YtkkngcdikbhkjaaGreatDoor
set_option linter.unusedSimpArgs false
set_option linter.unusedVariables false
set_option maxRecDepth 20000
open Go.RowKit Go.Eng
/-- the table of powers of ten lies there -/
def P10 (w : World) : Prop := Lib.TabIs Tryz.prog w "internal/strconv.uint64pow10" .u64 Lib.pow10Tab ∧ 3 < w.heap.size
theorem P10.below {w w' : World} (h : P10 w) (hb : Below w.heap.size w w') : P10 w' := by
  refine ⟨?_, Nat.lt_of_lt_of_le h.2 hb.size⟩
  have e : Tryz.prog.globalNamed "internal/strconv.uint64pow10" = some 3 := by kernel_rfl
  have h1 := h.1
  unfold Lib.TabIs World.var? at h1 ⊢
  rw [e] at h1 ⊢
  simp only [Option.bind_some] at h1 ⊢
  rw [hb.block _ h.2]; exact h1
theorem below_grow0 (w : World) (k : Nat) (os : Array Obj) : Below w.heap.size w (Sort.grow (w.drewN k) os) :=
  ⟨rfl, rfl, rfl, by show w.heap.size ≤ (w.heap ++ os).size; simp, fun j hj => by show (w.heap ++ os)[j]? = w.heap[j]?; rw [Array.getElem?_append, if_pos hj]⟩
theorem Itoa_any (n : Int) (h0 : -9223372036854775808 ≤ n) (h1 : n ≤ 9223372036854775807) (w : World) (hP : P10 w) :
    Calls Tryz.prog 124 #[.int .i64 n] w fun e w' => e = .returned (str (Lib.itoa n)) ∧ Below w.heap.size w w' :=
  (Any.strconv_Itoa Tryz.laysM171 n h0 h1 w hP.1).mono fun e w' ⟨h, k, os, hw⟩ => ⟨h, hw ▸ below_grow0 w k os⟩
end Go.Proofs.YtkkngcdikbhkjaaGreatDoor
end
