/- Clones of faults, tags and crumbs; frames put together, and cut. Conditions: those of each theorem. -/
import Derived.Test.YtoeipmepmlikcaaDoorESame
import Derived.Test.YtoeipmepmlikcaaDoorApp
import Derived.Test.YtoeipmepmlikcaaDoorMany
namespace Go.Proofs.YtoeipmepmlikcaaDoor
set_option linter.unusedSimpArgs false
set_option linter.unusedVariables false
set_option maxRecDepth 20000
open Go.RowKit Go.Eng
theorem CloneFlt_any (l : Sl Flt) (w : World) (hl : l.Ok Flt.enc 3 w) (hq : l.q ≤ 1000000) :
    Calls Tryd.prog 186 #[.slice l.A l.q l.c] w fun e w' => ∃ A c, e = .returned (.slice A l.q c) ∧ w'.ownsRow w.heap.size 70 3 (.slice A l.q c) l.q (l.l.flatMap Flt.enc) ∧ Below w.heap.size w w' := by
  have hlen := hl.t.len
  refine enter_args (args := [.slice l.A l.q l.c]) (F := _) Tryd.func186 rfl Tryd.ntmps186 rfl rfl ?_
  intro Rb hRb hRn
  refine T_seq ?_
  refine T_region ?_
  refine S_nilSlice 2 (e := 70) (size := 3) ?_
  refine S_ 2 rfl rfl rfl _ (y_assign rfl rfl) ?_
  refine S_go (fun _ _ h => h) ?_
  refine T_seq ?_
  refine T_seq ?_
  refine T_region ?_
  refine S_ 3 rfl rfl rfl _ (y_move rfl rfl) ?_
  refine S_ 4 rfl rfl rfl _ (y_bin rfl rfl rfl (fun _ => b_eqln Tryd.underlying48)) ?_
  refine S_go (fun _ _ h => h) ?_
  refine T_cond rfl (fun h4 => ?_) (fun h4 => ?_)
  · skip
    refine T_seq ?_
    refine T_region ?_
    refine S_nilSlice 2 (e := 70) (size := 3) ?_
    refine S_ 2 rfl rfl rfl _ (y_assign rfl rfl) ?_
    refine S_go (fun _ _ h => h) ?_
    refine T_ret (fun a w hF hM => hRb a w (post1 rfl rfl (fun w hM => ?_) a w hF hM))
    have hA : l.A = none := by cases h : l.A with
      | none => rfl
      | some a => rw [h] at h4; cases h4
    have h0 : l.q = 0 := by
      rcases Nat.eq_zero_or_pos l.q with h | h
      · exact h
      · have := hl.t.isSome h; rw [hA] at this; cases this
    have hn : l.l = [] := List.eq_nil_of_length_eq_zero (by omega)
    rw [h0, hn]
    exact ⟨none, 0, rfl, World.ownsRow_nil _ _ _ _, hM.below⟩
  · skip
    refine T_skip_go (fun _ _ h => h) ?_
    refine T_seq ?_
    refine T_region ?_
    refine S_buildSlice0 5 5 rfl rfl rfl rfl Tryd.underlying48 sz70 ?_
    intro b5
    refine S_ 6 rfl rfl rfl _ (y_move rfl rfl) ?_
    obtain ⟨i7, hi7, hz7, hs7, hy7⟩ := info_parts inf70
    refine S_appendG 7 5 (news := l.l.flatMap Flt.enc) rfl rfl rfl rfl rfl rfl rfl (fun w hM => hl.t.rd.below hM.below) Tryd.underlying48 hi7 hz7 hs7 hy7 rfl (by decide) (allOne_of (fun u hu => by obtain ⟨a, _, ha⟩ := List.mem_flatMap.1 hu; simp [Flt.enc] at ha; rcases ha with rfl | rfl | rfl <;> rfl)) ?_ ?_ (l.q) (l.l.flatMap Flt.enc) ?_ ?_ ?_
    · (simp only [maxLen]; omega)
    · omega
    · omega
    · rfl
    intro A7 c7
    refine S_ 2 rfl rfl rfl _ (y_assign rfl rfl) ?_
    refine S_go (fun _ _ h => h) ?_
    refine T_ret (fun a w hF hM => hRb a w (post1 rfl rfl (fun w hM => ?_) a w hF hM))
    exact ⟨A7, c7, rfl, hM.sat 5 _ rfl, hM.below⟩
theorem CloneTag_any (l : Sl STag) (w : World) (hl : l.Ok STag.enc 2 w) (hq : l.q ≤ 1000000) :
    Calls Tryd.prog 110 #[.slice l.A l.q l.c] w fun e w' => ∃ A c, e = .returned (.slice A l.q c) ∧ w'.ownsRow w.heap.size 128 2 (.slice A l.q c) l.q (l.l.flatMap STag.enc) ∧ Below w.heap.size w w' := by
  have hlen := hl.t.len
  refine enter_args (args := [.slice l.A l.q l.c]) (F := _) Tryd.func110 rfl Tryd.ntmps110 rfl rfl ?_
  intro Rb hRb hRn
  refine T_seq ?_
  refine T_region ?_
  refine S_nilSlice 2 (e := 128) (size := 2) ?_
  refine S_ 2 rfl rfl rfl _ (y_assign rfl rfl) ?_
  refine S_go (fun _ _ h => h) ?_
  refine T_seq ?_
  refine T_seq ?_
  refine T_region ?_
  refine S_ 3 rfl rfl rfl _ (y_move rfl rfl) ?_
  refine S_ 4 rfl rfl rfl _ (y_bin rfl rfl rfl (fun _ => b_eqln Tryd.underlying49)) ?_
  refine S_go (fun _ _ h => h) ?_
  refine T_cond rfl (fun h4 => ?_) (fun h4 => ?_)
  · skip
    refine T_seq ?_
    refine T_region ?_
    refine S_nilSlice 2 (e := 128) (size := 2) ?_
    refine S_ 2 rfl rfl rfl _ (y_assign rfl rfl) ?_
    refine S_go (fun _ _ h => h) ?_
    refine T_ret (fun a w hF hM => hRb a w (post1 rfl rfl (fun w hM => ?_) a w hF hM))
    have hA : l.A = none := by cases h : l.A with
      | none => rfl
      | some a => rw [h] at h4; cases h4
    have h0 : l.q = 0 := by
      rcases Nat.eq_zero_or_pos l.q with h | h
      · exact h
      · have := hl.t.isSome h; rw [hA] at this; cases this
    have hn : l.l = [] := List.eq_nil_of_length_eq_zero (by omega)
    rw [h0, hn]
    exact ⟨none, 0, rfl, World.ownsRow_nil _ _ _ _, hM.below⟩
  · skip
    refine T_skip_go (fun _ _ h => h) ?_
    refine T_seq ?_
    refine T_region ?_
    refine S_buildSlice0 5 5 rfl rfl rfl rfl Tryd.underlying49 sz128 ?_
    intro b5
    refine S_ 6 rfl rfl rfl _ (y_move rfl rfl) ?_
    obtain ⟨i7, hi7, hz7, hs7, hy7⟩ := info_parts inf128
    refine S_appendG 7 5 (news := l.l.flatMap STag.enc) rfl rfl rfl rfl rfl rfl rfl (fun w hM => hl.t.rd.below hM.below) Tryd.underlying49 hi7 hz7 hs7 hy7 rfl (by decide) (allOne_of (fun u hu => by obtain ⟨a, _, ha⟩ := List.mem_flatMap.1 hu; simp [STag.enc] at ha; rcases ha with rfl | rfl <;> rfl)) ?_ ?_ (l.q) (l.l.flatMap STag.enc) ?_ ?_ ?_
    · (simp only [maxLen]; omega)
    · omega
    · omega
    · rfl
    intro A7 c7
    refine S_ 2 rfl rfl rfl _ (y_assign rfl rfl) ?_
    refine S_go (fun _ _ h => h) ?_
    refine T_ret (fun a w hF hM => hRb a w (post1 rfl rfl (fun w hM => ?_) a w hF hM))
    exact ⟨A7, c7, rfl, hM.sat 5 _ rfl, hM.below⟩
theorem CloneCrumb_any (l : Sl SCrumb) (w : World) (hl : l.Ok SCrumb.enc 3 w) (hq : l.q ≤ 1000000) :
    Calls Tryd.prog 109 #[.slice l.A l.q l.c] w fun e w' => ∃ A c, e = .returned (.slice A l.q c) ∧ w'.ownsRow w.heap.size 78 3 (.slice A l.q c) l.q (l.l.flatMap SCrumb.enc) ∧ Below w.heap.size w w' := by
  have hlen := hl.t.len
  refine enter_args (args := [.slice l.A l.q l.c]) (F := _) Tryd.func109 rfl Tryd.ntmps109 rfl rfl ?_
  intro Rb hRb hRn
  refine T_seq ?_
  refine T_region ?_
  refine S_nilSlice 2 (e := 78) (size := 3) ?_
  refine S_ 2 rfl rfl rfl _ (y_assign rfl rfl) ?_
  refine S_go (fun _ _ h => h) ?_
  refine T_seq ?_
  refine T_seq ?_
  refine T_region ?_
  refine S_ 3 rfl rfl rfl _ (y_move rfl rfl) ?_
  refine S_ 4 rfl rfl rfl _ (y_bin rfl rfl rfl (fun _ => b_eqln Tryd.underlying50)) ?_
  refine S_go (fun _ _ h => h) ?_
  refine T_cond rfl (fun h4 => ?_) (fun h4 => ?_)
  · skip
    refine T_seq ?_
    refine T_region ?_
    refine S_nilSlice 2 (e := 78) (size := 3) ?_
    refine S_ 2 rfl rfl rfl _ (y_assign rfl rfl) ?_
    refine S_go (fun _ _ h => h) ?_
    refine T_ret (fun a w hF hM => hRb a w (post1 rfl rfl (fun w hM => ?_) a w hF hM))
    have hA : l.A = none := by cases h : l.A with
      | none => rfl
      | some a => rw [h] at h4; cases h4
    have h0 : l.q = 0 := by
      rcases Nat.eq_zero_or_pos l.q with h | h
      · exact h
      · have := hl.t.isSome h; rw [hA] at this; cases this
    have hn : l.l = [] := List.eq_nil_of_length_eq_zero (by omega)
    rw [h0, hn]
    exact ⟨none, 0, rfl, World.ownsRow_nil _ _ _ _, hM.below⟩
  · skip
    refine T_skip_go (fun _ _ h => h) ?_
    refine T_seq ?_
    refine T_region ?_
    refine S_buildSlice0 5 5 rfl rfl rfl rfl Tryd.underlying50 sz78 ?_
    intro b5
    refine S_ 6 rfl rfl rfl _ (y_move rfl rfl) ?_
    obtain ⟨i7, hi7, hz7, hs7, hy7⟩ := info_parts inf78
    refine S_appendG 7 5 (news := l.l.flatMap SCrumb.enc) rfl rfl rfl rfl rfl rfl rfl (fun w hM => hl.t.rd.below hM.below) Tryd.underlying50 hi7 hz7 hs7 hy7 rfl (by decide) (allOne_of (fun u hu => by obtain ⟨a, _, ha⟩ := List.mem_flatMap.1 hu; simp [SCrumb.enc] at ha; rcases ha with rfl | rfl | rfl <;> rfl)) ?_ ?_ (l.q) (l.l.flatMap SCrumb.enc) ?_ ?_ ?_
    · (simp only [maxLen]; omega)
    · omega
    · omega
    · rfl
    intro A7 c7
    refine S_ 2 rfl rfl rfl _ (y_assign rfl rfl) ?_
    refine S_go (fun _ _ h => h) ?_
    refine T_ret (fun a w hF hM => hRb a w (post1 rfl rfl (fun w hM => ?_) a w hF hM))
    exact ⟨A7, c7, rfl, hM.sat 5 _ rfl, hM.below⟩
theorem GrowF_any (m : Nat) (h0 : 0 < m) (hm : m ≤ 1000000) (w : World) :
    Calls Tryd.prog 196 #[.slice none 0 0, .int .i64 (m : Int)] w fun e w' => ∃ A c, e = .returned (.slice A 0 c) ∧ w'.ownsRow w.heap.size 148 6 (.slice A 0 c) 0 [] ∧ Below w.heap.size w w' := by
  refine enter_args (args := [.slice none 0 0, .int .i64 (m : Int)]) (F := _) Tryd.func196 rfl Tryd.ntmps196 rfl rfl ?_
  intro Rb hRb hRn
  refine T_seq ?_
  refine T_region ?_
  refine S_nilSlice 4 (e := 148) (size := 6) ?_
  refine S_ 4 rfl rfl rfl _ (y_assign rfl rfl) ?_
  refine S_go (fun _ _ h => h) ?_
  refine T_seq ?_
  refine T_seq ?_
  refine T_region ?_
  refine S_ 5 rfl rfl rfl _ (y_move rfl rfl) ?_
  refine S_ 6 rfl rfl rfl _ (y_bin rfl rfl rfl (fun _ => b_lss)) ?_
  refine S_go (fun _ _ h => h) ?_
  refine T_cond rfl (fun h6 => ?_) (fun h6 => ?_)
  · try simp only [decide_eq_true_eq, decide_eq_false_iff_not, Bool.or_eq_true, Bool.or_eq_false_iff, Bool.and_eq_true, Bool.and_eq_false_iff, Bool.not_eq_true', Bool.not_eq_false', Bool.not_eq_true, Bool.not_eq_false, Bool.not_true, Bool.not_false, Int.not_lt, Int.not_le, not_or, not_and, Classical.not_not] at h6
    omega
  · try simp only [decide_eq_true_eq, decide_eq_false_iff_not, Bool.or_eq_true, Bool.or_eq_false_iff, Bool.and_eq_true, Bool.and_eq_false_iff, Bool.not_eq_true', Bool.not_eq_false', Bool.not_eq_true, Bool.not_eq_false, Bool.not_true, Bool.not_false, Int.not_lt, Int.not_le, not_or, not_and, Classical.not_not] at h6
    refine T_skip_go (fun _ _ h => h) ?_
    refine T_seq ?_
    refine T_seq ?_
    refine T_region ?_
    refine S_ 8 rfl rfl rfl _ (y_move rfl rfl) ?_
    refine S_ 9 rfl rfl rfl _ (y_move rfl rfl) ?_
    refine S_ 10 rfl rfl rfl _ (y_cap rfl rfl Tryd.underlying68) ?_
    refine S_ 11 rfl rfl rfl _ (y_move rfl rfl) ?_
    refine S_ 12 rfl rfl rfl _ (y_len_slice rfl rfl Tryd.underlying68) ?_
    refine S_ 13 rfl rfl rfl _ (y_bin rfl rfl rfl (fun hg => b_sub (by omega))) ?_
    refine S_ 14 rfl rfl rfl _ (y_bin rfl rfl rfl (fun hg => b_subv ((m : Int)) (by omega) (by omega))) ?_
    refine S_ 1 rfl rfl rfl _ (y_assign rfl rfl) ?_
    refine S_go (fun _ _ h => h) ?_
    refine T_seq ?_
    refine T_region ?_
    refine S_ 15 rfl rfl rfl _ (y_move rfl rfl) ?_
    refine S_ 16 rfl rfl rfl _ (y_bin rfl rfl rfl (fun _ => b_gtr)) ?_
    refine S_go (fun _ _ h => h) ?_
    refine T_cond rfl (fun h16 => ?_) (fun h16 => ?_)
    · try simp only [decide_eq_true_eq, decide_eq_false_iff_not, Bool.or_eq_true, Bool.or_eq_false_iff, Bool.and_eq_true, Bool.and_eq_false_iff, Bool.not_eq_true', Bool.not_eq_false', Bool.not_eq_true, Bool.not_eq_false, Bool.not_true, Bool.not_false, Int.not_lt, Int.not_le, not_or, not_and, Classical.not_not] at h16
      refine T_region ?_
      refine S_ 17 rfl rfl rfl _ (y_move rfl rfl) ?_
      refine S_ 18 rfl rfl rfl _ (y_move rfl rfl) ?_
      refine S_ 19 rfl rfl rfl _ (y_cap rfl rfl Tryd.underlying68) ?_
      refine S_ 20 rfl rfl rfl _ (y_slice rfl rfl Tryd.underlying68 sz148 (.inl ⟨rfl, rfl⟩) (.inr ⟨_, _, rfl, rfl⟩) (by omega) (by omega) (by omega)) ?_
      refine S_ 21 rfl rfl rfl _ (y_move rfl rfl) ?_
      obtain ⟨i22, hi22, hz22, hs22, hy22⟩ := info_parts inf148
      refine S_appendMake0 22 22 rfl rfl rfl rfl rfl rfl Tryd.underlying68 Tryd.underlying3 hi22 hz22 hs22 hy22 rfl (by decide) ((by omega)) ((by simp only [maxLen]; omega)) ((by omega)) ?_
      intro b22 c22 xs22 hc22
      refine S_ 23 rfl rfl rfl _ (y_move rfl rfl) ?_
      refine S_ 24 rfl rfl rfl _ (y_len_slice rfl rfl Tryd.underlying68) ?_
      refine S_shrink 22 0 rfl (Nat.zero_le _) ?_
      refine S_ 25 rfl rfl rfl _ (y_slice rfl rfl Tryd.underlying68 sz148 (.inl ⟨rfl, rfl⟩) (.inr ⟨_, _, rfl, rfl⟩) (by omega) (by omega) (by omega)) ?_
      refine S_ 0 rfl rfl rfl _ (y_assign rfl rfl) ?_
      refine S_go (fun _ _ h => h) ?_
      refine T_seq ?_
      refine T_region ?_
      refine S_ 26 rfl rfl rfl _ (y_move rfl rfl) ?_
      refine S_ 4 rfl rfl rfl _ (y_assign rfl rfl) ?_
      refine S_go (fun _ _ h => h) ?_
      refine T_ret (fun a w hF hM => hRb a w (post1 rfl rfl (fun w hM => ?_) a w hF hM))
      have hz : c22 ≠ 0 := by omega
      refine ⟨some ⟨b22, 0, none⟩, c22, ?_, hM.sat 22 _ rfl, hM.below⟩
      rw [if_neg hz]; rfl
    · try simp only [decide_eq_true_eq, decide_eq_false_iff_not, Bool.or_eq_true, Bool.or_eq_false_iff, Bool.and_eq_true, Bool.and_eq_false_iff, Bool.not_eq_true', Bool.not_eq_false', Bool.not_eq_true, Bool.not_eq_false, Bool.not_true, Bool.not_false, Int.not_lt, Int.not_le, not_or, not_and, Classical.not_not] at h16
      omega
abbrev slF (s : Sl Frm) : List Value := [.slice s.A s.q s.c]
def sumFq : List (Sl Frm) → Nat
  | [] => 0
  | s :: r => s.q + sumFq r
def catF : List (Sl Frm) → List Frm
  | [] => []
  | s :: r => s.l ++ catF r
theorem ConcatF_any (A : Option Addr) (k c : Nat) (ss : List (Sl Frm)) (w : World) (hl : SlT slF 1 w A k ss) (hk : k ≤ 10) (hs : ∀ s ∈ ss, s.Ok Frm.enc 6 w) (h0 : 0 < sumFq ss) (hm : sumFq ss ≤ 1000000) :
    Calls Tryd.prog 126 #[.slice A k c] w fun e w' => ∃ A' c', e = .returned (.slice A' (catF ss).length c') ∧ w'.ownsRow w.heap.size 148 6 (.slice A' (catF ss).length c') (catF ss).length ((catF ss).flatMap Frm.enc) ∧ Below w.heap.size w w' := by
  refine enter_args (args := [.slice A k c]) (F := _) Tryd.func126 rfl Tryd.ntmps126 rfl rfl ?_
  intro Rb hRb hRn
  refine T_seq ?_
  refine T_region ?_
  refine S_nilSlice 2 (e := 148) (size := 6) ?_
  refine S_ 2 rfl rfl rfl _ (y_assign rfl rfl) ?_
  refine S_go (fun _ _ h => h) ?_
  refine T_seq ?_
  refine T_region ?_
  refine S_ 3 rfl rfl rfl _ (y_assign rfl rfl) ?_
  refine S_go (fun _ _ h => h) ?_
  refine T_seq ?_
  refine T_seq ?_
  refine T_region ?_
  refine S_ 9 rfl rfl rfl _ (y_move rfl rfl) ?_
  refine S_ 10 rfl rfl rfl _ (y_len_slice rfl rfl Tryd.underlying205) ?_
  refine S_ 11 rfl rfl rfl _ (y_move rfl rfl) ?_
  refine S_go (fun _ _ h => h) ?_
  refine T_block ?_
  refine T_loopK2 (kf := [(3, 3), (5, 5), (11, 22)]) (kl := [(3, 3), (5, 5), (11, 22)]) (fun (i : Nat) (n : Nat) => [(11, true, .int .i64 (i : Int)), (3, true, .int .i64 (n : Int))]) (fun (i : Nat) (n : Nat) => []) (fun (i : Nat) (n : Nat) => i ≤ k ∧ n + sumFq (ss.drop i) = sumFq ss) (fun (i : Nat) (n : Nat) => k - i) 0 0 (by repeat (first | exact kf_nil | (apply kf_in; focus rfl) | (apply kf_out; focus rfl))) (by repeat (first | exact kl_nil | exact kl_rest (by assumption) rfl | (apply kl_in; focus rfl) | (apply kl_out; focus rfl))) ?_ ?_ ?_ ?_
  · exact ⟨by omega, by simp⟩
  · exact ⟨rfl, rfl, trivial⟩
  · exact trivial
  rintro i n ⟨hp1, hp2⟩
  refine T_seq ?_
  refine T_region ?_
  refine S_ 12 rfl rfl rfl _ (y_bin rfl rfl rfl (fun _ => b_lss)) ?_
  refine S_go (fun _ _ h => h) ?_
  refine T_seq ?_
  refine T_cond rfl (fun h12 => ?_) (fun h12 => ?_)
  · try simp only [decide_eq_true_eq, decide_eq_false_iff_not, Bool.or_eq_true, Bool.or_eq_false_iff, Bool.and_eq_true, Bool.and_eq_false_iff, Bool.not_eq_true', Bool.not_eq_false', Bool.not_eq_true, Bool.not_eq_false, Bool.not_true, Bool.not_false, Int.not_lt, Int.not_le, not_or, not_and, Classical.not_not] at h12
    obtain ⟨x, hx1, hx2⟩ := hl.at (i := i) (by omega)
    rw [hx2, sumFq] at hp2
    refine T_skip_go (fun _ _ h => h) ?_
    refine T_seq ?_
    refine T_block ?_
    refine T_seq ?_
    refine T_region ?_
    refine S_ 13 rfl rfl rfl _ (y_indexAddr rfl rfl rfl Tryd.underlying205 sz68 (fun hg => hl.isSome (by omega)) (fun _ => by omega)) ?_
    refine S_ 14 rfl rfl rfl _ (y_loadT1 (val := (fun s : Sl Frm => Value.slice s.A s.q s.c)) rfl rfl hl (fun _ => hx1) Tryd.underlying68 rfl) ?_
    refine S_ 5 rfl rfl rfl _ (y_assign rfl rfl) ?_
    refine S_go (fun _ _ h => h) ?_
    refine T_seq ?_
    refine T_region ?_
    refine S_ 15 rfl rfl rfl _ (y_move rfl rfl) ?_
    refine S_ 16 rfl rfl rfl _ (y_move rfl rfl) ?_
    refine S_ 17 rfl rfl rfl _ (y_len_slice rfl rfl Tryd.underlying68) ?_
    refine S_ 18 rfl rfl rfl _ (y_bin rfl rfl rfl (fun hg => b_addv (((n + x.q : Nat) : Int)) (by omega) (by omega))) ?_
    refine S_ 3 rfl rfl rfl _ (y_assign rfl rfl) ?_
    refine S_go (fun _ _ h => h) ?_
    refine T_seq ?_
    refine T_region ?_
    refine S_ 19 rfl rfl rfl _ (y_move rfl rfl) ?_
    refine S_ 20 rfl rfl rfl _ (y_bin rfl rfl rfl (fun _ => b_lss)) ?_
    refine S_go (fun _ _ h => h) ?_
    refine T_cond rfl (fun h20 => ?_) (fun h20 => ?_)
    · try simp only [decide_eq_true_eq, decide_eq_false_iff_not, Bool.or_eq_true, Bool.or_eq_false_iff, Bool.and_eq_true, Bool.and_eq_false_iff, Bool.not_eq_true', Bool.not_eq_false', Bool.not_eq_true, Bool.not_eq_false, Bool.not_true, Bool.not_false, Int.not_lt, Int.not_le, not_or, not_and, Classical.not_not] at h20
      omega
    · try simp only [decide_eq_true_eq, decide_eq_false_iff_not, Bool.or_eq_true, Bool.or_eq_false_iff, Bool.and_eq_true, Bool.and_eq_false_iff, Bool.not_eq_true', Bool.not_eq_false', Bool.not_eq_true, Bool.not_eq_false, Bool.not_true, Bool.not_false, Int.not_lt, Int.not_le, not_or, not_and, Classical.not_not] at h20
      refine T_skip_go (fun _ _ h => h) ?_
      refine T_region ?_
      refine S_ 22 rfl rfl rfl _ (y_bin rfl rfl rfl (fun hg => b_add (by omega))) ?_
      refine S_ 11 rfl rfl rfl _ (y_move rfl rfl) ?_
      refine S_nil (nextK2 (kf := [(3, 3), (5, 5), (11, 22)]) (kl := [(3, 3), (5, 5), (11, 22)]) (i + 1) (n + x.q) (by repeat (first | exact kf_nil | (apply kf_in; focus rfl) | (apply kf_out; focus rfl))) (by repeat (first | exact kl_nil | exact kl_rest (by assumption) rfl | (apply kl_in; focus rfl) | (apply kl_out; focus rfl))) ?_ ?_ ?_ ?_)
      · omega
      · exact ⟨by omega, by omega⟩
      · exact ⟨rfl, rfl, trivial⟩
      · exact trivial
  · try simp only [decide_eq_true_eq, decide_eq_false_iff_not, Bool.or_eq_true, Bool.or_eq_false_iff, Bool.and_eq_true, Bool.and_eq_false_iff, Bool.not_eq_true', Bool.not_eq_false', Bool.not_eq_true, Bool.not_eq_false, Bool.not_true, Bool.not_false, Int.not_lt, Int.not_le, not_or, not_and, Classical.not_not] at h12
    have hz : ss.drop i = [] := hl.end (by omega)
    rw [hz, sumFq] at hp2
    refine T_exit_go (fun _ _ h => h) ?_
    refine T_seq ?_
    refine T_region ?_
    refine S_ 23 rfl rfl rfl _ (y_move rfl rfl) ?_
    refine S_callOwn 24 24 rfl rfl rfl rfl rfl rfl rfl cf196 (fun A c => .slice A (0) c) 148 6 (0) ([]) (fun w hM => GrowF_any n (by omega) (by omega) w) ?_
    intro A24 c24
    refine S_ 6 rfl rfl rfl _ (y_assign rfl rfl) ?_
    refine S_go (fun _ _ h => h) ?_
    refine T_seq ?_
    refine T_seq ?_
    refine T_region ?_
    refine S_ 25 rfl rfl rfl _ (y_move rfl rfl) ?_
    refine S_ 26 rfl rfl rfl _ (y_len_slice rfl rfl Tryd.underlying205) ?_
    refine S_ 27 rfl rfl rfl _ (y_move rfl rfl) ?_
    refine S_go (fun _ _ h => h) ?_
    refine T_block ?_
    refine T_loopK5 (kf := [(6, 6), (8, 8), (27, 34)]) (kl := [(6, 6), (8, 8), (24, 24), (27, 34)]) (fun (i : Nat) (out : List Frm) (q : Nat) (A2 : Option Addr) (c2 : Nat) => [(27, true, .int .i64 (i : Int)), (6, true, .slice A2 q c2)]) (fun (i : Nat) (out : List Frm) (q : Nat) (A2 : Option Addr) (c2 : Nat) => [(24, .own 148 6 (.slice A2 q c2) q (out.flatMap Frm.enc))]) (fun (i : Nat) (out : List Frm) (q : Nat) (A2 : Option Addr) (c2 : Nat) => i ≤ k ∧ out.length = q ∧ out ++ catF (ss.drop i) = catF ss ∧ q + sumFq (ss.drop i) = sumFq ss) (fun (i : Nat) (out : List Frm) (q : Nat) (A2 : Option Addr) (c2 : Nat) => k - i) 0 [] 0 A24 c24 (by repeat (first | exact kf_nil | (apply kf_in; focus rfl) | (apply kf_out; focus rfl))) (by repeat (first | exact kl_nil | exact kl_rest (by assumption) rfl | (apply kl_in; focus rfl) | (apply kl_out; focus rfl))) ?_ ?_ ?_ ?_
    · exact ⟨by omega, rfl, rfl, by simp⟩
    · exact ⟨rfl, rfl, trivial⟩
    · exact ⟨rfl, trivial⟩
    rintro i out q A2 c2 ⟨hr1, hr2, hr3, hr4⟩
    refine T_seq ?_
    refine T_region ?_
    refine S_ 28 rfl rfl rfl _ (y_bin rfl rfl rfl (fun _ => b_lss)) ?_
    refine S_go (fun _ _ h => h) ?_
    refine T_seq ?_
    refine T_cond rfl (fun h28 => ?_) (fun h28 => ?_)
    · try simp only [decide_eq_true_eq, decide_eq_false_iff_not, Bool.or_eq_true, Bool.or_eq_false_iff, Bool.and_eq_true, Bool.and_eq_false_iff, Bool.not_eq_true', Bool.not_eq_false', Bool.not_eq_true, Bool.not_eq_false, Bool.not_true, Bool.not_false, Int.not_lt, Int.not_le, not_or, not_and, Classical.not_not] at h28
      obtain ⟨x, hx1, hx2⟩ := hl.at (i := i) (by omega)
      have hxo := hs x (mem_at hx1)
      have hxl := hxo.t.len
      rw [hx2] at hr3 hr4
      rw [catF] at hr3
      rw [sumFq] at hr4
      refine T_skip_go (fun _ _ h => h) ?_
      refine T_seq ?_
      refine T_block ?_
      refine T_seq ?_
      refine T_region ?_
      refine S_ 29 rfl rfl rfl _ (y_indexAddr rfl rfl rfl Tryd.underlying205 sz68 (fun hg => hl.isSome (by omega)) (fun _ => by omega)) ?_
      refine S_ 30 rfl rfl rfl _ (y_loadT1 (val := (fun s : Sl Frm => Value.slice s.A s.q s.c)) rfl rfl hl (fun _ => hx1) Tryd.underlying68 rfl) ?_
      refine S_ 8 rfl rfl rfl _ (y_assign rfl rfl) ?_
      refine S_go (fun _ _ h => h) ?_
      refine T_region ?_
      refine S_ 31 rfl rfl rfl _ (y_move rfl rfl) ?_
      refine S_ 32 rfl rfl rfl _ (y_move rfl rfl) ?_
      obtain ⟨i33, hi33, hz33, hs33, hy33⟩ := info_parts inf148
      refine S_appendG 33 24 (news := x.l.flatMap Frm.enc) rfl rfl rfl rfl rfl rfl rfl (fun w hM => hxo.t.rd.below hM.below) Tryd.underlying68 hi33 hz33 hs33 hy33 rfl (by decide) (allOne_of (fun u hu => by obtain ⟨a, _, ha⟩ := List.mem_flatMap.1 hu; simp [Frm.enc] at ha; rcases ha with rfl | rfl | rfl | rfl | rfl | rfl <;> rfl)) ?_ ?_ (q + x.q) ((out ++ x.l).flatMap Frm.enc) ?_ ?_ ?_
      · (simp only [maxLen]; omega)
      · omega
      · rfl
      · simp [List.flatMap_append]
      intro A33 c33
      refine S_ 6 rfl rfl rfl _ (y_assign rfl rfl) ?_
      refine S_go (fun _ _ h => h) ?_
      refine T_region ?_
      refine S_ 34 rfl rfl rfl _ (y_bin rfl rfl rfl (fun hg => b_add (by omega))) ?_
      refine S_ 27 rfl rfl rfl _ (y_move rfl rfl) ?_
      refine S_nil (nextK5 (kf := [(6, 6), (8, 8), (27, 34)]) (kl := [(6, 6), (8, 8), (24, 24), (27, 34)]) (i + 1) (out ++ x.l) (q + x.q) A33 c33 (by repeat (first | exact kf_nil | (apply kf_in; focus rfl) | (apply kf_out; focus rfl))) (by repeat (first | exact kl_nil | exact kl_rest (by assumption) rfl | (apply kl_in; focus rfl) | (apply kl_out; focus rfl))) ?_ ?_ ?_ ?_)
      · omega
      · exact ⟨by omega, by simp [hr2, hxl], by rw [← hr3, List.append_assoc], by omega⟩
      · exact ⟨rfl, rfl, trivial⟩
      · exact ⟨rfl, trivial⟩
    · try simp only [decide_eq_true_eq, decide_eq_false_iff_not, Bool.or_eq_true, Bool.or_eq_false_iff, Bool.and_eq_true, Bool.and_eq_false_iff, Bool.not_eq_true', Bool.not_eq_false', Bool.not_eq_true, Bool.not_eq_false, Bool.not_true, Bool.not_false, Int.not_lt, Int.not_le, not_or, not_and, Classical.not_not] at h28
      refine T_exit_go (fun _ _ h => h) ?_
      refine T_seq ?_
      refine T_region ?_
      refine S_ 35 rfl rfl rfl _ (y_move rfl rfl) ?_
      refine S_ 2 rfl rfl rfl _ (y_assign rfl rfl) ?_
      refine S_go (fun _ _ h => h) ?_
      refine T_ret (fun a w hF hM => hRb a w (post1 rfl rfl (fun w hM => ?_) a w hF hM))
      have e : catF ss = out := by rw [← hr3, hl.end (by omega)]; simp [catF]
      rw [e, hr2]
      exact ⟨A2, c2, rfl, hM.sat 24 _ rfl, hM.below⟩
/-- a text cut to n bytes -/
def cutS (s : List UInt8) (n : Int) : List UInt8 := if (s.length : Int) ≤ n then s else if n < 3 then List.replicate n.toNat 46 else s.take (n - 3).toNat ++ [46, 46, 46]
theorem eshort_any (s : List UInt8) (n : Int) (h0 : 1 ≤ n) (h1 : n ≤ 2000) (hs : s.length ≤ 4611686018427387904) (w : World) :
    Calls Tryd.prog 108 #[str s, .int .i64 n] w fun e w' => e = .returned (str (cutS s n)) ∧ Below w.heap.size w w' := by
  obtain ⟨n, rfl⟩ : ∃ k : Nat, n = k := ⟨n.toNat, by omega⟩
  refine enter_args (args := [str s, .int .i64 (n : Int)]) (F := _) Tryd.func108 rfl Tryd.ntmps108 rfl rfl ?_
  intro Rb hRb hRn
  refine T_seq ?_
  refine T_region ?_
  refine S_ 4 rfl rfl rfl _ (y_assign rfl rfl) ?_
  refine S_go (fun _ _ h => h) ?_
  refine T_seq ?_
  refine T_seq ?_
  refine T_region ?_
  refine S_ 5 rfl rfl rfl _ (y_move rfl rfl) ?_
  refine S_ 6 rfl rfl rfl _ (y_len_str rfl rfl Tryd.underlying9) ?_
  refine S_ 7 rfl rfl rfl _ (y_move rfl rfl) ?_
  refine S_ 8 rfl rfl rfl _ (y_bin rfl rfl rfl (fun _ => b_leq)) ?_
  refine S_go (fun _ _ h => h) ?_
  refine T_cond rfl (fun h8 => ?_) (fun h8 => ?_)
  · try simp only [decide_eq_true_eq, decide_eq_false_iff_not, Bool.or_eq_true, Bool.or_eq_false_iff, Bool.and_eq_true, Bool.and_eq_false_iff, Bool.not_eq_true', Bool.not_eq_false', Bool.not_eq_true, Bool.not_eq_false, Bool.not_true, Bool.not_false, Int.not_lt, Int.not_le, not_or, not_and, Classical.not_not] at h8
    refine T_seq ?_
    refine T_region ?_
    refine S_ 9 rfl rfl rfl _ (y_move rfl rfl) ?_
    refine S_ 4 rfl rfl rfl _ (y_assign rfl rfl) ?_
    refine S_go (fun _ _ h => h) ?_
    refine T_ret (fun a w hF hM => hRb a w (post1 rfl rfl (fun w hM => ?_) a w hF hM))
    exact ⟨by rw [cutS, if_pos h8], hM.below⟩
  · try simp only [decide_eq_true_eq, decide_eq_false_iff_not, Bool.or_eq_true, Bool.or_eq_false_iff, Bool.and_eq_true, Bool.and_eq_false_iff, Bool.not_eq_true', Bool.not_eq_false', Bool.not_eq_true, Bool.not_eq_false, Bool.not_true, Bool.not_false, Int.not_lt, Int.not_le, not_or, not_and, Classical.not_not] at h8
    have h8 : (n : Int) < s.length := by simpa using h8
    refine T_skip_go (fun _ _ h => h) ?_
    refine T_seq ?_
    refine T_seq ?_
    refine T_region ?_
    refine S_ 10 rfl rfl rfl _ (y_move rfl rfl) ?_
    refine S_ 11 rfl rfl rfl _ (y_bin rfl rfl rfl (fun _ => b_lss)) ?_
    refine S_go (fun _ _ h => h) ?_
    refine T_cond rfl (fun h11 => ?_) (fun h11 => ?_)
    · try simp only [decide_eq_true_eq, decide_eq_false_iff_not, Bool.or_eq_true, Bool.or_eq_false_iff, Bool.and_eq_true, Bool.and_eq_false_iff, Bool.not_eq_true', Bool.not_eq_false', Bool.not_eq_true, Bool.not_eq_false, Bool.not_true, Bool.not_false, Int.not_lt, Int.not_le, not_or, not_and, Classical.not_not] at h11
      refine T_seq ?_
      refine T_region ?_
      refine S_ 12 rfl rfl rfl _ (y_move rfl rfl) ?_
      refine S_ 13 rfl rfl rfl _ (y_strTo rfl rfl rfl Tryd.underlying9 (fun _ => ⟨by omega, by show (n : Int) ≤ 3; omega⟩)) ?_
      refine S_ 4 rfl rfl rfl _ (y_assign rfl rfl) ?_
      refine S_go (fun _ _ h => h) ?_
      refine T_ret (fun a w hF hM => hRb a w (post1 rfl rfl (fun w hM => ?_) a w hF hM))
      exact ⟨by rw [cutS, if_neg (by omega), if_pos h11]; have : n = 1 ∨ n = 2 := by omega
                rcases this with rfl | rfl <;> rfl, hM.below⟩
    · try simp only [decide_eq_true_eq, decide_eq_false_iff_not, Bool.or_eq_true, Bool.or_eq_false_iff, Bool.and_eq_true, Bool.and_eq_false_iff, Bool.not_eq_true', Bool.not_eq_false', Bool.not_eq_true, Bool.not_eq_false, Bool.not_true, Bool.not_false, Int.not_lt, Int.not_le, not_or, not_and, Classical.not_not] at h11
      have h11 : (3 : Int) ≤ n := by simpa using h11
      refine T_skip_go (fun _ _ h => h) ?_
      refine T_seq ?_
      refine T_region ?_
      refine S_ 14 rfl rfl rfl _ (y_move rfl rfl) ?_
      refine S_ 15 rfl rfl rfl _ (y_move rfl rfl) ?_
      refine S_ 16 rfl rfl rfl _ (y_bin rfl rfl rfl (fun hg => b_subv (((n - 3 : Nat) : Int)) (by omega) (by omega))) ?_
      refine S_ 17 rfl rfl rfl _ (y_strTo rfl rfl rfl Tryd.underlying9 (fun _ => by omega)) ?_
      refine S_ 18 rfl rfl rfl _ (y_bin rfl rfl rfl (fun hg => b_adds (by simp only [List.length_take, List.length_cons, List.length_nil]; omega))) ?_
      refine S_ 4 rfl rfl rfl _ (y_assign rfl rfl) ?_
      refine S_go (fun _ _ h => h) ?_
      refine T_ret (fun a w hF hM => hRb a w (post1 rfl rfl (fun w hM => ?_) a w hF hM))
      exact ⟨by rw [cutS, if_neg (by omega), if_neg (by omega)]; rw [show ((n : Int) - 3).toNat = n - 3 by omega, Int.toNat_natCast], hM.below⟩
end Go.Proofs.YtoeipmepmlikcaaDoor
