/- slices.SortStableFunc walked, last part: blocks, and the whole. Conditions: those of each theorem. -/
import Derived.Test.YtoeipmepmlikcaaDoorESym
namespace Go.Proofs.YtoeipmepmlikcaaDoor
set_option linter.unusedSimpArgs false
set_option linter.unusedVariables false
set_option maxRecDepth 20000
open Go.RowKit Go.Eng
theorem mem_drop_perm {α : Type} {A B : List α} {k : Nat} {y : α} (h : A.Perm (B.take k)) (hy : y ∈ A) : y ∈ B := List.mem_of_mem_take (h.mem_iff.1 hy)
set_option maxHeartbeats 1000000 in
theorem stabC_any {R : SCrumb → SCrumb → Prop} (tr : ∀ x y z, R x y → R y z → R x z) {cf : SCrumb → SCrumb → Int} (g : FuncId) (cap : Array Value) (hcf : ∀ args w, (callFunc g args).run Tryd.prog w = .ok (.enter g args) w)
    (hcmp : ∀ x y w, Calls Tryd.prog g (#[.agg (SCrumb.enc x).toArray, .agg (SCrumb.enc y).toArray] ++ cap) w fun e w' => e = .returned (.int .i64 (cf x y)) ∧ Below w.heap.size w w')
    {w0 : World} {K : HL} (hK : FromK K) (A : Option Addr) (q c : Nat) (l : List SCrumb) (hq : l.length = q) (hqm : q ≤ 100000000) (hl : l.Pairwise (Cmp R cf)) (w : World)
    (hM0 : Mem w0 ([(0, .own 78 3 (.slice A q c) q (l.flatMap SCrumb.enc))] ++ K) w) :
    Calls Tryd.prog 190 #[.slice A q c, .int .i64 (q : Int), .func (.func g) #[] cap] w fun e w' => ∃ W : List SCrumb, e = .returned (.tuple #[]) ∧ (W.Perm l ∧ W.Pairwise R) ∧ Mem w0 ([(0, .own 78 3 (.slice A q c) q (W.flatMap SCrumb.enc))] ++ K) w' := by
  refine enterM_args (args := [.slice A q c, .int .i64 (q : Int), .func (.func g) #[] cap]) (F := _) hM0 Tryd.func190 rfl Tryd.ntmps190 rfl rfl ?_
  intro Rb hRb hRn
  refine T_seq ?_
  refine T_region ?_
  refine S_ 6 rfl rfl rfl _ (y_assign rfl rfl) ?_
  refine S_go (fun _ _ h => h) ?_
  refine T_seq ?_
  refine T_region ?_
  refine S_ 10 rfl rfl rfl _ (y_move rfl rfl) ?_
  refine S_ 7 rfl rfl rfl _ (y_assign rfl rfl) ?_
  refine S_ 8 rfl rfl rfl _ (y_assign rfl rfl) ?_
  refine S_go (fun _ _ h => h) ?_
  refine T_seq ?_
  refine T_block ?_
  refine T_loopK3 (kf := [(7, 8), (11, 22)]) (kl := [(0, 0), (7, 8), (11, 22)]) (fun (a d : Nat) (D : List SCrumb) => [(7, true, .int .i64 ((a : Nat) : Int)), (8, true, .int .i64 ((a + 20 : Nat) : Int))]) (fun (a d : Nat) (D : List SCrumb) => [(0, .own 78 3 (.slice A q c) q ((D ++ l.drop a).flatMap SCrumb.enc))]) (fun (a d : Nat) (D : List SCrumb) => a = d * 20 ∧ a ≤ q ∧ D.length = a ∧ OkBlk R 20 D (l.take a)) (fun (a d : Nat) (D : List SCrumb) => q - a) 0 0 [] (by repeat (first | exact kf_nil | (apply kf_in; focus rfl) | (apply kf_out; focus rfl))) (by repeat (first | exact kl_nil | exact kl_rest (by assumption) rfl | (apply kl_in; focus rfl) | (apply kl_out; focus rfl))) ?_ ?_ ?_ ?_
  · exact ⟨rfl, by omega, rfl, okBlk_nil⟩
  · exact ⟨rfl, rfl, trivial⟩
  · exact ⟨rfl, trivial⟩
  rintro a d D ⟨hp1, hp2, hp3, hp4⟩
  refine T_seq ?_
  refine T_seq ?_
  refine T_region ?_
  refine S_ 11 rfl rfl rfl _ (y_move rfl rfl) ?_
  refine S_ 12 rfl rfl rfl _ (y_move rfl rfl) ?_
  refine S_ 13 rfl rfl rfl _ (y_bin rfl rfl rfl (fun _ => b_leq)) ?_
  refine S_go (fun _ _ h => h) ?_
  refine T_cond rfl (fun h13 => ?_) (fun h13 => ?_)
  · try simp only [decide_eq_true_eq, decide_eq_false_iff_not, Bool.or_eq_true, Bool.or_eq_false_iff, Bool.and_eq_true, Bool.and_eq_false_iff, Bool.not_eq_true', Bool.not_eq_false', Bool.not_eq_true, Bool.not_eq_false, Bool.not_true, Bool.not_false, Int.not_lt, Int.not_le, not_or, not_and, Classical.not_not] at h13
    have l1 : (l.drop a).length = q - a := by rw [List.length_drop]; omega
    have l2 : ((l.drop a).take 20).length = 20 := by rw [List.length_take]; omega
    have l3 : (l.drop (a + 20)).length = q - (a + 20) := by rw [List.length_drop]; omega
    have hP : ((l.drop a).take 20).Pairwise (Cmp R cf) := (hl.sublist (List.drop_sublist _ _)).sublist (List.take_sublist _ _)
    rw [show D ++ l.drop a = D ++ (l.drop a).take 20 ++ l.drop (a + 20) from by rw [← List.drop_drop, List.append_assoc, List.take_append_drop]]
    refine T_skip_go (fun _ _ h => h) ?_
    refine T_block ?_
    refine T_seq ?_
    refine T_region ?_
    refine S_ 14 rfl rfl rfl _ (y_move rfl rfl) ?_
    refine S_ 15 rfl rfl rfl _ (y_move rfl rfl) ?_
    refine S_ 16 rfl rfl rfl _ (y_move rfl rfl) ?_
    refine S_ 17 rfl rfl rfl _ (y_move rfl rfl) ?_
    refine S_callM 18 [(0, 0)] (X := List SCrumb) rfl rfl rfl rfl rfl rfl rfl cf231 rfl (fun _ => .tuple #[]) (fun W => W.Perm ((l.drop a).take 20) ∧ W.Pairwise R) (fun W => [(0, .own 78 3 (.slice A q c) q ((D ++ W ++ l.drop (a + 20)).flatMap SCrumb.enc))]) (fun _ => rfl) (fun _ => rfl) (fun K1 hK1 w hM => insC_any tr g cap hcf hcmp hK1 A q c D ((l.drop a).take 20) (l.drop (a + 20)) a (a + 20) (by omega) (by omega) (by simp only [List.length_append]; omega) (by omega) hP w hM) ?_
    rintro W ⟨hWp, hWs⟩
    have lw := hWp.length_eq
    refine S_go (fun _ _ h => h) ?_
    refine T_seq ?_
    refine T_region ?_
    refine S_ 19 rfl rfl rfl _ (y_move rfl rfl) ?_
    refine S_ 7 rfl rfl rfl _ (y_assign rfl rfl) ?_
    refine S_go (fun _ _ h => h) ?_
    refine T_region ?_
    refine S_ 20 rfl rfl rfl _ (y_move rfl rfl) ?_
    refine S_ 21 rfl rfl rfl _ (y_move rfl rfl) ?_
    refine S_ 22 rfl rfl rfl _ (y_bin rfl rfl rfl (fun hg => b_addv (((a + 20 + 20 : Nat) : Int)) (by omega) (by omega))) ?_
    refine S_ 8 rfl rfl rfl _ (y_assign rfl rfl) ?_
    refine S_nil (nextK3 (kf := [(7, 8), (11, 22)]) (kl := [(0, 0), (7, 8), (11, 22)]) (a + 20) (d + 1) (D ++ W) (by repeat (first | exact kf_nil | (apply kf_in; focus rfl) | (apply kf_out; focus rfl))) (by repeat (first | exact kl_nil | exact kl_rest (by assumption) rfl | (apply kl_in; focus rfl) | (apply kl_out; focus rfl))) ?_ ?_ ?_ ?_)
    · omega
    · exact ⟨by omega, by omega, by rw [List.length_append]; omega, by rw [List.take_add]; exact okBlk_app (d := d) (by omega) (by rw [List.length_take]; omega) hp4 hWp hWs (by omega)⟩
    · exact ⟨rfl, rfl, trivial⟩
    · exact ⟨rfl, trivial⟩
  · try simp only [decide_eq_true_eq, decide_eq_false_iff_not, Bool.or_eq_true, Bool.or_eq_false_iff, Bool.and_eq_true, Bool.and_eq_false_iff, Bool.not_eq_true', Bool.not_eq_false', Bool.not_eq_true, Bool.not_eq_false, Bool.not_true, Bool.not_false, Int.not_lt, Int.not_le, not_or, not_and, Classical.not_not] at h13
    have l1 : (l.drop a).length = q - a := by rw [List.length_drop]; omega
    have hP : (l.drop a).Pairwise (Cmp R cf) := hl.sublist (List.drop_sublist _ _)
    rw [show D ++ l.drop a = D ++ l.drop a ++ [] from (List.append_nil _).symm]
    refine T_exit_go (fun _ _ h => h) ?_
    refine T_seq ?_
    refine T_region ?_
    refine S_ 23 rfl rfl rfl _ (y_move rfl rfl) ?_
    refine S_ 24 rfl rfl rfl _ (y_move rfl rfl) ?_
    refine S_ 25 rfl rfl rfl _ (y_move rfl rfl) ?_
    refine S_ 26 rfl rfl rfl _ (y_move rfl rfl) ?_
    refine S_callM 27 [(0, 0)] (X := List SCrumb) rfl rfl rfl rfl rfl rfl rfl cf231 rfl (fun _ => .tuple #[]) (fun W => W.Perm (l.drop a) ∧ W.Pairwise R) (fun W => [(0, .own 78 3 (.slice A q c) q ((D ++ W ++ ([] : List SCrumb)).flatMap SCrumb.enc))]) (fun _ => rfl) (fun _ => rfl) (fun K1 hK1 w hM => insC_any tr g cap hcf hcmp hK1 A q c D (l.drop a) [] a q (by omega) (by omega) (by simp only [List.length_append, List.length_nil]; omega) (by omega) hP w hM) ?_
    rintro W ⟨hWp, hWs⟩
    have lw := hWp.length_eq
    rw [List.append_nil]
    have hB : OkBlk R 20 (D ++ W) l := by
      have := okBlk_app (W0 := l.drop a) (d := d) (by omega) (by rw [List.length_take]; omega) hp4 hWp hWs (by omega)
      rwa [List.take_append_drop] at this
    refine S_go (fun _ _ h => h) ?_
    refine T_block ?_
    refine T_loopK2 (kf := [(6, 9), (28, 62)]) (kl := [(0, 0), (6, 9), (28, 62)]) (fun (bs : Nat) (l1 : List SCrumb) => [(6, true, .int .i64 ((bs : Nat) : Int))]) (fun (bs : Nat) (l1 : List SCrumb) => [(0, .own 78 3 (.slice A q c) q (l1.flatMap SCrumb.enc))]) (fun (bs : Nat) (l1 : List SCrumb) => 20 ≤ bs ∧ l1.length = q ∧ OkBlk R bs l1 l) (fun (bs : Nat) (l1 : List SCrumb) => q - bs) 20 (D ++ W) (by repeat (first | exact kf_nil | (apply kf_in; focus rfl) | (apply kf_out; focus rfl))) (by repeat (first | exact kl_nil | exact kl_rest (by assumption) rfl | (apply kl_in; focus rfl) | (apply kl_out; focus rfl))) ?_ ?_ ?_ ?_
    · exact ⟨by omega, by rw [List.length_append]; omega, hB⟩
    · exact ⟨rfl, trivial⟩
    · exact ⟨rfl, trivial⟩
    rintro bs l1 ⟨hr1, hr2, hr3⟩
    refine T_seq ?_
    refine T_seq ?_
    refine T_region ?_
    refine S_ 28 rfl rfl rfl _ (y_move rfl rfl) ?_
    refine S_ 29 rfl rfl rfl _ (y_move rfl rfl) ?_
    refine S_ 30 rfl rfl rfl _ (y_bin rfl rfl rfl (fun _ => b_lss)) ?_
    refine S_go (fun _ _ h => h) ?_
    refine T_cond rfl (fun h30 => ?_) (fun h30 => ?_)
    · try simp only [decide_eq_true_eq, decide_eq_false_iff_not, Bool.or_eq_true, Bool.or_eq_false_iff, Bool.and_eq_true, Bool.and_eq_false_iff, Bool.not_eq_true', Bool.not_eq_false', Bool.not_eq_true, Bool.not_eq_false, Bool.not_true, Bool.not_false, Int.not_lt, Int.not_le, not_or, not_and, Classical.not_not] at h30
      refine T_skip_go (fun _ _ h => h) ?_
      refine T_block ?_
      refine T_seq ?_
      refine T_region ?_
      refine S_ 31 rfl rfl rfl _ (y_move rfl rfl) ?_
      refine S_ 32 rfl rfl rfl _ (y_bin rfl rfl rfl (fun hg => b_mulv (((0 + 2 * bs : Nat) : Int)) (by omega) (by omega))) ?_
      refine S_ 7 rfl rfl rfl _ (y_assign rfl rfl) ?_
      refine S_ 8 rfl rfl rfl _ (y_assign rfl rfl) ?_
      refine S_go (fun _ _ h => h) ?_
      refine T_seq ?_
      refine T_block ?_
      refine T_loopK4 (kf := [(7, 8), (33, 48)]) (kl := [(0, 0), (7, 8), (33, 48)]) (fun (a d : Nat) (D E : List SCrumb) => [(7, true, .int .i64 ((a : Nat) : Int)), (8, true, .int .i64 ((a + 2 * bs : Nat) : Int))]) (fun (a d : Nat) (D E : List SCrumb) => [(0, .own 78 3 (.slice A q c) q ((D ++ E).flatMap SCrumb.enc))]) (fun (a d : Nat) (D E : List SCrumb) => a = d * (2 * bs) ∧ a ≤ q ∧ D.length = a ∧ E.length = q - a ∧ OkBlk R (2 * bs) D (l.take a) ∧ OkBlk R bs E (l.drop a)) (fun (a d : Nat) (D E : List SCrumb) => q - a) 0 0 [] l1 (by repeat (first | exact kf_nil | (apply kf_in; focus rfl) | (apply kf_out; focus rfl))) (by repeat (first | exact kl_nil | exact kl_rest (by assumption) rfl | (apply kl_in; focus rfl) | (apply kl_out; focus rfl))) ?_ ?_ ?_ ?_
      · exact ⟨by omega, by omega, rfl, by omega, okBlk_nil, hr3⟩
      · exact ⟨rfl, rfl, trivial⟩
      · exact ⟨rfl, trivial⟩
      rintro a d D E ⟨hs1, hs2, hs3, hs4, hs5, hs6⟩
      refine T_seq ?_
      refine T_seq ?_
      refine T_region ?_
      refine S_ 33 rfl rfl rfl _ (y_move rfl rfl) ?_
      refine S_ 34 rfl rfl rfl _ (y_move rfl rfl) ?_
      refine S_ 35 rfl rfl rfl _ (y_bin rfl rfl rfl (fun _ => b_leq)) ?_
      refine S_go (fun _ _ h => h) ?_
      refine T_cond rfl (fun h35 => ?_) (fun h35 => ?_)
      · try simp only [decide_eq_true_eq, decide_eq_false_iff_not, Bool.or_eq_true, Bool.or_eq_false_iff, Bool.and_eq_true, Bool.and_eq_false_iff, Bool.not_eq_true', Bool.not_eq_false', Bool.not_eq_true, Bool.not_eq_false, Bool.not_true, Bool.not_false, Int.not_lt, Int.not_le, not_or, not_and, Classical.not_not] at h35
        have l1 : (E.take bs).length = bs := by rw [List.length_take]; omega
        have l2 : ((E.drop bs).take bs).length = bs := by rw [List.length_take, List.length_drop]; omega
        have l3 : (E.drop (2 * bs)).length = q - (a + 2 * bs) := by rw [List.length_drop]; omega
        obtain ⟨hU, hUs⟩ := okBlk_0 hs6
        obtain ⟨hV, hVs⟩ := okBlk_1 hs6
        have hl0 : (l.drop a).Pairwise (Cmp R cf) := hl.sublist (List.drop_sublist _ _)
        have hC := cmp_parts hl0 hU fun y hy => mem_drop_perm hV hy
        rw [show D ++ E = D ++ (E.take bs ++ (E.drop bs).take bs) ++ E.drop (2 * bs) from by rw [two_blocks, List.append_assoc, List.take_append_drop]]
        refine T_skip_go (fun _ _ h => h) ?_
        refine T_block ?_
        refine T_seq ?_
        refine T_region ?_
        refine S_ 36 rfl rfl rfl _ (y_move rfl rfl) ?_
        refine S_ 37 rfl rfl rfl _ (y_move rfl rfl) ?_
        refine S_ 38 rfl rfl rfl _ (y_move rfl rfl) ?_
        refine S_ 39 rfl rfl rfl _ (y_move rfl rfl) ?_
        refine S_ 40 rfl rfl rfl _ (y_bin rfl rfl rfl (fun hg => b_addv (((a + bs : Nat) : Int)) (by omega) (by omega))) ?_
        refine S_ 41 rfl rfl rfl _ (y_move rfl rfl) ?_
        refine S_ 42 rfl rfl rfl _ (y_move rfl rfl) ?_
        refine S_callM 43 [(0, 0)] (X := List SCrumb) rfl rfl rfl rfl rfl rfl rfl cf232 rfl (fun _ => .tuple #[]) (fun W => W.Perm (E.take bs ++ (E.drop bs).take bs) ∧ W.Pairwise R) (fun W => [(0, .own 78 3 (.slice A q c) q ((D ++ W ++ E.drop (2 * bs)).flatMap SCrumb.enc))]) (fun _ => rfl) (fun _ => rfl) (fun K1 hK1 w hM => symC_any tr g cap hcf hcmp (2 * bs) hK1 A q c D (E.take bs) ((E.drop bs).take bs) (E.drop (2 * bs)) a (a + bs) (a + 2 * bs) (by omega) (by omega) (by omega) (by omega) (by omega) (by omega) (by simp only [List.length_append]; omega) (by omega) hUs hVs hC w hM) ?_
        rintro W ⟨hWp, hWs⟩
        have lw := hWp.length_eq
        have hWq : W.Perm ((l.drop a).take (2 * bs)) := hWp.trans (by have h := hU.append hV; rwa [two_blocks (l.drop a)] at h)
        rw [List.length_append] at lw
        refine S_go (fun _ _ h => h) ?_
        refine T_seq ?_
        refine T_region ?_
        refine S_ 44 rfl rfl rfl _ (y_move rfl rfl) ?_
        refine S_ 7 rfl rfl rfl _ (y_assign rfl rfl) ?_
        refine S_go (fun _ _ h => h) ?_
        refine T_region ?_
        refine S_ 45 rfl rfl rfl _ (y_move rfl rfl) ?_
        refine S_ 46 rfl rfl rfl _ (y_move rfl rfl) ?_
        refine S_ 47 rfl rfl rfl _ (y_bin rfl rfl rfl (fun hg => b_mulv (((2 * bs : Nat) : Int)) (by omega) (by omega))) ?_
        refine S_ 48 rfl rfl rfl _ (y_bin rfl rfl rfl (fun hg => b_addv (((a + 2 * bs + 2 * bs : Nat) : Int)) (by omega) (by omega))) ?_
        refine S_ 8 rfl rfl rfl _ (y_assign rfl rfl) ?_
        refine S_nil (nextK4 (kf := [(7, 8), (33, 48)]) (kl := [(0, 0), (7, 8), (33, 48)]) (a + 2 * bs) (d + 1) (D ++ W) (E.drop (2 * bs)) (by repeat (first | exact kf_nil | (apply kf_in; focus rfl) | (apply kf_out; focus rfl))) (by repeat (first | exact kl_nil | exact kl_rest (by assumption) rfl | (apply kl_in; focus rfl) | (apply kl_out; focus rfl))) ?_ ?_ ?_ ?_)
        · omega
        · exact ⟨by have := Nat.add_mul d 1 (2 * bs); omega, by omega, by rw [List.length_append]; omega, by omega, by rw [List.take_add]; exact okBlk_app (d := d) (by omega) (by rw [List.length_take]; omega) hs5 hWq hWs (by omega), by rw [← List.drop_drop]; exact okBlk_drop hs6⟩
        · exact ⟨rfl, rfl, trivial⟩
        · exact ⟨rfl, trivial⟩
      · try simp only [decide_eq_true_eq, decide_eq_false_iff_not, Bool.or_eq_true, Bool.or_eq_false_iff, Bool.and_eq_true, Bool.and_eq_false_iff, Bool.not_eq_true', Bool.not_eq_false', Bool.not_eq_true, Bool.not_eq_false, Bool.not_true, Bool.not_false, Int.not_lt, Int.not_le, not_or, not_and, Classical.not_not] at h35
        refine T_exit_go (fun _ _ h => h) ?_
        refine T_seq ?_
        refine T_seq ?_
        refine T_region ?_
        refine S_ 49 rfl rfl rfl _ (y_move rfl rfl) ?_
        refine S_ 50 rfl rfl rfl _ (y_move rfl rfl) ?_
        refine S_ 51 rfl rfl rfl _ (y_bin rfl rfl rfl (fun hg => b_addv (((a + bs : Nat) : Int)) (by omega) (by omega))) ?_
        refine S_ 9 rfl rfl rfl _ (y_assign rfl rfl) ?_
        refine S_go (fun _ _ h => h) ?_
        refine T_seq ?_
        refine T_region ?_
        refine S_ 52 rfl rfl rfl _ (y_move rfl rfl) ?_
        refine S_ 53 rfl rfl rfl _ (y_move rfl rfl) ?_
        refine S_ 54 rfl rfl rfl _ (y_bin rfl rfl rfl (fun _ => b_lss)) ?_
        refine S_go (fun _ _ h => h) ?_
        refine T_cond rfl (fun h54 => ?_) (fun h54 => ?_)
        · try simp only [decide_eq_true_eq, decide_eq_false_iff_not, Bool.or_eq_true, Bool.or_eq_false_iff, Bool.and_eq_true, Bool.and_eq_false_iff, Bool.not_eq_true', Bool.not_eq_false', Bool.not_eq_true, Bool.not_eq_false, Bool.not_true, Bool.not_false, Int.not_lt, Int.not_le, not_or, not_and, Classical.not_not] at h54
          have l1 : (E.take bs).length = bs := by rw [List.length_take]; omega
          have l2 : (E.drop bs).length = q - (a + bs) := by rw [List.length_drop]; omega
          obtain ⟨hU, hUs⟩ := okBlk_0 hs6
          obtain ⟨hV, hVs⟩ := okBlk_1 hs6
          have l4 : ((l.drop a).drop bs).length = q - (a + bs) := by rw [List.length_drop, List.length_drop]; omega
          rw [List.take_of_length_le (by omega : (E.drop bs).length ≤ bs), List.take_of_length_le (by omega : ((l.drop a).drop bs).length ≤ bs)] at hV
          rw [List.take_of_length_le (by omega : (E.drop bs).length ≤ bs)] at hVs
          have hl0 : (l.drop a).Pairwise (Cmp R cf) := hl.sublist (List.drop_sublist _ _)
          have hC := cmp_parts hl0 hU fun y hy => hV.mem_iff.1 hy
          rw [show D ++ E = D ++ (E.take bs ++ E.drop bs) ++ [] from by rw [List.take_append_drop, List.append_nil]]
          refine T_region ?_
          refine S_ 55 rfl rfl rfl _ (y_move rfl rfl) ?_
          refine S_ 56 rfl rfl rfl _ (y_move rfl rfl) ?_
          refine S_ 57 rfl rfl rfl _ (y_move rfl rfl) ?_
          refine S_ 58 rfl rfl rfl _ (y_move rfl rfl) ?_
          refine S_ 59 rfl rfl rfl _ (y_move rfl rfl) ?_
          refine S_callM 60 [(0, 0)] (X := List SCrumb) rfl rfl rfl rfl rfl rfl rfl cf232 rfl (fun _ => .tuple #[]) (fun W => W.Perm (E.take bs ++ E.drop bs) ∧ W.Pairwise R) (fun W => [(0, .own 78 3 (.slice A q c) q ((D ++ W ++ ([] : List SCrumb)).flatMap SCrumb.enc))]) (fun _ => rfl) (fun _ => rfl) (fun K1 hK1 w hM => symC_any tr g cap hcf hcmp (2 * bs) hK1 A q c D (E.take bs) (E.drop bs) [] a (a + bs) q (by omega) (by omega) (by omega) (by omega) (by omega) (by omega) (by simp only [List.length_append, List.length_nil]; omega) (by omega) hUs hVs hC w hM) ?_
          rintro W ⟨hWp, hWs⟩
          have lw := hWp.length_eq
          have hWq : W.Perm (l.drop a) := hWp.trans (by have h := hU.append hV; rwa [List.take_append_drop bs (l.drop a)] at h)
          rw [List.length_append] at lw
          rw [List.append_nil]
          refine S_go (fun _ _ h => h) ?_
          refine T_region ?_
          refine S_ 61 rfl rfl rfl _ (y_move rfl rfl) ?_
          refine S_ 62 rfl rfl rfl _ (y_bin rfl rfl rfl (fun hg => b_mulv (((2 * bs : Nat) : Int)) (by omega) (by omega))) ?_
          refine S_ 6 rfl rfl rfl _ (y_assign rfl rfl) ?_
          refine S_nil (nextK2 (kf := [(6, 9), (28, 62)]) (kl := [(0, 0), (6, 9), (28, 62)]) (2 * bs) (D ++ W) (by repeat (first | exact kf_nil | (apply kf_in; focus rfl) | (apply kf_out; focus rfl))) (by repeat (first | exact kl_nil | exact kl_rest (by assumption) rfl | (apply kl_in; focus rfl) | (apply kl_out; focus rfl))) ?_ ?_ ?_ ?_)
          · omega
          · exact ⟨by omega, by rw [List.length_append]; omega, by
              have := okBlk_app (W := W) (W0 := l.drop a) (d := d) (by omega) (by rw [List.length_take]; omega) hs5 hWq hWs (by omega)
              rwa [List.take_append_drop] at this⟩
          · exact ⟨rfl, trivial⟩
          · exact ⟨rfl, trivial⟩
        · try simp only [decide_eq_true_eq, decide_eq_false_iff_not, Bool.or_eq_true, Bool.or_eq_false_iff, Bool.and_eq_true, Bool.and_eq_false_iff, Bool.not_eq_true', Bool.not_eq_false', Bool.not_eq_true, Bool.not_eq_false, Bool.not_true, Bool.not_false, Int.not_lt, Int.not_le, not_or, not_and, Classical.not_not] at h54
          have hE := okBlk_all hs6 (by omega) (by rw [List.length_drop]; omega)
          refine T_skip_go (fun _ _ h => h) ?_
          refine T_region ?_
          refine S_ 61 rfl rfl rfl _ (y_move rfl rfl) ?_
          refine S_ 62 rfl rfl rfl _ (y_bin rfl rfl rfl (fun hg => b_mulv (((2 * bs : Nat) : Int)) (by omega) (by omega))) ?_
          refine S_ 6 rfl rfl rfl _ (y_assign rfl rfl) ?_
          refine S_nil (nextK2 (kf := [(6, 9), (28, 62)]) (kl := [(0, 0), (6, 9), (28, 62)]) (2 * bs) (D ++ E) (by repeat (first | exact kf_nil | (apply kf_in; focus rfl) | (apply kf_out; focus rfl))) (by repeat (first | exact kl_nil | exact kl_rest (by assumption) rfl | (apply kl_in; focus rfl) | (apply kl_out; focus rfl))) ?_ ?_ ?_ ?_)
          · omega
          · exact ⟨by omega, by rw [List.length_append]; omega, by
              have := okBlk_app (W := E) (W0 := l.drop a) (d := d) (by omega) (by rw [List.length_take]; omega) hs5 hE.1 hE.2 (by omega)
              rwa [List.take_append_drop] at this⟩
          · exact ⟨rfl, trivial⟩
          · exact ⟨rfl, trivial⟩
    · try simp only [decide_eq_true_eq, decide_eq_false_iff_not, Bool.or_eq_true, Bool.or_eq_false_iff, Bool.and_eq_true, Bool.and_eq_false_iff, Bool.not_eq_true', Bool.not_eq_false', Bool.not_eq_true, Bool.not_eq_false, Bool.not_true, Bool.not_false, Int.not_lt, Int.not_le, not_or, not_and, Classical.not_not] at h30
      refine T_exit (fun a w hF hM => hRn a w (post0 rfl (fun w hM => ?_) a w hF hM))
      exact ⟨l1, rfl, okBlk_all hr3 (by omega) (by omega), hM.keep (ks := [(0, 999)]) (by repeat (first | exact kl_rest (by assumption) rfl | (apply kl_in; focus rfl))) _ ⟨rfl, trivial⟩⟩
theorem sortStableC_any {R : SCrumb → SCrumb → Prop} (tr : ∀ x y z, R x y → R y z → R x z) {cf : SCrumb → SCrumb → Int} (g : FuncId) (cap : Array Value) (hcf : ∀ args w, (callFunc g args).run Tryd.prog w = .ok (.enter g args) w)
    (hcmp : ∀ x y w, Calls Tryd.prog g (#[.agg (SCrumb.enc x).toArray, .agg (SCrumb.enc y).toArray] ++ cap) w fun e w' => e = .returned (.int .i64 (cf x y)) ∧ Below w.heap.size w w')
    {w0 : World} {K : HL} (hK : FromK K) (A : Option Addr) (q c : Nat) (l : List SCrumb) (hq : l.length = q) (hqm : q ≤ 100000000) (hl : l.Pairwise (Cmp R cf)) (w : World)
    (hM0 : Mem w0 ([(0, .own 78 3 (.slice A q c) q (l.flatMap SCrumb.enc))] ++ K) w) :
    Calls Tryd.prog 113 #[.slice A q c, .func (.func g) #[] cap] w fun e w' => ∃ W : List SCrumb, e = .returned (.tuple #[]) ∧ (W.Perm l ∧ W.Pairwise R) ∧ Mem w0 ([(0, .own 78 3 (.slice A q c) q (W.flatMap SCrumb.enc))] ++ K) w' := by
  refine enterM_args (args := [.slice A q c, .func (.func g) #[] cap]) (F := _) hM0 Tryd.func113 rfl Tryd.ntmps113 rfl rfl ?_
  intro Rb hRb hRn
  refine T_region ?_
  refine S_ 4 rfl rfl rfl _ (y_move rfl rfl) ?_
  refine S_ 5 rfl rfl rfl _ (y_move rfl rfl) ?_
  refine S_ 6 rfl rfl rfl _ (y_len_slice rfl rfl Tryd.underlying50) ?_
  refine S_ 7 rfl rfl rfl _ (y_move rfl rfl) ?_
  refine S_callM 8 [(0, 0)] (X := List SCrumb) rfl rfl rfl rfl rfl rfl rfl cf190 rfl (fun _ => .tuple #[]) (fun W => W.Perm l ∧ W.Pairwise R) (fun W => [(0, .own 78 3 (.slice A q c) q (W.flatMap SCrumb.enc))]) (fun _ => rfl) (fun _ => rfl) (fun K1 hK1 w hM => stabC_any tr g cap hcf hcmp hK1 A q c l hq hqm hl w hM) ?_
  rintro W hW
  refine S_nil (fun a w hF hM => hRn a w (post0 rfl (fun w hM => ?_) a w hF hM))
  exact ⟨W, rfl, hW, hM.keep (ks := [(0, 999)]) (by repeat (first | exact kl_rest (by assumption) rfl | (apply kl_in; focus rfl))) _ ⟨rfl, trivial⟩⟩
theorem isSortedC_any {cf : SCrumb → SCrumb → Int} (g : FuncId) (cap : Array Value) (hcf : ∀ args w, (callFunc g args).run Tryd.prog w = .ok (.enter g args) w) (A : Option Addr) (q c : Nat) (l : List SCrumb)
    (hcmp : ∀ x ∈ l, ∀ y ∈ l, ∀ w, Calls Tryd.prog g (#[.agg (SCrumb.enc x).toArray, .agg (SCrumb.enc y).toArray] ++ cap) w fun e w' => e = .returned (.int .i64 (cf x y)) ∧ Below w.heap.size w w')
    (hs : l.Pairwise fun x y => ¬ cf y x < 0) (w : World) (hl : SlT SCrumb.enc 3 w A q l) (hqm : q ≤ 1000000000) :
    Calls Tryd.prog 48 #[.slice A q c, .func (.func g) #[] cap] w fun e w' => e = .returned (.bool true) ∧ Below w.heap.size w w' := by
  have hlen := hl.len
  refine enter_args (args := [.slice A q c, .func (.func g) #[] cap]) (F := _) Tryd.func48 rfl Tryd.ntmps48 rfl rfl ?_
  intro Rb hRb hRn
  refine T_seq ?_
  refine T_region ?_
  refine S_ 4 rfl rfl rfl _ (y_assign rfl rfl) ?_
  refine S_go (fun _ _ h => h) ?_
  refine T_seq ?_
  refine T_seq ?_
  refine T_region ?_
  refine S_ 6 rfl rfl rfl _ (y_move rfl rfl) ?_
  refine S_ 7 rfl rfl rfl _ (y_len_slice rfl rfl Tryd.underlying50) ?_
  refine S_ 8 rfl rfl rfl _ (y_as (v' := .int .i64 (((q : Nat) : Int) - 1)) (by exact rfl) (y_bin rfl rfl rfl (fun hg => b_sub (by omega)))) ?_
  refine S_ 5 rfl rfl rfl _ (y_assign rfl rfl) ?_
  refine S_go (fun _ _ h => h) ?_
  refine T_block ?_
  refine T_loopK1 (kf := [(4, 5), (9, 24)]) (kl := [(4, 5), (9, 24)]) (fun (t : Nat) => [(5, true, .int .i64 (((t : Nat) : Int) - 1))]) (fun (t : Nat) => []) (fun (t : Nat) => t ≤ q) (fun (t : Nat) => t) q (by repeat (first | exact kf_nil | (apply kf_in; focus rfl) | (apply kf_out; focus rfl))) (by repeat (first | exact kl_nil | exact kl_rest (by assumption) rfl | (apply kl_in; focus rfl) | (apply kl_out; focus rfl))) ?_ ?_ ?_ ?_
  · omega
  · exact ⟨rfl, trivial⟩
  · exact trivial
  rintro t hp1
  refine T_seq ?_
  refine T_seq ?_
  refine T_region ?_
  refine S_ 9 rfl rfl rfl _ (y_move rfl rfl) ?_
  refine S_ 10 rfl rfl rfl _ (y_bin rfl rfl rfl (fun _ => b_gtr)) ?_
  refine S_go (fun _ _ h => h) ?_
  refine T_cond rfl (fun h10 => ?_) (fun h10 => ?_)
  · try simp only [decide_eq_true_eq, decide_eq_false_iff_not, Bool.or_eq_true, Bool.or_eq_false_iff, Bool.and_eq_true, Bool.and_eq_false_iff, Bool.not_eq_true', Bool.not_eq_false', Bool.not_eq_true, Bool.not_eq_false, Bool.not_true, Bool.not_false, Int.not_lt, Int.not_le, not_or, not_and, Classical.not_not] at h10
    obtain ⟨s, rfl⟩ : ∃ s, t = s + 2 := ⟨t - 2, by omega⟩
    obtain ⟨x, hx⟩ := some_at (l := l) (i := s + 1) (by omega)
    obtain ⟨y, hy⟩ := some_at (l := l) (i := s) (by omega)
    have hxy : ¬ cf x y < 0 := pair_at hs (k := s + 1) (List.mem_iff_getElem?.2 ⟨s, by rw [List.getElem?_take, if_pos (by omega)]; exact hy⟩) hx
    rw [show Value.int IntKind.i64 (((s + 2 : Nat) : Int) - 1) = .int .i64 ((s + 1 : Nat) : Int) from by congr 1; omega]
    refine T_skip_go (fun _ _ h => h) ?_
    refine T_seq ?_
    refine T_block ?_
    refine T_seq ?_
    refine T_draws (by kernel_rfl) (by kernel_rfl) ?_
    refine D_ 13 rfl rfl rfl _ (y_move rfl rfl) ?_
    refine D_ 14 rfl rfl rfl _ (y_move rfl rfl) ?_
    refine D_ 15 rfl rfl rfl _ (y_move rfl rfl) ?_
    refine D_ 16 rfl rfl rfl _ (y_indexAddr rfl rfl rfl Tryd.underlying50 sz78 (fun hg => hl.isSome (by omega)) (fun _ => by omega)) ?_
    refine D_ 17 rfl rfl rfl _ (y_loadT rfl rfl hl (fun _ => rfl) (fun _ => hx) Tryd.underlying78 rfl sz78) ?_
    refine D_ 18 rfl rfl rfl _ (y_move rfl rfl) ?_
    refine D_ 19 rfl rfl rfl _ (y_move rfl rfl) ?_
    refine D_ 20 rfl rfl rfl _ (y_bin rfl rfl rfl (fun hg => b_subv (((s : Nat) : Int)) (by omega) (by omega))) ?_
    refine D_ 21 rfl rfl rfl _ (y_indexAddr rfl rfl rfl Tryd.underlying50 sz78 (fun hg => hl.isSome (by omega)) (fun _ => by omega)) ?_
    refine D_ 22 rfl rfl rfl _ (y_loadT rfl rfl hl (fun _ => rfl) (fun _ => hy) Tryd.underlying78 rfl sz78) ?_
    refine D_ 23 rfl rfl rfl _ (y_call rfl rfl rfl hcf (fun _ w _ => hcmp x (mem_at hx) y (mem_at hy) w)) ?_
    refine D_ 24 rfl rfl rfl _ (y_bin rfl rfl rfl (fun _ => b_lss)) ?_
    refine D_go (fun _ _ h => h) ?_
    refine T_cond rfl (fun h24 => ?_) (fun h24 => ?_)
    · try simp only [decide_eq_true_eq, decide_eq_false_iff_not, Bool.or_eq_true, Bool.or_eq_false_iff, Bool.and_eq_true, Bool.and_eq_false_iff, Bool.not_eq_true', Bool.not_eq_false', Bool.not_eq_true, Bool.not_eq_false, Bool.not_true, Bool.not_false, Int.not_lt, Int.not_le, not_or, not_and, Classical.not_not] at h24
      omega
    · try simp only [decide_eq_true_eq, decide_eq_false_iff_not, Bool.or_eq_true, Bool.or_eq_false_iff, Bool.and_eq_true, Bool.and_eq_false_iff, Bool.not_eq_true', Bool.not_eq_false', Bool.not_eq_true, Bool.not_eq_false, Bool.not_true, Bool.not_false, Int.not_lt, Int.not_le, not_or, not_and, Classical.not_not] at h24
      refine T_skip_go (fun _ _ h => h) ?_
      refine T_region ?_
      refine S_ 11 rfl rfl rfl _ (y_move rfl rfl) ?_
      refine S_ 12 rfl rfl rfl _ (y_bin rfl rfl rfl (fun hg => b_subv (((s + 1 : Nat) : Int) - 1) (by omega) (by omega))) ?_
      refine S_ 5 rfl rfl rfl _ (y_assign rfl rfl) ?_
      refine S_nil (nextK1 (kf := [(4, 5), (9, 24)]) (kl := [(4, 5), (9, 24)]) (s + 1) (by repeat (first | exact kf_nil | (apply kf_in; focus rfl) | (apply kf_out; focus rfl))) (by repeat (first | exact kl_nil | exact kl_rest (by assumption) rfl | (apply kl_in; focus rfl) | (apply kl_out; focus rfl))) ?_ ?_ ?_ ?_)
      · omega
      · omega
      · exact ⟨rfl, trivial⟩
      · exact trivial
  · try simp only [decide_eq_true_eq, decide_eq_false_iff_not, Bool.or_eq_true, Bool.or_eq_false_iff, Bool.and_eq_true, Bool.and_eq_false_iff, Bool.not_eq_true', Bool.not_eq_false', Bool.not_eq_true, Bool.not_eq_false, Bool.not_true, Bool.not_false, Int.not_lt, Int.not_le, not_or, not_and, Classical.not_not] at h10
    refine T_exit_go (fun _ _ h => h) ?_
    refine T_seq ?_
    refine T_region ?_
    refine S_ 4 rfl rfl rfl _ (y_assign rfl rfl) ?_
    refine S_go (fun _ _ h => h) ?_
    refine T_ret (fun a w hF hM => hRb a w (post1 rfl rfl (fun w hM => ?_) a w hF hM))
    exact ⟨rfl, hM.below⟩
end Go.Proofs.YtoeipmepmlikcaaDoor
