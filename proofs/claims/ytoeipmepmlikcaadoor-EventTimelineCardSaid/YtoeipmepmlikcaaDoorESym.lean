/- slices.SortStableFunc walked, second part: rotation and symMerge. Conditions: those of each theorem. -/
import Derived.Test.YtoeipmepmlikcaaDoorESort
namespace Go.Proofs.YtoeipmepmlikcaaDoor
set_option linter.unusedSimpArgs false
set_option linter.unusedVariables false
set_option maxRecDepth 20000
open Go.RowKit Go.Eng
theorem cut4 {α : Type} {X U V Y : List α} {i e : Nat} : X ++ (U ++ V) ++ Y = (X ++ U.take i) ++ (U.drop i ++ V.take e) ++ (V.drop e ++ Y) := by
  have h : (X ++ U.take i) ++ (U.drop i ++ V.take e) ++ (V.drop e ++ Y) = X ++ ((U.take i ++ U.drop i) ++ (V.take e ++ V.drop e)) ++ Y := by simp only [List.append_assoc]
  rw [h, List.take_append_drop, List.take_append_drop]
theorem rotC_any {w0 : World} {K : HL} (hK : FromK K) (cf : Value) (A : Option Addr) (q c : Nat) (X U V Yt : List SCrumb) (a m b : Nat) (ha : X.length = a) (hm : a + U.length = m) (hb : m + V.length = b) (hU : 0 < U.length) (hV : 0 < V.length) (hq : (X ++ (U ++ V) ++ Yt).length = q) (hqm : q ≤ 1000000000) (w : World)
    (hM0 : Mem w0 ([(0, .own 78 3 (.slice A q c) q ((X ++ (U ++ V) ++ Yt).flatMap SCrumb.enc))] ++ K) w) :
    Calls Tryd.prog 269 #[.slice A q c, .int .i64 (a : Int), .int .i64 (m : Int), .int .i64 (b : Int), cf] w fun e w' => ∃ _ : Unit, e = .returned (.tuple #[]) ∧ True ∧ Mem w0 ([(0, .own 78 3 (.slice A q c) q ((X ++ (V ++ U) ++ Yt).flatMap SCrumb.enc))] ++ K) w' := by
  simp only [List.length_append] at hq
  refine enterM_args (args := [.slice A q c, .int .i64 (a : Int), .int .i64 (m : Int), .int .i64 (b : Int), cf]) (F := _) hM0 Tryd.func269 rfl Tryd.ntmps269 rfl rfl ?_
  intro Rb hRb hRn
  refine T_some 0 rfl fun hA => ?_
  refine T_seq ?_
  refine T_region ?_
  refine S_ 12 rfl rfl rfl _ (y_move rfl rfl) ?_
  refine S_ 13 rfl rfl rfl _ (y_move rfl rfl) ?_
  refine S_ 14 rfl rfl rfl _ (y_bin rfl rfl rfl (fun hg => b_subv (((U.length : Nat) : Int)) (by omega) (by omega))) ?_
  refine S_ 10 rfl rfl rfl _ (y_assign rfl rfl) ?_
  refine S_go (fun _ _ h => h) ?_
  refine T_seq ?_
  refine T_region ?_
  refine S_ 15 rfl rfl rfl _ (y_move rfl rfl) ?_
  refine S_ 16 rfl rfl rfl _ (y_move rfl rfl) ?_
  refine S_ 17 rfl rfl rfl _ (y_bin rfl rfl rfl (fun hg => b_subv (((V.length : Nat) : Int)) (by omega) (by omega))) ?_
  refine S_ 11 rfl rfl rfl _ (y_assign rfl rfl) ?_
  refine S_go (fun _ _ h => h) ?_
  refine T_seq ?_
  refine T_block ?_
  refine T_loopK4 (kf := [(10, 11), (18, 49)]) (kl := [(0, 0), (10, 11), (18, 49)]) (fun (x1 u v y1 : List SCrumb) => [(10, true, .int .i64 ((u.length : Nat) : Int)), (11, true, .int .i64 ((v.length : Nat) : Int))]) (fun (x1 u v y1 : List SCrumb) => [(0, .own 78 3 (.slice A q c) q ((x1 ++ (u ++ v) ++ y1).flatMap SCrumb.enc))]) (fun (x1 u v y1 : List SCrumb) => 0 < u.length ∧ 0 < v.length ∧ x1.length + u.length = m ∧ m + v.length ≤ b ∧ x1.length + u.length + v.length + y1.length = q ∧ x1 ++ (v ++ u) ++ y1 = X ++ (V ++ U) ++ Yt) (fun (x1 u v y1 : List SCrumb) => u.length + v.length) X U V Yt (by repeat (first | exact kf_nil | (apply kf_in; focus rfl) | (apply kf_out; focus rfl))) (by repeat (first | exact kl_nil | exact kl_rest (by assumption) rfl | (apply kl_in; focus rfl) | (apply kl_out; focus rfl))) ?_ ?_ ?_ ?_
  · exact ⟨hU, hV, by omega, by omega, by omega, rfl⟩
  · exact ⟨rfl, rfl, trivial⟩
  · exact ⟨rfl, trivial⟩
  rintro x1 u v y1 ⟨hp1, hp2, hp3, hp4, hp5, hp6⟩
  refine T_seq ?_
  refine T_seq ?_
  refine T_region ?_
  refine S_ 18 rfl rfl rfl _ (y_move rfl rfl) ?_
  refine S_ 19 rfl rfl rfl _ (y_move rfl rfl) ?_
  refine S_ 20 rfl rfl rfl _ (y_bin rfl rfl rfl (fun _ => b_neq)) ?_
  refine S_go (fun _ _ h => h) ?_
  refine T_cond rfl (fun h20 => ?_) (fun h20 => ?_)
  · try simp only [decide_eq_true_eq, decide_eq_false_iff_not, Bool.or_eq_true, Bool.or_eq_false_iff, Bool.and_eq_true, Bool.and_eq_false_iff, Bool.not_eq_true', Bool.not_eq_false', Bool.not_eq_true, Bool.not_eq_false, Bool.not_true, Bool.not_false, Int.not_lt, Int.not_le, not_or, not_and, Classical.not_not] at h20
    have h20 : ¬ u.length = v.length := by omega
    refine T_skip_go (fun _ _ h => h) ?_
    refine T_block ?_
    refine T_seq ?_
    refine T_region ?_
    refine S_ 21 rfl rfl rfl _ (y_move rfl rfl) ?_
    refine S_ 22 rfl rfl rfl _ (y_move rfl rfl) ?_
    refine S_ 23 rfl rfl rfl _ (y_bin rfl rfl rfl (fun _ => b_gtr)) ?_
    refine S_go (fun _ _ h => h) ?_
    refine T_cond rfl (fun h23 => ?_) (fun h23 => ?_)
    · try simp only [decide_eq_true_eq, decide_eq_false_iff_not, Bool.or_eq_true, Bool.or_eq_false_iff, Bool.and_eq_true, Bool.and_eq_false_iff, Bool.not_eq_true', Bool.not_eq_false', Bool.not_eq_true, Bool.not_eq_false, Bool.not_true, Bool.not_false, Int.not_lt, Int.not_le, not_or, not_and, Classical.not_not] at h23
      have hl1 : (u.drop v.length).length = u.length - v.length := List.length_drop
      have hl2 : (u.take v.length).length = v.length := by rw [List.length_take]; omega
      have hlu : u.length = v.length + (u.drop v.length).length := by omega
      rw [show x1 ++ (u ++ v) ++ y1 = x1 ++ u.take v.length ++ u.drop v.length ++ v ++ y1 from by rw [List.append_assoc x1 (u.take v.length), List.take_append_drop]; simp]
      refine T_seq ?_
      refine T_region ?_
      refine S_ 24 rfl rfl rfl _ (y_move rfl rfl) ?_
      refine S_ 25 rfl rfl rfl _ (y_move rfl rfl) ?_
      refine S_ 26 rfl rfl rfl _ (y_move rfl rfl) ?_
      refine S_ 27 rfl rfl rfl _ (y_bin rfl rfl rfl (fun hg => b_subv (((x1.length : Nat) : Int)) (by omega) (by omega))) ?_
      refine S_ 28 rfl rfl rfl _ (y_move rfl rfl) ?_
      refine S_ 29 rfl rfl rfl _ (y_move rfl rfl) ?_
      refine S_ 30 rfl rfl rfl _ (y_move rfl rfl) ?_
      refine S_callM 31 [(0, 0)] (X := Unit) rfl rfl rfl rfl rfl rfl rfl cf290 rfl (fun _ => .tuple #[]) (fun _ => True) (fun _ => [(0, .own 78 3 (.slice A q c) q ((x1 ++ v ++ u.drop v.length ++ u.take v.length ++ y1).flatMap SCrumb.enc))]) (fun _ => rfl) (fun _ => rfl) (fun K1 hK1 w hM => swapC_any hK1 cf A q c x1 (u.take v.length) (u.drop v.length) v y1 v.length x1.length m hl2 rfl rfl (by omega) (by simp only [List.length_append]; omega) hqm w hM) ?_
      intro _ _
      refine S_go (fun _ _ h => h) ?_
      refine T_region ?_
      refine S_ 32 rfl rfl rfl _ (y_move rfl rfl) ?_
      refine S_ 33 rfl rfl rfl _ (y_move rfl rfl) ?_
      refine S_ 34 rfl rfl rfl _ (y_bin rfl rfl rfl (fun hg => b_subv ((((u.drop v.length).length : Nat) : Int)) (by omega) (by omega))) ?_
      refine S_ 10 rfl rfl rfl _ (y_assign rfl rfl) ?_
      rw [show x1 ++ v ++ u.drop v.length ++ u.take v.length ++ y1 = (x1 ++ v) ++ (u.drop v.length ++ u.take v.length) ++ y1 from by simp]
      rw [show Value.int IntKind.i64 ((v.length : Nat) : Int) = .int .i64 (((u.take v.length).length : Nat) : Int) from by rw [hl2]]
      refine S_nil (nextK4 (kf := [(10, 11), (18, 49)]) (kl := [(0, 0), (10, 11), (18, 49)]) (x1 ++ v) (u.drop v.length) (u.take v.length) y1 (by repeat (first | exact kf_nil | (apply kf_in; focus rfl) | (apply kf_out; focus rfl))) (by repeat (first | exact kl_nil | exact kl_rest (by assumption) rfl | (apply kl_in; focus rfl) | (apply kl_out; focus rfl))) ?_ ?_ ?_ ?_)
      · omega
      · exact ⟨by omega, by omega, by rw [List.length_append]; omega, by omega, by rw [List.length_append]; omega, by rw [← hp6, List.take_append_drop]; simp⟩
      · exact ⟨rfl, rfl, trivial⟩
      · exact ⟨rfl, trivial⟩
    · try simp only [decide_eq_true_eq, decide_eq_false_iff_not, Bool.or_eq_true, Bool.or_eq_false_iff, Bool.and_eq_true, Bool.and_eq_false_iff, Bool.not_eq_true', Bool.not_eq_false', Bool.not_eq_true, Bool.not_eq_false, Bool.not_true, Bool.not_false, Int.not_lt, Int.not_le, not_or, not_and, Classical.not_not] at h23
      have hl1 : (v.take (v.length - u.length)).length = v.length - u.length := by rw [List.length_take]; omega
      have hl2 : (v.drop (v.length - u.length)).length = u.length := by rw [List.length_drop]; omega
      rw [show x1 ++ (u ++ v) ++ y1 = x1 ++ u ++ v.take (v.length - u.length) ++ v.drop (v.length - u.length) ++ y1 from by rw [List.append_assoc (x1 ++ u), List.take_append_drop]; simp]
      refine T_seq ?_
      refine T_region ?_
      refine S_ 35 rfl rfl rfl _ (y_move rfl rfl) ?_
      refine S_ 36 rfl rfl rfl _ (y_move rfl rfl) ?_
      refine S_ 37 rfl rfl rfl _ (y_move rfl rfl) ?_
      refine S_ 38 rfl rfl rfl _ (y_bin rfl rfl rfl (fun hg => b_subv (((x1.length : Nat) : Int)) (by omega) (by omega))) ?_
      refine S_ 39 rfl rfl rfl _ (y_move rfl rfl) ?_
      refine S_ 40 rfl rfl rfl _ (y_move rfl rfl) ?_
      refine S_ 41 rfl rfl rfl _ (y_bin rfl rfl rfl (fun hg => b_addv (((m + v.length : Nat) : Int)) (by omega) (by omega))) ?_
      refine S_ 42 rfl rfl rfl _ (y_move rfl rfl) ?_
      refine S_ 43 rfl rfl rfl _ (y_bin rfl rfl rfl (fun hg => b_subv (((m + v.length - u.length : Nat) : Int)) (by omega) (by omega))) ?_
      refine S_ 44 rfl rfl rfl _ (y_move rfl rfl) ?_
      refine S_ 45 rfl rfl rfl _ (y_move rfl rfl) ?_
      refine S_callM 46 [(0, 0)] (X := Unit) rfl rfl rfl rfl rfl rfl rfl cf290 rfl (fun _ => .tuple #[]) (fun _ => True) (fun _ => [(0, .own 78 3 (.slice A q c) q ((x1 ++ v.drop (v.length - u.length) ++ v.take (v.length - u.length) ++ u ++ y1).flatMap SCrumb.enc))]) (fun _ => rfl) (fun _ => rfl) (fun K1 hK1 w hM => swapC_any hK1 cf A q c x1 u (v.take (v.length - u.length)) (v.drop (v.length - u.length)) y1 u.length x1.length (m + v.length - u.length) rfl hl2 rfl (by omega) (by simp only [List.length_append]; omega) hqm w hM) ?_
      intro _ _
      refine S_go (fun _ _ h => h) ?_
      refine T_region ?_
      refine S_ 47 rfl rfl rfl _ (y_move rfl rfl) ?_
      refine S_ 48 rfl rfl rfl _ (y_move rfl rfl) ?_
      refine S_ 49 rfl rfl rfl _ (y_bin rfl rfl rfl (fun hg => b_subv ((((v.take (v.length - u.length)).length : Nat) : Int)) (by omega) (by omega))) ?_
      refine S_ 11 rfl rfl rfl _ (y_assign rfl rfl) ?_
      rw [show x1 ++ v.drop (v.length - u.length) ++ v.take (v.length - u.length) ++ u ++ y1 = x1 ++ (v.drop (v.length - u.length) ++ v.take (v.length - u.length)) ++ (u ++ y1) from by simp]
      rw [show Value.int IntKind.i64 ((u.length : Nat) : Int) = .int .i64 (((v.drop (v.length - u.length)).length : Nat) : Int) from by rw [hl2]]
      refine S_nil (nextK4 (kf := [(10, 11), (18, 49)]) (kl := [(0, 0), (10, 11), (18, 49)]) x1 (v.drop (v.length - u.length)) (v.take (v.length - u.length)) (u ++ y1) (by repeat (first | exact kf_nil | (apply kf_in; focus rfl) | (apply kf_out; focus rfl))) (by repeat (first | exact kl_nil | exact kl_rest (by assumption) rfl | (apply kl_in; focus rfl) | (apply kl_out; focus rfl))) ?_ ?_ ?_ ?_)
      · omega
      · exact ⟨by omega, by omega, by omega, by omega, by rw [List.length_append]; omega, by rw [← hp6, List.take_append_drop]; simp⟩
      · exact ⟨rfl, rfl, trivial⟩
      · exact ⟨rfl, trivial⟩
  · try simp only [decide_eq_true_eq, decide_eq_false_iff_not, Bool.or_eq_true, Bool.or_eq_false_iff, Bool.and_eq_true, Bool.and_eq_false_iff, Bool.not_eq_true', Bool.not_eq_false', Bool.not_eq_true, Bool.not_eq_false, Bool.not_true, Bool.not_false, Int.not_lt, Int.not_le, not_or, not_and, Classical.not_not] at h20
    have h20 : u.length = v.length := by omega
    rw [show x1 ++ (u ++ v) ++ y1 = x1 ++ u ++ [] ++ v ++ y1 from by simp]
    refine T_exit_go (fun _ _ h => h) ?_
    refine T_region ?_
    refine S_ 50 rfl rfl rfl _ (y_move rfl rfl) ?_
    refine S_ 51 rfl rfl rfl _ (y_move rfl rfl) ?_
    refine S_ 52 rfl rfl rfl _ (y_move rfl rfl) ?_
    refine S_ 53 rfl rfl rfl _ (y_bin rfl rfl rfl (fun hg => b_subv (((x1.length : Nat) : Int)) (by omega) (by omega))) ?_
    refine S_ 54 rfl rfl rfl _ (y_move rfl rfl) ?_
    refine S_ 55 rfl rfl rfl _ (y_move rfl rfl) ?_
    refine S_ 56 rfl rfl rfl _ (y_move rfl rfl) ?_
    refine S_callM 57 [(0, 0)] (X := Unit) rfl rfl rfl rfl rfl rfl rfl cf290 rfl (fun _ => .tuple #[]) (fun _ => True) (fun _ => [(0, .own 78 3 (.slice A q c) q ((x1 ++ v ++ ([] : List SCrumb) ++ u ++ y1).flatMap SCrumb.enc))]) (fun _ => rfl) (fun _ => rfl) (fun K1 hK1 w hM => swapC_any hK1 cf A q c x1 u [] v y1 u.length x1.length m rfl h20.symm rfl (by simp only [List.length_nil]; omega) (by simp only [List.length_append, List.length_nil]; omega) hqm w hM) ?_
    intro _ _
    refine S_nil (fun a w hF hM => hRn a w (post0 rfl (fun w hM => ?_) a w hF hM))
    exact ⟨(), rfl, trivial, hM.keep (ks := [(0, 999)]) (by repeat (first | exact kl_rest (by assumption) rfl | (apply kl_in; focus rfl))) _ ⟨by rw [← hp6, show x1 ++ (v ++ u) ++ y1 = x1 ++ v ++ [] ++ u ++ y1 from by simp]; rfl, trivial⟩⟩
set_option maxHeartbeats 4000000 in
theorem symC_any {R : SCrumb → SCrumb → Prop} (tr : ∀ x y z, R x y → R y z → R x z) {cf : SCrumb → SCrumb → Int} (g : FuncId) (cap : Array Value) (hcf : ∀ args w, (callFunc g args).run Tryd.prog w = .ok (.enter g args) w)
    (hcmp : ∀ x y w, Calls Tryd.prog g (#[.agg (SCrumb.enc x).toArray, .agg (SCrumb.enc y).toArray] ++ cap) w fun e w' => e = .returned (.int .i64 (cf x y)) ∧ Below w.heap.size w w')
    {w0 : World} : ∀ (N : Nat) {K : HL} (_ : FromK K) (A : Option Addr) (q c : Nat) (X U V Yt : List SCrumb) (a m b : Nat) (_ : X.length = a) (_ : a + U.length = m) (_ : m + V.length = b) (_ : U.length + V.length ≤ N) (_ : 0 < U.length) (_ : 0 < V.length) (_ : (X ++ (U ++ V) ++ Yt).length = q) (_ : q ≤ 1000000000)
      (_ : U.Pairwise R) (_ : V.Pairwise R) (_ : ∀ x ∈ U, ∀ y ∈ V, Cmp R cf x y) (w : World) (_ : Mem w0 ([(0, .own 78 3 (.slice A q c) q ((X ++ (U ++ V) ++ Yt).flatMap SCrumb.enc))] ++ K) w),
    Calls Tryd.prog 232 #[.slice A q c, .int .i64 (a : Int), .int .i64 (m : Int), .int .i64 (b : Int), .func (.func g) #[] cap] w fun e w' => ∃ W : List SCrumb, e = .returned (.tuple #[]) ∧ (W.Perm (U ++ V) ∧ W.Pairwise R) ∧ Mem w0 ([(0, .own 78 3 (.slice A q c) q ((X ++ W ++ Yt).flatMap SCrumb.enc))] ++ K) w' := by
  intro N
  induction N with
  | zero => intro K hK A q c X U V Yt a m b ha hm hb hN hU0; omega
  | succ N ih =>
  intro K hK A q c X U V Yt a m b ha hm hb hN hU0 hV0 hq hqm hU hV hC w hM0
  simp only [List.length_append] at hq
  refine enterM_args (args := [.slice A q c, .int .i64 (a : Int), .int .i64 (m : Int), .int .i64 (b : Int), .func (.func g) #[] cap]) (F := _) hM0 Tryd.func232 rfl Tryd.ntmps232 rfl rfl ?_
  intro Rb hRb hRn
  refine T_some 0 rfl fun hA => ?_
  refine T_seq ?_
  refine T_seq ?_
  refine T_region ?_
  refine S_ 25 rfl rfl rfl _ (y_move rfl rfl) ?_
  refine S_ 26 rfl rfl rfl _ (y_move rfl rfl) ?_
  refine S_ 27 rfl rfl rfl _ (y_bin rfl rfl rfl (fun hg => b_subv (((U.length : Nat) : Int)) (by omega) (by omega))) ?_
  refine S_ 28 rfl rfl rfl _ (y_bin rfl rfl rfl (fun _ => b_eql)) ?_
  refine S_go (fun _ _ h => h) ?_
  refine T_cond rfl (fun h28 => ?_) (fun h28 => ?_)
  · try simp only [decide_eq_true_eq, decide_eq_false_iff_not, Bool.or_eq_true, Bool.or_eq_false_iff, Bool.and_eq_true, Bool.and_eq_false_iff, Bool.not_eq_true', Bool.not_eq_false', Bool.not_eq_true, Bool.not_eq_false, Bool.not_true, Bool.not_false, Int.not_lt, Int.not_le, not_or, not_and, Classical.not_not] at h28
    have h28 : U.length = 1 := by omega
    have hm1 : m = a + 1 := by omega
    obtain ⟨u, rfl⟩ := List.length_eq_one_iff.1 h28
    have hCu := hC u List.mem_cons_self
    rw [show X ++ ([u] ++ V) ++ Yt = insL X V u 0 Yt from by simp [insL]]
    refine T_seq ?_
    refine T_region ?_
    refine S_ 29 rfl rfl rfl _ (y_as (v' := .int .i64 ((a + 1 + 0 : Nat) : Int)) (by congr 1; omega) (y_move rfl rfl)) ?_
    refine S_ 10 rfl rfl rfl _ (y_assign rfl rfl) ?_
    refine S_go (fun _ _ h => h) ?_
    refine T_seq ?_
    refine T_region ?_
    refine S_ 30 rfl rfl rfl _ (y_as (v' := .int .i64 ((a + 1 + V.length : Nat) : Int)) (by congr 1; omega) (y_move rfl rfl)) ?_
    refine S_ 11 rfl rfl rfl _ (y_assign rfl rfl) ?_
    refine S_go (fun _ _ h => h) ?_
    refine T_seq ?_
    refine T_block ?_
    refine T_loopK2 (kf := [(10, 12), (31, 53)]) (kl := [(10, 12), (31, 53)]) (fun (lo hi : Nat) => [(10, true, .int .i64 ((a + 1 + lo : Nat) : Int)), (11, true, .int .i64 ((a + 1 + hi : Nat) : Int))]) (fun (lo hi : Nat) => []) (fun (lo hi : Nat) => lo ≤ hi ∧ hi ≤ V.length ∧ (∀ y, 0 < lo → V[lo - 1]? = some y → cf y u < 0) ∧ (∀ y, V[hi]? = some y → ¬ cf y u < 0)) (fun (lo hi : Nat) => hi - lo) 0 V.length (by repeat (first | exact kf_nil | (apply kf_in; focus rfl) | (apply kf_out; focus rfl))) (by repeat (first | exact kl_nil | exact kl_rest (by assumption) rfl | (apply kl_in; focus rfl) | (apply kl_out; focus rfl))) ?_ ?_ ?_ ?_
    · exact ⟨by omega, by omega, fun _ h => absurd h (by omega), fun y hy => absurd (List.getElem?_eq_some_iff.1 hy).1 (by omega)⟩
    · exact ⟨rfl, rfl, trivial⟩
    · exact trivial
    rintro lo hi ⟨hr1, hr2, hr3, hr4⟩
    refine T_seq ?_
    refine T_seq ?_
    refine T_region ?_
    refine S_ 31 rfl rfl rfl _ (y_move rfl rfl) ?_
    refine S_ 32 rfl rfl rfl _ (y_move rfl rfl) ?_
    refine S_ 33 rfl rfl rfl _ (y_bin rfl rfl rfl (fun _ => b_lss)) ?_
    refine S_go (fun _ _ h => h) ?_
    refine T_cond rfl (fun h33 => ?_) (fun h33 => ?_)
    · try simp only [decide_eq_true_eq, decide_eq_false_iff_not, Bool.or_eq_true, Bool.or_eq_false_iff, Bool.and_eq_true, Bool.and_eq_false_iff, Bool.not_eq_true', Bool.not_eq_false', Bool.not_eq_true, Bool.not_eq_false, Bool.not_true, Bool.not_false, Int.not_lt, Int.not_le, not_or, not_and, Classical.not_not] at h33
      obtain ⟨md, hmd1, hmd2, hmd3⟩ : ∃ md, (a + 1 + lo + (a + 1 + hi)) / 2 = a + 1 + md ∧ lo ≤ md ∧ md < hi := ⟨(a + 1 + lo + (a + 1 + hi)) / 2 - (a + 1), by omega, by omega, by omega⟩
      obtain ⟨y, hy⟩ := some_at (l := V) (i := md) (by omega)
      refine T_skip_go (fun _ _ h => h) ?_
      refine T_block ?_
      refine T_seq ?_
      refine T_region ?_
      refine S_ 34 rfl rfl rfl _ (y_move rfl rfl) ?_
      refine S_ 35 rfl rfl rfl _ (y_move rfl rfl) ?_
      refine S_ 36 rfl rfl rfl _ (y_bin rfl rfl rfl (fun hg => b_addv (((a + 1 + lo + (a + 1 + hi) : Nat) : Int)) (by omega) (by omega))) ?_
      refine S_ 37 rfl rfl rfl _ (y_as (v' := .int .u64 ((a + 1 + lo + (a + 1 + hi) : Nat) : Int)) (by congr 1; exact wrap64_in (by omega)) (y_conv rfl rfl Tryd.underlying3 Tryd.underlying195)) ?_
      refine S_ 38 rfl rfl rfl _ (y_bin rfl rfl rfl (fun hg => b_shrv ((((a + 1 + lo + (a + 1 + hi)) / 2 : Nat) : Int)) (by decide) (by decide) (by first | (simp; done) | (simp; omega)))) ?_
      refine S_ 39 rfl rfl rfl _ (y_as (v' := .int .i64 ((a + 1 + md : Nat) : Int)) (by congr 1; omega) (y_conv64 rfl rfl Tryd.underlying195 Tryd.underlying3 (fun _ => by omega))) ?_
      refine S_ 12 rfl rfl rfl _ (y_assign rfl rfl) ?_
      refine S_go (fun _ _ h => h) ?_
      refine T_seq ?_
      refine T_draws (by kernel_rfl) (by kernel_rfl) ?_
      refine D_ 40 rfl rfl rfl _ (y_move rfl rfl) ?_
      refine D_ 41 rfl rfl rfl _ (y_move rfl rfl) ?_
      refine D_ 42 rfl rfl rfl _ (y_move rfl rfl) ?_
      refine D_ 43 rfl rfl rfl _ (y_indexAddr rfl rfl rfl Tryd.underlying50 sz78 (fun hg => hA (by omega)) (fun _ => by omega)) ?_
      refine D_ 44 rfl rfl rfl _ (y_loadO 0 rfl rfl rfl (by first | (rw [insL_len]; simp only [List.length_cons, List.length_nil] at *; omega) | (simp only [List.length_append]; omega)) (fun _ => rfl) (fun _ => insL_hi (Nat.zero_le _) hy (by omega)) Tryd.underlying78 rfl sz78) ?_
      refine D_ 45 rfl rfl rfl _ (y_move rfl rfl) ?_
      refine D_ 46 rfl rfl rfl _ (y_move rfl rfl) ?_
      refine D_ 47 rfl rfl rfl _ (y_indexAddr rfl rfl rfl Tryd.underlying50 sz78 (fun hg => hA (by omega)) (fun _ => by omega)) ?_
      refine D_ 48 rfl rfl rfl _ (y_loadO 0 rfl rfl rfl (by first | (rw [insL_len]; simp only [List.length_cons, List.length_nil] at *; omega) | (simp only [List.length_append]; omega)) (fun _ => rfl) (fun _ => insL_at (Nat.zero_le _) (by omega)) Tryd.underlying78 rfl sz78) ?_
      refine D_ 49 rfl rfl rfl _ (y_call rfl rfl rfl hcf (fun _ w _ => hcmp y u w)) ?_
      refine D_ 50 rfl rfl rfl _ (y_bin rfl rfl rfl (fun _ => b_lss)) ?_
      refine D_go (fun _ _ h => h) ?_
      refine T_cond rfl (fun h50 => ?_) (fun h50 => ?_)
      · skip
        have h50 : cf y u < 0 := by simpa using h50
        refine T_region ?_
        refine S_ 51 rfl rfl rfl _ (y_move rfl rfl) ?_
        refine S_ 52 rfl rfl rfl _ (y_bin rfl rfl rfl (fun hg => b_addv (((a + 1 + (md + 1) : Nat) : Int)) (by omega) (by omega))) ?_
        refine S_ 10 rfl rfl rfl _ (y_assign rfl rfl) ?_
        refine S_nil (nextK2 (kf := [(10, 12), (31, 53)]) (kl := [(10, 12), (31, 53)]) (md + 1) hi (by repeat (first | exact kf_nil | (apply kf_in; focus rfl) | (apply kf_out; focus rfl))) (by repeat (first | exact kl_nil | exact kl_rest (by assumption) rfl | (apply kl_in; focus rfl) | (apply kl_out; focus rfl))) ?_ ?_ ?_ ?_)
        · omega
        · exact ⟨by omega, by omega, fun z _ hz => by rw [Nat.add_sub_cancel, hy] at hz; obtain rfl := Option.some.inj hz; exact h50, hr4⟩
        · exact ⟨rfl, rfl, trivial⟩
        · exact trivial
      · skip
        have h50 : ¬ cf y u < 0 := by simpa using h50
        refine T_region ?_
        refine S_ 53 rfl rfl rfl _ (y_move rfl rfl) ?_
        refine S_ 11 rfl rfl rfl _ (y_assign rfl rfl) ?_
        refine S_nil (nextK2 (kf := [(10, 12), (31, 53)]) (kl := [(10, 12), (31, 53)]) lo md (by repeat (first | exact kf_nil | (apply kf_in; focus rfl) | (apply kf_out; focus rfl))) (by repeat (first | exact kl_nil | exact kl_rest (by assumption) rfl | (apply kl_in; focus rfl) | (apply kl_out; focus rfl))) ?_ ?_ ?_ ?_)
        · omega
        · exact ⟨by omega, by omega, hr3, fun z hz => by rw [hy] at hz; obtain rfl := Option.some.inj hz; exact h50⟩
        · exact ⟨rfl, rfl, trivial⟩
        · exact trivial
    · try simp only [decide_eq_true_eq, decide_eq_false_iff_not, Bool.or_eq_true, Bool.or_eq_false_iff, Bool.and_eq_true, Bool.and_eq_false_iff, Bool.not_eq_true', Bool.not_eq_false', Bool.not_eq_true, Bool.not_eq_false, Bool.not_true, Bool.not_false, Int.not_lt, Int.not_le, not_or, not_and, Classical.not_not] at h33
      have hlh : hi = lo := by omega
      refine T_exit_go (fun _ _ h => h) ?_
      refine T_seq ?_
      refine T_seq ?_
      refine T_region ?_
      refine S_ 54 rfl rfl rfl _ (y_as (v' := .int .i64 ((a + 0 : Nat) : Int)) (by exact rfl) (y_move rfl rfl)) ?_
      refine S_ 13 rfl rfl rfl _ (y_assign rfl rfl) ?_
      refine S_go (fun _ _ h => h) ?_
      refine T_block ?_
      refine T_loopK1 (kf := [(13, 13), (55, 76)]) (kl := [(0, 0), (13, 13), (55, 76)]) (fun (t : Nat) => [(13, true, .int .i64 ((a + t : Nat) : Int))]) (fun (t : Nat) => [(0, .own 78 3 (.slice A q c) q ((insL X V u t Yt).flatMap SCrumb.enc))]) (fun (t : Nat) => t ≤ lo) (fun (t : Nat) => lo - t) 0 (by repeat (first | exact kf_nil | (apply kf_in; focus rfl) | (apply kf_out; focus rfl))) (by repeat (first | exact kl_nil | exact kl_rest (by assumption) rfl | (apply kl_in; focus rfl) | (apply kl_out; focus rfl))) ?_ ?_ ?_ ?_
      · omega
      · exact ⟨rfl, trivial⟩
      · exact ⟨rfl, trivial⟩
      rintro t ht1
      refine T_seq ?_
      refine T_seq ?_
      refine T_region ?_
      refine S_ 55 rfl rfl rfl _ (y_move rfl rfl) ?_
      refine S_ 56 rfl rfl rfl _ (y_move rfl rfl) ?_
      refine S_ 57 rfl rfl rfl _ (y_bin rfl rfl rfl (fun hg => b_subv (((a + lo : Nat) : Int)) (by omega) (by omega))) ?_
      refine S_ 58 rfl rfl rfl _ (y_bin rfl rfl rfl (fun _ => b_lss)) ?_
      refine S_go (fun _ _ h => h) ?_
      refine T_cond rfl (fun h58 => ?_) (fun h58 => ?_)
      · try simp only [decide_eq_true_eq, decide_eq_false_iff_not, Bool.or_eq_true, Bool.or_eq_false_iff, Bool.and_eq_true, Bool.and_eq_false_iff, Bool.not_eq_true', Bool.not_eq_false', Bool.not_eq_true, Bool.not_eq_false, Bool.not_true, Bool.not_false, Int.not_lt, Int.not_le, not_or, not_and, Classical.not_not] at h58
        obtain ⟨y, hy⟩ := some_at (l := V) (i := t) (by omega)
        refine T_skip_go (fun _ _ h => h) ?_
        refine T_seq ?_
        refine T_block ?_
        refine T_perm [0, 1, 2, 3, 4, 5, 6, 7, 8, 9, 10, 11, 12, 13, 14, 15, 16, 17] [true, true, true, true, true, true, true, true, true, true, true, true, true, true, true, false, true, false] [0, 0, 0, 0, 8, 0, 0, 64, 224, 480, 0, 0, 3072, 7168, 16355, 32739, 65535, 131071] [(9, [0]), (13, [0])] (by kernel_rfl) (by kernel_rfl) (by kernel_rfl) rfl (by kernel_rfl) ?_
        refine Rf_ 0 61 rfl rfl rfl rfl rfl _ trivial (Y.z (y_move rfl rfl) rfl) ?_
        refine Rf_ 1 62 rfl rfl rfl rfl rfl _ trivial (Y.z (y_move rfl rfl) rfl) ?_
        refine Rf_ 2 63 rfl rfl rfl rfl rfl _ trivial (Y.z (y_move rfl rfl) rfl) ?_
        refine Rf_ 3 64 rfl rfl rfl rfl rfl _ trivial (Y.z (y_move rfl rfl) rfl) ?_
        refine Rf_ 4 65 rfl rfl rfl rfl rfl _ trivial (Y.z (y_bin rfl rfl rfl (fun hg => b_addv (((a + t + 1 : Nat) : Int)) (by omega) (by omega))) rfl) ?_
        refine Rf_ 5 66 rfl rfl rfl rfl rfl _ trivial (Y.z (y_move rfl rfl) rfl) ?_
        refine Rf_ 6 67 rfl rfl rfl rfl rfl _ trivial (Y.z (y_move rfl rfl) rfl) ?_
        refine Rf_ 7 68 rfl rfl rfl rfl rfl _ trivial (Y.z (y_bin rfl rfl rfl (fun hg => b_addv (((a + t + 1 : Nat) : Int)) (by omega) (by omega))) rfl) ?_
        refine Rf_ 8 69 rfl rfl rfl rfl rfl _ trivial (Y.z (y_indexAddr rfl rfl rfl Tryd.underlying50 sz78 (fun hg => hA (by omega)) (fun _ => by omega)) rfl) ?_
        refine Rf_ 9 70 rfl rfl rfl rfl rfl _ ⟨rfl, trivial⟩ (Y.z (y_loadO 0 rfl rfl rfl (by first | (rw [insL_len]; simp only [List.length_cons, List.length_nil] at *; omega) | (simp only [List.length_append]; omega)) (fun _ => rfl) (fun _ => insL_next hy (by omega)) Tryd.underlying78 rfl sz78) rfl) ?_
        refine Rf_ 10 71 rfl rfl rfl rfl rfl _ trivial (Y.z (y_move rfl rfl) rfl) ?_
        refine Rf_ 11 72 rfl rfl rfl rfl rfl _ trivial (Y.z (y_move rfl rfl) rfl) ?_
        refine Rf_ 12 73 rfl rfl rfl rfl rfl _ trivial (Y.z (y_indexAddr rfl rfl rfl Tryd.underlying50 sz78 (fun hg => hA (by omega)) (fun _ => by omega)) rfl) ?_
        refine Rf_ 13 74 rfl rfl rfl rfl rfl _ ⟨rfl, trivial⟩ (Y.z (y_loadO 0 rfl rfl rfl (by first | (rw [insL_len]; simp only [List.length_cons, List.length_nil] at *; omega) | (simp only [List.length_append]; omega)) (fun _ => rfl) (fun _ => insL_at (by omega) (by omega)) Tryd.underlying78 rfl sz78) rfl) ?_
        refine Rf_ 14 75 rfl rfl rfl rfl rfl _ trivial (Y.z (y_indexAddr rfl rfl rfl Tryd.underlying50 sz78 (fun hg => hA (by omega)) (fun _ => by omega)) rfl) ?_
        refine R_chain 15 rfl rfl ?_
        refine S_storeEl 0 rfl rfl rfl rfl rfl rfl sz78 rfl rfl rfl ?_ (xs' := ((insL X V u t Yt).set (a + t) y).flatMap SCrumb.enc) ?_ ?_
        · omega
        · exact flat_setE (enc := SCrumb.enc) (size := 3) (fun _ => rfl) (by rw [insL_len]; omega)
        refine R_next ⟨.inl rfl, .inl rfl, trivial⟩ ?_
        refine Rf_ 16 76 rfl rfl rfl rfl rfl _ trivial (Y.z (y_indexAddr rfl rfl rfl Tryd.underlying50 sz78 (fun hg => hA (by omega)) (fun _ => by omega)) rfl) ?_
        refine R_chain 17 rfl rfl ?_
        refine S_storeEl 0 rfl rfl rfl rfl rfl rfl sz78 rfl rfl rfl ?_ (xs' := (insL X V u (t + 1) Yt).flatMap SCrumb.enc) ?_ ?_
        · omega
        · rw [flat_setE (enc := SCrumb.enc) (size := 3) (fun _ => rfl) (by rw [List.length_set, insL_len]; omega), insL_up hy (by omega) (by omega)]
        refine R_next ⟨.inl rfl, .inl rfl, trivial⟩ ?_
        refine R_go (fun _ _ h => h) ?_
        refine T_region ?_
        refine S_ 59 rfl rfl rfl _ (y_move rfl rfl) ?_
        refine S_ 60 rfl rfl rfl _ (y_bin rfl rfl rfl (fun hg => b_addv (((a + (t + 1) : Nat) : Int)) (by omega) (by omega))) ?_
        refine S_ 13 rfl rfl rfl _ (y_assign rfl rfl) ?_
        refine S_nil (nextK1 (kf := [(13, 13), (55, 76)]) (kl := [(0, 0), (13, 13), (55, 76)]) (t + 1) (by repeat (first | exact kf_nil | (apply kf_in; focus rfl) | (apply kf_out; focus rfl))) (by repeat (first | exact kl_nil | exact kl_rest (by assumption) rfl | (apply kl_in; focus rfl) | (apply kl_out; focus rfl))) ?_ ?_ ?_ ?_)
        · omega
        · omega
        · exact ⟨rfl, trivial⟩
        · exact ⟨rfl, trivial⟩
      · try simp only [decide_eq_true_eq, decide_eq_false_iff_not, Bool.or_eq_true, Bool.or_eq_false_iff, Bool.and_eq_true, Bool.and_eq_false_iff, Bool.not_eq_true', Bool.not_eq_false', Bool.not_eq_true, Bool.not_eq_false, Bool.not_true, Bool.not_false, Int.not_lt, Int.not_le, not_or, not_and, Classical.not_not] at h58
        have htl : t = lo := by omega
        refine T_exit_go (fun _ _ h => h) ?_
        refine T_ret (fun a w hF hM => hRb a w (post0 rfl (fun w hM => ?_) a w hF hM))
        exact ⟨V.take t ++ u :: V.drop t, rfl, ⟨ins_perm, ins_sorted tr hV (by omega) (fun y h0 hy => (hCu y (mem_at hy)).1 (hr3 y (by omega) (by rw [← htl]; exact hy))) (fun y hy => (hCu y (mem_at hy)).2 (hr4 y (by rw [hlh, ← htl]; exact hy)))⟩, hM.keep (ks := [(0, 999)]) (by repeat (first | exact kl_rest (by assumption) rfl | (apply kl_in; focus rfl))) _ ⟨rfl, trivial⟩⟩
  · try simp only [decide_eq_true_eq, decide_eq_false_iff_not, Bool.or_eq_true, Bool.or_eq_false_iff, Bool.and_eq_true, Bool.and_eq_false_iff, Bool.not_eq_true', Bool.not_eq_false', Bool.not_eq_true, Bool.not_eq_false, Bool.not_true, Bool.not_false, Int.not_lt, Int.not_le, not_or, not_and, Classical.not_not] at h28
    have h28 : 2 ≤ U.length := by omega
    refine T_skip_go (fun _ _ h => h) ?_
    refine T_seq ?_
    refine T_seq ?_
    refine T_region ?_
    refine S_ 77 rfl rfl rfl _ (y_move rfl rfl) ?_
    refine S_ 78 rfl rfl rfl _ (y_move rfl rfl) ?_
    refine S_ 79 rfl rfl rfl _ (y_bin rfl rfl rfl (fun hg => b_subv (((V.length : Nat) : Int)) (by omega) (by omega))) ?_
    refine S_ 80 rfl rfl rfl _ (y_bin rfl rfl rfl (fun _ => b_eql)) ?_
    refine S_go (fun _ _ h => h) ?_
    refine T_cond rfl (fun h80 => ?_) (fun h80 => ?_)
    · try simp only [decide_eq_true_eq, decide_eq_false_iff_not, Bool.or_eq_true, Bool.or_eq_false_iff, Bool.and_eq_true, Bool.and_eq_false_iff, Bool.not_eq_true', Bool.not_eq_false', Bool.not_eq_true, Bool.not_eq_false, Bool.not_true, Bool.not_false, Int.not_lt, Int.not_le, not_or, not_and, Classical.not_not] at h80
      have h80 : V.length = 1 := by omega
      obtain ⟨v, rfl⟩ := List.length_eq_one_iff.1 h80
      have hCv := fun x hx => hC x hx v List.mem_cons_self
      rw [show X ++ (U ++ [v]) ++ Yt = insL X U v U.length Yt from by simp [insL]]
      refine T_seq ?_
      refine T_region ?_
      refine S_ 81 rfl rfl rfl _ (y_as (v' := .int .i64 ((a + 0 : Nat) : Int)) (by exact rfl) (y_move rfl rfl)) ?_
      refine S_ 14 rfl rfl rfl _ (y_assign rfl rfl) ?_
      refine S_go (fun _ _ h => h) ?_
      refine T_seq ?_
      refine T_region ?_
      refine S_ 82 rfl rfl rfl _ (y_as (v' := .int .i64 ((a + U.length : Nat) : Int)) (by congr 1; omega) (y_move rfl rfl)) ?_
      refine S_ 15 rfl rfl rfl _ (y_assign rfl rfl) ?_
      refine S_go (fun _ _ h => h) ?_
      refine T_seq ?_
      refine T_block ?_
      refine T_loopK2 (kf := [(14, 16), (83, 106)]) (kl := [(14, 16), (83, 106)]) (fun (lo hi : Nat) => [(14, true, .int .i64 ((a + lo : Nat) : Int)), (15, true, .int .i64 ((a + hi : Nat) : Int))]) (fun (lo hi : Nat) => []) (fun (lo hi : Nat) => lo ≤ hi ∧ hi ≤ U.length ∧ (∀ y, 0 < lo → U[lo - 1]? = some y → ¬ cf v y < 0) ∧ (∀ y, U[hi]? = some y → cf v y < 0)) (fun (lo hi : Nat) => hi - lo) 0 U.length (by repeat (first | exact kf_nil | (apply kf_in; focus rfl) | (apply kf_out; focus rfl))) (by repeat (first | exact kl_nil | exact kl_rest (by assumption) rfl | (apply kl_in; focus rfl) | (apply kl_out; focus rfl))) ?_ ?_ ?_ ?_
      · exact ⟨by omega, by omega, fun _ h => absurd h (by omega), fun y hy => absurd (List.getElem?_eq_some_iff.1 hy).1 (by omega)⟩
      · exact ⟨rfl, rfl, trivial⟩
      · exact trivial
      rintro lo hi ⟨hr1, hr2, hr3, hr4⟩
      refine T_seq ?_
      refine T_seq ?_
      refine T_region ?_
      refine S_ 83 rfl rfl rfl _ (y_move rfl rfl) ?_
      refine S_ 84 rfl rfl rfl _ (y_move rfl rfl) ?_
      refine S_ 85 rfl rfl rfl _ (y_bin rfl rfl rfl (fun _ => b_lss)) ?_
      refine S_go (fun _ _ h => h) ?_
      refine T_cond rfl (fun h85 => ?_) (fun h85 => ?_)
      · try simp only [decide_eq_true_eq, decide_eq_false_iff_not, Bool.or_eq_true, Bool.or_eq_false_iff, Bool.and_eq_true, Bool.and_eq_false_iff, Bool.not_eq_true', Bool.not_eq_false', Bool.not_eq_true, Bool.not_eq_false, Bool.not_true, Bool.not_false, Int.not_lt, Int.not_le, not_or, not_and, Classical.not_not] at h85
        obtain ⟨md, hmd1, hmd2, hmd3⟩ : ∃ md, (a + lo + (a + hi)) / 2 = a + md ∧ lo ≤ md ∧ md < hi := ⟨(a + lo + (a + hi)) / 2 - a, by omega, by omega, by omega⟩
        obtain ⟨y, hy⟩ := some_at (l := U) (i := md) (by omega)
        refine T_skip_go (fun _ _ h => h) ?_
        refine T_block ?_
        refine T_seq ?_
        refine T_region ?_
        refine S_ 86 rfl rfl rfl _ (y_move rfl rfl) ?_
        refine S_ 87 rfl rfl rfl _ (y_move rfl rfl) ?_
        refine S_ 88 rfl rfl rfl _ (y_bin rfl rfl rfl (fun hg => b_addv (((a + lo + (a + hi) : Nat) : Int)) (by omega) (by omega))) ?_
        refine S_ 89 rfl rfl rfl _ (y_as (v' := .int .u64 ((a + lo + (a + hi) : Nat) : Int)) (by congr 1; exact wrap64_in (by omega)) (y_conv rfl rfl Tryd.underlying3 Tryd.underlying195)) ?_
        refine S_ 90 rfl rfl rfl _ (y_bin rfl rfl rfl (fun hg => b_shrv ((((a + lo + (a + hi)) / 2 : Nat) : Int)) (by decide) (by decide) (by first | (simp; done) | (simp; omega)))) ?_
        refine S_ 91 rfl rfl rfl _ (y_as (v' := .int .i64 ((a + md : Nat) : Int)) (by congr 1; omega) (y_conv64 rfl rfl Tryd.underlying195 Tryd.underlying3 (fun _ => by omega))) ?_
        refine S_ 16 rfl rfl rfl _ (y_assign rfl rfl) ?_
        refine S_go (fun _ _ h => h) ?_
        refine T_seq ?_
        refine T_draws (by kernel_rfl) (by kernel_rfl) ?_
        refine D_ 92 rfl rfl rfl _ (y_move rfl rfl) ?_
        refine D_ 93 rfl rfl rfl _ (y_move rfl rfl) ?_
        refine D_ 94 rfl rfl rfl _ (y_move rfl rfl) ?_
        refine D_ 95 rfl rfl rfl _ (y_indexAddr rfl rfl rfl Tryd.underlying50 sz78 (fun hg => hA (by omega)) (fun _ => by omega)) ?_
        refine D_ 96 rfl rfl rfl _ (y_loadO 0 rfl rfl rfl (by first | (rw [insL_len]; simp only [List.length_cons, List.length_nil] at *; omega) | (simp only [List.length_append]; omega)) (fun _ => rfl) (fun _ => insL_at (Nat.le_refl _) (by omega)) Tryd.underlying78 rfl sz78) ?_
        refine D_ 97 rfl rfl rfl _ (y_move rfl rfl) ?_
        refine D_ 98 rfl rfl rfl _ (y_move rfl rfl) ?_
        refine D_ 99 rfl rfl rfl _ (y_indexAddr rfl rfl rfl Tryd.underlying50 sz78 (fun hg => hA (by omega)) (fun _ => by omega)) ?_
        refine D_ 100 rfl rfl rfl _ (y_loadO 0 rfl rfl rfl (by first | (rw [insL_len]; simp only [List.length_cons, List.length_nil] at *; omega) | (simp only [List.length_append]; omega)) (fun _ => rfl) (fun _ => insL_lo (by omega) hy (by omega)) Tryd.underlying78 rfl sz78) ?_
        refine D_ 101 rfl rfl rfl _ (y_call rfl rfl rfl hcf (fun _ w _ => hcmp v y w)) ?_
        refine D_ 102 rfl rfl rfl _ (y_bin rfl rfl rfl (fun _ => b_lss)) ?_
        refine D_ 103 rfl rfl rfl _ (y_not rfl rfl) ?_
        refine D_go (fun _ _ h => h) ?_
        refine T_cond rfl (fun h103 => ?_) (fun h103 => ?_)
        · skip
          have h103 : ¬ cf v y < 0 := by simpa using h103
          refine T_region ?_
          refine S_ 104 rfl rfl rfl _ (y_move rfl rfl) ?_
          refine S_ 105 rfl rfl rfl _ (y_bin rfl rfl rfl (fun hg => b_addv (((a + (md + 1) : Nat) : Int)) (by omega) (by omega))) ?_
          refine S_ 14 rfl rfl rfl _ (y_assign rfl rfl) ?_
          refine S_nil (nextK2 (kf := [(14, 16), (83, 106)]) (kl := [(14, 16), (83, 106)]) (md + 1) hi (by repeat (first | exact kf_nil | (apply kf_in; focus rfl) | (apply kf_out; focus rfl))) (by repeat (first | exact kl_nil | exact kl_rest (by assumption) rfl | (apply kl_in; focus rfl) | (apply kl_out; focus rfl))) ?_ ?_ ?_ ?_)
          · omega
          · exact ⟨by omega, by omega, fun z _ hz => by rw [Nat.add_sub_cancel, hy] at hz; obtain rfl := Option.some.inj hz; exact h103, hr4⟩
          · exact ⟨rfl, rfl, trivial⟩
          · exact trivial
        · skip
          have h103 : cf v y < 0 := by simpa using h103
          refine T_region ?_
          refine S_ 106 rfl rfl rfl _ (y_move rfl rfl) ?_
          refine S_ 15 rfl rfl rfl _ (y_assign rfl rfl) ?_
          refine S_nil (nextK2 (kf := [(14, 16), (83, 106)]) (kl := [(14, 16), (83, 106)]) lo md (by repeat (first | exact kf_nil | (apply kf_in; focus rfl) | (apply kf_out; focus rfl))) (by repeat (first | exact kl_nil | exact kl_rest (by assumption) rfl | (apply kl_in; focus rfl) | (apply kl_out; focus rfl))) ?_ ?_ ?_ ?_)
          · omega
          · exact ⟨by omega, by omega, hr3, fun z hz => by rw [hy] at hz; obtain rfl := Option.some.inj hz; exact h103⟩
          · exact ⟨rfl, rfl, trivial⟩
          · exact trivial
      · try simp only [decide_eq_true_eq, decide_eq_false_iff_not, Bool.or_eq_true, Bool.or_eq_false_iff, Bool.and_eq_true, Bool.and_eq_false_iff, Bool.not_eq_true', Bool.not_eq_false', Bool.not_eq_true, Bool.not_eq_false, Bool.not_true, Bool.not_false, Int.not_lt, Int.not_le, not_or, not_and, Classical.not_not] at h85
        have hlh : hi = lo := by omega
        refine T_exit_go (fun _ _ h => h) ?_
        refine T_seq ?_
        refine T_seq ?_
        refine T_region ?_
        refine S_ 107 rfl rfl rfl _ (y_as (v' := .int .i64 ((a + U.length : Nat) : Int)) (by congr 1; omega) (y_move rfl rfl)) ?_
        refine S_ 17 rfl rfl rfl _ (y_assign rfl rfl) ?_
        refine S_go (fun _ _ h => h) ?_
        refine T_block ?_
        refine T_loopK1 (kf := [(17, 17), (108, 128)]) (kl := [(0, 0), (17, 17), (108, 128)]) (fun (t : Nat) => [(17, true, .int .i64 ((a + t : Nat) : Int))]) (fun (t : Nat) => [(0, .own 78 3 (.slice A q c) q ((insL X U v t Yt).flatMap SCrumb.enc))]) (fun (t : Nat) => lo ≤ t ∧ t ≤ U.length) (fun (t : Nat) => t) U.length (by repeat (first | exact kf_nil | (apply kf_in; focus rfl) | (apply kf_out; focus rfl))) (by repeat (first | exact kl_nil | exact kl_rest (by assumption) rfl | (apply kl_in; focus rfl) | (apply kl_out; focus rfl))) ?_ ?_ ?_ ?_
        · exact ⟨by omega, by omega⟩
        · exact ⟨rfl, trivial⟩
        · exact ⟨rfl, trivial⟩
        rintro t ⟨ht1, ht2⟩
        refine T_seq ?_
        refine T_seq ?_
        refine T_region ?_
        refine S_ 108 rfl rfl rfl _ (y_move rfl rfl) ?_
        refine S_ 109 rfl rfl rfl _ (y_move rfl rfl) ?_
        refine S_ 110 rfl rfl rfl _ (y_bin rfl rfl rfl (fun _ => b_gtr)) ?_
        refine S_go (fun _ _ h => h) ?_
        refine T_cond rfl (fun h110 => ?_) (fun h110 => ?_)
        · try simp only [decide_eq_true_eq, decide_eq_false_iff_not, Bool.or_eq_true, Bool.or_eq_false_iff, Bool.and_eq_true, Bool.and_eq_false_iff, Bool.not_eq_true', Bool.not_eq_false', Bool.not_eq_true, Bool.not_eq_false, Bool.not_true, Bool.not_false, Int.not_lt, Int.not_le, not_or, not_and, Classical.not_not] at h110
          obtain ⟨s, rfl⟩ : ∃ s, t = s + 1 := ⟨t - 1, by omega⟩
          obtain ⟨y, hy⟩ := some_at (l := U) (i := s) (by omega)
          refine T_skip_go (fun _ _ h => h) ?_
          refine T_seq ?_
          refine T_block ?_
          refine T_perm [0, 1, 2, 3, 4, 5, 6, 7, 8, 9, 10, 11, 12, 13, 14, 15, 16, 17] [true, true, true, true, true, true, true, true, true, true, true, true, true, true, true, false, true, false] [0, 0, 0, 0, 8, 0, 0, 64, 224, 480, 0, 0, 3072, 7168, 16355, 32739, 65535, 131071] [(9, [0]), (13, [0])] (by kernel_rfl) (by kernel_rfl) (by kernel_rfl) rfl (by kernel_rfl) ?_
          refine Rf_ 0 113 rfl rfl rfl rfl rfl _ trivial (Y.z (y_move rfl rfl) rfl) ?_
          refine Rf_ 1 114 rfl rfl rfl rfl rfl _ trivial (Y.z (y_move rfl rfl) rfl) ?_
          refine Rf_ 2 115 rfl rfl rfl rfl rfl _ trivial (Y.z (y_move rfl rfl) rfl) ?_
          refine Rf_ 3 116 rfl rfl rfl rfl rfl _ trivial (Y.z (y_move rfl rfl) rfl) ?_
          refine Rf_ 4 117 rfl rfl rfl rfl rfl _ trivial (Y.z (y_bin rfl rfl rfl (fun hg => b_subv (((a + s : Nat) : Int)) (by omega) (by omega))) rfl) ?_
          refine Rf_ 5 118 rfl rfl rfl rfl rfl _ trivial (Y.z (y_move rfl rfl) rfl) ?_
          refine Rf_ 6 119 rfl rfl rfl rfl rfl _ trivial (Y.z (y_move rfl rfl) rfl) ?_
          refine Rf_ 7 120 rfl rfl rfl rfl rfl _ trivial (Y.z (y_bin rfl rfl rfl (fun hg => b_subv (((a + s : Nat) : Int)) (by omega) (by omega))) rfl) ?_
          refine Rf_ 8 121 rfl rfl rfl rfl rfl _ trivial (Y.z (y_indexAddr rfl rfl rfl Tryd.underlying50 sz78 (fun hg => hA (by omega)) (fun _ => by omega)) rfl) ?_
          refine Rf_ 9 122 rfl rfl rfl rfl rfl _ ⟨rfl, trivial⟩ (Y.z (y_loadO 0 rfl rfl rfl (by first | (rw [insL_len]; simp only [List.length_cons, List.length_nil] at *; omega) | (simp only [List.length_append]; omega)) (fun _ => rfl) (fun _ => insL_prev hy (by omega)) Tryd.underlying78 rfl sz78) rfl) ?_
          refine Rf_ 10 123 rfl rfl rfl rfl rfl _ trivial (Y.z (y_move rfl rfl) rfl) ?_
          refine Rf_ 11 124 rfl rfl rfl rfl rfl _ trivial (Y.z (y_move rfl rfl) rfl) ?_
          refine Rf_ 12 125 rfl rfl rfl rfl rfl _ trivial (Y.z (y_indexAddr rfl rfl rfl Tryd.underlying50 sz78 (fun hg => hA (by omega)) (fun _ => by omega)) rfl) ?_
          refine Rf_ 13 126 rfl rfl rfl rfl rfl _ ⟨rfl, trivial⟩ (Y.z (y_loadO 0 rfl rfl rfl (by first | (rw [insL_len]; simp only [List.length_cons, List.length_nil] at *; omega) | (simp only [List.length_append]; omega)) (fun _ => rfl) (fun _ => insL_at (by omega) (by omega)) Tryd.underlying78 rfl sz78) rfl) ?_
          refine Rf_ 14 127 rfl rfl rfl rfl rfl _ trivial (Y.z (y_indexAddr rfl rfl rfl Tryd.underlying50 sz78 (fun hg => hA (by omega)) (fun _ => by omega)) rfl) ?_
          refine R_chain 15 rfl rfl ?_
          refine S_storeEl 0 rfl rfl rfl rfl rfl rfl sz78 rfl rfl rfl ?_ (xs' := ((insL X U v (s + 1) Yt).set (a + (s + 1)) y).flatMap SCrumb.enc) ?_ ?_
          · omega
          · exact flat_setE (enc := SCrumb.enc) (size := 3) (fun _ => rfl) (by rw [insL_len]; omega)
          refine R_next ⟨.inl rfl, .inl rfl, trivial⟩ ?_
          refine Rf_ 16 128 rfl rfl rfl rfl rfl _ trivial (Y.z (y_indexAddr rfl rfl rfl Tryd.underlying50 sz78 (fun hg => hA (by omega)) (fun _ => by omega)) rfl) ?_
          refine R_chain 17 rfl rfl ?_
          refine S_storeEl 0 rfl rfl rfl rfl rfl rfl sz78 rfl rfl rfl ?_ (xs' := (insL X U v s Yt).flatMap SCrumb.enc) ?_ ?_
          · omega
          · rw [flat_setE (enc := SCrumb.enc) (size := 3) (fun _ => rfl) (by rw [List.length_set, insL_len]; omega), insL_dn hy (by omega) (by omega)]
          refine R_next ⟨.inl rfl, .inl rfl, trivial⟩ ?_
          refine R_go (fun _ _ h => h) ?_
          refine T_region ?_
          refine S_ 111 rfl rfl rfl _ (y_move rfl rfl) ?_
          refine S_ 112 rfl rfl rfl _ (y_bin rfl rfl rfl (fun hg => b_subv (((a + s : Nat) : Int)) (by omega) (by omega))) ?_
          refine S_ 17 rfl rfl rfl _ (y_assign rfl rfl) ?_
          refine S_nil (nextK1 (kf := [(17, 17), (108, 128)]) (kl := [(0, 0), (17, 17), (108, 128)]) s (by repeat (first | exact kf_nil | (apply kf_in; focus rfl) | (apply kf_out; focus rfl))) (by repeat (first | exact kl_nil | exact kl_rest (by assumption) rfl | (apply kl_in; focus rfl) | (apply kl_out; focus rfl))) ?_ ?_ ?_ ?_)
          · omega
          · exact ⟨by omega, by omega⟩
          · exact ⟨rfl, trivial⟩
          · exact ⟨rfl, trivial⟩
        · try simp only [decide_eq_true_eq, decide_eq_false_iff_not, Bool.or_eq_true, Bool.or_eq_false_iff, Bool.and_eq_true, Bool.and_eq_false_iff, Bool.not_eq_true', Bool.not_eq_false', Bool.not_eq_true, Bool.not_eq_false, Bool.not_true, Bool.not_false, Int.not_lt, Int.not_le, not_or, not_and, Classical.not_not] at h110
          have htl : t = lo := by omega
          refine T_exit_go (fun _ _ h => h) ?_
          refine T_ret (fun a w hF hM => hRb a w (post0 rfl (fun w hM => ?_) a w hF hM))
          exact ⟨U.take t ++ v :: U.drop t, rfl, ⟨ins_perm.trans (List.perm_append_comm (l₁ := [v])), ins_sorted tr hU (by omega) (fun y h0 hy => (hCv y (mem_at hy)).2 (hr3 y (by omega) (by rw [← htl]; exact hy))) (fun y hy => (hCv y (mem_at hy)).1 (hr4 y (by rw [hlh, ← htl]; exact hy)))⟩, hM.keep (ks := [(0, 999)]) (by repeat (first | exact kl_rest (by assumption) rfl | (apply kl_in; focus rfl))) _ ⟨rfl, trivial⟩⟩
    · try simp only [decide_eq_true_eq, decide_eq_false_iff_not, Bool.or_eq_true, Bool.or_eq_false_iff, Bool.and_eq_true, Bool.and_eq_false_iff, Bool.not_eq_true', Bool.not_eq_false', Bool.not_eq_true, Bool.not_eq_false, Bool.not_true, Bool.not_false, Int.not_lt, Int.not_le, not_or, not_and, Classical.not_not] at h80
      have h80 : 2 ≤ V.length := by omega
      obtain ⟨p, hp⟩ : ∃ p, (a + b) / 2 = a + p := ⟨(a + b) / 2 - a, by omega⟩
      have hpU : p + 1 ≤ U.length + V.length := by omega
      refine T_skip_go (fun _ _ h => h) ?_
      refine T_seq ?_
      refine T_region ?_
      refine S_ 129 rfl rfl rfl _ (y_move rfl rfl) ?_
      refine S_ 130 rfl rfl rfl _ (y_move rfl rfl) ?_
      refine S_ 131 rfl rfl rfl _ (y_bin rfl rfl rfl (fun hg => b_addv (((a + b : Nat) : Int)) (by omega) (by omega))) ?_
      refine S_ 132 rfl rfl rfl _ (y_as (v' := .int .u64 ((a + b : Nat) : Int)) (by congr 1; exact wrap64_in (by omega)) (y_conv rfl rfl Tryd.underlying3 Tryd.underlying195)) ?_
      refine S_ 133 rfl rfl rfl _ (y_bin rfl rfl rfl (fun hg => b_shrv ((((a + b) / 2 : Nat) : Int)) (by decide) (by decide) (by first | (simp; done) | (simp; omega)))) ?_
      refine S_ 134 rfl rfl rfl _ (y_as (v' := .int .i64 ((a + p : Nat) : Int)) (by congr 1; omega) (y_conv64 rfl rfl Tryd.underlying195 Tryd.underlying3 (fun _ => by omega))) ?_
      refine S_ 18 rfl rfl rfl _ (y_assign rfl rfl) ?_
      refine S_go (fun _ _ h => h) ?_
      refine T_seq ?_
      refine T_region ?_
      refine S_ 135 rfl rfl rfl _ (y_move rfl rfl) ?_
      refine S_ 136 rfl rfl rfl _ (y_move rfl rfl) ?_
      refine S_ 137 rfl rfl rfl _ (y_bin rfl rfl rfl (fun hg => b_addv (((a + p + m : Nat) : Int)) (by omega) (by omega))) ?_
      refine S_ 19 rfl rfl rfl _ (y_assign rfl rfl) ?_
      refine S_go (fun _ _ h => h) ?_
      refine T_seq ?_
      refine T_region ?_
      refine S_ 20 rfl rfl rfl _ (y_assign rfl rfl) ?_
      refine S_ 21 rfl rfl rfl _ (y_assign rfl rfl) ?_
      refine S_go (fun _ _ h => h) ?_
      refine T_seq ?_
      refine T_seq ?_
      refine T_region ?_
      refine S_ 138 rfl rfl rfl _ (y_move rfl rfl) ?_
      refine S_ 139 rfl rfl rfl _ (y_move rfl rfl) ?_
      refine S_ 140 rfl rfl rfl _ (y_bin rfl rfl rfl (fun _ => b_gtr)) ?_
      refine S_go (fun _ _ h => h) ?_
      refine T_cond rfl (fun h140 => ?_) (fun h140 => ?_)
      · try simp only [decide_eq_true_eq, decide_eq_false_iff_not, Bool.or_eq_true, Bool.or_eq_false_iff, Bool.and_eq_true, Bool.and_eq_false_iff, Bool.not_eq_true', Bool.not_eq_false', Bool.not_eq_true, Bool.not_eq_false, Bool.not_true, Bool.not_false, Int.not_lt, Int.not_le, not_or, not_and, Classical.not_not] at h140
        refine T_seq ?_
        refine T_region ?_
        refine S_ 141 rfl rfl rfl _ (y_move rfl rfl) ?_
        refine S_ 142 rfl rfl rfl _ (y_move rfl rfl) ?_
        refine S_ 143 rfl rfl rfl _ (y_bin rfl rfl rfl (fun hg => b_subv (((a + (p - V.length) : Nat) : Int)) (by omega) (by omega))) ?_
        refine S_ 20 rfl rfl rfl _ (y_assign rfl rfl) ?_
        refine S_go (fun _ _ h => h) ?_
        refine T_region ?_
        refine S_ 144 rfl rfl rfl _ (y_as (v' := .int .i64 ((a + min p U.length : Nat) : Int)) (by congr 1; omega) (y_move rfl rfl)) ?_
        refine S_ 21 rfl rfl rfl _ (y_assign rfl rfl) ?_
        refine S_go (fun _ _ h => h) ?_
        refine T_seq ?_
        refine T_region ?_
        refine S_ 147 rfl rfl rfl _ (y_move rfl rfl) ?_
        refine S_ 148 rfl rfl rfl _ (y_bin rfl rfl rfl (fun hg => b_subv (((a + p + m - 1 : Nat) : Int)) (by omega) (by omega))) ?_
        refine S_ 22 rfl rfl rfl _ (y_assign rfl rfl) ?_
        refine S_go (fun _ _ h => h) ?_
        refine T_seq ?_
        refine T_block ?_
        refine T_loopK2 (kf := [(20, 21), (23, 23), (149, 174)]) (kl := [(20, 21), (23, 23), (149, 174)]) (fun (i r : Nat) => [(20, true, .int .i64 ((a + i : Nat) : Int)), (21, true, .int .i64 ((a + r : Nat) : Int))]) (fun (i r : Nat) => []) (fun (i r : Nat) => p - V.length ≤ i ∧ i ≤ r ∧ r ≤ min p U.length ∧ (∀ x y, p - V.length < i → U[i - 1]? = some x → V[p - i]? = some y → R x y) ∧ (∀ x y, r < min p U.length → V[p - 1 - r]? = some x → U[r]? = some y → R x y)) (fun (i r : Nat) => r - i) (p - V.length) (min p U.length) (by repeat (first | exact kf_nil | (apply kf_in; focus rfl) | (apply kf_out; focus rfl))) (by repeat (first | exact kl_nil | exact kl_rest (by assumption) rfl | (apply kl_in; focus rfl) | (apply kl_out; focus rfl))) ?_ ?_ ?_ ?_
        · exact ⟨by omega, by omega, by omega, fun x y h => absurd h (by omega), fun x y h => absurd h (by omega)⟩
        · exact ⟨rfl, rfl, trivial⟩
        · exact trivial
        rintro i r ⟨hq1, hq2, hq3, hq4, hq5⟩
        refine T_seq ?_
        refine T_seq ?_
        refine T_region ?_
        refine S_ 149 rfl rfl rfl _ (y_move rfl rfl) ?_
        refine S_ 150 rfl rfl rfl _ (y_move rfl rfl) ?_
        refine S_ 151 rfl rfl rfl _ (y_bin rfl rfl rfl (fun _ => b_lss)) ?_
        refine S_go (fun _ _ h => h) ?_
        refine T_cond rfl (fun h151 => ?_) (fun h151 => ?_)
        · try simp only [decide_eq_true_eq, decide_eq_false_iff_not, Bool.or_eq_true, Bool.or_eq_false_iff, Bool.and_eq_true, Bool.and_eq_false_iff, Bool.not_eq_true', Bool.not_eq_false', Bool.not_eq_true, Bool.not_eq_false, Bool.not_true, Bool.not_false, Int.not_lt, Int.not_le, not_or, not_and, Classical.not_not] at h151
          obtain ⟨k, hk1, hk2, hk3⟩ : ∃ k, (a + i + (a + r)) / 2 = a + k ∧ i ≤ k ∧ k < r := ⟨(a + i + (a + r)) / 2 - a, by omega, by omega, by omega⟩
          obtain ⟨x, hx⟩ := some_at (l := U) (i := k) (by omega)
          obtain ⟨y, hy⟩ := some_at (l := V) (i := p - 1 - k) (by omega)
          have hCxy := hC x (mem_at hx) y (mem_at hy)
          refine T_skip_go (fun _ _ h => h) ?_
          refine T_block ?_
          refine T_seq ?_
          refine T_region ?_
          refine S_ 152 rfl rfl rfl _ (y_move rfl rfl) ?_
          refine S_ 153 rfl rfl rfl _ (y_move rfl rfl) ?_
          refine S_ 154 rfl rfl rfl _ (y_bin rfl rfl rfl (fun hg => b_addv (((a + i + (a + r) : Nat) : Int)) (by omega) (by omega))) ?_
          refine S_ 155 rfl rfl rfl _ (y_as (v' := .int .u64 ((a + i + (a + r) : Nat) : Int)) (by congr 1; exact wrap64_in (by omega)) (y_conv rfl rfl Tryd.underlying3 Tryd.underlying195)) ?_
          refine S_ 156 rfl rfl rfl _ (y_bin rfl rfl rfl (fun hg => b_shrv ((((a + i + (a + r)) / 2 : Nat) : Int)) (by decide) (by decide) (by first | (simp; done) | (simp; omega)))) ?_
          refine S_ 157 rfl rfl rfl _ (y_as (v' := .int .i64 ((a + k : Nat) : Int)) (by congr 1; omega) (y_conv64 rfl rfl Tryd.underlying195 Tryd.underlying3 (fun _ => by omega))) ?_
          refine S_ 23 rfl rfl rfl _ (y_assign rfl rfl) ?_
          refine S_go (fun _ _ h => h) ?_
          refine T_seq ?_
          refine T_draws (by kernel_rfl) (by kernel_rfl) ?_
          refine D_ 158 rfl rfl rfl _ (y_move rfl rfl) ?_
          refine D_ 159 rfl rfl rfl _ (y_move rfl rfl) ?_
          refine D_ 160 rfl rfl rfl _ (y_move rfl rfl) ?_
          refine D_ 161 rfl rfl rfl _ (y_move rfl rfl) ?_
          refine D_ 162 rfl rfl rfl _ (y_bin rfl rfl rfl (fun hg => b_subv (((m + (p - 1 - k) : Nat) : Int)) (by omega) (by omega))) ?_
          refine D_ 163 rfl rfl rfl _ (y_indexAddr rfl rfl rfl Tryd.underlying50 sz78 (fun hg => hA (by omega)) (fun _ => by omega)) ?_
          refine D_ 164 rfl rfl rfl _ (y_loadO 0 rfl rfl rfl (by first | (rw [insL_len]; simp only [List.length_cons, List.length_nil] at *; omega) | (simp only [List.length_append]; omega)) (fun _ => rfl) (fun _ => cat_v hy (by omega)) Tryd.underlying78 rfl sz78) ?_
          refine D_ 165 rfl rfl rfl _ (y_move rfl rfl) ?_
          refine D_ 166 rfl rfl rfl _ (y_move rfl rfl) ?_
          refine D_ 167 rfl rfl rfl _ (y_indexAddr rfl rfl rfl Tryd.underlying50 sz78 (fun hg => hA (by omega)) (fun _ => by omega)) ?_
          refine D_ 168 rfl rfl rfl _ (y_loadO 0 rfl rfl rfl (by first | (rw [insL_len]; simp only [List.length_cons, List.length_nil] at *; omega) | (simp only [List.length_append]; omega)) (fun _ => rfl) (fun _ => cat_u hx (by omega)) Tryd.underlying78 rfl sz78) ?_
          refine D_ 169 rfl rfl rfl _ (y_call rfl rfl rfl hcf (fun _ w _ => hcmp y x w)) ?_
          refine D_ 170 rfl rfl rfl _ (y_bin rfl rfl rfl (fun _ => b_lss)) ?_
          refine D_ 171 rfl rfl rfl _ (y_not rfl rfl) ?_
          refine D_go (fun _ _ h => h) ?_
          refine T_cond rfl (fun h171 => ?_) (fun h171 => ?_)
          · skip
            have h171 : ¬ cf y x < 0 := by simpa using h171
            refine T_region ?_
            refine S_ 172 rfl rfl rfl _ (y_move rfl rfl) ?_
            refine S_ 173 rfl rfl rfl _ (y_bin rfl rfl rfl (fun hg => b_addv (((a + (k + 1) : Nat) : Int)) (by omega) (by omega))) ?_
            refine S_ 20 rfl rfl rfl _ (y_assign rfl rfl) ?_
            refine S_nil (nextK2 (kf := [(20, 21), (23, 23), (149, 174)]) (kl := [(20, 21), (23, 23), (149, 174)]) (k + 1) r (by repeat (first | exact kf_nil | (apply kf_in; focus rfl) | (apply kf_out; focus rfl))) (by repeat (first | exact kl_nil | exact kl_rest (by assumption) rfl | (apply kl_in; focus rfl) | (apply kl_out; focus rfl))) ?_ ?_ ?_ ?_)
            · omega
            · exact ⟨by omega, by omega, by omega, fun x1 y1 _ hx1 hy1 => by
                rw [Nat.add_sub_cancel, hx] at hx1
                rw [show p - (k + 1) = p - 1 - k by omega, hy] at hy1
                obtain rfl := Option.some.inj hx1
                obtain rfl := Option.some.inj hy1
                exact hCxy.2 h171, hq5⟩
            · exact ⟨rfl, rfl, trivial⟩
            · exact trivial
          · skip
            have h171 : cf y x < 0 := by simpa using h171
            refine T_region ?_
            refine S_ 174 rfl rfl rfl _ (y_move rfl rfl) ?_
            refine S_ 21 rfl rfl rfl _ (y_assign rfl rfl) ?_
            refine S_nil (nextK2 (kf := [(20, 21), (23, 23), (149, 174)]) (kl := [(20, 21), (23, 23), (149, 174)]) i k (by repeat (first | exact kf_nil | (apply kf_in; focus rfl) | (apply kf_out; focus rfl))) (by repeat (first | exact kl_nil | exact kl_rest (by assumption) rfl | (apply kl_in; focus rfl) | (apply kl_out; focus rfl))) ?_ ?_ ?_ ?_)
            · omega
            · exact ⟨by omega, by omega, by omega, hq4, fun x1 y1 _ hx1 hy1 => by
                rw [hy] at hx1
                rw [hx] at hy1
                obtain rfl := Option.some.inj hx1
                obtain rfl := Option.some.inj hy1
                exact hCxy.1 h171⟩
            · exact ⟨rfl, rfl, trivial⟩
            · exact trivial
        · try simp only [decide_eq_true_eq, decide_eq_false_iff_not, Bool.or_eq_true, Bool.or_eq_false_iff, Bool.and_eq_true, Bool.and_eq_false_iff, Bool.not_eq_true', Bool.not_eq_false', Bool.not_eq_true, Bool.not_eq_false, Bool.not_true, Bool.not_false, Int.not_lt, Int.not_le, not_or, not_and, Classical.not_not] at h151
          have hri : r = i := by omega
          have hsp := mrg_split tr hU hV (s := i) (e := p - i) (by omega) (by omega) (fun x y h0 hx hy => by
            rcases Nat.lt_or_ge (p - V.length) i with h | h
            · exact hq4 x y h hx hy
            · have := (List.getElem?_eq_some_iff.1 hy).1; omega) (fun x y h0 hx hy => by
            have := (List.getElem?_eq_some_iff.1 hy).1
            exact hq5 x y (by omega) (by rw [hri, show p - 1 - i = p - i - 1 by omega]; exact hx) (by rw [hri]; exact hy))
          have lu1 : (U.take i).length = i := by rw [List.length_take]; omega
          have lu2 : (U.drop i).length = U.length - i := List.length_drop
          have lv1 : (V.take (p - i)).length = p - i := by rw [List.length_take]; omega
          have lv2 : (V.drop (p - i)).length = V.length - (p - i) := List.length_drop
          rw [cut4 (i := i) (e := p - i)]
          refine T_exit_go (fun _ _ h => h) ?_
          refine T_seq ?_
          refine T_region ?_
          refine S_ 175 rfl rfl rfl _ (y_move rfl rfl) ?_
          refine S_ 176 rfl rfl rfl _ (y_move rfl rfl) ?_
          refine S_ 177 rfl rfl rfl _ (y_bin rfl rfl rfl (fun hg => b_subv (((m + (p - i) : Nat) : Int)) (by omega) (by omega))) ?_
          refine S_ 24 rfl rfl rfl _ (y_assign rfl rfl) ?_
          refine S_go (fun _ _ h => h) ?_
          refine T_seq ?_
          refine T_seq ?_
          refine T_region ?_
          refine S_ 178 rfl rfl rfl _ (y_move rfl rfl) ?_
          refine S_ 179 rfl rfl rfl _ (y_move rfl rfl) ?_
          refine S_ 180 rfl rfl rfl _ (y_bin rfl rfl rfl (fun _ => b_lss)) ?_
          refine S_ 181 rfl rfl rfl _ (y_move rfl rfl) ?_
          refine Sg_ 182 rfl rfl rfl rfl rfl rfl _ (y_move rfl rfl) ?_
          refine Sg_ 183 rfl rfl rfl rfl rfl rfl _ (y_move rfl rfl) ?_
          refine Sg_ 184 rfl rfl rfl rfl rfl rfl _ (y_bin rfl rfl rfl (fun _ => b_lss)) ?_
          refine S_ 185 rfl rfl rfl _ (y_and rfl rfl rfl) ?_
          refine S_go (fun _ _ h => h) ?_
          refine T_cond rfl (fun h185 => ?_) (fun h185 => ?_)
          · skip
            simp only [Bool.and_eq_true, decide_eq_true_eq] at h185
            refine T_region ?_
            refine S_ 186 rfl rfl rfl _ (y_move rfl rfl) ?_
            refine S_ 187 rfl rfl rfl _ (y_move rfl rfl) ?_
            refine S_ 188 rfl rfl rfl _ (y_move rfl rfl) ?_
            refine S_ 189 rfl rfl rfl _ (y_move rfl rfl) ?_
            refine S_ 190 rfl rfl rfl _ (y_move rfl rfl) ?_
            refine S_callM 191 [(0, 0)] (X := Unit) rfl rfl rfl rfl rfl rfl rfl cf269 rfl (fun _ => .tuple #[]) (fun _ => True) (fun _ => [(0, .own 78 3 (.slice A q c) q (((X ++ U.take i) ++ (V.take (p - i) ++ U.drop i) ++ (V.drop (p - i) ++ Yt)).flatMap SCrumb.enc))]) (fun _ => rfl) (fun _ => rfl) (fun K1 hK1 w hM => rotC_any hK1 _ A q c (X ++ U.take i) (U.drop i) (V.take (p - i)) (V.drop (p - i) ++ Yt) (a + i) m (m + (p - i)) (by rw [List.length_append]; omega) (by omega) (by omega) (by omega) (by omega) (by simp only [List.length_append]; omega) hqm w hM) ?_
            intro _ _
            refine S_go (fun _ _ h => h) ?_
            refine T_seq ?_
            refine T_seq ?_
            refine T_region ?_
            refine S_ 192 rfl rfl rfl _ (y_move rfl rfl) ?_
            refine S_ 193 rfl rfl rfl _ (y_move rfl rfl) ?_
            refine S_ 194 rfl rfl rfl _ (y_bin rfl rfl rfl (fun _ => b_lss)) ?_
            refine S_ 195 rfl rfl rfl _ (y_move rfl rfl) ?_
            refine Sg_ 196 rfl rfl rfl rfl rfl rfl _ (y_move rfl rfl) ?_
            refine Sg_ 197 rfl rfl rfl rfl rfl rfl _ (y_move rfl rfl) ?_
            refine Sg_ 198 rfl rfl rfl rfl rfl rfl _ (y_bin rfl rfl rfl (fun _ => b_lss)) ?_
            refine S_ 199 rfl rfl rfl _ (y_and rfl rfl rfl) ?_
            refine S_go (fun _ _ h => h) ?_
            refine T_cond rfl (fun h199 => ?_) (fun h199 => ?_)
            · skip
              simp only [Bool.and_eq_true, decide_eq_true_eq] at h199
              rw [show (X ++ U.take i) ++ (V.take (p - i) ++ U.drop i) ++ (V.drop (p - i) ++ Yt) = X ++ (U.take i ++ V.take (p - i)) ++ (U.drop i ++ V.drop (p - i) ++ Yt) from by simp]
              refine T_region ?_
              refine S_ 200 rfl rfl rfl _ (y_move rfl rfl) ?_
              refine S_ 201 rfl rfl rfl _ (y_move rfl rfl) ?_
              refine S_ 202 rfl rfl rfl _ (y_move rfl rfl) ?_
              refine S_ 203 rfl rfl rfl _ (y_move rfl rfl) ?_
              refine S_ 204 rfl rfl rfl _ (y_move rfl rfl) ?_
              refine S_callM 205 [(0, 0)] (X := List SCrumb) rfl rfl rfl rfl rfl rfl rfl cf232 rfl (fun _ => .tuple #[]) (fun W => W.Perm (U.take i ++ V.take (p - i)) ∧ W.Pairwise R) (fun W => [(0, .own 78 3 (.slice A q c) q ((X ++ W ++ (U.drop i ++ V.drop (p - i) ++ Yt)).flatMap SCrumb.enc))]) (fun _ => rfl) (fun _ => rfl) (fun K1 hK1 w hM => ih hK1 A q c X (U.take i) (V.take (p - i)) (U.drop i ++ V.drop (p - i) ++ Yt) a (a + i) (a + p) ha (by omega) (by omega) (by omega) (by omega) (by omega) (by simp only [List.length_append]; omega) hqm (hU.sublist (List.take_sublist _ _)) (hV.sublist (List.take_sublist _ _)) (fun x hx y hy => hC x (List.mem_of_mem_take hx) y (List.mem_of_mem_take hy)) w hM) ?_
              rintro W1 ⟨hW1p, hW1s⟩
              refine S_go (fun _ _ h => h) ?_
              refine T_seq ?_
              refine T_region ?_
              refine S_ 206 rfl rfl rfl _ (y_move rfl rfl) ?_
              refine S_ 207 rfl rfl rfl _ (y_move rfl rfl) ?_
              refine S_ 208 rfl rfl rfl _ (y_bin rfl rfl rfl (fun _ => b_lss)) ?_
              refine S_ 209 rfl rfl rfl _ (y_move rfl rfl) ?_
              refine Sg_ 210 rfl rfl rfl rfl rfl rfl _ (y_move rfl rfl) ?_
              refine Sg_ 211 rfl rfl rfl rfl rfl rfl _ (y_move rfl rfl) ?_
              refine Sg_ 212 rfl rfl rfl rfl rfl rfl _ (y_bin rfl rfl rfl (fun _ => b_lss)) ?_
              refine S_ 213 rfl rfl rfl _ (y_and rfl rfl rfl) ?_
              refine S_go (fun _ _ h => h) ?_
              refine T_cond rfl (fun h213 => ?_) (fun h213 => ?_)
              · skip
                simp only [Bool.and_eq_true, decide_eq_true_eq] at h213
                have lw1 := hW1p.length_eq
                rw [List.length_append] at lw1
                rw [show X ++ W1 ++ (U.drop i ++ V.drop (p - i) ++ Yt) = (X ++ W1) ++ (U.drop i ++ V.drop (p - i)) ++ Yt from by simp]
                refine T_region ?_
                refine S_ 214 rfl rfl rfl _ (y_move rfl rfl) ?_
                refine S_ 215 rfl rfl rfl _ (y_move rfl rfl) ?_
                refine S_ 216 rfl rfl rfl _ (y_move rfl rfl) ?_
                refine S_ 217 rfl rfl rfl _ (y_move rfl rfl) ?_
                refine S_ 218 rfl rfl rfl _ (y_move rfl rfl) ?_
                refine S_callM 219 [(0, 0)] (X := List SCrumb) rfl rfl rfl rfl rfl rfl rfl cf232 rfl (fun _ => .tuple #[]) (fun W => W.Perm (U.drop i ++ V.drop (p - i)) ∧ W.Pairwise R) (fun W => [(0, .own 78 3 (.slice A q c) q (((X ++ W1) ++ W ++ Yt).flatMap SCrumb.enc))]) (fun _ => rfl) (fun _ => rfl) (fun K1 hK1 w hM => ih hK1 A q c (X ++ W1) (U.drop i) (V.drop (p - i)) Yt (a + p) (m + (p - i)) b (by rw [List.length_append]; omega) (by omega) (by omega) (by omega) (by omega) (by omega) (by simp only [List.length_append]; omega) hqm (hU.sublist (List.drop_sublist _ _)) (hV.sublist (List.drop_sublist _ _)) (fun x hx y hy => hC x (List.mem_of_mem_drop hx) y (List.mem_of_mem_drop hy)) w hM) ?_
                rintro W2 ⟨hW2p, hW2s⟩
                refine S_nil (fun a w hF hM => hRn a w (post0 rfl (fun w hM => ?_) a w hF hM))
                exact ⟨W1 ++ W2, rfl, ⟨mrg_join hW1p hW2p, mrg_sorted hW1p hW2p hW1s hW2s hsp⟩, hM.keep (ks := [(0, 999)]) (by repeat (first | exact kl_rest (by assumption) rfl | (apply kl_in; focus rfl))) _ ⟨by rw [show X ++ (W1 ++ W2) ++ Yt = (X ++ W1) ++ W2 ++ Yt from by simp]; rfl, trivial⟩⟩
              · skip
                rw [show X ++ W1 ++ (U.drop i ++ V.drop (p - i) ++ Yt) = (X ++ W1) ++ (U.drop i ++ V.drop (p - i)) ++ Yt from by simp]
                obtain ⟨W2, hW2e, hW2p, hW2s⟩ : ∃ W2, W2 = U.drop i ++ V.drop (p - i) ∧ W2.Perm (U.drop i ++ V.drop (p - i)) ∧ W2.Pairwise R := ⟨_, rfl, .refl _, by
                  simp only [Bool.and_eq_false_iff, decide_eq_false_iff_not] at h213
                  rcases Nat.lt_or_ge i U.length with h | h
                  · rw [List.drop_eq_nil_of_le (by omega : V.length ≤ p - i), List.append_nil]; exact hU.sublist (List.drop_sublist _ _)
                  · rw [List.drop_eq_nil_of_le h, List.nil_append]; exact hV.sublist (List.drop_sublist _ _)⟩
                rw [← hW2e]
                refine T_skip (fun a w hF hM => hRn a w (post0 rfl (fun w hM => ?_) a w hF hM))
                exact ⟨W1 ++ W2, rfl, ⟨mrg_join hW1p hW2p, mrg_sorted hW1p hW2p hW1s hW2s hsp⟩, hM.keep (ks := [(0, 999)]) (by repeat (first | exact kl_rest (by assumption) rfl | (apply kl_in; focus rfl))) _ ⟨by rw [show X ++ (W1 ++ W2) ++ Yt = (X ++ W1) ++ W2 ++ Yt from by simp]; rfl, trivial⟩⟩
            · skip
              rw [show (X ++ U.take i) ++ (V.take (p - i) ++ U.drop i) ++ (V.drop (p - i) ++ Yt) = X ++ (U.take i ++ V.take (p - i)) ++ (U.drop i ++ V.drop (p - i) ++ Yt) from by simp]
              obtain ⟨W1, hW1e, hW1p, hW1s⟩ : ∃ W1, W1 = U.take i ++ V.take (p - i) ∧ W1.Perm (U.take i ++ V.take (p - i)) ∧ W1.Pairwise R := ⟨_, rfl, .refl _, by
                simp only [Bool.and_eq_false_iff, decide_eq_false_iff_not] at h199
                rcases Nat.eq_zero_or_pos i with h | h
                · subst h; rw [List.take_zero, List.nil_append]; exact hV.sublist (List.take_sublist _ _)
                · rw [show p - i = 0 by omega, List.take_zero, List.append_nil]; exact hU.sublist (List.take_sublist _ _)⟩
              rw [← hW1e]
              refine T_skip_go (fun _ _ h => h) ?_
              refine T_seq ?_
              refine T_region ?_
              refine S_ 206 rfl rfl rfl _ (y_move rfl rfl) ?_
              refine S_ 207 rfl rfl rfl _ (y_move rfl rfl) ?_
              refine S_ 208 rfl rfl rfl _ (y_bin rfl rfl rfl (fun _ => b_lss)) ?_
              refine S_ 209 rfl rfl rfl _ (y_move rfl rfl) ?_
              refine Sg_ 210 rfl rfl rfl rfl rfl rfl _ (y_move rfl rfl) ?_
              refine Sg_ 211 rfl rfl rfl rfl rfl rfl _ (y_move rfl rfl) ?_
              refine Sg_ 212 rfl rfl rfl rfl rfl rfl _ (y_bin rfl rfl rfl (fun _ => b_lss)) ?_
              refine S_ 213 rfl rfl rfl _ (y_and rfl rfl rfl) ?_
              refine S_go (fun _ _ h => h) ?_
              refine T_cond rfl (fun h213 => ?_) (fun h213 => ?_)
              · skip
                simp only [Bool.and_eq_true, decide_eq_true_eq] at h213
                have lw1 := hW1p.length_eq
                rw [List.length_append] at lw1
                rw [show X ++ W1 ++ (U.drop i ++ V.drop (p - i) ++ Yt) = (X ++ W1) ++ (U.drop i ++ V.drop (p - i)) ++ Yt from by simp]
                refine T_region ?_
                refine S_ 214 rfl rfl rfl _ (y_move rfl rfl) ?_
                refine S_ 215 rfl rfl rfl _ (y_move rfl rfl) ?_
                refine S_ 216 rfl rfl rfl _ (y_move rfl rfl) ?_
                refine S_ 217 rfl rfl rfl _ (y_move rfl rfl) ?_
                refine S_ 218 rfl rfl rfl _ (y_move rfl rfl) ?_
                refine S_callM 219 [(0, 0)] (X := List SCrumb) rfl rfl rfl rfl rfl rfl rfl cf232 rfl (fun _ => .tuple #[]) (fun W => W.Perm (U.drop i ++ V.drop (p - i)) ∧ W.Pairwise R) (fun W => [(0, .own 78 3 (.slice A q c) q (((X ++ W1) ++ W ++ Yt).flatMap SCrumb.enc))]) (fun _ => rfl) (fun _ => rfl) (fun K1 hK1 w hM => ih hK1 A q c (X ++ W1) (U.drop i) (V.drop (p - i)) Yt (a + p) (m + (p - i)) b (by rw [List.length_append]; omega) (by omega) (by omega) (by omega) (by omega) (by omega) (by simp only [List.length_append]; omega) hqm (hU.sublist (List.drop_sublist _ _)) (hV.sublist (List.drop_sublist _ _)) (fun x hx y hy => hC x (List.mem_of_mem_drop hx) y (List.mem_of_mem_drop hy)) w hM) ?_
                rintro W2 ⟨hW2p, hW2s⟩
                refine S_nil (fun a w hF hM => hRn a w (post0 rfl (fun w hM => ?_) a w hF hM))
                exact ⟨W1 ++ W2, rfl, ⟨mrg_join hW1p hW2p, mrg_sorted hW1p hW2p hW1s hW2s hsp⟩, hM.keep (ks := [(0, 999)]) (by repeat (first | exact kl_rest (by assumption) rfl | (apply kl_in; focus rfl))) _ ⟨by rw [show X ++ (W1 ++ W2) ++ Yt = (X ++ W1) ++ W2 ++ Yt from by simp]; rfl, trivial⟩⟩
              · skip
                rw [show X ++ W1 ++ (U.drop i ++ V.drop (p - i) ++ Yt) = (X ++ W1) ++ (U.drop i ++ V.drop (p - i)) ++ Yt from by simp]
                obtain ⟨W2, hW2e, hW2p, hW2s⟩ : ∃ W2, W2 = U.drop i ++ V.drop (p - i) ∧ W2.Perm (U.drop i ++ V.drop (p - i)) ∧ W2.Pairwise R := ⟨_, rfl, .refl _, by
                  simp only [Bool.and_eq_false_iff, decide_eq_false_iff_not] at h213
                  rcases Nat.lt_or_ge i U.length with h | h
                  · rw [List.drop_eq_nil_of_le (by omega : V.length ≤ p - i), List.append_nil]; exact hU.sublist (List.drop_sublist _ _)
                  · rw [List.drop_eq_nil_of_le h, List.nil_append]; exact hV.sublist (List.drop_sublist _ _)⟩
                rw [← hW2e]
                refine T_skip (fun a w hF hM => hRn a w (post0 rfl (fun w hM => ?_) a w hF hM))
                exact ⟨W1 ++ W2, rfl, ⟨mrg_join hW1p hW2p, mrg_sorted hW1p hW2p hW1s hW2s hsp⟩, hM.keep (ks := [(0, 999)]) (by repeat (first | exact kl_rest (by assumption) rfl | (apply kl_in; focus rfl))) _ ⟨by rw [show X ++ (W1 ++ W2) ++ Yt = (X ++ W1) ++ W2 ++ Yt from by simp]; rfl, trivial⟩⟩
          · skip
            rw [nil_or (U := U) (V := V) (i := i) (e := p - i) (by intro h; simp only [Bool.and_eq_false_iff, decide_eq_false_iff_not] at h185; omega)]
            refine T_skip_go (fun _ _ h => h) ?_
            refine T_seq ?_
            refine T_seq ?_
            refine T_region ?_
            refine S_ 192 rfl rfl rfl _ (y_move rfl rfl) ?_
            refine S_ 193 rfl rfl rfl _ (y_move rfl rfl) ?_
            refine S_ 194 rfl rfl rfl _ (y_bin rfl rfl rfl (fun _ => b_lss)) ?_
            refine S_ 195 rfl rfl rfl _ (y_move rfl rfl) ?_
            refine Sg_ 196 rfl rfl rfl rfl rfl rfl _ (y_move rfl rfl) ?_
            refine Sg_ 197 rfl rfl rfl rfl rfl rfl _ (y_move rfl rfl) ?_
            refine Sg_ 198 rfl rfl rfl rfl rfl rfl _ (y_bin rfl rfl rfl (fun _ => b_lss)) ?_
            refine S_ 199 rfl rfl rfl _ (y_and rfl rfl rfl) ?_
            refine S_go (fun _ _ h => h) ?_
            refine T_cond rfl (fun h199 => ?_) (fun h199 => ?_)
            · skip
              simp only [Bool.and_eq_true, decide_eq_true_eq] at h199
              rw [show (X ++ U.take i) ++ (V.take (p - i) ++ U.drop i) ++ (V.drop (p - i) ++ Yt) = X ++ (U.take i ++ V.take (p - i)) ++ (U.drop i ++ V.drop (p - i) ++ Yt) from by simp]
              refine T_region ?_
              refine S_ 200 rfl rfl rfl _ (y_move rfl rfl) ?_
              refine S_ 201 rfl rfl rfl _ (y_move rfl rfl) ?_
              refine S_ 202 rfl rfl rfl _ (y_move rfl rfl) ?_
              refine S_ 203 rfl rfl rfl _ (y_move rfl rfl) ?_
              refine S_ 204 rfl rfl rfl _ (y_move rfl rfl) ?_
              refine S_callM 205 [(0, 0)] (X := List SCrumb) rfl rfl rfl rfl rfl rfl rfl cf232 rfl (fun _ => .tuple #[]) (fun W => W.Perm (U.take i ++ V.take (p - i)) ∧ W.Pairwise R) (fun W => [(0, .own 78 3 (.slice A q c) q ((X ++ W ++ (U.drop i ++ V.drop (p - i) ++ Yt)).flatMap SCrumb.enc))]) (fun _ => rfl) (fun _ => rfl) (fun K1 hK1 w hM => ih hK1 A q c X (U.take i) (V.take (p - i)) (U.drop i ++ V.drop (p - i) ++ Yt) a (a + i) (a + p) ha (by omega) (by omega) (by omega) (by omega) (by omega) (by simp only [List.length_append]; omega) hqm (hU.sublist (List.take_sublist _ _)) (hV.sublist (List.take_sublist _ _)) (fun x hx y hy => hC x (List.mem_of_mem_take hx) y (List.mem_of_mem_take hy)) w hM) ?_
              rintro W1 ⟨hW1p, hW1s⟩
              refine S_go (fun _ _ h => h) ?_
              refine T_seq ?_
              refine T_region ?_
              refine S_ 206 rfl rfl rfl _ (y_move rfl rfl) ?_
              refine S_ 207 rfl rfl rfl _ (y_move rfl rfl) ?_
              refine S_ 208 rfl rfl rfl _ (y_bin rfl rfl rfl (fun _ => b_lss)) ?_
              refine S_ 209 rfl rfl rfl _ (y_move rfl rfl) ?_
              refine Sg_ 210 rfl rfl rfl rfl rfl rfl _ (y_move rfl rfl) ?_
              refine Sg_ 211 rfl rfl rfl rfl rfl rfl _ (y_move rfl rfl) ?_
              refine Sg_ 212 rfl rfl rfl rfl rfl rfl _ (y_bin rfl rfl rfl (fun _ => b_lss)) ?_
              refine S_ 213 rfl rfl rfl _ (y_and rfl rfl rfl) ?_
              refine S_go (fun _ _ h => h) ?_
              refine T_cond rfl (fun h213 => ?_) (fun h213 => ?_)
              · skip
                simp only [Bool.and_eq_true, decide_eq_true_eq] at h213
                have lw1 := hW1p.length_eq
                rw [List.length_append] at lw1
                rw [show X ++ W1 ++ (U.drop i ++ V.drop (p - i) ++ Yt) = (X ++ W1) ++ (U.drop i ++ V.drop (p - i)) ++ Yt from by simp]
                refine T_region ?_
                refine S_ 214 rfl rfl rfl _ (y_move rfl rfl) ?_
                refine S_ 215 rfl rfl rfl _ (y_move rfl rfl) ?_
                refine S_ 216 rfl rfl rfl _ (y_move rfl rfl) ?_
                refine S_ 217 rfl rfl rfl _ (y_move rfl rfl) ?_
                refine S_ 218 rfl rfl rfl _ (y_move rfl rfl) ?_
                refine S_callM 219 [(0, 0)] (X := List SCrumb) rfl rfl rfl rfl rfl rfl rfl cf232 rfl (fun _ => .tuple #[]) (fun W => W.Perm (U.drop i ++ V.drop (p - i)) ∧ W.Pairwise R) (fun W => [(0, .own 78 3 (.slice A q c) q (((X ++ W1) ++ W ++ Yt).flatMap SCrumb.enc))]) (fun _ => rfl) (fun _ => rfl) (fun K1 hK1 w hM => ih hK1 A q c (X ++ W1) (U.drop i) (V.drop (p - i)) Yt (a + p) (m + (p - i)) b (by rw [List.length_append]; omega) (by omega) (by omega) (by omega) (by omega) (by omega) (by simp only [List.length_append]; omega) hqm (hU.sublist (List.drop_sublist _ _)) (hV.sublist (List.drop_sublist _ _)) (fun x hx y hy => hC x (List.mem_of_mem_drop hx) y (List.mem_of_mem_drop hy)) w hM) ?_
                rintro W2 ⟨hW2p, hW2s⟩
                refine S_nil (fun a w hF hM => hRn a w (post0 rfl (fun w hM => ?_) a w hF hM))
                exact ⟨W1 ++ W2, rfl, ⟨mrg_join hW1p hW2p, mrg_sorted hW1p hW2p hW1s hW2s hsp⟩, hM.keep (ks := [(0, 999)]) (by repeat (first | exact kl_rest (by assumption) rfl | (apply kl_in; focus rfl))) _ ⟨by rw [show X ++ (W1 ++ W2) ++ Yt = (X ++ W1) ++ W2 ++ Yt from by simp]; rfl, trivial⟩⟩
              · skip
                rw [show X ++ W1 ++ (U.drop i ++ V.drop (p - i) ++ Yt) = (X ++ W1) ++ (U.drop i ++ V.drop (p - i)) ++ Yt from by simp]
                obtain ⟨W2, hW2e, hW2p, hW2s⟩ : ∃ W2, W2 = U.drop i ++ V.drop (p - i) ∧ W2.Perm (U.drop i ++ V.drop (p - i)) ∧ W2.Pairwise R := ⟨_, rfl, .refl _, by
                  simp only [Bool.and_eq_false_iff, decide_eq_false_iff_not] at h213
                  rcases Nat.lt_or_ge i U.length with h | h
                  · rw [List.drop_eq_nil_of_le (by omega : V.length ≤ p - i), List.append_nil]; exact hU.sublist (List.drop_sublist _ _)
                  · rw [List.drop_eq_nil_of_le h, List.nil_append]; exact hV.sublist (List.drop_sublist _ _)⟩
                rw [← hW2e]
                refine T_skip (fun a w hF hM => hRn a w (post0 rfl (fun w hM => ?_) a w hF hM))
                exact ⟨W1 ++ W2, rfl, ⟨mrg_join hW1p hW2p, mrg_sorted hW1p hW2p hW1s hW2s hsp⟩, hM.keep (ks := [(0, 999)]) (by repeat (first | exact kl_rest (by assumption) rfl | (apply kl_in; focus rfl))) _ ⟨by rw [show X ++ (W1 ++ W2) ++ Yt = (X ++ W1) ++ W2 ++ Yt from by simp]; rfl, trivial⟩⟩
            · skip
              rw [show (X ++ U.take i) ++ (V.take (p - i) ++ U.drop i) ++ (V.drop (p - i) ++ Yt) = X ++ (U.take i ++ V.take (p - i)) ++ (U.drop i ++ V.drop (p - i) ++ Yt) from by simp]
              obtain ⟨W1, hW1e, hW1p, hW1s⟩ : ∃ W1, W1 = U.take i ++ V.take (p - i) ∧ W1.Perm (U.take i ++ V.take (p - i)) ∧ W1.Pairwise R := ⟨_, rfl, .refl _, by
                simp only [Bool.and_eq_false_iff, decide_eq_false_iff_not] at h199
                rcases Nat.eq_zero_or_pos i with h | h
                · subst h; rw [List.take_zero, List.nil_append]; exact hV.sublist (List.take_sublist _ _)
                · rw [show p - i = 0 by omega, List.take_zero, List.append_nil]; exact hU.sublist (List.take_sublist _ _)⟩
              rw [← hW1e]
              refine T_skip_go (fun _ _ h => h) ?_
              refine T_seq ?_
              refine T_region ?_
              refine S_ 206 rfl rfl rfl _ (y_move rfl rfl) ?_
              refine S_ 207 rfl rfl rfl _ (y_move rfl rfl) ?_
              refine S_ 208 rfl rfl rfl _ (y_bin rfl rfl rfl (fun _ => b_lss)) ?_
              refine S_ 209 rfl rfl rfl _ (y_move rfl rfl) ?_
              refine Sg_ 210 rfl rfl rfl rfl rfl rfl _ (y_move rfl rfl) ?_
              refine Sg_ 211 rfl rfl rfl rfl rfl rfl _ (y_move rfl rfl) ?_
              refine Sg_ 212 rfl rfl rfl rfl rfl rfl _ (y_bin rfl rfl rfl (fun _ => b_lss)) ?_
              refine S_ 213 rfl rfl rfl _ (y_and rfl rfl rfl) ?_
              refine S_go (fun _ _ h => h) ?_
              refine T_cond rfl (fun h213 => ?_) (fun h213 => ?_)
              · skip
                simp only [Bool.and_eq_true, decide_eq_true_eq] at h213
                have lw1 := hW1p.length_eq
                rw [List.length_append] at lw1
                rw [show X ++ W1 ++ (U.drop i ++ V.drop (p - i) ++ Yt) = (X ++ W1) ++ (U.drop i ++ V.drop (p - i)) ++ Yt from by simp]
                refine T_region ?_
                refine S_ 214 rfl rfl rfl _ (y_move rfl rfl) ?_
                refine S_ 215 rfl rfl rfl _ (y_move rfl rfl) ?_
                refine S_ 216 rfl rfl rfl _ (y_move rfl rfl) ?_
                refine S_ 217 rfl rfl rfl _ (y_move rfl rfl) ?_
                refine S_ 218 rfl rfl rfl _ (y_move rfl rfl) ?_
                refine S_callM 219 [(0, 0)] (X := List SCrumb) rfl rfl rfl rfl rfl rfl rfl cf232 rfl (fun _ => .tuple #[]) (fun W => W.Perm (U.drop i ++ V.drop (p - i)) ∧ W.Pairwise R) (fun W => [(0, .own 78 3 (.slice A q c) q (((X ++ W1) ++ W ++ Yt).flatMap SCrumb.enc))]) (fun _ => rfl) (fun _ => rfl) (fun K1 hK1 w hM => ih hK1 A q c (X ++ W1) (U.drop i) (V.drop (p - i)) Yt (a + p) (m + (p - i)) b (by rw [List.length_append]; omega) (by omega) (by omega) (by omega) (by omega) (by omega) (by simp only [List.length_append]; omega) hqm (hU.sublist (List.drop_sublist _ _)) (hV.sublist (List.drop_sublist _ _)) (fun x hx y hy => hC x (List.mem_of_mem_drop hx) y (List.mem_of_mem_drop hy)) w hM) ?_
                rintro W2 ⟨hW2p, hW2s⟩
                refine S_nil (fun a w hF hM => hRn a w (post0 rfl (fun w hM => ?_) a w hF hM))
                exact ⟨W1 ++ W2, rfl, ⟨mrg_join hW1p hW2p, mrg_sorted hW1p hW2p hW1s hW2s hsp⟩, hM.keep (ks := [(0, 999)]) (by repeat (first | exact kl_rest (by assumption) rfl | (apply kl_in; focus rfl))) _ ⟨by rw [show X ++ (W1 ++ W2) ++ Yt = (X ++ W1) ++ W2 ++ Yt from by simp]; rfl, trivial⟩⟩
              · skip
                rw [show X ++ W1 ++ (U.drop i ++ V.drop (p - i) ++ Yt) = (X ++ W1) ++ (U.drop i ++ V.drop (p - i)) ++ Yt from by simp]
                obtain ⟨W2, hW2e, hW2p, hW2s⟩ : ∃ W2, W2 = U.drop i ++ V.drop (p - i) ∧ W2.Perm (U.drop i ++ V.drop (p - i)) ∧ W2.Pairwise R := ⟨_, rfl, .refl _, by
                  simp only [Bool.and_eq_false_iff, decide_eq_false_iff_not] at h213
                  rcases Nat.lt_or_ge i U.length with h | h
                  · rw [List.drop_eq_nil_of_le (by omega : V.length ≤ p - i), List.append_nil]; exact hU.sublist (List.drop_sublist _ _)
                  · rw [List.drop_eq_nil_of_le h, List.nil_append]; exact hV.sublist (List.drop_sublist _ _)⟩
                rw [← hW2e]
                refine T_skip (fun a w hF hM => hRn a w (post0 rfl (fun w hM => ?_) a w hF hM))
                exact ⟨W1 ++ W2, rfl, ⟨mrg_join hW1p hW2p, mrg_sorted hW1p hW2p hW1s hW2s hsp⟩, hM.keep (ks := [(0, 999)]) (by repeat (first | exact kl_rest (by assumption) rfl | (apply kl_in; focus rfl))) _ ⟨by rw [show X ++ (W1 ++ W2) ++ Yt = (X ++ W1) ++ W2 ++ Yt from by simp]; rfl, trivial⟩⟩
      · try simp only [decide_eq_true_eq, decide_eq_false_iff_not, Bool.or_eq_true, Bool.or_eq_false_iff, Bool.and_eq_true, Bool.and_eq_false_iff, Bool.not_eq_true', Bool.not_eq_false', Bool.not_eq_true, Bool.not_eq_false, Bool.not_true, Bool.not_false, Int.not_lt, Int.not_le, not_or, not_and, Classical.not_not] at h140
        refine T_seq ?_
        refine T_region ?_
        refine S_ 145 rfl rfl rfl _ (y_as (v' := .int .i64 ((a + (p - V.length) : Nat) : Int)) (by congr 1; omega) (y_move rfl rfl)) ?_
        refine S_ 20 rfl rfl rfl _ (y_assign rfl rfl) ?_
        refine S_go (fun _ _ h => h) ?_
        refine T_region ?_
        refine S_ 146 rfl rfl rfl _ (y_as (v' := .int .i64 ((a + min p U.length : Nat) : Int)) (by congr 1; omega) (y_move rfl rfl)) ?_
        refine S_ 21 rfl rfl rfl _ (y_assign rfl rfl) ?_
        refine S_go (fun _ _ h => h) ?_
        refine T_seq ?_
        refine T_region ?_
        refine S_ 147 rfl rfl rfl _ (y_move rfl rfl) ?_
        refine S_ 148 rfl rfl rfl _ (y_bin rfl rfl rfl (fun hg => b_subv (((a + p + m - 1 : Nat) : Int)) (by omega) (by omega))) ?_
        refine S_ 22 rfl rfl rfl _ (y_assign rfl rfl) ?_
        refine S_go (fun _ _ h => h) ?_
        refine T_seq ?_
        refine T_block ?_
        refine T_loopK2 (kf := [(20, 21), (23, 23), (149, 174)]) (kl := [(20, 21), (23, 23), (149, 174)]) (fun (i r : Nat) => [(20, true, .int .i64 ((a + i : Nat) : Int)), (21, true, .int .i64 ((a + r : Nat) : Int))]) (fun (i r : Nat) => []) (fun (i r : Nat) => p - V.length ≤ i ∧ i ≤ r ∧ r ≤ min p U.length ∧ (∀ x y, p - V.length < i → U[i - 1]? = some x → V[p - i]? = some y → R x y) ∧ (∀ x y, r < min p U.length → V[p - 1 - r]? = some x → U[r]? = some y → R x y)) (fun (i r : Nat) => r - i) (p - V.length) (min p U.length) (by repeat (first | exact kf_nil | (apply kf_in; focus rfl) | (apply kf_out; focus rfl))) (by repeat (first | exact kl_nil | exact kl_rest (by assumption) rfl | (apply kl_in; focus rfl) | (apply kl_out; focus rfl))) ?_ ?_ ?_ ?_
        · exact ⟨by omega, by omega, by omega, fun x y h => absurd h (by omega), fun x y h => absurd h (by omega)⟩
        · exact ⟨rfl, rfl, trivial⟩
        · exact trivial
        rintro i r ⟨hq1, hq2, hq3, hq4, hq5⟩
        refine T_seq ?_
        refine T_seq ?_
        refine T_region ?_
        refine S_ 149 rfl rfl rfl _ (y_move rfl rfl) ?_
        refine S_ 150 rfl rfl rfl _ (y_move rfl rfl) ?_
        refine S_ 151 rfl rfl rfl _ (y_bin rfl rfl rfl (fun _ => b_lss)) ?_
        refine S_go (fun _ _ h => h) ?_
        refine T_cond rfl (fun h151 => ?_) (fun h151 => ?_)
        · try simp only [decide_eq_true_eq, decide_eq_false_iff_not, Bool.or_eq_true, Bool.or_eq_false_iff, Bool.and_eq_true, Bool.and_eq_false_iff, Bool.not_eq_true', Bool.not_eq_false', Bool.not_eq_true, Bool.not_eq_false, Bool.not_true, Bool.not_false, Int.not_lt, Int.not_le, not_or, not_and, Classical.not_not] at h151
          obtain ⟨k, hk1, hk2, hk3⟩ : ∃ k, (a + i + (a + r)) / 2 = a + k ∧ i ≤ k ∧ k < r := ⟨(a + i + (a + r)) / 2 - a, by omega, by omega, by omega⟩
          obtain ⟨x, hx⟩ := some_at (l := U) (i := k) (by omega)
          obtain ⟨y, hy⟩ := some_at (l := V) (i := p - 1 - k) (by omega)
          have hCxy := hC x (mem_at hx) y (mem_at hy)
          refine T_skip_go (fun _ _ h => h) ?_
          refine T_block ?_
          refine T_seq ?_
          refine T_region ?_
          refine S_ 152 rfl rfl rfl _ (y_move rfl rfl) ?_
          refine S_ 153 rfl rfl rfl _ (y_move rfl rfl) ?_
          refine S_ 154 rfl rfl rfl _ (y_bin rfl rfl rfl (fun hg => b_addv (((a + i + (a + r) : Nat) : Int)) (by omega) (by omega))) ?_
          refine S_ 155 rfl rfl rfl _ (y_as (v' := .int .u64 ((a + i + (a + r) : Nat) : Int)) (by congr 1; exact wrap64_in (by omega)) (y_conv rfl rfl Tryd.underlying3 Tryd.underlying195)) ?_
          refine S_ 156 rfl rfl rfl _ (y_bin rfl rfl rfl (fun hg => b_shrv ((((a + i + (a + r)) / 2 : Nat) : Int)) (by decide) (by decide) (by first | (simp; done) | (simp; omega)))) ?_
          refine S_ 157 rfl rfl rfl _ (y_as (v' := .int .i64 ((a + k : Nat) : Int)) (by congr 1; omega) (y_conv64 rfl rfl Tryd.underlying195 Tryd.underlying3 (fun _ => by omega))) ?_
          refine S_ 23 rfl rfl rfl _ (y_assign rfl rfl) ?_
          refine S_go (fun _ _ h => h) ?_
          refine T_seq ?_
          refine T_draws (by kernel_rfl) (by kernel_rfl) ?_
          refine D_ 158 rfl rfl rfl _ (y_move rfl rfl) ?_
          refine D_ 159 rfl rfl rfl _ (y_move rfl rfl) ?_
          refine D_ 160 rfl rfl rfl _ (y_move rfl rfl) ?_
          refine D_ 161 rfl rfl rfl _ (y_move rfl rfl) ?_
          refine D_ 162 rfl rfl rfl _ (y_bin rfl rfl rfl (fun hg => b_subv (((m + (p - 1 - k) : Nat) : Int)) (by omega) (by omega))) ?_
          refine D_ 163 rfl rfl rfl _ (y_indexAddr rfl rfl rfl Tryd.underlying50 sz78 (fun hg => hA (by omega)) (fun _ => by omega)) ?_
          refine D_ 164 rfl rfl rfl _ (y_loadO 0 rfl rfl rfl (by first | (rw [insL_len]; simp only [List.length_cons, List.length_nil] at *; omega) | (simp only [List.length_append]; omega)) (fun _ => rfl) (fun _ => cat_v hy (by omega)) Tryd.underlying78 rfl sz78) ?_
          refine D_ 165 rfl rfl rfl _ (y_move rfl rfl) ?_
          refine D_ 166 rfl rfl rfl _ (y_move rfl rfl) ?_
          refine D_ 167 rfl rfl rfl _ (y_indexAddr rfl rfl rfl Tryd.underlying50 sz78 (fun hg => hA (by omega)) (fun _ => by omega)) ?_
          refine D_ 168 rfl rfl rfl _ (y_loadO 0 rfl rfl rfl (by first | (rw [insL_len]; simp only [List.length_cons, List.length_nil] at *; omega) | (simp only [List.length_append]; omega)) (fun _ => rfl) (fun _ => cat_u hx (by omega)) Tryd.underlying78 rfl sz78) ?_
          refine D_ 169 rfl rfl rfl _ (y_call rfl rfl rfl hcf (fun _ w _ => hcmp y x w)) ?_
          refine D_ 170 rfl rfl rfl _ (y_bin rfl rfl rfl (fun _ => b_lss)) ?_
          refine D_ 171 rfl rfl rfl _ (y_not rfl rfl) ?_
          refine D_go (fun _ _ h => h) ?_
          refine T_cond rfl (fun h171 => ?_) (fun h171 => ?_)
          · skip
            have h171 : ¬ cf y x < 0 := by simpa using h171
            refine T_region ?_
            refine S_ 172 rfl rfl rfl _ (y_move rfl rfl) ?_
            refine S_ 173 rfl rfl rfl _ (y_bin rfl rfl rfl (fun hg => b_addv (((a + (k + 1) : Nat) : Int)) (by omega) (by omega))) ?_
            refine S_ 20 rfl rfl rfl _ (y_assign rfl rfl) ?_
            refine S_nil (nextK2 (kf := [(20, 21), (23, 23), (149, 174)]) (kl := [(20, 21), (23, 23), (149, 174)]) (k + 1) r (by repeat (first | exact kf_nil | (apply kf_in; focus rfl) | (apply kf_out; focus rfl))) (by repeat (first | exact kl_nil | exact kl_rest (by assumption) rfl | (apply kl_in; focus rfl) | (apply kl_out; focus rfl))) ?_ ?_ ?_ ?_)
            · omega
            · exact ⟨by omega, by omega, by omega, fun x1 y1 _ hx1 hy1 => by
                rw [Nat.add_sub_cancel, hx] at hx1
                rw [show p - (k + 1) = p - 1 - k by omega, hy] at hy1
                obtain rfl := Option.some.inj hx1
                obtain rfl := Option.some.inj hy1
                exact hCxy.2 h171, hq5⟩
            · exact ⟨rfl, rfl, trivial⟩
            · exact trivial
          · skip
            have h171 : cf y x < 0 := by simpa using h171
            refine T_region ?_
            refine S_ 174 rfl rfl rfl _ (y_move rfl rfl) ?_
            refine S_ 21 rfl rfl rfl _ (y_assign rfl rfl) ?_
            refine S_nil (nextK2 (kf := [(20, 21), (23, 23), (149, 174)]) (kl := [(20, 21), (23, 23), (149, 174)]) i k (by repeat (first | exact kf_nil | (apply kf_in; focus rfl) | (apply kf_out; focus rfl))) (by repeat (first | exact kl_nil | exact kl_rest (by assumption) rfl | (apply kl_in; focus rfl) | (apply kl_out; focus rfl))) ?_ ?_ ?_ ?_)
            · omega
            · exact ⟨by omega, by omega, by omega, hq4, fun x1 y1 _ hx1 hy1 => by
                rw [hy] at hx1
                rw [hx] at hy1
                obtain rfl := Option.some.inj hx1
                obtain rfl := Option.some.inj hy1
                exact hCxy.1 h171⟩
            · exact ⟨rfl, rfl, trivial⟩
            · exact trivial
        · try simp only [decide_eq_true_eq, decide_eq_false_iff_not, Bool.or_eq_true, Bool.or_eq_false_iff, Bool.and_eq_true, Bool.and_eq_false_iff, Bool.not_eq_true', Bool.not_eq_false', Bool.not_eq_true, Bool.not_eq_false, Bool.not_true, Bool.not_false, Int.not_lt, Int.not_le, not_or, not_and, Classical.not_not] at h151
          have hri : r = i := by omega
          have hsp := mrg_split tr hU hV (s := i) (e := p - i) (by omega) (by omega) (fun x y h0 hx hy => by
            rcases Nat.lt_or_ge (p - V.length) i with h | h
            · exact hq4 x y h hx hy
            · have := (List.getElem?_eq_some_iff.1 hy).1; omega) (fun x y h0 hx hy => by
            have := (List.getElem?_eq_some_iff.1 hy).1
            exact hq5 x y (by omega) (by rw [hri, show p - 1 - i = p - i - 1 by omega]; exact hx) (by rw [hri]; exact hy))
          have lu1 : (U.take i).length = i := by rw [List.length_take]; omega
          have lu2 : (U.drop i).length = U.length - i := List.length_drop
          have lv1 : (V.take (p - i)).length = p - i := by rw [List.length_take]; omega
          have lv2 : (V.drop (p - i)).length = V.length - (p - i) := List.length_drop
          rw [cut4 (i := i) (e := p - i)]
          refine T_exit_go (fun _ _ h => h) ?_
          refine T_seq ?_
          refine T_region ?_
          refine S_ 175 rfl rfl rfl _ (y_move rfl rfl) ?_
          refine S_ 176 rfl rfl rfl _ (y_move rfl rfl) ?_
          refine S_ 177 rfl rfl rfl _ (y_bin rfl rfl rfl (fun hg => b_subv (((m + (p - i) : Nat) : Int)) (by omega) (by omega))) ?_
          refine S_ 24 rfl rfl rfl _ (y_assign rfl rfl) ?_
          refine S_go (fun _ _ h => h) ?_
          refine T_seq ?_
          refine T_seq ?_
          refine T_region ?_
          refine S_ 178 rfl rfl rfl _ (y_move rfl rfl) ?_
          refine S_ 179 rfl rfl rfl _ (y_move rfl rfl) ?_
          refine S_ 180 rfl rfl rfl _ (y_bin rfl rfl rfl (fun _ => b_lss)) ?_
          refine S_ 181 rfl rfl rfl _ (y_move rfl rfl) ?_
          refine Sg_ 182 rfl rfl rfl rfl rfl rfl _ (y_move rfl rfl) ?_
          refine Sg_ 183 rfl rfl rfl rfl rfl rfl _ (y_move rfl rfl) ?_
          refine Sg_ 184 rfl rfl rfl rfl rfl rfl _ (y_bin rfl rfl rfl (fun _ => b_lss)) ?_
          refine S_ 185 rfl rfl rfl _ (y_and rfl rfl rfl) ?_
          refine S_go (fun _ _ h => h) ?_
          refine T_cond rfl (fun h185 => ?_) (fun h185 => ?_)
          · skip
            simp only [Bool.and_eq_true, decide_eq_true_eq] at h185
            refine T_region ?_
            refine S_ 186 rfl rfl rfl _ (y_move rfl rfl) ?_
            refine S_ 187 rfl rfl rfl _ (y_move rfl rfl) ?_
            refine S_ 188 rfl rfl rfl _ (y_move rfl rfl) ?_
            refine S_ 189 rfl rfl rfl _ (y_move rfl rfl) ?_
            refine S_ 190 rfl rfl rfl _ (y_move rfl rfl) ?_
            refine S_callM 191 [(0, 0)] (X := Unit) rfl rfl rfl rfl rfl rfl rfl cf269 rfl (fun _ => .tuple #[]) (fun _ => True) (fun _ => [(0, .own 78 3 (.slice A q c) q (((X ++ U.take i) ++ (V.take (p - i) ++ U.drop i) ++ (V.drop (p - i) ++ Yt)).flatMap SCrumb.enc))]) (fun _ => rfl) (fun _ => rfl) (fun K1 hK1 w hM => rotC_any hK1 _ A q c (X ++ U.take i) (U.drop i) (V.take (p - i)) (V.drop (p - i) ++ Yt) (a + i) m (m + (p - i)) (by rw [List.length_append]; omega) (by omega) (by omega) (by omega) (by omega) (by simp only [List.length_append]; omega) hqm w hM) ?_
            intro _ _
            refine S_go (fun _ _ h => h) ?_
            refine T_seq ?_
            refine T_seq ?_
            refine T_region ?_
            refine S_ 192 rfl rfl rfl _ (y_move rfl rfl) ?_
            refine S_ 193 rfl rfl rfl _ (y_move rfl rfl) ?_
            refine S_ 194 rfl rfl rfl _ (y_bin rfl rfl rfl (fun _ => b_lss)) ?_
            refine S_ 195 rfl rfl rfl _ (y_move rfl rfl) ?_
            refine Sg_ 196 rfl rfl rfl rfl rfl rfl _ (y_move rfl rfl) ?_
            refine Sg_ 197 rfl rfl rfl rfl rfl rfl _ (y_move rfl rfl) ?_
            refine Sg_ 198 rfl rfl rfl rfl rfl rfl _ (y_bin rfl rfl rfl (fun _ => b_lss)) ?_
            refine S_ 199 rfl rfl rfl _ (y_and rfl rfl rfl) ?_
            refine S_go (fun _ _ h => h) ?_
            refine T_cond rfl (fun h199 => ?_) (fun h199 => ?_)
            · skip
              simp only [Bool.and_eq_true, decide_eq_true_eq] at h199
              rw [show (X ++ U.take i) ++ (V.take (p - i) ++ U.drop i) ++ (V.drop (p - i) ++ Yt) = X ++ (U.take i ++ V.take (p - i)) ++ (U.drop i ++ V.drop (p - i) ++ Yt) from by simp]
              refine T_region ?_
              refine S_ 200 rfl rfl rfl _ (y_move rfl rfl) ?_
              refine S_ 201 rfl rfl rfl _ (y_move rfl rfl) ?_
              refine S_ 202 rfl rfl rfl _ (y_move rfl rfl) ?_
              refine S_ 203 rfl rfl rfl _ (y_move rfl rfl) ?_
              refine S_ 204 rfl rfl rfl _ (y_move rfl rfl) ?_
              refine S_callM 205 [(0, 0)] (X := List SCrumb) rfl rfl rfl rfl rfl rfl rfl cf232 rfl (fun _ => .tuple #[]) (fun W => W.Perm (U.take i ++ V.take (p - i)) ∧ W.Pairwise R) (fun W => [(0, .own 78 3 (.slice A q c) q ((X ++ W ++ (U.drop i ++ V.drop (p - i) ++ Yt)).flatMap SCrumb.enc))]) (fun _ => rfl) (fun _ => rfl) (fun K1 hK1 w hM => ih hK1 A q c X (U.take i) (V.take (p - i)) (U.drop i ++ V.drop (p - i) ++ Yt) a (a + i) (a + p) ha (by omega) (by omega) (by omega) (by omega) (by omega) (by simp only [List.length_append]; omega) hqm (hU.sublist (List.take_sublist _ _)) (hV.sublist (List.take_sublist _ _)) (fun x hx y hy => hC x (List.mem_of_mem_take hx) y (List.mem_of_mem_take hy)) w hM) ?_
              rintro W1 ⟨hW1p, hW1s⟩
              refine S_go (fun _ _ h => h) ?_
              refine T_seq ?_
              refine T_region ?_
              refine S_ 206 rfl rfl rfl _ (y_move rfl rfl) ?_
              refine S_ 207 rfl rfl rfl _ (y_move rfl rfl) ?_
              refine S_ 208 rfl rfl rfl _ (y_bin rfl rfl rfl (fun _ => b_lss)) ?_
              refine S_ 209 rfl rfl rfl _ (y_move rfl rfl) ?_
              refine Sg_ 210 rfl rfl rfl rfl rfl rfl _ (y_move rfl rfl) ?_
              refine Sg_ 211 rfl rfl rfl rfl rfl rfl _ (y_move rfl rfl) ?_
              refine Sg_ 212 rfl rfl rfl rfl rfl rfl _ (y_bin rfl rfl rfl (fun _ => b_lss)) ?_
              refine S_ 213 rfl rfl rfl _ (y_and rfl rfl rfl) ?_
              refine S_go (fun _ _ h => h) ?_
              refine T_cond rfl (fun h213 => ?_) (fun h213 => ?_)
              · skip
                simp only [Bool.and_eq_true, decide_eq_true_eq] at h213
                have lw1 := hW1p.length_eq
                rw [List.length_append] at lw1
                rw [show X ++ W1 ++ (U.drop i ++ V.drop (p - i) ++ Yt) = (X ++ W1) ++ (U.drop i ++ V.drop (p - i)) ++ Yt from by simp]
                refine T_region ?_
                refine S_ 214 rfl rfl rfl _ (y_move rfl rfl) ?_
                refine S_ 215 rfl rfl rfl _ (y_move rfl rfl) ?_
                refine S_ 216 rfl rfl rfl _ (y_move rfl rfl) ?_
                refine S_ 217 rfl rfl rfl _ (y_move rfl rfl) ?_
                refine S_ 218 rfl rfl rfl _ (y_move rfl rfl) ?_
                refine S_callM 219 [(0, 0)] (X := List SCrumb) rfl rfl rfl rfl rfl rfl rfl cf232 rfl (fun _ => .tuple #[]) (fun W => W.Perm (U.drop i ++ V.drop (p - i)) ∧ W.Pairwise R) (fun W => [(0, .own 78 3 (.slice A q c) q (((X ++ W1) ++ W ++ Yt).flatMap SCrumb.enc))]) (fun _ => rfl) (fun _ => rfl) (fun K1 hK1 w hM => ih hK1 A q c (X ++ W1) (U.drop i) (V.drop (p - i)) Yt (a + p) (m + (p - i)) b (by rw [List.length_append]; omega) (by omega) (by omega) (by omega) (by omega) (by omega) (by simp only [List.length_append]; omega) hqm (hU.sublist (List.drop_sublist _ _)) (hV.sublist (List.drop_sublist _ _)) (fun x hx y hy => hC x (List.mem_of_mem_drop hx) y (List.mem_of_mem_drop hy)) w hM) ?_
                rintro W2 ⟨hW2p, hW2s⟩
                refine S_nil (fun a w hF hM => hRn a w (post0 rfl (fun w hM => ?_) a w hF hM))
                exact ⟨W1 ++ W2, rfl, ⟨mrg_join hW1p hW2p, mrg_sorted hW1p hW2p hW1s hW2s hsp⟩, hM.keep (ks := [(0, 999)]) (by repeat (first | exact kl_rest (by assumption) rfl | (apply kl_in; focus rfl))) _ ⟨by rw [show X ++ (W1 ++ W2) ++ Yt = (X ++ W1) ++ W2 ++ Yt from by simp]; rfl, trivial⟩⟩
              · skip
                rw [show X ++ W1 ++ (U.drop i ++ V.drop (p - i) ++ Yt) = (X ++ W1) ++ (U.drop i ++ V.drop (p - i)) ++ Yt from by simp]
                obtain ⟨W2, hW2e, hW2p, hW2s⟩ : ∃ W2, W2 = U.drop i ++ V.drop (p - i) ∧ W2.Perm (U.drop i ++ V.drop (p - i)) ∧ W2.Pairwise R := ⟨_, rfl, .refl _, by
                  simp only [Bool.and_eq_false_iff, decide_eq_false_iff_not] at h213
                  rcases Nat.lt_or_ge i U.length with h | h
                  · rw [List.drop_eq_nil_of_le (by omega : V.length ≤ p - i), List.append_nil]; exact hU.sublist (List.drop_sublist _ _)
                  · rw [List.drop_eq_nil_of_le h, List.nil_append]; exact hV.sublist (List.drop_sublist _ _)⟩
                rw [← hW2e]
                refine T_skip (fun a w hF hM => hRn a w (post0 rfl (fun w hM => ?_) a w hF hM))
                exact ⟨W1 ++ W2, rfl, ⟨mrg_join hW1p hW2p, mrg_sorted hW1p hW2p hW1s hW2s hsp⟩, hM.keep (ks := [(0, 999)]) (by repeat (first | exact kl_rest (by assumption) rfl | (apply kl_in; focus rfl))) _ ⟨by rw [show X ++ (W1 ++ W2) ++ Yt = (X ++ W1) ++ W2 ++ Yt from by simp]; rfl, trivial⟩⟩
            · skip
              rw [show (X ++ U.take i) ++ (V.take (p - i) ++ U.drop i) ++ (V.drop (p - i) ++ Yt) = X ++ (U.take i ++ V.take (p - i)) ++ (U.drop i ++ V.drop (p - i) ++ Yt) from by simp]
              obtain ⟨W1, hW1e, hW1p, hW1s⟩ : ∃ W1, W1 = U.take i ++ V.take (p - i) ∧ W1.Perm (U.take i ++ V.take (p - i)) ∧ W1.Pairwise R := ⟨_, rfl, .refl _, by
                simp only [Bool.and_eq_false_iff, decide_eq_false_iff_not] at h199
                rcases Nat.eq_zero_or_pos i with h | h
                · subst h; rw [List.take_zero, List.nil_append]; exact hV.sublist (List.take_sublist _ _)
                · rw [show p - i = 0 by omega, List.take_zero, List.append_nil]; exact hU.sublist (List.take_sublist _ _)⟩
              rw [← hW1e]
              refine T_skip_go (fun _ _ h => h) ?_
              refine T_seq ?_
              refine T_region ?_
              refine S_ 206 rfl rfl rfl _ (y_move rfl rfl) ?_
              refine S_ 207 rfl rfl rfl _ (y_move rfl rfl) ?_
              refine S_ 208 rfl rfl rfl _ (y_bin rfl rfl rfl (fun _ => b_lss)) ?_
              refine S_ 209 rfl rfl rfl _ (y_move rfl rfl) ?_
              refine Sg_ 210 rfl rfl rfl rfl rfl rfl _ (y_move rfl rfl) ?_
              refine Sg_ 211 rfl rfl rfl rfl rfl rfl _ (y_move rfl rfl) ?_
              refine Sg_ 212 rfl rfl rfl rfl rfl rfl _ (y_bin rfl rfl rfl (fun _ => b_lss)) ?_
              refine S_ 213 rfl rfl rfl _ (y_and rfl rfl rfl) ?_
              refine S_go (fun _ _ h => h) ?_
              refine T_cond rfl (fun h213 => ?_) (fun h213 => ?_)
              · skip
                simp only [Bool.and_eq_true, decide_eq_true_eq] at h213
                have lw1 := hW1p.length_eq
                rw [List.length_append] at lw1
                rw [show X ++ W1 ++ (U.drop i ++ V.drop (p - i) ++ Yt) = (X ++ W1) ++ (U.drop i ++ V.drop (p - i)) ++ Yt from by simp]
                refine T_region ?_
                refine S_ 214 rfl rfl rfl _ (y_move rfl rfl) ?_
                refine S_ 215 rfl rfl rfl _ (y_move rfl rfl) ?_
                refine S_ 216 rfl rfl rfl _ (y_move rfl rfl) ?_
                refine S_ 217 rfl rfl rfl _ (y_move rfl rfl) ?_
                refine S_ 218 rfl rfl rfl _ (y_move rfl rfl) ?_
                refine S_callM 219 [(0, 0)] (X := List SCrumb) rfl rfl rfl rfl rfl rfl rfl cf232 rfl (fun _ => .tuple #[]) (fun W => W.Perm (U.drop i ++ V.drop (p - i)) ∧ W.Pairwise R) (fun W => [(0, .own 78 3 (.slice A q c) q (((X ++ W1) ++ W ++ Yt).flatMap SCrumb.enc))]) (fun _ => rfl) (fun _ => rfl) (fun K1 hK1 w hM => ih hK1 A q c (X ++ W1) (U.drop i) (V.drop (p - i)) Yt (a + p) (m + (p - i)) b (by rw [List.length_append]; omega) (by omega) (by omega) (by omega) (by omega) (by omega) (by simp only [List.length_append]; omega) hqm (hU.sublist (List.drop_sublist _ _)) (hV.sublist (List.drop_sublist _ _)) (fun x hx y hy => hC x (List.mem_of_mem_drop hx) y (List.mem_of_mem_drop hy)) w hM) ?_
                rintro W2 ⟨hW2p, hW2s⟩
                refine S_nil (fun a w hF hM => hRn a w (post0 rfl (fun w hM => ?_) a w hF hM))
                exact ⟨W1 ++ W2, rfl, ⟨mrg_join hW1p hW2p, mrg_sorted hW1p hW2p hW1s hW2s hsp⟩, hM.keep (ks := [(0, 999)]) (by repeat (first | exact kl_rest (by assumption) rfl | (apply kl_in; focus rfl))) _ ⟨by rw [show X ++ (W1 ++ W2) ++ Yt = (X ++ W1) ++ W2 ++ Yt from by simp]; rfl, trivial⟩⟩
              · skip
                rw [show X ++ W1 ++ (U.drop i ++ V.drop (p - i) ++ Yt) = (X ++ W1) ++ (U.drop i ++ V.drop (p - i)) ++ Yt from by simp]
                obtain ⟨W2, hW2e, hW2p, hW2s⟩ : ∃ W2, W2 = U.drop i ++ V.drop (p - i) ∧ W2.Perm (U.drop i ++ V.drop (p - i)) ∧ W2.Pairwise R := ⟨_, rfl, .refl _, by
                  simp only [Bool.and_eq_false_iff, decide_eq_false_iff_not] at h213
                  rcases Nat.lt_or_ge i U.length with h | h
                  · rw [List.drop_eq_nil_of_le (by omega : V.length ≤ p - i), List.append_nil]; exact hU.sublist (List.drop_sublist _ _)
                  · rw [List.drop_eq_nil_of_le h, List.nil_append]; exact hV.sublist (List.drop_sublist _ _)⟩
                rw [← hW2e]
                refine T_skip (fun a w hF hM => hRn a w (post0 rfl (fun w hM => ?_) a w hF hM))
                exact ⟨W1 ++ W2, rfl, ⟨mrg_join hW1p hW2p, mrg_sorted hW1p hW2p hW1s hW2s hsp⟩, hM.keep (ks := [(0, 999)]) (by repeat (first | exact kl_rest (by assumption) rfl | (apply kl_in; focus rfl))) _ ⟨by rw [show X ++ (W1 ++ W2) ++ Yt = (X ++ W1) ++ W2 ++ Yt from by simp]; rfl, trivial⟩⟩
          · skip
            rw [nil_or (U := U) (V := V) (i := i) (e := p - i) (by intro h; simp only [Bool.and_eq_false_iff, decide_eq_false_iff_not] at h185; omega)]
            refine T_skip_go (fun _ _ h => h) ?_
            refine T_seq ?_
            refine T_seq ?_
            refine T_region ?_
            refine S_ 192 rfl rfl rfl _ (y_move rfl rfl) ?_
            refine S_ 193 rfl rfl rfl _ (y_move rfl rfl) ?_
            refine S_ 194 rfl rfl rfl _ (y_bin rfl rfl rfl (fun _ => b_lss)) ?_
            refine S_ 195 rfl rfl rfl _ (y_move rfl rfl) ?_
            refine Sg_ 196 rfl rfl rfl rfl rfl rfl _ (y_move rfl rfl) ?_
            refine Sg_ 197 rfl rfl rfl rfl rfl rfl _ (y_move rfl rfl) ?_
            refine Sg_ 198 rfl rfl rfl rfl rfl rfl _ (y_bin rfl rfl rfl (fun _ => b_lss)) ?_
            refine S_ 199 rfl rfl rfl _ (y_and rfl rfl rfl) ?_
            refine S_go (fun _ _ h => h) ?_
            refine T_cond rfl (fun h199 => ?_) (fun h199 => ?_)
            · skip
              simp only [Bool.and_eq_true, decide_eq_true_eq] at h199
              rw [show (X ++ U.take i) ++ (V.take (p - i) ++ U.drop i) ++ (V.drop (p - i) ++ Yt) = X ++ (U.take i ++ V.take (p - i)) ++ (U.drop i ++ V.drop (p - i) ++ Yt) from by simp]
              refine T_region ?_
              refine S_ 200 rfl rfl rfl _ (y_move rfl rfl) ?_
              refine S_ 201 rfl rfl rfl _ (y_move rfl rfl) ?_
              refine S_ 202 rfl rfl rfl _ (y_move rfl rfl) ?_
              refine S_ 203 rfl rfl rfl _ (y_move rfl rfl) ?_
              refine S_ 204 rfl rfl rfl _ (y_move rfl rfl) ?_
              refine S_callM 205 [(0, 0)] (X := List SCrumb) rfl rfl rfl rfl rfl rfl rfl cf232 rfl (fun _ => .tuple #[]) (fun W => W.Perm (U.take i ++ V.take (p - i)) ∧ W.Pairwise R) (fun W => [(0, .own 78 3 (.slice A q c) q ((X ++ W ++ (U.drop i ++ V.drop (p - i) ++ Yt)).flatMap SCrumb.enc))]) (fun _ => rfl) (fun _ => rfl) (fun K1 hK1 w hM => ih hK1 A q c X (U.take i) (V.take (p - i)) (U.drop i ++ V.drop (p - i) ++ Yt) a (a + i) (a + p) ha (by omega) (by omega) (by omega) (by omega) (by omega) (by simp only [List.length_append]; omega) hqm (hU.sublist (List.take_sublist _ _)) (hV.sublist (List.take_sublist _ _)) (fun x hx y hy => hC x (List.mem_of_mem_take hx) y (List.mem_of_mem_take hy)) w hM) ?_
              rintro W1 ⟨hW1p, hW1s⟩
              refine S_go (fun _ _ h => h) ?_
              refine T_seq ?_
              refine T_region ?_
              refine S_ 206 rfl rfl rfl _ (y_move rfl rfl) ?_
              refine S_ 207 rfl rfl rfl _ (y_move rfl rfl) ?_
              refine S_ 208 rfl rfl rfl _ (y_bin rfl rfl rfl (fun _ => b_lss)) ?_
              refine S_ 209 rfl rfl rfl _ (y_move rfl rfl) ?_
              refine Sg_ 210 rfl rfl rfl rfl rfl rfl _ (y_move rfl rfl) ?_
              refine Sg_ 211 rfl rfl rfl rfl rfl rfl _ (y_move rfl rfl) ?_
              refine Sg_ 212 rfl rfl rfl rfl rfl rfl _ (y_bin rfl rfl rfl (fun _ => b_lss)) ?_
              refine S_ 213 rfl rfl rfl _ (y_and rfl rfl rfl) ?_
              refine S_go (fun _ _ h => h) ?_
              refine T_cond rfl (fun h213 => ?_) (fun h213 => ?_)
              · skip
                simp only [Bool.and_eq_true, decide_eq_true_eq] at h213
                have lw1 := hW1p.length_eq
                rw [List.length_append] at lw1
                rw [show X ++ W1 ++ (U.drop i ++ V.drop (p - i) ++ Yt) = (X ++ W1) ++ (U.drop i ++ V.drop (p - i)) ++ Yt from by simp]
                refine T_region ?_
                refine S_ 214 rfl rfl rfl _ (y_move rfl rfl) ?_
                refine S_ 215 rfl rfl rfl _ (y_move rfl rfl) ?_
                refine S_ 216 rfl rfl rfl _ (y_move rfl rfl) ?_
                refine S_ 217 rfl rfl rfl _ (y_move rfl rfl) ?_
                refine S_ 218 rfl rfl rfl _ (y_move rfl rfl) ?_
                refine S_callM 219 [(0, 0)] (X := List SCrumb) rfl rfl rfl rfl rfl rfl rfl cf232 rfl (fun _ => .tuple #[]) (fun W => W.Perm (U.drop i ++ V.drop (p - i)) ∧ W.Pairwise R) (fun W => [(0, .own 78 3 (.slice A q c) q (((X ++ W1) ++ W ++ Yt).flatMap SCrumb.enc))]) (fun _ => rfl) (fun _ => rfl) (fun K1 hK1 w hM => ih hK1 A q c (X ++ W1) (U.drop i) (V.drop (p - i)) Yt (a + p) (m + (p - i)) b (by rw [List.length_append]; omega) (by omega) (by omega) (by omega) (by omega) (by omega) (by simp only [List.length_append]; omega) hqm (hU.sublist (List.drop_sublist _ _)) (hV.sublist (List.drop_sublist _ _)) (fun x hx y hy => hC x (List.mem_of_mem_drop hx) y (List.mem_of_mem_drop hy)) w hM) ?_
                rintro W2 ⟨hW2p, hW2s⟩
                refine S_nil (fun a w hF hM => hRn a w (post0 rfl (fun w hM => ?_) a w hF hM))
                exact ⟨W1 ++ W2, rfl, ⟨mrg_join hW1p hW2p, mrg_sorted hW1p hW2p hW1s hW2s hsp⟩, hM.keep (ks := [(0, 999)]) (by repeat (first | exact kl_rest (by assumption) rfl | (apply kl_in; focus rfl))) _ ⟨by rw [show X ++ (W1 ++ W2) ++ Yt = (X ++ W1) ++ W2 ++ Yt from by simp]; rfl, trivial⟩⟩
              · skip
                rw [show X ++ W1 ++ (U.drop i ++ V.drop (p - i) ++ Yt) = (X ++ W1) ++ (U.drop i ++ V.drop (p - i)) ++ Yt from by simp]
                obtain ⟨W2, hW2e, hW2p, hW2s⟩ : ∃ W2, W2 = U.drop i ++ V.drop (p - i) ∧ W2.Perm (U.drop i ++ V.drop (p - i)) ∧ W2.Pairwise R := ⟨_, rfl, .refl _, by
                  simp only [Bool.and_eq_false_iff, decide_eq_false_iff_not] at h213
                  rcases Nat.lt_or_ge i U.length with h | h
                  · rw [List.drop_eq_nil_of_le (by omega : V.length ≤ p - i), List.append_nil]; exact hU.sublist (List.drop_sublist _ _)
                  · rw [List.drop_eq_nil_of_le h, List.nil_append]; exact hV.sublist (List.drop_sublist _ _)⟩
                rw [← hW2e]
                refine T_skip (fun a w hF hM => hRn a w (post0 rfl (fun w hM => ?_) a w hF hM))
                exact ⟨W1 ++ W2, rfl, ⟨mrg_join hW1p hW2p, mrg_sorted hW1p hW2p hW1s hW2s hsp⟩, hM.keep (ks := [(0, 999)]) (by repeat (first | exact kl_rest (by assumption) rfl | (apply kl_in; focus rfl))) _ ⟨by rw [show X ++ (W1 ++ W2) ++ Yt = (X ++ W1) ++ W2 ++ Yt from by simp]; rfl, trivial⟩⟩
            · skip
              rw [show (X ++ U.take i) ++ (V.take (p - i) ++ U.drop i) ++ (V.drop (p - i) ++ Yt) = X ++ (U.take i ++ V.take (p - i)) ++ (U.drop i ++ V.drop (p - i) ++ Yt) from by simp]
              obtain ⟨W1, hW1e, hW1p, hW1s⟩ : ∃ W1, W1 = U.take i ++ V.take (p - i) ∧ W1.Perm (U.take i ++ V.take (p - i)) ∧ W1.Pairwise R := ⟨_, rfl, .refl _, by
                simp only [Bool.and_eq_false_iff, decide_eq_false_iff_not] at h199
                rcases Nat.eq_zero_or_pos i with h | h
                · subst h; rw [List.take_zero, List.nil_append]; exact hV.sublist (List.take_sublist _ _)
                · rw [show p - i = 0 by omega, List.take_zero, List.append_nil]; exact hU.sublist (List.take_sublist _ _)⟩
              rw [← hW1e]
              refine T_skip_go (fun _ _ h => h) ?_
              refine T_seq ?_
              refine T_region ?_
              refine S_ 206 rfl rfl rfl _ (y_move rfl rfl) ?_
              refine S_ 207 rfl rfl rfl _ (y_move rfl rfl) ?_
              refine S_ 208 rfl rfl rfl _ (y_bin rfl rfl rfl (fun _ => b_lss)) ?_
              refine S_ 209 rfl rfl rfl _ (y_move rfl rfl) ?_
              refine Sg_ 210 rfl rfl rfl rfl rfl rfl _ (y_move rfl rfl) ?_
              refine Sg_ 211 rfl rfl rfl rfl rfl rfl _ (y_move rfl rfl) ?_
              refine Sg_ 212 rfl rfl rfl rfl rfl rfl _ (y_bin rfl rfl rfl (fun _ => b_lss)) ?_
              refine S_ 213 rfl rfl rfl _ (y_and rfl rfl rfl) ?_
              refine S_go (fun _ _ h => h) ?_
              refine T_cond rfl (fun h213 => ?_) (fun h213 => ?_)
              · skip
                simp only [Bool.and_eq_true, decide_eq_true_eq] at h213
                have lw1 := hW1p.length_eq
                rw [List.length_append] at lw1
                rw [show X ++ W1 ++ (U.drop i ++ V.drop (p - i) ++ Yt) = (X ++ W1) ++ (U.drop i ++ V.drop (p - i)) ++ Yt from by simp]
                refine T_region ?_
                refine S_ 214 rfl rfl rfl _ (y_move rfl rfl) ?_
                refine S_ 215 rfl rfl rfl _ (y_move rfl rfl) ?_
                refine S_ 216 rfl rfl rfl _ (y_move rfl rfl) ?_
                refine S_ 217 rfl rfl rfl _ (y_move rfl rfl) ?_
                refine S_ 218 rfl rfl rfl _ (y_move rfl rfl) ?_
                refine S_callM 219 [(0, 0)] (X := List SCrumb) rfl rfl rfl rfl rfl rfl rfl cf232 rfl (fun _ => .tuple #[]) (fun W => W.Perm (U.drop i ++ V.drop (p - i)) ∧ W.Pairwise R) (fun W => [(0, .own 78 3 (.slice A q c) q (((X ++ W1) ++ W ++ Yt).flatMap SCrumb.enc))]) (fun _ => rfl) (fun _ => rfl) (fun K1 hK1 w hM => ih hK1 A q c (X ++ W1) (U.drop i) (V.drop (p - i)) Yt (a + p) (m + (p - i)) b (by rw [List.length_append]; omega) (by omega) (by omega) (by omega) (by omega) (by omega) (by simp only [List.length_append]; omega) hqm (hU.sublist (List.drop_sublist _ _)) (hV.sublist (List.drop_sublist _ _)) (fun x hx y hy => hC x (List.mem_of_mem_drop hx) y (List.mem_of_mem_drop hy)) w hM) ?_
                rintro W2 ⟨hW2p, hW2s⟩
                refine S_nil (fun a w hF hM => hRn a w (post0 rfl (fun w hM => ?_) a w hF hM))
                exact ⟨W1 ++ W2, rfl, ⟨mrg_join hW1p hW2p, mrg_sorted hW1p hW2p hW1s hW2s hsp⟩, hM.keep (ks := [(0, 999)]) (by repeat (first | exact kl_rest (by assumption) rfl | (apply kl_in; focus rfl))) _ ⟨by rw [show X ++ (W1 ++ W2) ++ Yt = (X ++ W1) ++ W2 ++ Yt from by simp]; rfl, trivial⟩⟩
              · skip
                rw [show X ++ W1 ++ (U.drop i ++ V.drop (p - i) ++ Yt) = (X ++ W1) ++ (U.drop i ++ V.drop (p - i)) ++ Yt from by simp]
                obtain ⟨W2, hW2e, hW2p, hW2s⟩ : ∃ W2, W2 = U.drop i ++ V.drop (p - i) ∧ W2.Perm (U.drop i ++ V.drop (p - i)) ∧ W2.Pairwise R := ⟨_, rfl, .refl _, by
                  simp only [Bool.and_eq_false_iff, decide_eq_false_iff_not] at h213
                  rcases Nat.lt_or_ge i U.length with h | h
                  · rw [List.drop_eq_nil_of_le (by omega : V.length ≤ p - i), List.append_nil]; exact hU.sublist (List.drop_sublist _ _)
                  · rw [List.drop_eq_nil_of_le h, List.nil_append]; exact hV.sublist (List.drop_sublist _ _)⟩
                rw [← hW2e]
                refine T_skip (fun a w hF hM => hRn a w (post0 rfl (fun w hM => ?_) a w hF hM))
                exact ⟨W1 ++ W2, rfl, ⟨mrg_join hW1p hW2p, mrg_sorted hW1p hW2p hW1s hW2s hsp⟩, hM.keep (ks := [(0, 999)]) (by repeat (first | exact kl_rest (by assumption) rfl | (apply kl_in; focus rfl))) _ ⟨by rw [show X ++ (W1 ++ W2) ++ Yt = (X ++ W1) ++ W2 ++ Yt from by simp]; rfl, trivial⟩⟩
end Go.Proofs.YtoeipmepmlikcaaDoor
