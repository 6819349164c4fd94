/- slices.SortStableFunc walked, first part: rows that change places, insertion. Conditions: those of each theorem. -/
import Derived.Test.YtoeipmepmlikcaaDoorMrg
import Derived.Test.YtoeipmepmlikcaaDoorEOpen
import Derived.Test.YtoeipmepmlikcaaDoorSwp
namespace Go.Proofs.YtoeipmepmlikcaaDoor
set_option linter.unusedSimpArgs false
set_option linter.unusedVariables false
set_option maxRecDepth 20000
open Go.RowKit Go.Eng
theorem take1_pw {α : Type} {R : α → α → Prop} : ∀ l : List α, (l.take 1).Pairwise R
  | [] => .nil
  | a :: r => by simp
theorem pair_at {α : Type} {C : α → α → Prop} {P : List α} {x y : α} {k : Nat} (h : P.Pairwise C) (hy : y ∈ P.take k) (hx : P[k]? = some x) : C y x := by
  obtain ⟨i, hi, hy⟩ := mem_take_at hy
  obtain ⟨h1, rfl⟩ := List.getElem?_eq_some_iff.1 hx
  obtain ⟨h2, rfl⟩ := List.getElem?_eq_some_iff.1 hy
  exact List.pairwise_iff_getElem.1 h i k h2 h1 hi
theorem some_at {α : Type} {l : List α} {i : Nat} (h : i < l.length) : ∃ x, l[i]? = some x := ⟨_, List.getElem?_eq_getElem h⟩
theorem T_some {P : Program} {w0 : World} {n : Nat} {k : Code} {F : FL} {L : HL} {Q : Exit → Act → World → Prop} (i : Nat) {e : TypeId} {size q c : Nat} {A : Option Addr} {xs : List Value} (hL : L.get i = some (.own e size (.slice A q c) q xs)) (h : (0 < q → A.isSome = true) → T P w0 n k F L Q) : T P w0 n k F L Q :=
  fun a w hF hM => h (fun h0 => SlR.isSome (own_reads hM hL) h0) a w hF hM
theorem swapC_any {w0 : World} {K : HL} (hK : FromK K) (cf : Value) (A : Option Addr) (q c : Nat) (X U M V Yt : List SCrumb) (n a b : Nat) (hU : U.length = n) (hV : V.length = n) (ha : X.length = a) (hb : a + n + M.length = b) (hq : (X ++ U ++ M ++ V ++ Yt).length = q) (hqm : q ≤ 1000000000) (w : World)
    (hM0 : Mem w0 ([(0, .own 78 3 (.slice A q c) q ((X ++ U ++ M ++ V ++ Yt).flatMap SCrumb.enc))] ++ K) w) :
    Calls Tryd.prog 290 #[.slice A q c, .int .i64 (a : Int), .int .i64 (b : Int), .int .i64 (n : Int), cf] w fun e w' => ∃ _ : Unit, e = .returned (.tuple #[]) ∧ True ∧ Mem w0 ([(0, .own 78 3 (.slice A q c) q ((X ++ V ++ M ++ U ++ Yt).flatMap SCrumb.enc))] ++ K) w' := by
  rw [← swR_0] at hM0
  simp only [List.length_append] at hq
  refine enterM_args (args := [.slice A q c, .int .i64 (a : Int), .int .i64 (b : Int), .int .i64 (n : Int), cf]) (F := _) hM0 Tryd.func290 rfl Tryd.ntmps290 rfl rfl ?_
  intro Rb hRb hRn
  refine T_some 0 rfl fun hA => ?_
  refine T_seq ?_
  refine T_region ?_
  refine S_ 10 rfl rfl rfl _ (y_assign rfl rfl) ?_
  refine S_go (fun _ _ h => h) ?_
  refine T_block ?_
  refine T_loopK1 (kf := [(10, 37)]) (kl := [(0, 0), (10, 37)]) (fun (i : Nat) => [(10, true, .int .i64 (i : Int))]) (fun (i : Nat) => [(0, .own 78 3 (.slice A q c) q ((swR X U M V Yt i).flatMap SCrumb.enc))]) (fun (i : Nat) => i ≤ n) (fun (i : Nat) => n - i) 0 (by repeat (first | exact kf_nil | (apply kf_in; focus rfl) | (apply kf_out; focus rfl))) (by repeat (first | exact kl_nil | exact kl_rest (by assumption) rfl | (apply kl_in; focus rfl) | (apply kl_out; focus rfl))) ?_ ?_ ?_ ?_
  · omega
  · exact ⟨rfl, trivial⟩
  · exact ⟨rfl, trivial⟩
  rintro i hp1
  refine T_seq ?_
  refine T_seq ?_
  refine T_region ?_
  refine S_ 11 rfl rfl rfl _ (y_move rfl rfl) ?_
  refine S_ 12 rfl rfl rfl _ (y_move rfl rfl) ?_
  refine S_ 13 rfl rfl rfl _ (y_bin rfl rfl rfl (fun _ => b_lss)) ?_
  refine S_go (fun _ _ h => h) ?_
  refine T_cond rfl (fun h13 => ?_) (fun h13 => ?_)
  · try simp only [decide_eq_true_eq, decide_eq_false_iff_not, Bool.or_eq_true, Bool.or_eq_false_iff, Bool.and_eq_true, Bool.and_eq_false_iff, Bool.not_eq_true', Bool.not_eq_false', Bool.not_eq_true, Bool.not_eq_false, Bool.not_true, Bool.not_false, Int.not_lt, Int.not_le, not_or, not_and, Classical.not_not] at h13
    obtain ⟨u, hu⟩ := some_at (l := U) (i := i) (by omega)
    obtain ⟨v, hv⟩ := some_at (l := V) (i := i) (by omega)
    refine T_skip_go (fun _ _ h => h) ?_
    refine T_seq ?_
    refine T_block ?_
    refine T_perm [0, 1, 2, 3, 4, 5, 6, 7, 8, 9, 10, 11, 12, 13, 14, 15, 16, 17, 18, 19, 20, 21, 22, 23] [true, true, true, true, true, true, true, true, true, true, true, true, true, true, true, true, true, true, true, true, true, false, true, false] [0, 0, 0, 6, 0, 0, 0, 96, 0, 0, 0, 1536, 3840, 7936, 0, 0, 0, 98304, 245760, 507904, 1048335, 2096911, 4194303, 8388607] [(13, [0]), (19, [0])] (by kernel_rfl) (by kernel_rfl) (by kernel_rfl) rfl (by kernel_rfl) ?_
    refine Rf_ 0 16 rfl rfl rfl rfl rfl _ trivial (Y.z (y_move rfl rfl) rfl) ?_
    refine Rf_ 1 17 rfl rfl rfl rfl rfl _ trivial (Y.z (y_move rfl rfl) rfl) ?_
    refine Rf_ 2 18 rfl rfl rfl rfl rfl _ trivial (Y.z (y_move rfl rfl) rfl) ?_
    refine Rf_ 3 19 rfl rfl rfl rfl rfl _ trivial (Y.z (y_bin rfl rfl rfl (fun hg => b_addv (((a + i : Nat) : Int)) (by omega) (by omega))) rfl) ?_
    refine Rf_ 4 20 rfl rfl rfl rfl rfl _ trivial (Y.z (y_move rfl rfl) rfl) ?_
    refine Rf_ 5 21 rfl rfl rfl rfl rfl _ trivial (Y.z (y_move rfl rfl) rfl) ?_
    refine Rf_ 6 22 rfl rfl rfl rfl rfl _ trivial (Y.z (y_move rfl rfl) rfl) ?_
    refine Rf_ 7 23 rfl rfl rfl rfl rfl _ trivial (Y.z (y_bin rfl rfl rfl (fun hg => b_addv (((b + i : Nat) : Int)) (by omega) (by omega))) rfl) ?_
    refine Rf_ 8 24 rfl rfl rfl rfl rfl _ trivial (Y.z (y_move rfl rfl) rfl) ?_
    refine Rf_ 9 25 rfl rfl rfl rfl rfl _ trivial (Y.z (y_move rfl rfl) rfl) ?_
    refine Rf_ 10 26 rfl rfl rfl rfl rfl _ trivial (Y.z (y_move rfl rfl) rfl) ?_
    refine Rf_ 11 27 rfl rfl rfl rfl rfl _ trivial (Y.z (y_bin rfl rfl rfl (fun hg => b_addv (((b + i : Nat) : Int)) (by omega) (by omega))) rfl) ?_
    refine Rf_ 12 28 rfl rfl rfl rfl rfl _ trivial (Y.z (y_indexAddr rfl rfl rfl Tryd.underlying50 sz78 (fun hg => hA (by omega)) (fun _ => by omega)) rfl) ?_
    refine Rf_ 13 29 rfl rfl rfl rfl rfl _ ⟨rfl, trivial⟩ (Y.z (y_loadO 0 rfl rfl rfl (by rw [swR_len]; simp only [List.length_append]; omega) (fun _ => rfl) (fun _ => swR_at2 hu hv (by omega)) Tryd.underlying78 rfl sz78) rfl) ?_
    refine Rf_ 14 30 rfl rfl rfl rfl rfl _ trivial (Y.z (y_move rfl rfl) rfl) ?_
    refine Rf_ 15 31 rfl rfl rfl rfl rfl _ trivial (Y.z (y_move rfl rfl) rfl) ?_
    refine Rf_ 16 32 rfl rfl rfl rfl rfl _ trivial (Y.z (y_move rfl rfl) rfl) ?_
    refine Rf_ 17 33 rfl rfl rfl rfl rfl _ trivial (Y.z (y_bin rfl rfl rfl (fun hg => b_addv (((a + i : Nat) : Int)) (by omega) (by omega))) rfl) ?_
    refine Rf_ 18 34 rfl rfl rfl rfl rfl _ trivial (Y.z (y_indexAddr rfl rfl rfl Tryd.underlying50 sz78 (fun hg => hA (by omega)) (fun _ => by omega)) rfl) ?_
    refine Rf_ 19 35 rfl rfl rfl rfl rfl _ ⟨rfl, trivial⟩ (Y.z (y_loadO 0 rfl rfl rfl (by rw [swR_len]; simp only [List.length_append]; omega) (fun _ => rfl) (fun _ => swR_at1 hu hv (by omega)) Tryd.underlying78 rfl sz78) rfl) ?_
    refine Rf_ 20 36 rfl rfl rfl rfl rfl _ trivial (Y.z (y_indexAddr rfl rfl rfl Tryd.underlying50 sz78 (fun hg => hA (by omega)) (fun _ => by omega)) rfl) ?_
    refine R_chain 21 rfl rfl ?_
    refine S_storeEl 0 rfl rfl rfl rfl rfl rfl sz78 rfl rfl rfl ?_ (xs' := ((swR X U M V Yt i).set (a + i) v).flatMap SCrumb.enc) ?_ ?_
    · omega
    · exact flat_setE (enc := SCrumb.enc) (size := 3) (fun _ => rfl) (by rw [swR_len]; simp only [List.length_append]; omega)
    refine R_next ⟨.inl rfl, .inl rfl, trivial⟩ ?_
    refine Rf_ 22 37 rfl rfl rfl rfl rfl _ trivial (Y.z (y_indexAddr rfl rfl rfl Tryd.underlying50 sz78 (fun hg => hA (by omega)) (fun _ => by omega)) rfl) ?_
    refine R_chain 23 rfl rfl ?_
    refine S_storeEl 0 rfl rfl rfl rfl rfl rfl sz78 rfl rfl rfl ?_ (xs' := (swR X U M V Yt (i + 1)).flatMap SCrumb.enc) ?_ ?_
    · omega
    · rw [flat_setE (enc := SCrumb.enc) (size := 3) (fun _ => rfl) (by rw [List.length_set, swR_len]; simp only [List.length_append]; omega), swR_step hu hv (by omega) (by omega)]
    refine R_next ⟨.inl rfl, .inl rfl, trivial⟩ ?_
    refine R_go (fun _ _ h => h) ?_
    refine T_region ?_
    refine S_ 14 rfl rfl rfl _ (y_move rfl rfl) ?_
    refine S_ 15 rfl rfl rfl _ (y_bin rfl rfl rfl (fun hg => b_addv (((i + 1 : Nat) : Int)) (by omega) (by omega))) ?_
    refine S_ 10 rfl rfl rfl _ (y_assign rfl rfl) ?_
    refine S_nil (nextK1 (kf := [(10, 37)]) (kl := [(0, 0), (10, 37)]) (i + 1) (by repeat (first | exact kf_nil | (apply kf_in; focus rfl) | (apply kf_out; focus rfl))) (by repeat (first | exact kl_nil | exact kl_rest (by assumption) rfl | (apply kl_in; focus rfl) | (apply kl_out; focus rfl))) ?_ ?_ ?_ ?_)
    · omega
    · omega
    · exact ⟨rfl, trivial⟩
    · exact ⟨rfl, trivial⟩
  · try simp only [decide_eq_true_eq, decide_eq_false_iff_not, Bool.or_eq_true, Bool.or_eq_false_iff, Bool.and_eq_true, Bool.and_eq_false_iff, Bool.not_eq_true', Bool.not_eq_false', Bool.not_eq_true, Bool.not_eq_false, Bool.not_true, Bool.not_false, Int.not_lt, Int.not_le, not_or, not_and, Classical.not_not] at h13
    refine T_exit (fun a w hF hM => hRn a w (post0 rfl (fun w hM => ?_) a w hF hM))
    exact ⟨(), rfl, trivial, hM.keep (ks := [(0, 999)]) (by repeat (first | exact kl_rest (by assumption) rfl | (apply kl_in; focus rfl))) _ ⟨by rw [← swR_end (X := X) (U := U) (M := M) (V := V) (Y := Yt) (i := i) (by omega) (by omega)]; rfl, trivial⟩⟩
theorem insC_any {R : SCrumb → SCrumb → Prop} (tr : ∀ x y z, R x y → R y z → R x z) {cf : SCrumb → SCrumb → Int} (g : FuncId) (cap : Array Value) (hcf : ∀ args w, (callFunc g args).run Tryd.prog w = .ok (.enter g args) w)
    (hcmp : ∀ x y w, Calls Tryd.prog g (#[.agg (SCrumb.enc x).toArray, .agg (SCrumb.enc y).toArray] ++ cap) w fun e w' => e = .returned (.int .i64 (cf x y)) ∧ Below w.heap.size w w')
    {w0 : World} {K : HL} (hK : FromK K) (A : Option Addr) (q c : Nat) (X P Yt : List SCrumb) (a b : Nat) (ha : X.length = a) (hb : a + P.length = b) (hq : (X ++ P ++ Yt).length = q) (hqm : q ≤ 1000000000) (hP : P.Pairwise (Cmp R cf)) (w : World)
    (hM0 : Mem w0 ([(0, .own 78 3 (.slice A q c) q ((X ++ P ++ Yt).flatMap SCrumb.enc))] ++ K) w) :
    Calls Tryd.prog 231 #[.slice A q c, .int .i64 (a : Int), .int .i64 (b : Int), .func (.func g) #[] cap] w fun e w' => ∃ W : List SCrumb, e = .returned (.tuple #[]) ∧ (W.Perm P ∧ W.Pairwise R) ∧ Mem w0 ([(0, .own 78 3 (.slice A q c) q ((X ++ W ++ Yt).flatMap SCrumb.enc))] ++ K) w' := by
  rw [show X ++ P ++ Yt = X ++ P.take 1 ++ P.drop 1 ++ Yt from by rw [List.append_assoc X (P.take 1), List.take_append_drop]] at hM0
  simp only [List.length_append] at hq
  refine enterM_args (args := [.slice A q c, .int .i64 (a : Int), .int .i64 (b : Int), .func (.func g) #[] cap]) (F := _) hM0 Tryd.func231 rfl Tryd.ntmps231 rfl rfl ?_
  intro Rb hRb hRn
  refine T_some 0 rfl fun hA => ?_
  refine T_seq ?_
  refine T_region ?_
  refine S_ 10 rfl rfl rfl _ (y_move rfl rfl) ?_
  refine S_ 11 rfl rfl rfl _ (y_bin rfl rfl rfl (fun hg => b_addv (((a + 1 : Nat) : Int)) (by omega) (by omega))) ?_
  refine S_ 8 rfl rfl rfl _ (y_assign rfl rfl) ?_
  refine S_go (fun _ _ h => h) ?_
  refine T_block ?_
  refine T_loopK2 (kf := [(8, 9), (12, 52)]) (kl := [(0, 0), (8, 9), (12, 52)]) (fun (k : Nat) (W : List SCrumb) => [(8, true, .int .i64 ((a + k : Nat) : Int))]) (fun (k : Nat) (W : List SCrumb) => [(0, .own 78 3 (.slice A q c) q ((X ++ W ++ P.drop k ++ Yt).flatMap SCrumb.enc))]) (fun (k : Nat) (W : List SCrumb) => 1 ≤ k ∧ (k ≤ P.length ∨ k = 1) ∧ W.Perm (P.take k) ∧ W.Pairwise R) (fun (k : Nat) (W : List SCrumb) => P.length - k) 1 (P.take 1) (by repeat (first | exact kf_nil | (apply kf_in; focus rfl) | (apply kf_out; focus rfl))) (by repeat (first | exact kl_nil | exact kl_rest (by assumption) rfl | (apply kl_in; focus rfl) | (apply kl_out; focus rfl))) ?_ ?_ ?_ ?_
  · exact ⟨by omega, .inr rfl, .refl _, take1_pw P⟩
  · exact ⟨rfl, trivial⟩
  · exact ⟨rfl, trivial⟩
  rintro k W ⟨hp1, hp2, hp3, hp4⟩
  refine T_seq ?_
  refine T_seq ?_
  refine T_region ?_
  refine S_ 12 rfl rfl rfl _ (y_move rfl rfl) ?_
  refine S_ 13 rfl rfl rfl _ (y_move rfl rfl) ?_
  refine S_ 14 rfl rfl rfl _ (y_bin rfl rfl rfl (fun _ => b_lss)) ?_
  refine S_go (fun _ _ h => h) ?_
  refine T_cond rfl (fun h14 => ?_) (fun h14 => ?_)
  · try simp only [decide_eq_true_eq, decide_eq_false_iff_not, Bool.or_eq_true, Bool.or_eq_false_iff, Bool.and_eq_true, Bool.and_eq_false_iff, Bool.not_eq_true', Bool.not_eq_false', Bool.not_eq_true, Bool.not_eq_false, Bool.not_true, Bool.not_false, Int.not_lt, Int.not_le, not_or, not_and, Classical.not_not] at h14
    obtain ⟨x, hx⟩ := some_at (l := P) (i := k) (by omega)
    have hWl : W.length = k := by rw [hp3.length_eq, List.length_take]; omega
    have hdl : (P.drop (k + 1)).length = P.length - (k + 1) := List.length_drop
    rw [show X ++ W ++ P.drop k ++ Yt = insL X W x k (P.drop (k + 1) ++ Yt) from by rw [insL_eq, drop_at hx, List.take_of_length_le (show W.length ≤ k by omega), List.drop_eq_nil_of_le (show W.length ≤ k by omega)]; simp]
    refine T_skip_go (fun _ _ h => h) ?_
    refine T_seq ?_
    refine T_block ?_
    refine T_seq ?_
    refine T_region ?_
    refine S_ 17 rfl rfl rfl _ (y_move rfl rfl) ?_
    refine S_ 9 rfl rfl rfl _ (y_assign rfl rfl) ?_
    refine S_go (fun _ _ h => h) ?_
    refine T_block ?_
    refine T_loopK1 (kf := [(9, 9), (18, 52)]) (kl := [(0, 0), (9, 9), (18, 52)]) (fun (t : Nat) => [(9, true, .int .i64 ((a + t : Nat) : Int))]) (fun (t : Nat) => [(0, .own 78 3 (.slice A q c) q ((insL X W x t (P.drop (k + 1) ++ Yt)).flatMap SCrumb.enc))]) (fun (t : Nat) => t ≤ k ∧ ∀ y ∈ W.drop t, R x y) (fun (t : Nat) => t) k (by repeat (first | exact kf_nil | (apply kf_in; focus rfl) | (apply kf_out; focus rfl))) (by repeat (first | exact kl_nil | exact kl_rest (by assumption) rfl | (apply kl_in; focus rfl) | (apply kl_out; focus rfl))) ?_ ?_ ?_ ?_
    · exact ⟨by omega, fun y hy => by rw [List.drop_eq_nil_of_le (by omega)] at hy; cases hy⟩
    · exact ⟨rfl, trivial⟩
    · exact ⟨rfl, trivial⟩
    rintro t ⟨hr1, hr2⟩
    obtain ⟨y, hy⟩ : ∃ y, 0 < t → W[t - 1]? = some y := if h : 0 < t then (some_at (l := W) (i := t - 1) (by omega)).imp fun _ h _ => h else ⟨x, fun h2 => absurd h2 h⟩
    refine T_seq ?_
    refine T_seq ?_
    refine T_draws (by kernel_rfl) (by kernel_rfl) ?_
    refine D_ 18 rfl rfl rfl _ (y_move rfl rfl) ?_
    refine D_ 19 rfl rfl rfl _ (y_move rfl rfl) ?_
    refine D_ 20 rfl rfl rfl _ (y_bin rfl rfl rfl (fun _ => b_gtr)) ?_
    refine D_ 21 rfl rfl rfl _ (y_move rfl rfl) ?_
    refine Dg_ 22 rfl rfl rfl rfl rfl rfl _ (y_move rfl rfl) ?_
    refine Dg_ 23 rfl rfl rfl rfl rfl rfl _ (y_move rfl rfl) ?_
    refine Dg_ 24 rfl rfl rfl rfl rfl rfl _ (y_move rfl rfl) ?_
    refine Dg_ 25 rfl rfl rfl rfl rfl rfl _ (y_indexAddr rfl rfl rfl Tryd.underlying50 sz78 (fun hg => hA (by simp only [Bool.true_and, Bool.and_eq_true, beq_iff_eq, decide_eq_true_eq, decide_eq_false_iff_not, Int.not_lt, Int.not_le] at hg; omega)) (fun hg => by simp only [Bool.true_and, Bool.and_eq_true, beq_iff_eq, decide_eq_true_eq, decide_eq_false_iff_not, Int.not_lt, Int.not_le] at hg; omega)) ?_
    refine Dg_ 26 rfl rfl rfl rfl rfl rfl _ (y_loadO 0 rfl rfl rfl (by rw [insL_len]; simp only [List.length_append]; omega) (fun _ => rfl) (fun _ => insL_at (by omega) (by omega)) Tryd.underlying78 rfl sz78) ?_
    refine Dg_ 27 rfl rfl rfl rfl rfl rfl _ (y_move rfl rfl) ?_
    refine Dg_ 28 rfl rfl rfl rfl rfl rfl _ (y_move rfl rfl) ?_
    refine Dg_ 29 rfl rfl rfl rfl rfl rfl _ (y_bin rfl rfl rfl (fun hg => b_subv (((a + t - 1 : Nat) : Int)) (by simp only [Bool.true_and, Bool.and_eq_true, beq_iff_eq, decide_eq_true_eq, decide_eq_false_iff_not, Int.not_lt, Int.not_le] at hg; omega) (by simp only [Bool.true_and, Bool.and_eq_true, beq_iff_eq, decide_eq_true_eq, decide_eq_false_iff_not, Int.not_lt, Int.not_le] at hg; omega))) ?_
    refine Dg_ 30 rfl rfl rfl rfl rfl rfl _ (y_indexAddr rfl rfl rfl Tryd.underlying50 sz78 (fun hg => hA (by simp only [Bool.true_and, Bool.and_eq_true, beq_iff_eq, decide_eq_true_eq, decide_eq_false_iff_not, Int.not_lt, Int.not_le] at hg; omega)) (fun hg => by simp only [Bool.true_and, Bool.and_eq_true, beq_iff_eq, decide_eq_true_eq, decide_eq_false_iff_not, Int.not_lt, Int.not_le] at hg; omega)) ?_
    refine Dg_ 31 rfl rfl rfl rfl rfl rfl _ (y_loadO 0 rfl rfl rfl (by rw [insL_len]; simp only [List.length_append]; omega) (fun _ => rfl) (fun hg => insL_lo (t := t) (i := t - 1) (by simp only [Bool.true_and, Bool.and_eq_true, beq_iff_eq, decide_eq_true_eq, decide_eq_false_iff_not, Int.not_lt, Int.not_le] at hg; omega) (hy (by simp only [Bool.true_and, Bool.and_eq_true, beq_iff_eq, decide_eq_true_eq, decide_eq_false_iff_not, Int.not_lt, Int.not_le] at hg; omega)) (by simp only [Bool.true_and, Bool.and_eq_true, beq_iff_eq, decide_eq_true_eq, decide_eq_false_iff_not, Int.not_lt, Int.not_le] at hg; omega)) Tryd.underlying78 rfl sz78) ?_
    refine Dg_ 32 rfl rfl rfl rfl rfl rfl _ (y_call rfl rfl rfl hcf (fun _ w _ => hcmp x y w)) ?_
    refine Dg_ 33 rfl rfl rfl rfl rfl rfl _ (y_bin rfl rfl rfl (fun _ => b_lss)) ?_
    refine D_ 34 rfl rfl rfl _ (y_and rfl rfl rfl) ?_
    refine D_go (fun _ _ h => h) ?_
    refine T_cond rfl (fun h34 => ?_) (fun h34 => ?_)
    · skip
      simp only [Bool.and_eq_true, decide_eq_true_eq] at h34
      obtain ⟨s, rfl⟩ : ∃ s, t = s + 1 := ⟨t - 1, by omega⟩
      have hy1 : W[s]? = some y := hy (by omega)
      have hxy : R x y := (pair_at hP (hp3.mem_iff.1 (mem_at hy1)) hx).1 h34.2
      refine T_skip_go (fun _ _ h => h) ?_
      refine T_seq ?_
      refine T_block ?_
      refine T_perm [0, 1, 2, 3, 4, 5, 6, 7, 8, 9, 10, 11, 12, 13, 14, 15, 16, 17] [true, true, true, true, true, true, true, true, true, true, true, true, true, true, true, false, true, false] [0, 0, 0, 0, 8, 0, 0, 64, 224, 480, 0, 0, 3072, 7168, 16355, 32739, 65535, 131071] [(9, [0]), (13, [0])] (by kernel_rfl) (by kernel_rfl) (by kernel_rfl) rfl (by kernel_rfl) ?_
      refine Rf_ 0 37 rfl rfl rfl rfl rfl _ trivial (Y.z (y_move rfl rfl) rfl) ?_
      refine Rf_ 1 38 rfl rfl rfl rfl rfl _ trivial (Y.z (y_move rfl rfl) rfl) ?_
      refine Rf_ 2 39 rfl rfl rfl rfl rfl _ trivial (Y.z (y_move rfl rfl) rfl) ?_
      refine Rf_ 3 40 rfl rfl rfl rfl rfl _ trivial (Y.z (y_move rfl rfl) rfl) ?_
      refine Rf_ 4 41 rfl rfl rfl rfl rfl _ trivial (Y.z (y_bin rfl rfl rfl (fun hg => b_subv (((a + s : Nat) : Int)) (by omega) (by omega))) rfl) ?_
      refine Rf_ 5 42 rfl rfl rfl rfl rfl _ trivial (Y.z (y_move rfl rfl) rfl) ?_
      refine Rf_ 6 43 rfl rfl rfl rfl rfl _ trivial (Y.z (y_move rfl rfl) rfl) ?_
      refine Rf_ 7 44 rfl rfl rfl rfl rfl _ trivial (Y.z (y_bin rfl rfl rfl (fun hg => b_subv (((a + s : Nat) : Int)) (by omega) (by omega))) rfl) ?_
      refine Rf_ 8 45 rfl rfl rfl rfl rfl _ trivial (Y.z (y_indexAddr rfl rfl rfl Tryd.underlying50 sz78 (fun hg => hA (by omega)) (fun _ => by omega)) rfl) ?_
      refine Rf_ 9 46 rfl rfl rfl rfl rfl _ ⟨rfl, trivial⟩ (Y.z (y_loadO 0 rfl rfl rfl (by rw [insL_len]; simp only [List.length_append]; omega) (fun _ => rfl) (fun _ => insL_prev hy1 (by omega)) Tryd.underlying78 rfl sz78) rfl) ?_
      refine Rf_ 10 47 rfl rfl rfl rfl rfl _ trivial (Y.z (y_move rfl rfl) rfl) ?_
      refine Rf_ 11 48 rfl rfl rfl rfl rfl _ trivial (Y.z (y_move rfl rfl) rfl) ?_
      refine Rf_ 12 49 rfl rfl rfl rfl rfl _ trivial (Y.z (y_indexAddr rfl rfl rfl Tryd.underlying50 sz78 (fun hg => hA (by omega)) (fun _ => by omega)) rfl) ?_
      refine Rf_ 13 50 rfl rfl rfl rfl rfl _ ⟨rfl, trivial⟩ (Y.z (y_loadO 0 rfl rfl rfl (by rw [insL_len]; simp only [List.length_append]; omega) (fun _ => rfl) (fun _ => insL_at (by omega) (by omega)) Tryd.underlying78 rfl sz78) rfl) ?_
      refine Rf_ 14 51 rfl rfl rfl rfl rfl _ trivial (Y.z (y_indexAddr rfl rfl rfl Tryd.underlying50 sz78 (fun hg => hA (by omega)) (fun _ => by omega)) rfl) ?_
      refine R_chain 15 rfl rfl ?_
      refine S_storeEl 0 rfl rfl rfl rfl rfl rfl sz78 rfl rfl rfl ?_ (xs' := ((insL X W x (s + 1) (P.drop (k + 1) ++ Yt)).set (a + (s + 1)) y).flatMap SCrumb.enc) ?_ ?_
      · omega
      · exact flat_setE (enc := SCrumb.enc) (size := 3) (fun _ => rfl) (by rw [insL_len]; simp only [List.length_append]; omega)
      refine R_next ⟨.inl rfl, .inl rfl, trivial⟩ ?_
      refine Rf_ 16 52 rfl rfl rfl rfl rfl _ trivial (Y.z (y_indexAddr rfl rfl rfl Tryd.underlying50 sz78 (fun hg => hA (by omega)) (fun _ => by omega)) rfl) ?_
      refine R_chain 17 rfl rfl ?_
      refine S_storeEl 0 rfl rfl rfl rfl rfl rfl sz78 rfl rfl rfl ?_ (xs' := (insL X W x s (P.drop (k + 1) ++ Yt)).flatMap SCrumb.enc) ?_ ?_
      · omega
      · rw [flat_setE (enc := SCrumb.enc) (size := 3) (fun _ => rfl) (by rw [List.length_set, insL_len]; simp only [List.length_append]; omega), insL_dn hy1 (by omega) (by omega)]
      refine R_next ⟨.inl rfl, .inl rfl, trivial⟩ ?_
      refine R_go (fun _ _ h => h) ?_
      refine T_region ?_
      refine S_ 35 rfl rfl rfl _ (y_move rfl rfl) ?_
      refine S_ 36 rfl rfl rfl _ (y_bin rfl rfl rfl (fun hg => b_subv (((a + s : Nat) : Int)) (by omega) (by omega))) ?_
      refine S_ 9 rfl rfl rfl _ (y_assign rfl rfl) ?_
      refine S_nil (nextK1 (kf := [(9, 9), (18, 52)]) (kl := [(0, 0), (9, 9), (18, 52)]) s (by repeat (first | exact kf_nil | (apply kf_in; focus rfl) | (apply kf_out; focus rfl))) (by repeat (first | exact kl_nil | exact kl_rest (by assumption) rfl | (apply kl_in; focus rfl) | (apply kl_out; focus rfl))) ?_ ?_ ?_ ?_)
      · omega
      · exact ⟨by omega, fun z hz => by
          rw [drop_at hy1] at hz
          rcases List.mem_cons.1 hz with rfl | hz
          · exact hxy
          · exact hr2 z hz⟩
      · exact ⟨rfl, trivial⟩
      · exact ⟨rfl, trivial⟩
    · skip
      have hend : 0 < t → ¬ cf x y < 0 := fun h => by
        simp only [Bool.and_eq_false_iff, decide_eq_false_iff_not] at h34
        omega
      rw [insL_fold]
      refine T_exit_go (fun _ _ h => h) ?_
      refine T_region ?_
      refine S_ 15 rfl rfl rfl _ (y_move rfl rfl) ?_
      refine S_ 16 rfl rfl rfl _ (y_bin rfl rfl rfl (fun hg => b_addv (((a + (k + 1) : Nat) : Int)) (by omega) (by omega))) ?_
      refine S_ 8 rfl rfl rfl _ (y_assign rfl rfl) ?_
      refine S_nil (nextK2 (kf := [(8, 9), (12, 52)]) (kl := [(0, 0), (8, 9), (12, 52)]) (k + 1) (W.take t ++ x :: W.drop t) (by repeat (first | exact kf_nil | (apply kf_in; focus rfl) | (apply kf_out; focus rfl))) (by repeat (first | exact kl_nil | exact kl_rest (by assumption) rfl | (apply kl_in; focus rfl) | (apply kl_out; focus rfl))) ?_ ?_ ?_ ?_)
      · omega
      · exact ⟨by omega, .inl (by omega), ins_perm.trans ((hp3.cons x).trans (by rw [take_snoc hx]; exact (List.perm_append_comm (l₁ := [x])))), ins_sorted tr hp4 (by omega) (fun z h0 hz => by rw [hy h0] at hz; obtain rfl := Option.some.inj hz; exact (pair_at hP (hp3.mem_iff.1 (mem_at (hy h0))) hx).2 (hend h0)) (fun z hz => hr2 z (by rw [drop_at hz]; exact List.mem_cons_self))⟩
      · exact ⟨rfl, trivial⟩
      · exact ⟨rfl, trivial⟩
  · try simp only [decide_eq_true_eq, decide_eq_false_iff_not, Bool.or_eq_true, Bool.or_eq_false_iff, Bool.and_eq_true, Bool.and_eq_false_iff, Bool.not_eq_true', Bool.not_eq_false', Bool.not_eq_true, Bool.not_eq_false, Bool.not_true, Bool.not_false, Int.not_lt, Int.not_le, not_or, not_and, Classical.not_not] at h14
    refine T_exit (fun a w hF hM => hRn a w (post0 rfl (fun w hM => ?_) a w hF hM))
    have hk : P.length ≤ k := by omega
    exact ⟨W, rfl, ⟨by rwa [List.take_of_length_le hk] at hp3, hp4⟩, hM.keep (ks := [(0, 999)]) (by repeat (first | exact kl_rest (by assumption) rfl | (apply kl_in; focus rfl))) _ ⟨by rw [List.drop_eq_nil_of_le hk, List.append_nil]; rfl, trivial⟩⟩
end Go.Proofs.YtoeipmepmlikcaaDoor
