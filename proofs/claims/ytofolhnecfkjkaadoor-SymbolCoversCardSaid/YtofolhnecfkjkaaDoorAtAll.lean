/- symbol.At. -/
import Derived.Test.YtofolhnecfkjkaaDoorPlace
namespace Go.Proofs.YtofolhnecfkjkaaDoor
set_option linter.unusedSimpArgs false
set_option linter.unusedVariables false
set_option maxRecDepth 20000
open Go.RowKit Go.Eng
def atNo (t : Tab) (x : Int) : Int := fst (tabNo t) (if outB x 0 (t.size - 1) = true then 2 else if findI (SFunc.has x) t.fu.l 0 < 0 then 7 else 0)
def atAll (t : Tab) (x : Int) : List SPlace := if tabNo t = 0 ∧ outB x 0 (t.size - 1) = false then atOut t x else []
theorem At_any (t : Tab) (x : Int) (w : World) (hok : t.Ok w) :
    Calls Tryd.prog 19 #[.agg #[str t.id, .int .i64 t.size, .slice t.fi.A t.fi.q t.fi.c, .slice t.fu.A t.fu.q t.fu.c, .slice t.ro.A t.ro.q t.ro.c, .slice t.ca.A t.ca.q t.ca.c], .int .i64 x] w fun e w' => ∃ A c, e = .returned (.tuple #[.slice A (atAll t x).length c, .int .i64 (atNo t x)]) ∧
      w'.ownsRow w.heap.size 46 3 (.slice A (atAll t x).length c) (atAll t x).length ((atAll t x).flatMap SPlace.enc) ∧ Below w.heap.size w w' := by
  have hq := hok.small
  refine enter_args (args := [.agg #[str t.id, .int .i64 t.size, .slice t.fi.A t.fi.q t.fi.c, .slice t.fu.A t.fu.q t.fu.c, .slice t.ro.A t.ro.q t.ro.c, .slice t.ca.A t.ca.q t.ca.c], .int .i64 x]) (F := _) Tryd.func19 rfl Tryd.ntmps19 rfl rfl ?_
  intro Rb hRb hRn
  refine T_seq ?_
  refine T_region ?_
  refine S_box 2 2 rfl rfl rfl rfl rfl ?_
  intro b2
  refine S_nilSlice 4 (e := 46) (size := 3) ?_
  refine S_ 4 rfl rfl rfl _ (y_assign rfl rfl) ?_
  refine S_ 5 rfl rfl rfl _ (y_assign rfl rfl) ?_
  refine S_go (fun _ _ h => h) ?_
  refine T_seq ?_
  refine T_seq ?_
  refine T_region ?_
  refine S_ 7 rfl rfl rfl _ (y_loadA 2 rfl rfl rfl Tryd.underlying27 rfl sz27) ?_
  refine S_ 8 rfl rfl rfl _ (y_call rfl rfl rfl cf13 (fun _ w hM => CheckTable_any t w (hok.below hM.below))) ?_
  refine S_ 6 rfl rfl rfl _ (y_assign rfl rfl) ?_
  refine S_go (fun _ _ h => h) ?_
  refine T_seq ?_
  refine T_region ?_
  refine S_ 9 rfl rfl rfl _ (y_move rfl rfl) ?_
  refine S_ 10 rfl rfl rfl _ (y_bin rfl rfl rfl (fun _ => b_neq)) ?_
  refine S_go (fun _ _ h => h) ?_
  refine T_cond rfl (fun h10 => ?_) (fun h10 => ?_)
  · try simp only [decide_eq_true_eq, decide_eq_false_iff_not, Bool.or_eq_true, Bool.or_eq_false_iff, Bool.and_eq_true, Bool.and_eq_false_iff, Bool.not_eq_true', Bool.not_eq_false', Bool.not_eq_true, Bool.not_eq_false, Bool.not_true, Bool.not_false, Int.not_lt, Int.not_le, not_or, not_and, Classical.not_not] at h10
    refine T_seq ?_
    refine T_region ?_
    refine S_ 11 rfl rfl rfl _ (y_move rfl rfl) ?_
    refine S_nilSlice 4 (e := 46) (size := 3) ?_
    refine S_ 4 rfl rfl rfl _ (y_assign rfl rfl) ?_
    refine S_ 5 rfl rfl rfl _ (y_assign rfl rfl) ?_
    refine S_go (fun _ _ h => h) ?_
    refine T_ret (fun a w hF hM => hRb a w (post2 rfl rfl rfl (fun w hM => ?_) a w hF hM))
    have e : atNo t x = tabNo t := fst_a rfl h10
    have e2 : atAll t x = [] := if_neg (fun h => h10 h.1)
    rw [e, e2]
    exact ⟨none, 0, rfl, hM.sat 4 _ rfl, hM.below⟩
  · try simp only [decide_eq_true_eq, decide_eq_false_iff_not, Bool.or_eq_true, Bool.or_eq_false_iff, Bool.and_eq_true, Bool.and_eq_false_iff, Bool.not_eq_true', Bool.not_eq_false', Bool.not_eq_true, Bool.not_eq_false, Bool.not_true, Bool.not_false, Int.not_lt, Int.not_le, not_or, not_and, Classical.not_not] at h10
    have hsz := size_of_out (rows_of h10).1.2
    refine T_skip_go (fun _ _ h => h) ?_
    refine T_seq ?_
    refine T_seq ?_
    refine T_region ?_
    refine S_ 12 rfl rfl rfl _ (y_move rfl rfl) ?_
    refine S_ 13 rfl rfl rfl _ (y_fieldAddr rfl rfl fa27_1) ?_
    refine S_ 14 rfl rfl rfl _ (y_load 2 rfl rfl rfl rfl Tryd.underlying3 rfl) ?_
    refine S_ 15 rfl rfl rfl _ (y_bin rfl rfl rfl (fun hg => b_sub (by omega))) ?_
    refine S_ 16 rfl rfl rfl _ (y_call rfl rfl rfl cf44 (fun _ w _ => outsideB_any _ _ _ w)) ?_
    refine S_go (fun _ _ h => h) ?_
    refine T_cond rfl (fun h16 => ?_) (fun h16 => ?_)
    · skip
      refine T_seq ?_
      refine T_region ?_
      refine S_nilSlice 4 (e := 46) (size := 3) ?_
      refine S_ 4 rfl rfl rfl _ (y_assign rfl rfl) ?_
      refine S_ 5 rfl rfl rfl _ (y_assign rfl rfl) ?_
      refine S_go (fun _ _ h => h) ?_
      refine T_ret (fun a w hF hM => hRb a w (post2 rfl rfl rfl (fun w hM => ?_) a w hF hM))
      have e : atNo t x = 2 := fst_b h10 (if_t h16)
      have e2 : atAll t x = [] := if_neg (fun h => by rw [h16] at h; cases h.2)
      rw [e, e2]
      exact ⟨none, 0, rfl, hM.sat 4 _ rfl, hM.below⟩
    · skip
      refine T_skip_go (fun _ _ h => h) ?_
      refine T_seq ?_
      refine T_region ?_
      refine S_ 17 rfl rfl rfl _ (y_loadA 2 rfl rfl rfl Tryd.underlying27 rfl sz27) ?_
      refine S_ 18 rfl rfl rfl _ (y_move rfl rfl) ?_
      refine S_callOwn 19 19 rfl rfl rfl rfl rfl rfl rfl cf59 (fun A c => .tuple #[.slice A (atOut t x).length c, .int .i64 (if findI (SFunc.has x) t.fu.l 0 < 0 then 7 else 0)]) 46 3 ((atOut t x).length) ((atOut t x).flatMap SPlace.enc) (fun w hM => at_any t x w (hok.below hM.below) h10) ?_
      intro A19 c19
      refine S_ 20 rfl rfl rfl _ (y_extract rfl rfl rfl) ?_
      refine S_ 21 rfl rfl rfl _ (y_extract rfl rfl rfl) ?_
      refine S_ 4 rfl rfl rfl _ (y_assign rfl rfl) ?_
      refine S_ 5 rfl rfl rfl _ (y_assign rfl rfl) ?_
      refine S_go (fun _ _ h => h) ?_
      refine T_ret (fun a w hF hM => hRb a w (post2 rfl rfl rfl (fun w hM => ?_) a w hF hM))
      have e : atNo t x = (if findI (SFunc.has x) t.fu.l 0 < 0 then 7 else 0) := fst_b h10 (if_f h16)
      have e2 : atAll t x = atOut t x := if_pos ⟨h10, h16⟩
      rw [e, e2]
      exact ⟨A19, c19, rfl, hM.sat 19 _ rfl, hM.below⟩
end Go.Proofs.YtofolhnecfkjkaaDoor
