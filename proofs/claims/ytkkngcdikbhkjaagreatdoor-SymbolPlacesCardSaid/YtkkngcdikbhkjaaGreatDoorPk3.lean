/- Part 3, merged by a program. The reference's faults of tables and modules. Conditions: those of each theorem. -/
import Derived.Test.YtkkngcdikbhkjaaGreatDoorPk2
namespace Go.Proofs.YtkkngcdikbhkjaaGreatDoor
set_option linter.unusedSimpArgs false
set_option linter.unusedVariables false
set_option maxRecDepth 20000
open Go.RowKit Go.Eng
def eqS (v s : List UInt8) : Bool := decide (v = s)
theorem IndexS_any (A : Option Addr) (q c : Nat) (l : List (List UInt8)) (v : List UInt8) (w : World) (hl : SlT strEnc 1 w A q l) (hq : q ≤ 4611686018427387904) :
    Calls Tryz.prog 130 #[.slice A q c, str v] w fun e w' => e = .returned (.int .i64 (findI (eqS v) l 0)) ∧ Below w.heap.size w w' := by
  refine enter_args (args := [.slice A q c, str v]) (F := _) Tryz.func130 rfl Tryz.ntmps130 rfl rfl ?_
  intro Rb hRb hRn
  refine T_seq ?_
  refine T_region ?_
  refine S_ 4 rfl rfl rfl _ (y_assign rfl rfl) ?_
  refine S_go (fun _ _ h => h) ?_
  refine T_seq ?_
  refine T_seq ?_
  refine T_region ?_
  refine S_ 6 rfl rfl rfl _ (y_move rfl rfl) ?_
  refine S_ 7 rfl rfl rfl _ (y_len_slice rfl rfl Tryz.underlying57) ?_
  refine S_ 8 rfl rfl rfl _ (y_move rfl rfl) ?_
  refine S_go (fun _ _ h => h) ?_
  refine T_block ?_
  refine T_loopK1 (kf := [(4, 5), (8, 18)]) (kl := [(4, 5), (8, 18)]) (fun (i : Nat) => [(8, true, .int .i64 (i : Int))]) (fun (i : Nat) => []) (fun (i : Nat) => i ≤ q ∧ findI (eqS v) l 0 = findI (eqS v) (l.drop i) i) (fun (i : Nat) => q - i) 0 (by repeat (first | exact kf_nil | (apply kf_in; focus rfl) | (apply kf_out; focus rfl))) (by repeat (first | exact kl_nil | exact kl_rest (by assumption) rfl | (apply kl_in; focus rfl) | (apply kl_out; focus rfl))) ?_ ?_ ?_ ?_
  · exact ⟨by omega, rfl⟩
  · exact ⟨rfl, trivial⟩
  · exact trivial
  rintro i ⟨hp1, hp2⟩
  refine T_seq ?_
  refine T_region ?_
  refine S_ 9 rfl rfl rfl _ (y_bin rfl rfl rfl (fun _ => b_lss)) ?_
  refine S_go (fun _ _ h => h) ?_
  refine T_seq ?_
  refine T_cond rfl (fun h9 => ?_) (fun h9 => ?_)
  · try simp only [decide_eq_true_eq, decide_eq_false_iff_not, Bool.or_eq_true, Bool.or_eq_false_iff, Bool.and_eq_true, Bool.and_eq_false_iff, Bool.not_eq_true', Bool.not_eq_false', Bool.not_eq_true, Bool.not_eq_false, Bool.not_true, Bool.not_false, Int.not_lt, Int.not_le, not_or, not_and, Classical.not_not] at h9
    obtain ⟨x, hx1, hx2⟩ := hl.at (i := i) (by omega)
    refine T_skip_go (fun _ _ h => h) ?_
    refine T_seq ?_
    refine T_block ?_
    refine T_seq ?_
    refine T_region ?_
    refine S_ 10 rfl rfl rfl _ (y_move rfl rfl) ?_
    refine S_ 5 rfl rfl rfl _ (y_assign rfl rfl) ?_
    refine S_go (fun _ _ h => h) ?_
    refine T_seq ?_
    refine T_region ?_
    refine S_ 11 rfl rfl rfl _ (y_move rfl rfl) ?_
    refine S_ 12 rfl rfl rfl _ (y_move rfl rfl) ?_
    refine S_ 13 rfl rfl rfl _ (y_move rfl rfl) ?_
    refine S_ 14 rfl rfl rfl _ (y_indexAddr rfl rfl rfl Tryz.underlying57 sz9 (fun hg => hl.isSome (by omega)) (fun _ => by omega)) ?_
    refine S_ 15 rfl rfl rfl _ (y_loadT1 (val := (fun l : List UInt8 => str l)) rfl rfl hl (fun _ => hx1) Tryz.underlying9 rfl) ?_
    refine S_ 16 rfl rfl rfl _ (y_as (v' := .bool (eqS v x)) (by exact rfl) (y_bin rfl rfl rfl (fun _ => b_eqls))) ?_
    refine S_go (fun _ _ h => h) ?_
    refine T_cond rfl (fun h16 => ?_) (fun h16 => ?_)
    · skip
      refine T_seq ?_
      refine T_region ?_
      refine S_ 17 rfl rfl rfl _ (y_move rfl rfl) ?_
      refine S_ 4 rfl rfl rfl _ (y_assign rfl rfl) ?_
      refine S_go (fun _ _ h => h) ?_
      refine T_ret (fun a w hF hM => hRb a w (post1 rfl rfl (fun w hM => ?_) a w hF hM))
      exact ⟨by rw [hp2, hx2, findI_t h16], hM.below⟩
    · skip
      refine T_skip_go (fun _ _ h => h) ?_
      refine T_region ?_
      refine S_ 18 rfl rfl rfl _ (y_bin rfl rfl rfl (fun hg => b_add (by omega))) ?_
      refine S_ 8 rfl rfl rfl _ (y_move rfl rfl) ?_
      refine S_nil (nextK1 (kf := [(4, 5), (8, 18)]) (kl := [(4, 5), (8, 18)]) (i + 1) (by repeat (first | exact kf_nil | (apply kf_in; focus rfl) | (apply kf_out; focus rfl))) (by repeat (first | exact kl_nil | exact kl_rest (by assumption) rfl | (apply kl_in; focus rfl) | (apply kl_out; focus rfl))) ?_ ?_ ?_ ?_)
      · omega
      · exact ⟨by omega, by rw [hp2, hx2, findI_f h16]; rfl⟩
      · exact ⟨rfl, trivial⟩
      · exact trivial
  · try simp only [decide_eq_true_eq, decide_eq_false_iff_not, Bool.or_eq_true, Bool.or_eq_false_iff, Bool.and_eq_true, Bool.and_eq_false_iff, Bool.not_eq_true', Bool.not_eq_false', Bool.not_eq_true, Bool.not_eq_false, Bool.not_true, Bool.not_false, Int.not_lt, Int.not_le, not_or, not_and, Classical.not_not] at h9
    refine T_exit_go (fun _ _ h => h) ?_
    refine T_seq ?_
    refine T_region ?_
    refine S_ 4 rfl rfl rfl _ (y_assign rfl rfl) ?_
    refine S_go (fun _ _ h => h) ?_
    refine T_ret (fun a w hF hM => hRb a w (post1 rfl rfl (fun w hM => ?_) a w hF hM))
    exact ⟨by rw [hp2, hl.end (by omega)]; rfl, hM.below⟩
theorem any_eq_mem (v : List UInt8) : ∀ l : List (List UInt8), l.any (eqS v) = decide (v ∈ l)
  | [] => rfl
  | a :: r => by
    rw [List.any_cons, any_eq_mem v r, Bool.eq_iff_iff]
    simp [eqS]
theorem ContainsS_any (A : Option Addr) (q c : Nat) (l : List (List UInt8)) (v : List UInt8) (w : World) (hl : SlT strEnc 1 w A q l) (hq : q ≤ 4611686018427387904) :
    Calls Tryz.prog 116 #[.slice A q c, str v] w fun e w' => e = .returned (.bool (decide (v ∈ l))) ∧ Below w.heap.size w w' := by
  rw [← any_eq_mem, ← findI_any _ l 0 (by omega)]
  refine enter_args (args := [.slice A q c, str v]) (F := _) Tryz.func116 rfl Tryz.ntmps116 rfl rfl ?_
  intro Rb hRb hRn
  refine T_seq ?_
  refine T_region ?_
  refine S_ 4 rfl rfl rfl _ (y_assign rfl rfl) ?_
  refine S_go (fun _ _ h => h) ?_
  refine T_seq ?_
  refine T_region ?_
  refine S_ 5 rfl rfl rfl _ (y_move rfl rfl) ?_
  refine S_ 6 rfl rfl rfl _ (y_move rfl rfl) ?_
  refine S_ 7 rfl rfl rfl _ (y_call rfl rfl rfl cf130 (fun _ w hM => IndexS_any _ _ _ _ _ w (hl.below hM.below) hq)) ?_
  refine S_ 8 rfl rfl rfl _ (y_bin rfl rfl rfl (fun _ => b_geq)) ?_
  refine S_ 4 rfl rfl rfl _ (y_assign rfl rfl) ?_
  refine S_go (fun _ _ h => h) ?_
  refine T_ret (fun a w hF hM => hRb a w (post1 rfl rfl (fun w hM => ?_) a w hF hM))
  exact ⟨rfl, hM.below⟩
theorem spanFault_any (fr tu size : Int) (hz : 1 ≤ size ∧ size ≤ 4294967296) (w : World) :
    Calls Tryz.prog 253 #[.int .i64 fr, .int .i64 tu, .int .i64 size] w fun e w' => e = .returned (.int .i64 (if spanBad size fr tu = true then 2 else 0)) ∧ Below w.heap.size w w' := by
  refine enter_args (args := [.int .i64 fr, .int .i64 tu, .int .i64 size]) (F := _) Tryz.func253 rfl Tryz.ntmps253 rfl rfl ?_
  intro Rb hRb hRn
  refine T_seq ?_
  refine T_region ?_
  refine S_ 6 rfl rfl rfl _ (y_assign rfl rfl) ?_
  refine S_go (fun _ _ h => h) ?_
  refine T_seq ?_
  refine T_seq ?_
  refine T_region ?_
  refine S_ 7 rfl rfl rfl _ (y_move rfl rfl) ?_
  refine S_ 8 rfl rfl rfl _ (y_move rfl rfl) ?_
  refine S_ 9 rfl rfl rfl _ (y_bin rfl rfl rfl (fun hg => b_sub (by omega))) ?_
  refine S_ 10 rfl rfl rfl _ (y_call rfl rfl rfl cf83 (fun _ w _ => outB_any _ _ _ w)) ?_
  refine S_ 11 rfl rfl rfl _ (y_move rfl rfl) ?_
  refine Sg_ 12 rfl rfl rfl rfl rfl rfl _ (y_move rfl rfl) ?_
  refine Sg_ 13 rfl rfl rfl rfl rfl rfl _ (y_move rfl rfl) ?_
  refine Sg_ 14 rfl rfl rfl rfl rfl rfl _ (y_bin rfl rfl rfl (fun _ => b_leq)) ?_
  refine S_ 15 rfl rfl rfl _ (y_or rfl rfl rfl) ?_
  refine S_ 16 rfl rfl rfl _ (y_move rfl rfl) ?_
  refine Sg_ 17 rfl rfl rfl rfl rfl rfl _ (y_move rfl rfl) ?_
  refine Sg_ 18 rfl rfl rfl rfl rfl rfl _ (y_move rfl rfl) ?_
  refine Sg_ 19 rfl rfl rfl rfl rfl rfl _ (y_bin rfl rfl rfl (fun _ => b_gtr)) ?_
  refine S_ 20 rfl rfl rfl _ (y_as (v' := .bool (spanBad size fr tu)) (by rw [← spanBad_ref]) (y_or rfl rfl rfl)) ?_
  refine S_go (fun _ _ h => h) ?_
  refine T_cond rfl (fun h20 => ?_) (fun h20 => ?_)
  · skip
    refine T_seq ?_
    refine T_region ?_
    refine S_ 6 rfl rfl rfl _ (y_assign rfl rfl) ?_
    refine S_go (fun _ _ h => h) ?_
    refine T_ret (fun a w hF hM => hRb a w (post1 rfl rfl (fun w hM => ?_) a w hF hM))
    exact ⟨by rw [if_t h20], hM.below⟩
  · skip
    refine T_skip_go (fun _ _ h => h) ?_
    refine T_seq ?_
    refine T_region ?_
    refine S_ 6 rfl rfl rfl _ (y_assign rfl rfl) ?_
    refine S_go (fun _ _ h => h) ?_
    refine T_ret (fun a w hF hM => hRb a w (post1 rfl rfl (fun w hM => ?_) a w hF hM))
    exact ⟨by rw [if_f h20], hM.below⟩
theorem span_t {size fr tu : Int} (h : ¬ (if spanBad size fr tu = true then (2 : Int) else 0) = 0) : spanBad size fr tu = true := by
  cases hb : spanBad size fr tu
  · rw [hb] at h; simp at h
  · rfl
theorem span_f {size fr tu : Int} (h : (if spanBad size fr tu = true then (2 : Int) else 0) = 0) : spanBad size fr tu = false := by
  cases hb : spanBad size fr tu
  · rfl
  · rw [hb] at h; simp at h
theorem span_ok {size fr tu : Int} (h : spanBad size fr tu = false) : 0 ≤ fr ∧ fr < tu := by
  simp only [spanBad, outB, Bool.or_eq_false_iff, decide_eq_false_iff_not] at h; omega
def func0 : SFunc := ⟨[], 0, 0⟩
theorem funcs_f {i : Nat} {p b : Int} (h : (decide (0 < (i : Int)) && decide (p < b)) = false) (h0 : i = 0 → b = 0) (hp : 0 ≤ p) : ¬ p < b := by
  simp only [Bool.and_eq_false_iff, decide_eq_false_iff_not] at h
  by_cases hi : i = 0
  · have := h0 hi; omega
  · omega
theorem funcs_t {i : Nat} {p b : Int} (h : (decide (0 < (i : Int)) && decide (p < b)) = true) : p < b := by
  simp only [Bool.and_eq_true, decide_eq_true_eq] at h; omega
theorem funcsFault_any (t : Tab) (w : World) (hok : t.Ok w) (hz : 1 ≤ t.size ∧ t.size ≤ 4294967296) :
    Calls Tryz.prog 117 #[.agg #[str t.id, .int .i64 t.size, .slice t.fi.A t.fi.q t.fi.c, .slice t.fu.A t.fu.q t.fu.c, .slice t.ro.A t.ro.q t.ro.c, .slice t.ca.A t.ca.q t.ca.c]] w fun e w' => e = .returned (.int .i64 (if (1000 : Int) < t.fu.q then 4 else funcsNo t.size t.fu.l 0)) ∧ Below w.heap.size w w' := by
  have ht := hok.fu.t
  have hq := hok.small
  refine enter_args (args := [.agg #[str t.id, .int .i64 t.size, .slice t.fi.A t.fi.q t.fi.c, .slice t.fu.A t.fu.q t.fu.c, .slice t.ro.A t.ro.q t.ro.c, .slice t.ca.A t.ca.q t.ca.c]]) (F := _) Tryz.func117 rfl Tryz.ntmps117 rfl rfl ?_
  intro Rb hRb hRn
  refine T_seq ?_
  refine T_region ?_
  refine S_box 1 1 rfl rfl rfl rfl rfl ?_
  intro b1
  refine S_ 2 rfl rfl rfl _ (y_assign rfl rfl) ?_
  refine S_go (fun _ _ h => h) ?_
  refine T_seq ?_
  refine T_seq ?_
  refine T_region ?_
  refine S_ 7 rfl rfl rfl _ (y_fieldAddr rfl rfl fa62_3) ?_
  refine S_ 8 rfl rfl rfl _ (y_load 1 rfl rfl rfl rfl Tryz.underlying58 rfl) ?_
  refine S_ 9 rfl rfl rfl _ (y_len_slice rfl rfl Tryz.underlying58) ?_
  refine S_ 10 rfl rfl rfl _ (y_bin rfl rfl rfl (fun _ => b_gtr)) ?_
  refine S_go (fun _ _ h => h) ?_
  refine T_cond rfl (fun h10 => ?_) (fun h10 => ?_)
  · try simp only [decide_eq_true_eq, decide_eq_false_iff_not, Bool.or_eq_true, Bool.or_eq_false_iff, Bool.and_eq_true, Bool.and_eq_false_iff, Bool.not_eq_true', Bool.not_eq_false', Bool.not_eq_true, Bool.not_eq_false, Bool.not_true, Bool.not_false, Int.not_lt, Int.not_le, not_or, not_and, Classical.not_not] at h10
    refine T_seq ?_
    refine T_region ?_
    refine S_ 2 rfl rfl rfl _ (y_assign rfl rfl) ?_
    refine S_go (fun _ _ h => h) ?_
    refine T_ret (fun a w hF hM => hRb a w (post1 rfl rfl (fun w hM => ?_) a w hF hM))
    exact ⟨by rw [if_pos (by omega)], hM.below⟩
  · try simp only [decide_eq_true_eq, decide_eq_false_iff_not, Bool.or_eq_true, Bool.or_eq_false_iff, Bool.and_eq_true, Bool.and_eq_false_iff, Bool.not_eq_true', Bool.not_eq_false', Bool.not_eq_true, Bool.not_eq_false, Bool.not_true, Bool.not_false, Int.not_lt, Int.not_le, not_or, not_and, Classical.not_not] at h10
    refine T_skip_go (fun _ _ h => h) ?_
    refine T_seq ?_
    refine T_seq ?_
    refine T_region ?_
    refine S_ 11 rfl rfl rfl _ (y_fieldAddr rfl rfl fa62_3) ?_
    refine S_ 12 rfl rfl rfl _ (y_load 1 rfl rfl rfl rfl Tryz.underlying58 rfl) ?_
    refine S_ 13 rfl rfl rfl _ (y_len_slice rfl rfl Tryz.underlying58) ?_
    refine S_ 14 rfl rfl rfl _ (y_move rfl rfl) ?_
    refine S_go (fun _ _ h => h) ?_
    refine T_block ?_
    refine T_loopK2 (kf := [(2, 6), (14, 49)]) (kl := [(2, 6), (14, 49)]) (fun (i : Nat) (b : SFunc) => [(14, true, .int .i64 (i : Int))]) (fun (i : Nat) (b : SFunc) => []) (fun (i : Nat) (b : SFunc) => i ≤ t.fu.q ∧ funcsNo t.size t.fu.l 0 = funcsNo t.size (t.fu.l.drop i) b.tu ∧ (0 < i → t.fu.l[i - 1]? = some b) ∧ (i = 0 → b.tu = 0)) (fun (i : Nat) (b : SFunc) => t.fu.q - i) 0 func0 (by repeat (first | exact kf_nil | (apply kf_in; focus rfl) | (apply kf_out; focus rfl))) (by repeat (first | exact kl_nil | exact kl_rest (by assumption) rfl | (apply kl_in; focus rfl) | (apply kl_out; focus rfl))) ?_ ?_ ?_ ?_
    · exact ⟨by omega, rfl, by omega, fun _ => rfl⟩
    · exact ⟨rfl, trivial⟩
    · exact trivial
    rintro i b ⟨hp1, hp2, hp3, hp4⟩
    refine T_seq ?_
    refine T_region ?_
    refine S_ 15 rfl rfl rfl _ (y_bin rfl rfl rfl (fun _ => b_lss)) ?_
    refine S_go (fun _ _ h => h) ?_
    refine T_seq ?_
    refine T_cond rfl (fun h15 => ?_) (fun h15 => ?_)
    · try simp only [decide_eq_true_eq, decide_eq_false_iff_not, Bool.or_eq_true, Bool.or_eq_false_iff, Bool.and_eq_true, Bool.and_eq_false_iff, Bool.not_eq_true', Bool.not_eq_false', Bool.not_eq_true, Bool.not_eq_false, Bool.not_true, Bool.not_false, Int.not_lt, Int.not_le, not_or, not_and, Classical.not_not] at h15
      obtain ⟨f, hx1, hx2⟩ := ht.at (i := i) (by omega)
      have hn1 := hok.names.2.1 f (mem_at hx1)
      refine T_skip_go (fun _ _ h => h) ?_
      refine T_seq ?_
      refine T_block ?_
      refine T_seq ?_
      refine T_region ?_
      refine S_ 16 rfl rfl rfl _ (y_move rfl rfl) ?_
      refine S_ 17 rfl rfl rfl _ (y_indexAddr rfl rfl rfl Tryz.underlying58 sz196 (fun hg => ht.isSome (by omega)) (fun _ => by omega)) ?_
      refine S_ 18 rfl rfl rfl _ (y_loadT rfl rfl ht (fun _ => rfl) (fun _ => hx1) Tryz.underlying196 rfl sz196) ?_
      refine S_alloc 4 4 rfl rfl rfl rfl z196 ?_
      intro b4
      refine S_ 3 rfl rfl rfl _ (y_assign rfl rfl) ?_
      refine S_store 4 rfl rfl rfl rfl rfl rfl sz196 rfl rfl ?_
      refine S_go (fun _ _ h => h) ?_
      refine T_seq ?_
      refine T_seq ?_
      refine T_region ?_
      refine S_ 19 rfl rfl rfl _ (y_fieldAddr rfl rfl fa196_0) ?_
      refine S_ 20 rfl rfl rfl _ (y_load 4 rfl rfl rfl rfl Tryz.underlying9 rfl) ?_
      refine S_ 21 rfl rfl rfl _ (y_call rfl rfl rfl cf252 (fun _ w _ => nameFault_any _ (by omega) w)) ?_
      refine S_ 5 rfl rfl rfl _ (y_assign rfl rfl) ?_
      refine S_go (fun _ _ h => h) ?_
      refine T_seq ?_
      refine T_region ?_
      refine S_ 22 rfl rfl rfl _ (y_move rfl rfl) ?_
      refine S_ 23 rfl rfl rfl _ (y_bin rfl rfl rfl (fun _ => b_neq)) ?_
      refine S_go (fun _ _ h => h) ?_
      refine T_cond rfl (fun h23 => ?_) (fun h23 => ?_)
      · try simp only [decide_eq_true_eq, decide_eq_false_iff_not, Bool.or_eq_true, Bool.or_eq_false_iff, Bool.and_eq_true, Bool.and_eq_false_iff, Bool.not_eq_true', Bool.not_eq_false', Bool.not_eq_true, Bool.not_eq_false, Bool.not_true, Bool.not_false, Int.not_lt, Int.not_le, not_or, not_and, Classical.not_not] at h23
        refine T_seq ?_
        refine T_region ?_
        refine S_ 24 rfl rfl rfl _ (y_move rfl rfl) ?_
        refine S_ 2 rfl rfl rfl _ (y_assign rfl rfl) ?_
        refine S_go (fun _ _ h => h) ?_
        refine T_ret (fun a w hF hM => hRb a w (post1 rfl rfl (fun w hM => ?_) a w hF hM))
        exact ⟨by rw [if_neg (by omega), hp2, hx2, funcsNo, if_pos h23], hM.below⟩
      · try simp only [decide_eq_true_eq, decide_eq_false_iff_not, Bool.or_eq_true, Bool.or_eq_false_iff, Bool.and_eq_true, Bool.and_eq_false_iff, Bool.not_eq_true', Bool.not_eq_false', Bool.not_eq_true, Bool.not_eq_false, Bool.not_true, Bool.not_false, Int.not_lt, Int.not_le, not_or, not_and, Classical.not_not] at h23
        refine T_skip_go (fun _ _ h => h) ?_
        refine T_seq ?_
        refine T_seq ?_
        refine T_region ?_
        refine S_ 25 rfl rfl rfl _ (y_fieldAddr rfl rfl fa196_1) ?_
        refine S_ 26 rfl rfl rfl _ (y_load 4 rfl rfl rfl rfl Tryz.underlying3 rfl) ?_
        refine S_ 27 rfl rfl rfl _ (y_fieldAddr rfl rfl fa196_2) ?_
        refine S_ 28 rfl rfl rfl _ (y_load 4 rfl rfl rfl rfl Tryz.underlying3 rfl) ?_
        refine S_ 29 rfl rfl rfl _ (y_fieldAddr rfl rfl fa62_1) ?_
        refine S_ 30 rfl rfl rfl _ (y_load 1 rfl rfl rfl rfl Tryz.underlying3 rfl) ?_
        refine S_ 31 rfl rfl rfl _ (y_call rfl rfl rfl cf253 (fun _ w _ => spanFault_any _ _ _ hz w)) ?_
        refine S_ 6 rfl rfl rfl _ (y_assign rfl rfl) ?_
        refine S_go (fun _ _ h => h) ?_
        refine T_seq ?_
        refine T_region ?_
        refine S_ 32 rfl rfl rfl _ (y_move rfl rfl) ?_
        refine S_ 33 rfl rfl rfl _ (y_bin rfl rfl rfl (fun _ => b_neq)) ?_
        refine S_go (fun _ _ h => h) ?_
        refine T_cond rfl (fun h33 => ?_) (fun h33 => ?_)
        · try simp only [decide_eq_true_eq, decide_eq_false_iff_not, Bool.or_eq_true, Bool.or_eq_false_iff, Bool.and_eq_true, Bool.and_eq_false_iff, Bool.not_eq_true', Bool.not_eq_false', Bool.not_eq_true, Bool.not_eq_false, Bool.not_true, Bool.not_false, Int.not_lt, Int.not_le, not_or, not_and, Classical.not_not] at h33
          refine T_seq ?_
          refine T_region ?_
          refine S_ 34 rfl rfl rfl _ (y_move rfl rfl) ?_
          refine S_ 2 rfl rfl rfl _ (y_assign rfl rfl) ?_
          refine S_go (fun _ _ h => h) ?_
          refine T_ret (fun a w hF hM => hRb a w (post1 rfl rfl (fun w hM => ?_) a w hF hM))
          exact ⟨by rw [if_t (span_t h33), if_neg (by omega), hp2, hx2, funcsNo, if_neg (by simpa using h23), if_t (span_t h33)], hM.below⟩
        · try simp only [decide_eq_true_eq, decide_eq_false_iff_not, Bool.or_eq_true, Bool.or_eq_false_iff, Bool.and_eq_true, Bool.and_eq_false_iff, Bool.not_eq_true', Bool.not_eq_false', Bool.not_eq_true, Bool.not_eq_false, Bool.not_true, Bool.not_false, Int.not_lt, Int.not_le, not_or, not_and, Classical.not_not] at h33
          have hs := span_f h33
          have hso := span_ok hs
          refine T_skip_go (fun _ _ h => h) ?_
          refine T_seq ?_
          refine T_draws (by kernel_rfl) (by kernel_rfl) ?_
          refine D_ 35 rfl rfl rfl _ (y_move rfl rfl) ?_
          refine D_ 36 rfl rfl rfl _ (y_bin rfl rfl rfl (fun _ => b_gtr)) ?_
          refine D_ 37 rfl rfl rfl _ (y_move rfl rfl) ?_
          refine Dg_ 38 rfl rfl rfl rfl rfl rfl _ (y_fieldAddr rfl rfl fa196_1) ?_
          refine Dg_ 39 rfl rfl rfl rfl rfl rfl _ (y_load 4 rfl rfl rfl rfl Tryz.underlying3 rfl) ?_
          refine Dg_ 40 rfl rfl rfl rfl rfl rfl _ (y_fieldAddr rfl rfl fa62_3) ?_
          refine Dg_ 41 rfl rfl rfl rfl rfl rfl _ (y_load 1 rfl rfl rfl rfl Tryz.underlying58 rfl) ?_
          refine Dg_ 42 rfl rfl rfl rfl rfl rfl _ (y_move rfl rfl) ?_
          refine Dg_ 43 rfl rfl rfl rfl rfl rfl _ (y_bin rfl rfl rfl (fun hg => b_subv (((i - 1 : Nat) : Int)) (by simp only [Bool.true_and, Bool.and_eq_true, beq_iff_eq, decide_eq_true_eq, decide_eq_false_iff_not, Int.not_lt, Int.not_le] at hg; omega) (by simp only [Bool.true_and, Bool.and_eq_true, beq_iff_eq, decide_eq_true_eq, decide_eq_false_iff_not, Int.not_lt, Int.not_le] at hg; omega))) ?_
          refine Dg_ 44 rfl rfl rfl rfl rfl rfl _ (y_indexAddr rfl rfl rfl Tryz.underlying58 sz196 (fun hg => ht.isSome (by simp only [Bool.true_and, Bool.and_eq_true, beq_iff_eq, decide_eq_true_eq, decide_eq_false_iff_not, Int.not_lt, Int.not_le] at hg; omega)) (fun hg => by simp only [Bool.true_and, Bool.and_eq_true, beq_iff_eq, decide_eq_true_eq, decide_eq_false_iff_not, Int.not_lt, Int.not_le] at hg; omega)) ?_
          refine Dg_ 45 rfl rfl rfl rfl rfl rfl _ (y_fieldEl rfl rfl ht.rd (fun hg => by simp only [Bool.true_and, Bool.and_eq_true, beq_iff_eq, decide_eq_true_eq, decide_eq_false_iff_not, Int.not_lt, Int.not_le] at hg; omega) fa196_2) ?_
          refine Dg_ 46 rfl rfl rfl rfl rfl rfl _ (y_load_fT rfl rfl ht (fun _ => rfl) (fun hg => hp3 (by simp only [Bool.true_and, Bool.and_eq_true, beq_iff_eq, decide_eq_true_eq, decide_eq_false_iff_not, Int.not_lt, Int.not_le] at hg; omega)) rfl Tryz.underlying3 rfl) ?_
          refine Dg_ 47 rfl rfl rfl rfl rfl rfl _ (y_bin rfl rfl rfl (fun _ => b_lss)) ?_
          refine D_ 48 rfl rfl rfl _ (y_and rfl rfl rfl) ?_
          refine D_go (fun _ _ h => h) ?_
          refine T_cond rfl (fun h48 => ?_) (fun h48 => ?_)
          · skip
            refine T_seq ?_
            refine T_region ?_
            refine S_ 2 rfl rfl rfl _ (y_assign rfl rfl) ?_
            refine S_go (fun _ _ h => h) ?_
            refine T_ret (fun a w hF hM => hRb a w (post1 rfl rfl (fun w hM => ?_) a w hF hM))
            exact ⟨by rw [if_neg (by omega), hp2, hx2, funcsNo, if_neg (by simpa using h23), if_f hs, if_pos (funcs_t h48)], hM.below⟩
          · skip
            refine T_skip_go (fun _ _ h => h) ?_
            refine T_region ?_
            refine S_ 49 rfl rfl rfl _ (y_bin rfl rfl rfl (fun hg => b_add (by omega))) ?_
            refine S_ 14 rfl rfl rfl _ (y_move rfl rfl) ?_
            refine S_nil (nextK2 (kf := [(2, 6), (14, 49)]) (kl := [(2, 6), (14, 49)]) (i + 1) f (by repeat (first | exact kf_nil | (apply kf_in; focus rfl) | (apply kf_out; focus rfl))) (by repeat (first | exact kl_nil | exact kl_rest (by assumption) rfl | (apply kl_in; focus rfl) | (apply kl_out; focus rfl))) ?_ ?_ ?_ ?_)
            · omega
            · exact ⟨by omega, by rw [hp2, hx2, funcsNo, if_neg (by simpa using h23), if_f hs, if_neg (funcs_f h48 hp4 hso.1)], fun _ => hx1, by omega⟩
            · exact ⟨rfl, trivial⟩
            · exact trivial
    · try simp only [decide_eq_true_eq, decide_eq_false_iff_not, Bool.or_eq_true, Bool.or_eq_false_iff, Bool.and_eq_true, Bool.and_eq_false_iff, Bool.not_eq_true', Bool.not_eq_false', Bool.not_eq_true, Bool.not_eq_false, Bool.not_true, Bool.not_false, Int.not_lt, Int.not_le, not_or, not_and, Classical.not_not] at h15
      refine T_exit_go (fun _ _ h => h) ?_
      refine T_seq ?_
      refine T_region ?_
      refine S_ 2 rfl rfl rfl _ (y_assign rfl rfl) ?_
      refine S_go (fun _ _ h => h) ?_
      refine T_ret (fun a w hF hM => hRb a w (post1 rfl rfl (fun w hM => ?_) a w hF hM))
      exact ⟨by rw [if_neg (by omega), hp2, ht.end (by omega)]; rfl, hM.below⟩
theorem callBad_t {size nf : Int} {c : SCall} (h : spanBad size c.fr c.tu = true) : callBad size nf c = true := by simp [callBad, h]
theorem callBad_two {size nf : Int} {c : SCall} (h : spanBad size c.fr c.tu = false) : callBad size nf c = (outB c.fi 0 (nf - 1) || outB c.ln 1 9999999) := by simp [callBad, h]
theorem refNo_end {c : SCall} {wi : Bool} {deep : Int} : refNo c [] wi deep = if wi = false then 11 else if 10 ≤ deep then 13 else 0 := rfl
theorem callsFault_any (t : Tab) (w : World) (hok : t.Ok w) (hz : 1 ≤ t.size ∧ t.size ≤ 4294967296) :
    Calls Tryz.prog 119 #[.agg #[str t.id, .int .i64 t.size, .slice t.fi.A t.fi.q t.fi.c, .slice t.fu.A t.fu.q t.fu.c, .slice t.ro.A t.ro.q t.ro.c, .slice t.ca.A t.ca.q t.ca.c]] w fun e w' => e = .returned (.int .i64 (if (1000 : Int) < t.ca.q then 4 else callsNo t.size t.fi.q t.fu.l [] t.ca.l call0)) ∧ Below w.heap.size w w' := by
  have ht := hok.ca.t
  have hq := hok.small
  have hcap := hok.ca.cap
  refine enter_args (args := [.agg #[str t.id, .int .i64 t.size, .slice t.fi.A t.fi.q t.fi.c, .slice t.fu.A t.fu.q t.fu.c, .slice t.ro.A t.ro.q t.ro.c, .slice t.ca.A t.ca.q t.ca.c]]) (F := _) Tryz.func119 rfl Tryz.ntmps119 rfl rfl ?_
  intro Rb hRb hRn
  refine T_seq ?_
  refine T_region ?_
  refine S_box 1 1 rfl rfl rfl rfl rfl ?_
  intro b1
  refine S_ 2 rfl rfl rfl _ (y_assign rfl rfl) ?_
  refine S_go (fun _ _ h => h) ?_
  refine T_seq ?_
  refine T_seq ?_
  refine T_region ?_
  refine S_ 12 rfl rfl rfl _ (y_fieldAddr rfl rfl fa62_5) ?_
  refine S_ 13 rfl rfl rfl _ (y_load 1 rfl rfl rfl rfl Tryz.underlying60 rfl) ?_
  refine S_ 14 rfl rfl rfl _ (y_len_slice rfl rfl Tryz.underlying60) ?_
  refine S_ 15 rfl rfl rfl _ (y_bin rfl rfl rfl (fun _ => b_gtr)) ?_
  refine S_go (fun _ _ h => h) ?_
  refine T_cond rfl (fun h15 => ?_) (fun h15 => ?_)
  · try simp only [decide_eq_true_eq, decide_eq_false_iff_not, Bool.or_eq_true, Bool.or_eq_false_iff, Bool.and_eq_true, Bool.and_eq_false_iff, Bool.not_eq_true', Bool.not_eq_false', Bool.not_eq_true, Bool.not_eq_false, Bool.not_true, Bool.not_false, Int.not_lt, Int.not_le, not_or, not_and, Classical.not_not] at h15
    refine T_seq ?_
    refine T_region ?_
    refine S_ 2 rfl rfl rfl _ (y_assign rfl rfl) ?_
    refine S_go (fun _ _ h => h) ?_
    refine T_ret (fun a w hF hM => hRb a w (post1 rfl rfl (fun w hM => ?_) a w hF hM))
    exact ⟨by rw [if_pos (by omega)], hM.below⟩
  · try simp only [decide_eq_true_eq, decide_eq_false_iff_not, Bool.or_eq_true, Bool.or_eq_false_iff, Bool.and_eq_true, Bool.and_eq_false_iff, Bool.not_eq_true', Bool.not_eq_false', Bool.not_eq_true, Bool.not_eq_false, Bool.not_true, Bool.not_false, Int.not_lt, Int.not_le, not_or, not_and, Classical.not_not] at h15
    refine T_skip_go (fun _ _ h => h) ?_
    refine T_seq ?_
    refine T_seq ?_
    refine T_region ?_
    refine S_ 16 rfl rfl rfl _ (y_fieldAddr rfl rfl fa62_5) ?_
    refine S_ 17 rfl rfl rfl _ (y_load 1 rfl rfl rfl rfl Tryz.underlying60 rfl) ?_
    refine S_ 18 rfl rfl rfl _ (y_len_slice rfl rfl Tryz.underlying60) ?_
    refine S_ 19 rfl rfl rfl _ (y_move rfl rfl) ?_
    refine S_go (fun _ _ h => h) ?_
    refine T_block ?_
    refine T_loopK2 (kf := [(2, 9), (11, 11), (19, 125)]) (kl := [(2, 9), (11, 11), (19, 125)]) (fun (i : Nat) (b : SCall) => [(19, true, .int .i64 (i : Int))]) (fun (i : Nat) (b : SCall) => []) (fun (i : Nat) (b : SCall) => i ≤ t.ca.q ∧ callsNo t.size t.fi.q t.fu.l [] t.ca.l call0 = callsNo t.size t.fi.q t.fu.l (t.ca.l.take i) (t.ca.l.drop i) b ∧ (0 < i → t.ca.l[i - 1]? = some b) ∧ (i = 0 → b = call0)) (fun (i : Nat) (b : SCall) => t.ca.q - i) 0 call0 (by repeat (first | exact kf_nil | (apply kf_in; focus rfl) | (apply kf_out; focus rfl))) (by repeat (first | exact kl_nil | exact kl_rest (by assumption) rfl | (apply kl_in; focus rfl) | (apply kl_out; focus rfl))) ?_ ?_ ?_ ?_
    · exact ⟨by omega, rfl, by omega, fun _ => rfl⟩
    · exact ⟨rfl, trivial⟩
    · exact trivial
    rintro i b ⟨hp1, hp2, hp3, hp4⟩
    refine T_seq ?_
    refine T_region ?_
    refine S_ 20 rfl rfl rfl _ (y_bin rfl rfl rfl (fun _ => b_lss)) ?_
    refine S_go (fun _ _ h => h) ?_
    refine T_seq ?_
    refine T_cond rfl (fun h20 => ?_) (fun h20 => ?_)
    · try simp only [decide_eq_true_eq, decide_eq_false_iff_not, Bool.or_eq_true, Bool.or_eq_false_iff, Bool.and_eq_true, Bool.and_eq_false_iff, Bool.not_eq_true', Bool.not_eq_false', Bool.not_eq_true, Bool.not_eq_false, Bool.not_true, Bool.not_false, Int.not_lt, Int.not_le, not_or, not_and, Classical.not_not] at h20
      obtain ⟨c, hx1, hx2⟩ := ht.at (i := i) (by omega)
      have hn1 := hok.names.2.2 c (mem_at hx1)
      refine T_skip_go (fun _ _ h => h) ?_
      refine T_seq ?_
      refine T_block ?_
      refine T_seq ?_
      refine T_region ?_
      refine S_ 21 rfl rfl rfl _ (y_move rfl rfl) ?_
      refine S_ 22 rfl rfl rfl _ (y_indexAddr rfl rfl rfl Tryz.underlying60 sz200 (fun hg => ht.isSome (by omega)) (fun _ => by omega)) ?_
      refine S_ 23 rfl rfl rfl _ (y_loadT rfl rfl ht (fun _ => rfl) (fun _ => hx1) Tryz.underlying200 rfl sz200) ?_
      refine S_alloc 4 4 rfl rfl rfl rfl z200 ?_
      intro b4
      refine S_ 3 rfl rfl rfl _ (y_assign rfl rfl) ?_
      refine S_store 4 rfl rfl rfl rfl rfl rfl sz200 rfl rfl ?_
      refine S_go (fun _ _ h => h) ?_
      refine T_seq ?_
      refine T_seq ?_
      refine T_region ?_
      refine S_ 24 rfl rfl rfl _ (y_fieldAddr rfl rfl fa200_0) ?_
      refine S_ 25 rfl rfl rfl _ (y_load 4 rfl rfl rfl rfl Tryz.underlying9 rfl) ?_
      refine S_ 26 rfl rfl rfl _ (y_call rfl rfl rfl cf252 (fun _ w _ => nameFault_any _ (by omega) w)) ?_
      refine S_ 5 rfl rfl rfl _ (y_assign rfl rfl) ?_
      refine S_go (fun _ _ h => h) ?_
      refine T_seq ?_
      refine T_region ?_
      refine S_ 27 rfl rfl rfl _ (y_move rfl rfl) ?_
      refine S_ 28 rfl rfl rfl _ (y_bin rfl rfl rfl (fun _ => b_neq)) ?_
      refine S_go (fun _ _ h => h) ?_
      refine T_cond rfl (fun h28 => ?_) (fun h28 => ?_)
      · try simp only [decide_eq_true_eq, decide_eq_false_iff_not, Bool.or_eq_true, Bool.or_eq_false_iff, Bool.and_eq_true, Bool.and_eq_false_iff, Bool.not_eq_true', Bool.not_eq_false', Bool.not_eq_true, Bool.not_eq_false, Bool.not_true, Bool.not_false, Int.not_lt, Int.not_le, not_or, not_and, Classical.not_not] at h28
        refine T_seq ?_
        refine T_region ?_
        refine S_ 29 rfl rfl rfl _ (y_move rfl rfl) ?_
        refine S_ 2 rfl rfl rfl _ (y_assign rfl rfl) ?_
        refine S_go (fun _ _ h => h) ?_
        refine T_ret (fun a w hF hM => hRb a w (post1 rfl rfl (fun w hM => ?_) a w hF hM))
        exact ⟨by rw [if_neg (by omega), hp2, hx2, callsNo, if_pos h28], hM.below⟩
      · try simp only [decide_eq_true_eq, decide_eq_false_iff_not, Bool.or_eq_true, Bool.or_eq_false_iff, Bool.and_eq_true, Bool.and_eq_false_iff, Bool.not_eq_true', Bool.not_eq_false', Bool.not_eq_true, Bool.not_eq_false, Bool.not_true, Bool.not_false, Int.not_lt, Int.not_le, not_or, not_and, Classical.not_not] at h28
        refine T_skip_go (fun _ _ h => h) ?_
        refine T_seq ?_
        refine T_seq ?_
        refine T_region ?_
        refine S_ 30 rfl rfl rfl _ (y_fieldAddr rfl rfl fa200_1) ?_
        refine S_ 31 rfl rfl rfl _ (y_load 4 rfl rfl rfl rfl Tryz.underlying3 rfl) ?_
        refine S_ 32 rfl rfl rfl _ (y_fieldAddr rfl rfl fa200_2) ?_
        refine S_ 33 rfl rfl rfl _ (y_load 4 rfl rfl rfl rfl Tryz.underlying3 rfl) ?_
        refine S_ 34 rfl rfl rfl _ (y_fieldAddr rfl rfl fa62_1) ?_
        refine S_ 35 rfl rfl rfl _ (y_load 1 rfl rfl rfl rfl Tryz.underlying3 rfl) ?_
        refine S_ 36 rfl rfl rfl _ (y_call rfl rfl rfl cf253 (fun _ w _ => spanFault_any _ _ _ hz w)) ?_
        refine S_ 6 rfl rfl rfl _ (y_assign rfl rfl) ?_
        refine S_go (fun _ _ h => h) ?_
        refine T_seq ?_
        refine T_region ?_
        refine S_ 37 rfl rfl rfl _ (y_move rfl rfl) ?_
        refine S_ 38 rfl rfl rfl _ (y_bin rfl rfl rfl (fun _ => b_neq)) ?_
        refine S_go (fun _ _ h => h) ?_
        refine T_cond rfl (fun h38 => ?_) (fun h38 => ?_)
        · try simp only [decide_eq_true_eq, decide_eq_false_iff_not, Bool.or_eq_true, Bool.or_eq_false_iff, Bool.and_eq_true, Bool.and_eq_false_iff, Bool.not_eq_true', Bool.not_eq_false', Bool.not_eq_true, Bool.not_eq_false, Bool.not_true, Bool.not_false, Int.not_lt, Int.not_le, not_or, not_and, Classical.not_not] at h38
          refine T_seq ?_
          refine T_region ?_
          refine S_ 39 rfl rfl rfl _ (y_move rfl rfl) ?_
          refine S_ 2 rfl rfl rfl _ (y_assign rfl rfl) ?_
          refine S_go (fun _ _ h => h) ?_
          refine T_ret (fun a w hF hM => hRb a w (post1 rfl rfl (fun w hM => ?_) a w hF hM))
          exact ⟨by rw [if_t (span_t h38), if_neg (by omega), hp2, hx2, callsNo, if_neg (by simpa using h28), if_t (callBad_t (span_t h38))], hM.below⟩
        · try simp only [decide_eq_true_eq, decide_eq_false_iff_not, Bool.or_eq_true, Bool.or_eq_false_iff, Bool.and_eq_true, Bool.and_eq_false_iff, Bool.not_eq_true', Bool.not_eq_false', Bool.not_eq_true, Bool.not_eq_false, Bool.not_true, Bool.not_false, Int.not_lt, Int.not_le, not_or, not_and, Classical.not_not] at h38
          have hs := span_f h38
          have hso := span_ok hs
          have hcut := ht.cut (lo := 0) (hi := i) (fun _ => rfl) (by omega) (by omega) hcap
          have hbe : (t.ca.l.drop 0).take (i - 0) = t.ca.l.take i := by simp
          refine T_skip_go (fun _ _ h => h) ?_
          refine T_seq ?_
          refine T_seq ?_
          refine T_region ?_
          refine S_ 40 rfl rfl rfl _ (y_fieldAddr rfl rfl fa200_3) ?_
          refine S_ 41 rfl rfl rfl _ (y_load 4 rfl rfl rfl rfl Tryz.underlying3 rfl) ?_
          refine S_ 42 rfl rfl rfl _ (y_fieldAddr rfl rfl fa62_2) ?_
          refine S_ 43 rfl rfl rfl _ (y_load 1 rfl rfl rfl rfl Tryz.underlying57 rfl) ?_
          refine S_ 44 rfl rfl rfl _ (y_len_slice rfl rfl Tryz.underlying57) ?_
          refine S_ 45 rfl rfl rfl _ (y_bin rfl rfl rfl (fun hg => b_sub (by omega))) ?_
          refine S_ 46 rfl rfl rfl _ (y_call rfl rfl rfl cf83 (fun _ w _ => outB_any _ _ _ w)) ?_
          refine S_ 47 rfl rfl rfl _ (y_move rfl rfl) ?_
          refine Sg_ 48 rfl rfl rfl rfl rfl rfl _ (y_fieldAddr rfl rfl fa200_4) ?_
          refine Sg_ 49 rfl rfl rfl rfl rfl rfl _ (y_load 4 rfl rfl rfl rfl Tryz.underlying3 rfl) ?_
          refine Sg_ 50 rfl rfl rfl rfl rfl rfl _ (y_call rfl rfl rfl cf83 (fun _ w _ => outB_any _ _ _ w)) ?_
          refine S_ 51 rfl rfl rfl _ (y_as (v' := .bool (outB c.fi 0 (t.fi.q - 1) || outB c.ln 1 9999999)) (by exact rfl) (y_or rfl rfl rfl)) ?_
          refine S_go (fun _ _ h => h) ?_
          refine T_cond rfl (fun h51 => ?_) (fun h51 => ?_)
          · skip
            refine T_seq ?_
            refine T_region ?_
            refine S_ 2 rfl rfl rfl _ (y_assign rfl rfl) ?_
            refine S_go (fun _ _ h => h) ?_
            refine T_ret (fun a w hF hM => hRb a w (post1 rfl rfl (fun w hM => ?_) a w hF hM))
            exact ⟨by rw [if_neg (by omega), hp2, hx2, callsNo, if_neg (by simpa using h28), if_t ((callBad_two hs).trans h51)], hM.below⟩
          · skip
            refine T_skip_go (fun _ _ h => h) ?_
            refine T_seq ?_
            refine T_seq ?_
            refine T_region ?_
            refine S_ 52 rfl rfl rfl _ (y_move rfl rfl) ?_
            refine S_ 53 rfl rfl rfl _ (y_bin rfl rfl rfl (fun _ => b_gtr)) ?_
            refine S_go (fun _ _ h => h) ?_
            refine T_cond rfl (fun h53 => ?_) (fun h53 => ?_)
            · try simp only [decide_eq_true_eq, decide_eq_false_iff_not, Bool.or_eq_true, Bool.or_eq_false_iff, Bool.and_eq_true, Bool.and_eq_false_iff, Bool.not_eq_true', Bool.not_eq_false', Bool.not_eq_true, Bool.not_eq_false, Bool.not_true, Bool.not_false, Int.not_lt, Int.not_le, not_or, not_and, Classical.not_not] at h53
              refine T_seq ?_
              refine T_region ?_
              refine S_ 54 rfl rfl rfl _ (y_fieldAddr rfl rfl fa62_5) ?_
              refine S_ 55 rfl rfl rfl _ (y_load 1 rfl rfl rfl rfl Tryz.underlying60 rfl) ?_
              refine S_ 56 rfl rfl rfl _ (y_move rfl rfl) ?_
              refine S_ 57 rfl rfl rfl _ (y_bin rfl rfl rfl (fun hg => b_subv (((i - 1 : Nat) : Int)) (by omega) (by omega))) ?_
              refine S_ 58 rfl rfl rfl _ (y_indexAddr rfl rfl rfl Tryz.underlying60 sz200 (fun hg => ht.isSome (by omega)) (fun _ => by omega)) ?_
              refine S_ 59 rfl rfl rfl _ (y_loadT rfl rfl ht (fun _ => rfl) (fun _ => hp3 (by omega)) Tryz.underlying200 rfl sz200) ?_
              refine S_alloc 7 7 rfl rfl rfl rfl z200 ?_
              intro b7
              refine S_store 7 rfl rfl rfl rfl rfl rfl sz200 rfl rfl ?_
              refine S_go (fun _ _ h => h) ?_
              refine T_seq ?_
              refine T_region ?_
              refine S_ 60 rfl rfl rfl _ (y_fieldAddr rfl rfl fa200_1) ?_
              refine S_ 61 rfl rfl rfl _ (y_load 4 rfl rfl rfl rfl Tryz.underlying3 rfl) ?_
              refine S_ 62 rfl rfl rfl _ (y_fieldAddr rfl rfl fa200_1) ?_
              refine S_ 63 rfl rfl rfl _ (y_load 7 rfl rfl rfl rfl Tryz.underlying3 rfl) ?_
              refine S_ 64 rfl rfl rfl _ (y_bin rfl rfl rfl (fun _ => b_lss)) ?_
              refine S_ 65 rfl rfl rfl _ (y_move rfl rfl) ?_
              refine Sg_ 66 rfl rfl rfl rfl rfl rfl _ (y_fieldAddr rfl rfl fa200_1) ?_
              refine Sg_ 67 rfl rfl rfl rfl rfl rfl _ (y_load 4 rfl rfl rfl rfl Tryz.underlying3 rfl) ?_
              refine Sg_ 68 rfl rfl rfl rfl rfl rfl _ (y_fieldAddr rfl rfl fa200_1) ?_
              refine Sg_ 69 rfl rfl rfl rfl rfl rfl _ (y_load 7 rfl rfl rfl rfl Tryz.underlying3 rfl) ?_
              refine Sg_ 70 rfl rfl rfl rfl rfl rfl _ (y_bin rfl rfl rfl (fun _ => b_eql)) ?_
              refine Sg_ 71 rfl rfl rfl rfl rfl rfl _ (y_move rfl rfl) ?_
              refine Sg_ 72 rfl rfl rfl rfl rfl rfl _ (y_fieldAddr rfl rfl fa200_2) ?_
              refine Sg_ 73 rfl rfl rfl rfl rfl rfl _ (y_load 4 rfl rfl rfl rfl Tryz.underlying3 rfl) ?_
              refine Sg_ 74 rfl rfl rfl rfl rfl rfl _ (y_fieldAddr rfl rfl fa200_2) ?_
              refine Sg_ 75 rfl rfl rfl rfl rfl rfl _ (y_load 7 rfl rfl rfl rfl Tryz.underlying3 rfl) ?_
              refine Sg_ 76 rfl rfl rfl rfl rfl rfl _ (y_bin rfl rfl rfl (fun _ => b_gtr)) ?_
              refine Sg_ 77 rfl rfl rfl rfl rfl rfl _ (y_and rfl rfl rfl) ?_
              refine S_ 78 rfl rfl rfl _ (y_as (v' := .bool (callLate b c)) (by exact rfl) (y_or rfl rfl rfl)) ?_
              refine S_go (fun _ _ h => h) ?_
              refine T_cond rfl (fun h78 => ?_) (fun h78 => ?_)
              · skip
                refine T_seq ?_
                refine T_region ?_
                refine S_ 2 rfl rfl rfl _ (y_assign rfl rfl) ?_
                refine S_go (fun _ _ h => h) ?_
                refine T_ret (fun a w hF hM => hRb a w (post1 rfl rfl (fun w hM => ?_) a w hF hM))
                exact ⟨by rw [if_neg (by omega), hp2, hx2, callsNo, if_neg (by simpa using h28), if_f ((callBad_two hs).trans h51), if_t h78], hM.below⟩
              · skip
                refine T_skip_go (fun _ _ h => h) ?_
                refine T_seq ?_
                refine T_region ?_
                refine S_ 79 rfl rfl rfl _ (y_fieldAddr rfl rfl fa62_3) ?_
                refine S_ 80 rfl rfl rfl _ (y_load 1 rfl rfl rfl rfl Tryz.underlying58 rfl) ?_
                refine S_ 81 rfl rfl rfl _ (y_makeFunc rfl rfl rfl rfl rfl) ?_
                refine S_ 82 rfl rfl rfl _ (y_call rfl rfl rfl cf254 (fun _ w hM => ContainsFuncF_any _ _ _ _ _ _ (SFunc.holds c) w (hok.fu.t.below hM.below) (by omega) (asks_callsFault (hM.box_cell (i := 4) rfl rfl) (hM.box_cell (i := 4) rfl rfl)))) ?_
                refine S_ 8 rfl rfl rfl _ (y_assign rfl rfl) ?_
                refine S_go (fun _ _ h => h) ?_
                refine T_seq ?_
                refine T_region ?_
                refine S_ 9 rfl rfl rfl _ (y_assign rfl rfl) ?_
                refine S_go (fun _ _ h => h) ?_
                refine T_seq ?_
                refine T_seq ?_
                refine T_region ?_
                refine S_ 83 rfl rfl rfl _ (y_fieldAddr rfl rfl fa62_5) ?_
                refine S_ 84 rfl rfl rfl _ (y_load 1 rfl rfl rfl rfl Tryz.underlying60 rfl) ?_
                refine S_ 85 rfl rfl rfl _ (y_move rfl rfl) ?_
                refine S_ 86 rfl rfl rfl _ (y_slice rfl rfl Tryz.underlying60 sz200 (.inl ⟨rfl, rfl⟩) (.inr ⟨_, _, rfl, rfl⟩) (by omega) (by omega) hcap) ?_
                refine S_ 87 rfl rfl rfl _ (y_len_slice rfl rfl Tryz.underlying60) ?_
                refine S_ 88 rfl rfl rfl _ (y_move rfl rfl) ?_
                refine S_go (fun _ _ h => h) ?_
                refine T_block ?_
                refine T_loopK3 (kf := [(8, 9), (11, 11), (88, 120)]) (kl := [(8, 9), (11, 11), (88, 120)]) (fun (j : Nat) (wi : Bool) (deep : Int) => [(88, true, .int .i64 (j : Int)), (8, true, .bool wi), (9, true, .int .i64 deep)]) (fun (j : Nat) (wi : Bool) (deep : Int) => []) (fun (j : Nat) (wi : Bool) (deep : Int) => j ≤ i ∧ callNo t.fu.l (t.ca.l.take i) c = refNo c (((t.ca.l.drop 0).take (i - 0)).drop j) wi deep ∧ 0 ≤ deep ∧ deep ≤ j) (fun (j : Nat) (wi : Bool) (deep : Int) => i - j) 0 (t.fu.l.any (SFunc.holds c)) 0 (by repeat (first | exact kf_nil | (apply kf_in; focus rfl) | (apply kf_out; focus rfl))) (by repeat (first | exact kl_nil | exact kl_rest (by assumption) rfl | (apply kl_in; focus rfl) | (apply kl_out; focus rfl))) ?_ ?_ ?_ ?_
                · exact ⟨by omega, by rw [hbe]; exact (refNo_call hso.2 _ _).symm, by omega, by omega⟩
                · exact ⟨rfl, rfl, rfl, trivial⟩
                · exact trivial
                rintro j wi deep ⟨hr1, hr2, hr3, hr4⟩
                refine T_seq ?_
                refine T_region ?_
                refine S_ 89 rfl rfl rfl _ (y_bin rfl rfl rfl (fun _ => b_lss)) ?_
                refine S_go (fun _ _ h => h) ?_
                refine T_seq ?_
                refine T_cond rfl (fun h89 => ?_) (fun h89 => ?_)
                · try simp only [decide_eq_true_eq, decide_eq_false_iff_not, Bool.or_eq_true, Bool.or_eq_false_iff, Bool.and_eq_true, Bool.and_eq_false_iff, Bool.not_eq_true', Bool.not_eq_false', Bool.not_eq_true, Bool.not_eq_false, Bool.not_true, Bool.not_false, Int.not_lt, Int.not_le, not_or, not_and, Classical.not_not] at h89
                  obtain ⟨b2, hy1, hy2⟩ := hcut.at (i := j) (by omega)
                  refine T_skip_go (fun _ _ h => h) ?_
                  refine T_seq ?_
                  refine T_block ?_
                  refine T_seq ?_
                  refine T_region ?_
                  refine S_ 90 rfl rfl rfl _ (y_indexAddr rfl rfl rfl Tryz.underlying60 sz200 (fun hg => hcut.isSome (by omega)) (fun _ => by omega)) ?_
                  refine S_ 91 rfl rfl rfl _ (y_loadT rfl rfl hcut (fun _ => rfl) (fun _ => hy1) Tryz.underlying200 rfl sz200) ?_
                  refine S_alloc 11 11 rfl rfl rfl rfl z200 ?_
                  intro b11
                  refine S_store 11 rfl rfl rfl rfl rfl rfl sz200 rfl rfl ?_
                  refine S_go (fun _ _ h => h) ?_
                  refine T_block ?_
                  refine T_seq ?_
                  refine T_region ?_
                  refine S_ 93 rfl rfl rfl _ (y_fieldAddr rfl rfl fa200_1) ?_
                  refine S_ 94 rfl rfl rfl _ (y_load 11 rfl rfl rfl rfl Tryz.underlying3 rfl) ?_
                  refine S_ 95 rfl rfl rfl _ (y_fieldAddr rfl rfl fa200_1) ?_
                  refine S_ 96 rfl rfl rfl _ (y_load 4 rfl rfl rfl rfl Tryz.underlying3 rfl) ?_
                  refine S_ 97 rfl rfl rfl _ (y_bin rfl rfl rfl (fun _ => b_leq)) ?_
                  refine S_ 98 rfl rfl rfl _ (y_move rfl rfl) ?_
                  refine Sg_ 99 rfl rfl rfl rfl rfl rfl _ (y_fieldAddr rfl rfl fa200_2) ?_
                  refine Sg_ 100 rfl rfl rfl rfl rfl rfl _ (y_load 4 rfl rfl rfl rfl Tryz.underlying3 rfl) ?_
                  refine Sg_ 101 rfl rfl rfl rfl rfl rfl _ (y_fieldAddr rfl rfl fa200_2) ?_
                  refine Sg_ 102 rfl rfl rfl rfl rfl rfl _ (y_load 11 rfl rfl rfl rfl Tryz.underlying3 rfl) ?_
                  refine Sg_ 103 rfl rfl rfl rfl rfl rfl _ (y_bin rfl rfl rfl (fun _ => b_leq)) ?_
                  refine S_ 104 rfl rfl rfl _ (y_and rfl rfl rfl) ?_
                  refine S_ 92 rfl rfl rfl _ (y_as (v' := .bool (enclB b2 c)) (by exact rfl) (y_assign rfl rfl)) ?_
                  refine S_go (fun _ _ h => h) ?_
                  refine T_cond rfl (fun h92 => ?_) (fun h92 => ?_)
                  · skip
                    refine T_region ?_
                    refine S_ 105 rfl rfl rfl _ (y_move rfl rfl) ?_
                    refine S_ 106 rfl rfl rfl _ (y_bin rfl rfl rfl (fun hg => b_add (by omega))) ?_
                    refine S_ 9 rfl rfl rfl _ (y_assign rfl rfl) ?_
                    refine S_go (fun _ _ h => h) ?_
                    refine T_region ?_
                    refine S_ 120 rfl rfl rfl _ (y_bin rfl rfl rfl (fun hg => b_add (by omega))) ?_
                    refine S_ 88 rfl rfl rfl _ (y_move rfl rfl) ?_
                    refine S_nil (nextK3 (kf := [(8, 9), (11, 11), (88, 120)]) (kl := [(8, 9), (11, 11), (88, 120)]) (j + 1) wi (deep + 1) (by repeat (first | exact kf_nil | (apply kf_in; focus rfl) | (apply kf_out; focus rfl))) (by repeat (first | exact kl_nil | exact kl_rest (by assumption) rfl | (apply kl_in; focus rfl) | (apply kl_out; focus rfl))) ?_ ?_ ?_ ?_)
                    · omega
                    · exact ⟨by omega, by rw [hr2, hy2, refNo, if_t h92], by omega, by omega⟩
                    · exact ⟨rfl, rfl, rfl, trivial⟩
                    · exact trivial
                  · skip
                    refine T_seq ?_
                    refine T_region ?_
                    refine S_ 108 rfl rfl rfl _ (y_fieldAddr rfl rfl fa200_1) ?_
                    refine S_ 109 rfl rfl rfl _ (y_load 11 rfl rfl rfl rfl Tryz.underlying3 rfl) ?_
                    refine S_ 110 rfl rfl rfl _ (y_fieldAddr rfl rfl fa200_2) ?_
                    refine S_ 111 rfl rfl rfl _ (y_load 4 rfl rfl rfl rfl Tryz.underlying3 rfl) ?_
                    refine S_ 112 rfl rfl rfl _ (y_bin rfl rfl rfl (fun _ => b_lss)) ?_
                    refine S_ 113 rfl rfl rfl _ (y_move rfl rfl) ?_
                    refine Sg_ 114 rfl rfl rfl rfl rfl rfl _ (y_fieldAddr rfl rfl fa200_1) ?_
                    refine Sg_ 115 rfl rfl rfl rfl rfl rfl _ (y_load 4 rfl rfl rfl rfl Tryz.underlying3 rfl) ?_
                    refine Sg_ 116 rfl rfl rfl rfl rfl rfl _ (y_fieldAddr rfl rfl fa200_2) ?_
                    refine Sg_ 117 rfl rfl rfl rfl rfl rfl _ (y_load 11 rfl rfl rfl rfl Tryz.underlying3 rfl) ?_
                    refine Sg_ 118 rfl rfl rfl rfl rfl rfl _ (y_bin rfl rfl rfl (fun _ => b_lss)) ?_
                    refine S_ 119 rfl rfl rfl _ (y_and rfl rfl rfl) ?_
                    refine S_ 107 rfl rfl rfl _ (y_as (v' := .bool (overB b2 c)) (by exact rfl) (y_assign rfl rfl)) ?_
                    refine S_go (fun _ _ h => h) ?_
                    refine T_cond rfl (fun h107 => ?_) (fun h107 => ?_)
                    · skip
                      refine T_region ?_
                      refine S_ 8 rfl rfl rfl _ (y_assign rfl rfl) ?_
                      refine S_go (fun _ _ h => h) ?_
                      refine T_region ?_
                      refine S_ 120 rfl rfl rfl _ (y_bin rfl rfl rfl (fun hg => b_add (by omega))) ?_
                      refine S_ 88 rfl rfl rfl _ (y_move rfl rfl) ?_
                      refine S_nil (nextK3 (kf := [(8, 9), (11, 11), (88, 120)]) (kl := [(8, 9), (11, 11), (88, 120)]) (j + 1) false deep (by repeat (first | exact kf_nil | (apply kf_in; focus rfl) | (apply kf_out; focus rfl))) (by repeat (first | exact kl_nil | exact kl_rest (by assumption) rfl | (apply kl_in; focus rfl) | (apply kl_out; focus rfl))) ?_ ?_ ?_ ?_)
                      · omega
                      · exact ⟨by omega, by rw [hr2, hy2, refNo, if_f h92, if_t h107], by omega, by omega⟩
                      · exact ⟨rfl, rfl, rfl, trivial⟩
                      · exact trivial
                    · skip
                      refine T_skip_go (fun _ _ h => h) ?_
                      refine T_region ?_
                      refine S_ 120 rfl rfl rfl _ (y_bin rfl rfl rfl (fun hg => b_add (by omega))) ?_
                      refine S_ 88 rfl rfl rfl _ (y_move rfl rfl) ?_
                      refine S_nil (nextK3 (kf := [(8, 9), (11, 11), (88, 120)]) (kl := [(8, 9), (11, 11), (88, 120)]) (j + 1) wi deep (by repeat (first | exact kf_nil | (apply kf_in; focus rfl) | (apply kf_out; focus rfl))) (by repeat (first | exact kl_nil | exact kl_rest (by assumption) rfl | (apply kl_in; focus rfl) | (apply kl_out; focus rfl))) ?_ ?_ ?_ ?_)
                      · omega
                      · exact ⟨by omega, by rw [hr2, hy2, refNo, if_f h92, if_f h107], by omega, by omega⟩
                      · exact ⟨rfl, rfl, rfl, trivial⟩
                      · exact trivial
                · try simp only [decide_eq_true_eq, decide_eq_false_iff_not, Bool.or_eq_true, Bool.or_eq_false_iff, Bool.and_eq_true, Bool.and_eq_false_iff, Bool.not_eq_true', Bool.not_eq_false', Bool.not_eq_true, Bool.not_eq_false, Bool.not_true, Bool.not_false, Int.not_lt, Int.not_le, not_or, not_and, Classical.not_not] at h89
                  refine T_exit_go (fun _ _ h => h) ?_
                  refine T_seq ?_
                  refine T_seq ?_
                  refine T_region ?_
                  refine S_ 121 rfl rfl rfl _ (y_move rfl rfl) ?_
                  refine S_ 122 rfl rfl rfl _ (y_not rfl rfl) ?_
                  refine S_go (fun _ _ h => h) ?_
                  refine T_cond rfl (fun h122 => ?_) (fun h122 => ?_)
                  · skip
                    refine T_seq ?_
                    refine T_region ?_
                    refine S_ 2 rfl rfl rfl _ (y_assign rfl rfl) ?_
                    refine S_go (fun _ _ h => h) ?_
                    refine T_ret (fun a w hF hM => hRb a w (post1 rfl rfl (fun w hM => ?_) a w hF hM))
                    have he : callNo t.fu.l (t.ca.l.take i) c = 11 := by rw [hr2, hcut.end (by omega), refNo_end, if_pos (by simpa using h122)]
                    exact ⟨by rw [if_neg (by omega), hp2, hx2, callsNo, if_neg (by simpa using h28), if_f ((callBad_two hs).trans h51), if_f h78, if_pos (by rw [he]; decide), he], hM.below⟩
                  · skip
                    refine T_skip_go (fun _ _ h => h) ?_
                    refine T_seq ?_
                    refine T_region ?_
                    refine S_ 123 rfl rfl rfl _ (y_move rfl rfl) ?_
                    refine S_ 124 rfl rfl rfl _ (y_bin rfl rfl rfl (fun _ => b_geq)) ?_
                    refine S_go (fun _ _ h => h) ?_
                    refine T_cond rfl (fun h124 => ?_) (fun h124 => ?_)
                    · try simp only [decide_eq_true_eq, decide_eq_false_iff_not, Bool.or_eq_true, Bool.or_eq_false_iff, Bool.and_eq_true, Bool.and_eq_false_iff, Bool.not_eq_true', Bool.not_eq_false', Bool.not_eq_true, Bool.not_eq_false, Bool.not_true, Bool.not_false, Int.not_lt, Int.not_le, not_or, not_and, Classical.not_not] at h124
                      refine T_seq ?_
                      refine T_region ?_
                      refine S_ 2 rfl rfl rfl _ (y_assign rfl rfl) ?_
                      refine S_go (fun _ _ h => h) ?_
                      refine T_ret (fun a w hF hM => hRb a w (post1 rfl rfl (fun w hM => ?_) a w hF hM))
                      have he : callNo t.fu.l (t.ca.l.take i) c = 13 := by rw [hr2, hcut.end (by omega), refNo_end, if_neg (by simpa using h122), if_pos (by omega)]
                      exact ⟨by rw [if_neg (by omega), hp2, hx2, callsNo, if_neg (by simpa using h28), if_f ((callBad_two hs).trans h51), if_f h78, if_pos (by rw [he]; decide), he], hM.below⟩
                    · try simp only [decide_eq_true_eq, decide_eq_false_iff_not, Bool.or_eq_true, Bool.or_eq_false_iff, Bool.and_eq_true, Bool.and_eq_false_iff, Bool.not_eq_true', Bool.not_eq_false', Bool.not_eq_true, Bool.not_eq_false, Bool.not_true, Bool.not_false, Int.not_lt, Int.not_le, not_or, not_and, Classical.not_not] at h124
                      refine T_skip_go (fun _ _ h => h) ?_
                      refine T_region ?_
                      refine S_ 125 rfl rfl rfl _ (y_bin rfl rfl rfl (fun hg => b_add (by omega))) ?_
                      refine S_ 19 rfl rfl rfl _ (y_move rfl rfl) ?_
                      refine S_nil (nextK2 (kf := [(2, 9), (11, 11), (19, 125)]) (kl := [(2, 9), (11, 11), (19, 125)]) (i + 1) c (by repeat (first | exact kf_nil | (apply kf_in; focus rfl) | (apply kf_out; focus rfl))) (by repeat (first | exact kl_nil | exact kl_rest (by assumption) rfl | (apply kl_in; focus rfl) | (apply kl_out; focus rfl))) ?_ ?_ ?_ ?_)
                      · omega
                      · exact ⟨by omega, by rw [hp2, hx2, callsNo, if_neg (by simpa using h28), if_f ((callBad_two hs).trans h51), if_f h78, if_neg (by rw [hr2, hcut.end (by omega), refNo_end, if_neg (by simpa using h122), if_neg (by omega)]; simp), take_succ_at hx1], fun _ => hx1, by omega⟩
                      · exact ⟨rfl, trivial⟩
                      · exact trivial
            · try simp only [decide_eq_true_eq, decide_eq_false_iff_not, Bool.or_eq_true, Bool.or_eq_false_iff, Bool.and_eq_true, Bool.and_eq_false_iff, Bool.not_eq_true', Bool.not_eq_false', Bool.not_eq_true, Bool.not_eq_false, Bool.not_true, Bool.not_false, Int.not_lt, Int.not_le, not_or, not_and, Classical.not_not] at h53
              have h78 : callLate b c = false := by rw [hp4 (by omega)]; exact late0 ((callBad_two hs).trans h51)
              refine T_skip_go (fun _ _ h => h) ?_
              refine T_seq ?_
              refine T_region ?_
              refine S_ 79 rfl rfl rfl _ (y_fieldAddr rfl rfl fa62_3) ?_
              refine S_ 80 rfl rfl rfl _ (y_load 1 rfl rfl rfl rfl Tryz.underlying58 rfl) ?_
              refine S_ 81 rfl rfl rfl _ (y_makeFunc rfl rfl rfl rfl rfl) ?_
              refine S_ 82 rfl rfl rfl _ (y_call rfl rfl rfl cf254 (fun _ w hM => ContainsFuncF_any _ _ _ _ _ _ (SFunc.holds c) w (hok.fu.t.below hM.below) (by omega) (asks_callsFault (hM.box_cell (i := 4) rfl rfl) (hM.box_cell (i := 4) rfl rfl)))) ?_
              refine S_ 8 rfl rfl rfl _ (y_assign rfl rfl) ?_
              refine S_go (fun _ _ h => h) ?_
              refine T_seq ?_
              refine T_region ?_
              refine S_ 9 rfl rfl rfl _ (y_assign rfl rfl) ?_
              refine S_go (fun _ _ h => h) ?_
              refine T_seq ?_
              refine T_seq ?_
              refine T_region ?_
              refine S_ 83 rfl rfl rfl _ (y_fieldAddr rfl rfl fa62_5) ?_
              refine S_ 84 rfl rfl rfl _ (y_load 1 rfl rfl rfl rfl Tryz.underlying60 rfl) ?_
              refine S_ 85 rfl rfl rfl _ (y_move rfl rfl) ?_
              refine S_ 86 rfl rfl rfl _ (y_slice rfl rfl Tryz.underlying60 sz200 (.inl ⟨rfl, rfl⟩) (.inr ⟨_, _, rfl, rfl⟩) (by omega) (by omega) hcap) ?_
              refine S_ 87 rfl rfl rfl _ (y_len_slice rfl rfl Tryz.underlying60) ?_
              refine S_ 88 rfl rfl rfl _ (y_move rfl rfl) ?_
              refine S_go (fun _ _ h => h) ?_
              refine T_block ?_
              refine T_loopK3 (kf := [(8, 9), (11, 11), (88, 120)]) (kl := [(8, 9), (11, 11), (88, 120)]) (fun (j : Nat) (wi : Bool) (deep : Int) => [(88, true, .int .i64 (j : Int)), (8, true, .bool wi), (9, true, .int .i64 deep)]) (fun (j : Nat) (wi : Bool) (deep : Int) => []) (fun (j : Nat) (wi : Bool) (deep : Int) => j ≤ i ∧ callNo t.fu.l (t.ca.l.take i) c = refNo c (((t.ca.l.drop 0).take (i - 0)).drop j) wi deep ∧ 0 ≤ deep ∧ deep ≤ j) (fun (j : Nat) (wi : Bool) (deep : Int) => i - j) 0 (t.fu.l.any (SFunc.holds c)) 0 (by repeat (first | exact kf_nil | (apply kf_in; focus rfl) | (apply kf_out; focus rfl))) (by repeat (first | exact kl_nil | exact kl_rest (by assumption) rfl | (apply kl_in; focus rfl) | (apply kl_out; focus rfl))) ?_ ?_ ?_ ?_
              · exact ⟨by omega, by rw [hbe]; exact (refNo_call hso.2 _ _).symm, by omega, by omega⟩
              · exact ⟨rfl, rfl, rfl, trivial⟩
              · exact trivial
              rintro j wi deep ⟨hr1, hr2, hr3, hr4⟩
              refine T_seq ?_
              refine T_region ?_
              refine S_ 89 rfl rfl rfl _ (y_bin rfl rfl rfl (fun _ => b_lss)) ?_
              refine S_go (fun _ _ h => h) ?_
              refine T_seq ?_
              refine T_cond rfl (fun h89 => ?_) (fun h89 => ?_)
              · try simp only [decide_eq_true_eq, decide_eq_false_iff_not, Bool.or_eq_true, Bool.or_eq_false_iff, Bool.and_eq_true, Bool.and_eq_false_iff, Bool.not_eq_true', Bool.not_eq_false', Bool.not_eq_true, Bool.not_eq_false, Bool.not_true, Bool.not_false, Int.not_lt, Int.not_le, not_or, not_and, Classical.not_not] at h89
                obtain ⟨b2, hy1, hy2⟩ := hcut.at (i := j) (by omega)
                refine T_skip_go (fun _ _ h => h) ?_
                refine T_seq ?_
                refine T_block ?_
                refine T_seq ?_
                refine T_region ?_
                refine S_ 90 rfl rfl rfl _ (y_indexAddr rfl rfl rfl Tryz.underlying60 sz200 (fun hg => hcut.isSome (by omega)) (fun _ => by omega)) ?_
                refine S_ 91 rfl rfl rfl _ (y_loadT rfl rfl hcut (fun _ => rfl) (fun _ => hy1) Tryz.underlying200 rfl sz200) ?_
                refine S_alloc 11 11 rfl rfl rfl rfl z200 ?_
                intro b11
                refine S_store 11 rfl rfl rfl rfl rfl rfl sz200 rfl rfl ?_
                refine S_go (fun _ _ h => h) ?_
                refine T_block ?_
                refine T_seq ?_
                refine T_region ?_
                refine S_ 93 rfl rfl rfl _ (y_fieldAddr rfl rfl fa200_1) ?_
                refine S_ 94 rfl rfl rfl _ (y_load 11 rfl rfl rfl rfl Tryz.underlying3 rfl) ?_
                refine S_ 95 rfl rfl rfl _ (y_fieldAddr rfl rfl fa200_1) ?_
                refine S_ 96 rfl rfl rfl _ (y_load 4 rfl rfl rfl rfl Tryz.underlying3 rfl) ?_
                refine S_ 97 rfl rfl rfl _ (y_bin rfl rfl rfl (fun _ => b_leq)) ?_
                refine S_ 98 rfl rfl rfl _ (y_move rfl rfl) ?_
                refine Sg_ 99 rfl rfl rfl rfl rfl rfl _ (y_fieldAddr rfl rfl fa200_2) ?_
                refine Sg_ 100 rfl rfl rfl rfl rfl rfl _ (y_load 4 rfl rfl rfl rfl Tryz.underlying3 rfl) ?_
                refine Sg_ 101 rfl rfl rfl rfl rfl rfl _ (y_fieldAddr rfl rfl fa200_2) ?_
                refine Sg_ 102 rfl rfl rfl rfl rfl rfl _ (y_load 11 rfl rfl rfl rfl Tryz.underlying3 rfl) ?_
                refine Sg_ 103 rfl rfl rfl rfl rfl rfl _ (y_bin rfl rfl rfl (fun _ => b_leq)) ?_
                refine S_ 104 rfl rfl rfl _ (y_and rfl rfl rfl) ?_
                refine S_ 92 rfl rfl rfl _ (y_as (v' := .bool (enclB b2 c)) (by exact rfl) (y_assign rfl rfl)) ?_
                refine S_go (fun _ _ h => h) ?_
                refine T_cond rfl (fun h92 => ?_) (fun h92 => ?_)
                · skip
                  refine T_region ?_
                  refine S_ 105 rfl rfl rfl _ (y_move rfl rfl) ?_
                  refine S_ 106 rfl rfl rfl _ (y_bin rfl rfl rfl (fun hg => b_add (by omega))) ?_
                  refine S_ 9 rfl rfl rfl _ (y_assign rfl rfl) ?_
                  refine S_go (fun _ _ h => h) ?_
                  refine T_region ?_
                  refine S_ 120 rfl rfl rfl _ (y_bin rfl rfl rfl (fun hg => b_add (by omega))) ?_
                  refine S_ 88 rfl rfl rfl _ (y_move rfl rfl) ?_
                  refine S_nil (nextK3 (kf := [(8, 9), (11, 11), (88, 120)]) (kl := [(8, 9), (11, 11), (88, 120)]) (j + 1) wi (deep + 1) (by repeat (first | exact kf_nil | (apply kf_in; focus rfl) | (apply kf_out; focus rfl))) (by repeat (first | exact kl_nil | exact kl_rest (by assumption) rfl | (apply kl_in; focus rfl) | (apply kl_out; focus rfl))) ?_ ?_ ?_ ?_)
                  · omega
                  · exact ⟨by omega, by rw [hr2, hy2, refNo, if_t h92], by omega, by omega⟩
                  · exact ⟨rfl, rfl, rfl, trivial⟩
                  · exact trivial
                · skip
                  refine T_seq ?_
                  refine T_region ?_
                  refine S_ 108 rfl rfl rfl _ (y_fieldAddr rfl rfl fa200_1) ?_
                  refine S_ 109 rfl rfl rfl _ (y_load 11 rfl rfl rfl rfl Tryz.underlying3 rfl) ?_
                  refine S_ 110 rfl rfl rfl _ (y_fieldAddr rfl rfl fa200_2) ?_
                  refine S_ 111 rfl rfl rfl _ (y_load 4 rfl rfl rfl rfl Tryz.underlying3 rfl) ?_
                  refine S_ 112 rfl rfl rfl _ (y_bin rfl rfl rfl (fun _ => b_lss)) ?_
                  refine S_ 113 rfl rfl rfl _ (y_move rfl rfl) ?_
                  refine Sg_ 114 rfl rfl rfl rfl rfl rfl _ (y_fieldAddr rfl rfl fa200_1) ?_
                  refine Sg_ 115 rfl rfl rfl rfl rfl rfl _ (y_load 4 rfl rfl rfl rfl Tryz.underlying3 rfl) ?_
                  refine Sg_ 116 rfl rfl rfl rfl rfl rfl _ (y_fieldAddr rfl rfl fa200_2) ?_
                  refine Sg_ 117 rfl rfl rfl rfl rfl rfl _ (y_load 11 rfl rfl rfl rfl Tryz.underlying3 rfl) ?_
                  refine Sg_ 118 rfl rfl rfl rfl rfl rfl _ (y_bin rfl rfl rfl (fun _ => b_lss)) ?_
                  refine S_ 119 rfl rfl rfl _ (y_and rfl rfl rfl) ?_
                  refine S_ 107 rfl rfl rfl _ (y_as (v' := .bool (overB b2 c)) (by exact rfl) (y_assign rfl rfl)) ?_
                  refine S_go (fun _ _ h => h) ?_
                  refine T_cond rfl (fun h107 => ?_) (fun h107 => ?_)
                  · skip
                    refine T_region ?_
                    refine S_ 8 rfl rfl rfl _ (y_assign rfl rfl) ?_
                    refine S_go (fun _ _ h => h) ?_
                    refine T_region ?_
                    refine S_ 120 rfl rfl rfl _ (y_bin rfl rfl rfl (fun hg => b_add (by omega))) ?_
                    refine S_ 88 rfl rfl rfl _ (y_move rfl rfl) ?_
                    refine S_nil (nextK3 (kf := [(8, 9), (11, 11), (88, 120)]) (kl := [(8, 9), (11, 11), (88, 120)]) (j + 1) false deep (by repeat (first | exact kf_nil | (apply kf_in; focus rfl) | (apply kf_out; focus rfl))) (by repeat (first | exact kl_nil | exact kl_rest (by assumption) rfl | (apply kl_in; focus rfl) | (apply kl_out; focus rfl))) ?_ ?_ ?_ ?_)
                    · omega
                    · exact ⟨by omega, by rw [hr2, hy2, refNo, if_f h92, if_t h107], by omega, by omega⟩
                    · exact ⟨rfl, rfl, rfl, trivial⟩
                    · exact trivial
                  · skip
                    refine T_skip_go (fun _ _ h => h) ?_
                    refine T_region ?_
                    refine S_ 120 rfl rfl rfl _ (y_bin rfl rfl rfl (fun hg => b_add (by omega))) ?_
                    refine S_ 88 rfl rfl rfl _ (y_move rfl rfl) ?_
                    refine S_nil (nextK3 (kf := [(8, 9), (11, 11), (88, 120)]) (kl := [(8, 9), (11, 11), (88, 120)]) (j + 1) wi deep (by repeat (first | exact kf_nil | (apply kf_in; focus rfl) | (apply kf_out; focus rfl))) (by repeat (first | exact kl_nil | exact kl_rest (by assumption) rfl | (apply kl_in; focus rfl) | (apply kl_out; focus rfl))) ?_ ?_ ?_ ?_)
                    · omega
                    · exact ⟨by omega, by rw [hr2, hy2, refNo, if_f h92, if_f h107], by omega, by omega⟩
                    · exact ⟨rfl, rfl, rfl, trivial⟩
                    · exact trivial
              · try simp only [decide_eq_true_eq, decide_eq_false_iff_not, Bool.or_eq_true, Bool.or_eq_false_iff, Bool.and_eq_true, Bool.and_eq_false_iff, Bool.not_eq_true', Bool.not_eq_false', Bool.not_eq_true, Bool.not_eq_false, Bool.not_true, Bool.not_false, Int.not_lt, Int.not_le, not_or, not_and, Classical.not_not] at h89
                refine T_exit_go (fun _ _ h => h) ?_
                refine T_seq ?_
                refine T_seq ?_
                refine T_region ?_
                refine S_ 121 rfl rfl rfl _ (y_move rfl rfl) ?_
                refine S_ 122 rfl rfl rfl _ (y_not rfl rfl) ?_
                refine S_go (fun _ _ h => h) ?_
                refine T_cond rfl (fun h122 => ?_) (fun h122 => ?_)
                · skip
                  refine T_seq ?_
                  refine T_region ?_
                  refine S_ 2 rfl rfl rfl _ (y_assign rfl rfl) ?_
                  refine S_go (fun _ _ h => h) ?_
                  refine T_ret (fun a w hF hM => hRb a w (post1 rfl rfl (fun w hM => ?_) a w hF hM))
                  have he : callNo t.fu.l (t.ca.l.take i) c = 11 := by rw [hr2, hcut.end (by omega), refNo_end, if_pos (by simpa using h122)]
                  exact ⟨by rw [if_neg (by omega), hp2, hx2, callsNo, if_neg (by simpa using h28), if_f ((callBad_two hs).trans h51), if_f h78, if_pos (by rw [he]; decide), he], hM.below⟩
                · skip
                  refine T_skip_go (fun _ _ h => h) ?_
                  refine T_seq ?_
                  refine T_region ?_
                  refine S_ 123 rfl rfl rfl _ (y_move rfl rfl) ?_
                  refine S_ 124 rfl rfl rfl _ (y_bin rfl rfl rfl (fun _ => b_geq)) ?_
                  refine S_go (fun _ _ h => h) ?_
                  refine T_cond rfl (fun h124 => ?_) (fun h124 => ?_)
                  · try simp only [decide_eq_true_eq, decide_eq_false_iff_not, Bool.or_eq_true, Bool.or_eq_false_iff, Bool.and_eq_true, Bool.and_eq_false_iff, Bool.not_eq_true', Bool.not_eq_false', Bool.not_eq_true, Bool.not_eq_false, Bool.not_true, Bool.not_false, Int.not_lt, Int.not_le, not_or, not_and, Classical.not_not] at h124
                    refine T_seq ?_
                    refine T_region ?_
                    refine S_ 2 rfl rfl rfl _ (y_assign rfl rfl) ?_
                    refine S_go (fun _ _ h => h) ?_
                    refine T_ret (fun a w hF hM => hRb a w (post1 rfl rfl (fun w hM => ?_) a w hF hM))
                    have he : callNo t.fu.l (t.ca.l.take i) c = 13 := by rw [hr2, hcut.end (by omega), refNo_end, if_neg (by simpa using h122), if_pos (by omega)]
                    exact ⟨by rw [if_neg (by omega), hp2, hx2, callsNo, if_neg (by simpa using h28), if_f ((callBad_two hs).trans h51), if_f h78, if_pos (by rw [he]; decide), he], hM.below⟩
                  · try simp only [decide_eq_true_eq, decide_eq_false_iff_not, Bool.or_eq_true, Bool.or_eq_false_iff, Bool.and_eq_true, Bool.and_eq_false_iff, Bool.not_eq_true', Bool.not_eq_false', Bool.not_eq_true, Bool.not_eq_false, Bool.not_true, Bool.not_false, Int.not_lt, Int.not_le, not_or, not_and, Classical.not_not] at h124
                    refine T_skip_go (fun _ _ h => h) ?_
                    refine T_region ?_
                    refine S_ 125 rfl rfl rfl _ (y_bin rfl rfl rfl (fun hg => b_add (by omega))) ?_
                    refine S_ 19 rfl rfl rfl _ (y_move rfl rfl) ?_
                    refine S_nil (nextK2 (kf := [(2, 9), (11, 11), (19, 125)]) (kl := [(2, 9), (11, 11), (19, 125)]) (i + 1) c (by repeat (first | exact kf_nil | (apply kf_in; focus rfl) | (apply kf_out; focus rfl))) (by repeat (first | exact kl_nil | exact kl_rest (by assumption) rfl | (apply kl_in; focus rfl) | (apply kl_out; focus rfl))) ?_ ?_ ?_ ?_)
                    · omega
                    · exact ⟨by omega, by rw [hp2, hx2, callsNo, if_neg (by simpa using h28), if_f ((callBad_two hs).trans h51), if_f h78, if_neg (by rw [hr2, hcut.end (by omega), refNo_end, if_neg (by simpa using h122), if_neg (by omega)]; simp), take_succ_at hx1], fun _ => hx1, by omega⟩
                    · exact ⟨rfl, trivial⟩
                    · exact trivial
    · try simp only [decide_eq_true_eq, decide_eq_false_iff_not, Bool.or_eq_true, Bool.or_eq_false_iff, Bool.and_eq_true, Bool.and_eq_false_iff, Bool.not_eq_true', Bool.not_eq_false', Bool.not_eq_true, Bool.not_eq_false, Bool.not_true, Bool.not_false, Int.not_lt, Int.not_le, not_or, not_and, Classical.not_not] at h20
      refine T_exit_go (fun _ _ h => h) ?_
      refine T_seq ?_
      refine T_region ?_
      refine S_ 2 rfl rfl rfl _ (y_assign rfl rfl) ?_
      refine S_go (fun _ _ h => h) ?_
      refine T_ret (fun a w hF hM => hRb a w (post1 rfl rfl (fun w hM => ?_) a w hF hM))
      exact ⟨by rw [if_neg (by omega), hp2, ht.end (by omega)]; rfl, hM.below⟩

/-! ### All of a table, all modules -/
def firstNo : List Int → Int
  | [] => 0
  | a :: r => if a ≠ 0 then a else firstNo r
theorem firstNo_three (a b c : Int) : firstNo [a, b, c] = fst a (fst b c) := by
  simp only [firstNo, fst]
  by_cases h : c = 0 <;> simp [h]
def refFns : List FuncId := [117, 118, 119]
def refNos (t : Tab) : List Int := [if (1000 : Int) < t.fu.q then 4 else funcsNo t.size t.fu.l 0, if (5000 : Int) < t.ro.q then 4 else rowsNo t.size t.fi.q t.ro.l (-1), if (1000 : Int) < t.ca.q then 4 else callsNo t.size t.fi.q t.fu.l [] t.ca.l call0]
theorem ref_cf (k : Nat) (h : k < 3) : ∀ args w, (callFunc (refFns.getD k 0) args).run Tryz.prog w = .ok (.enter (refFns.getD k 0) args) w := by
  match k, h with
  | 0, _ => exact cf117
  | 1, _ => exact cf118
  | 2, _ => exact cf119
theorem ref_any (t : Tab) (w : World) (hok : t.Ok w) (hz : 1 ≤ t.size ∧ t.size ≤ 4294967296) (k : Nat) (h : k < 3) :
    Calls Tryz.prog (refFns.getD k 0) #[.agg #[str t.id, .int .i64 t.size, .slice t.fi.A t.fi.q t.fi.c, .slice t.fu.A t.fu.q t.fu.c, .slice t.ro.A t.ro.q t.ro.c, .slice t.ca.A t.ca.q t.ca.c]] w fun e w' => e = .returned (.int .i64 ((refNos t).getD k 0)) ∧ Below w.heap.size w w' := by
  match k, h with
  | 0, _ => exact funcsFault_any t w hok hz
  | 1, _ => exact rowsFault_any t w hok hz
  | 2, _ => exact callsFault_any t w hok hz
theorem ref_fn (k : Nat) (h : k < 3) : [Value.func (.func 117) #[] #[], .func (.func 118) #[] #[], .func (.func 119) #[] #[]][k]? = some (.func (.func (refFns.getD k 0)) #[] #[]) := by
  match k, h with
  | 0, _ => rfl
  | 1, _ => rfl
  | 2, _ => rfl
theorem ref_drop (t : Tab) (k : Nat) (h : k < 3) : (refNos t).drop k = (refNos t).getD k 0 :: (refNos t).drop (k + 1) := by
  match k, h with
  | 0, _ => rfl
  | 1, _ => rfl
  | 2, _ => rfl
theorem firstNo_t {a : Int} {r : List Int} (h : a ≠ 0) : firstNo (a :: r) = a := if_pos h
theorem firstNo_f {a : Int} {r : List Int} (h : a = 0) : firstNo (a :: r) = firstNo r := if_neg (by simp [h])
theorem tabNo_rest (t : Tab) : tabNo t = if (!idOk t.id) = true then 1 else if outB t.size 1 4294967296 = true then 2 else if (200 : Int) < t.fi.q then 4 else fst (filesNo [] t.fi.l) (firstNo (refNos t)) := by
  unfold tabNo refNos
  rw [firstNo_three]
  split
  · rfl
  split
  · rfl
  by_cases h : (200 : Int) < t.fi.q
  · rw [if_pos h, if_pos h]; rfl
  · rw [if_neg h, if_neg h]
theorem TableFault_any (t : Tab) (w : World) (hok : t.Ok w) :
    Calls Tryz.prog 25 #[.agg #[str t.id, .int .i64 t.size, .slice t.fi.A t.fi.q t.fi.c, .slice t.fu.A t.fu.q t.fu.c, .slice t.ro.A t.ro.q t.ro.c, .slice t.ca.A t.ca.q t.ca.c]] w fun e w' => e = .returned (.int .i64 (tabNo t)) ∧ Below w.heap.size w w' := by
  have hq := hok.small
  have ht := hok.fi.t
  have hcap := hok.fi.cap
  rw [tabNo_rest]
  refine enter_args (args := [.agg #[str t.id, .int .i64 t.size, .slice t.fi.A t.fi.q t.fi.c, .slice t.fu.A t.fu.q t.fu.c, .slice t.ro.A t.ro.q t.ro.c, .slice t.ca.A t.ca.q t.ca.c]]) (F := _) Tryz.func25 rfl Tryz.ntmps25 rfl rfl ?_
  intro Rb hRb hRn
  refine T_seq ?_
  refine T_region ?_
  refine S_box 1 1 rfl rfl rfl rfl rfl ?_
  intro b1
  refine S_ 2 rfl rfl rfl _ (y_assign rfl rfl) ?_
  refine S_go (fun _ _ h => h) ?_
  refine T_seq ?_
  refine T_block ?_
  refine T_seq ?_
  refine T_region ?_
  refine S_ 10 rfl rfl rfl _ (y_fieldAddr rfl rfl fa62_0) ?_
  refine S_ 11 rfl rfl rfl _ (y_load 1 rfl rfl rfl rfl Tryz.underlying9 rfl) ?_
  refine S_ 12 rfl rfl rfl _ (y_call rfl rfl rfl cf114 (fun _ w _ => digits16_any _ w)) ?_
  refine S_ 13 rfl rfl rfl _ (y_not rfl rfl) ?_
  refine S_ 9 rfl rfl rfl _ (y_assign rfl rfl) ?_
  refine S_go (fun _ _ h => h) ?_
  refine T_cond rfl (fun h9 => ?_) (fun h9 => ?_)
  · skip
    refine T_seq ?_
    refine T_region ?_
    refine S_ 2 rfl rfl rfl _ (y_assign rfl rfl) ?_
    refine S_go (fun _ _ h => h) ?_
    refine T_ret (fun a w hF hM => hRb a w (post1 rfl rfl (fun w hM => ?_) a w hF hM))
    exact ⟨by rw [if_t h9], hM.below⟩
  · skip
    refine T_seq ?_
    refine T_region ?_
    refine S_ 15 rfl rfl rfl _ (y_fieldAddr rfl rfl fa62_1) ?_
    refine S_ 16 rfl rfl rfl _ (y_load 1 rfl rfl rfl rfl Tryz.underlying3 rfl) ?_
    refine S_ 17 rfl rfl rfl _ (y_call rfl rfl rfl cf83 (fun _ w _ => outB_any _ _ _ w)) ?_
    refine S_ 14 rfl rfl rfl _ (y_assign rfl rfl) ?_
    refine S_go (fun _ _ h => h) ?_
    refine T_cond rfl (fun h14 => ?_) (fun h14 => ?_)
    · skip
      refine T_seq ?_
      refine T_region ?_
      refine S_ 2 rfl rfl rfl _ (y_assign rfl rfl) ?_
      refine S_go (fun _ _ h => h) ?_
      refine T_ret (fun a w hF hM => hRb a w (post1 rfl rfl (fun w hM => ?_) a w hF hM))
      exact ⟨by rw [if_f h9, if_t h14], hM.below⟩
    · skip
      have hz := size_of_out h14
      refine T_seq ?_
      refine T_region ?_
      refine S_ 19 rfl rfl rfl _ (y_fieldAddr rfl rfl fa62_2) ?_
      refine S_ 20 rfl rfl rfl _ (y_load 1 rfl rfl rfl rfl Tryz.underlying57 rfl) ?_
      refine S_ 21 rfl rfl rfl _ (y_len_slice rfl rfl Tryz.underlying57) ?_
      refine S_ 22 rfl rfl rfl _ (y_bin rfl rfl rfl (fun _ => b_gtr)) ?_
      refine S_ 18 rfl rfl rfl _ (y_assign rfl rfl) ?_
      refine S_go (fun _ _ h => h) ?_
      refine T_cond rfl (fun h18 => ?_) (fun h18 => ?_)
      · try simp only [decide_eq_true_eq, decide_eq_false_iff_not, Bool.or_eq_true, Bool.or_eq_false_iff, Bool.and_eq_true, Bool.and_eq_false_iff, Bool.not_eq_true', Bool.not_eq_false', Bool.not_eq_true, Bool.not_eq_false, Bool.not_true, Bool.not_false, Int.not_lt, Int.not_le, not_or, not_and, Classical.not_not] at h18
        refine T_seq ?_
        refine T_region ?_
        refine S_ 2 rfl rfl rfl _ (y_assign rfl rfl) ?_
        refine S_go (fun _ _ h => h) ?_
        refine T_ret (fun a w hF hM => hRb a w (post1 rfl rfl (fun w hM => ?_) a w hF hM))
        exact ⟨by rw [if_f h9, if_f h14, if_pos (by omega)], hM.below⟩
      · try simp only [decide_eq_true_eq, decide_eq_false_iff_not, Bool.or_eq_true, Bool.or_eq_false_iff, Bool.and_eq_true, Bool.and_eq_false_iff, Bool.not_eq_true', Bool.not_eq_false', Bool.not_eq_true, Bool.not_eq_false, Bool.not_true, Bool.not_false, Int.not_lt, Int.not_le, not_or, not_and, Classical.not_not] at h18
        refine T_skip_go (fun _ _ h => h) ?_
        refine T_seq ?_
        refine T_seq ?_
        refine T_region ?_
        refine S_ 23 rfl rfl rfl _ (y_fieldAddr rfl rfl fa62_2) ?_
        refine S_ 24 rfl rfl rfl _ (y_load 1 rfl rfl rfl rfl Tryz.underlying57 rfl) ?_
        refine S_ 25 rfl rfl rfl _ (y_len_slice rfl rfl Tryz.underlying57) ?_
        refine S_ 26 rfl rfl rfl _ (y_move rfl rfl) ?_
        refine S_go (fun _ _ h => h) ?_
        refine T_block ?_
        refine T_loopK1 (kf := [(2, 5), (26, 44)]) (kl := [(2, 5), (26, 44)]) (fun (i : Nat) => [(26, true, .int .i64 (i : Int))]) (fun (i : Nat) => []) (fun (i : Nat) => i ≤ t.fi.q ∧ filesNo [] t.fi.l = filesNo (t.fi.l.take i) (t.fi.l.drop i)) (fun (i : Nat) => t.fi.q - i) 0 (by repeat (first | exact kf_nil | (apply kf_in; focus rfl) | (apply kf_out; focus rfl))) (by repeat (first | exact kl_nil | exact kl_rest (by assumption) rfl | (apply kl_in; focus rfl) | (apply kl_out; focus rfl))) ?_ ?_ ?_ ?_
        · exact ⟨by omega, rfl⟩
        · exact ⟨rfl, trivial⟩
        · exact trivial
        rintro i ⟨hp1, hp2⟩
        refine T_seq ?_
        refine T_region ?_
        refine S_ 27 rfl rfl rfl _ (y_bin rfl rfl rfl (fun _ => b_lss)) ?_
        refine S_go (fun _ _ h => h) ?_
        refine T_seq ?_
        refine T_cond rfl (fun h27 => ?_) (fun h27 => ?_)
        · try simp only [decide_eq_true_eq, decide_eq_false_iff_not, Bool.or_eq_true, Bool.or_eq_false_iff, Bool.and_eq_true, Bool.and_eq_false_iff, Bool.not_eq_true', Bool.not_eq_false', Bool.not_eq_true, Bool.not_eq_false, Bool.not_true, Bool.not_false, Int.not_lt, Int.not_le, not_or, not_and, Classical.not_not] at h27
          obtain ⟨x, hx1, hx2⟩ := ht.at (i := i) (by omega)
          have hn1 := hok.names.1 x (mem_at hx1)
          refine T_skip_go (fun _ _ h => h) ?_
          refine T_seq ?_
          refine T_block ?_
          refine T_seq ?_
          refine T_region ?_
          refine S_ 28 rfl rfl rfl _ (y_move rfl rfl) ?_
          refine S_ 29 rfl rfl rfl _ (y_indexAddr rfl rfl rfl Tryz.underlying57 sz9 (fun hg => ht.isSome (by omega)) (fun _ => by omega)) ?_
          refine S_ 30 rfl rfl rfl _ (y_loadT1 (val := (fun l : List UInt8 => str l)) rfl rfl ht (fun _ => hx1) Tryz.underlying9 rfl) ?_
          refine S_ 3 rfl rfl rfl _ (y_assign rfl rfl) ?_
          refine S_ 4 rfl rfl rfl _ (y_assign rfl rfl) ?_
          refine S_go (fun _ _ h => h) ?_
          refine T_seq ?_
          refine T_seq ?_
          refine T_region ?_
          refine S_ 31 rfl rfl rfl _ (y_move rfl rfl) ?_
          refine S_ 32 rfl rfl rfl _ (y_bin rfl rfl rfl (fun _ => b_eqls)) ?_
          refine S_go (fun _ _ h => h) ?_
          refine T_cond rfl (fun h32 => ?_) (fun h32 => ?_)
          · try simp only [decide_eq_true_eq, decide_eq_false_iff_not, Bool.or_eq_true, Bool.or_eq_false_iff, Bool.and_eq_true, Bool.and_eq_false_iff, Bool.not_eq_true', Bool.not_eq_false', Bool.not_eq_true, Bool.not_eq_false, Bool.not_true, Bool.not_false, Int.not_lt, Int.not_le, not_or, not_and, Classical.not_not] at h32
            refine T_seq ?_
            refine T_region ?_
            refine S_ 2 rfl rfl rfl _ (y_assign rfl rfl) ?_
            refine S_go (fun _ _ h => h) ?_
            refine T_ret (fun a w hF hM => hRb a w (post1 rfl rfl (fun w hM => ?_) a w hF hM))
            exact ⟨by rw [if_f h9, if_f h14, if_neg (by omega), hp2, hx2, filesNo, if_pos h32]; rfl, hM.below⟩
          · try simp only [decide_eq_true_eq, decide_eq_false_iff_not, Bool.or_eq_true, Bool.or_eq_false_iff, Bool.and_eq_true, Bool.and_eq_false_iff, Bool.not_eq_true', Bool.not_eq_false', Bool.not_eq_true, Bool.not_eq_false, Bool.not_true, Bool.not_false, Int.not_lt, Int.not_le, not_or, not_and, Classical.not_not] at h32
            refine T_skip_go (fun _ _ h => h) ?_
            refine T_seq ?_
            refine T_seq ?_
            refine T_region ?_
            refine S_ 33 rfl rfl rfl _ (y_move rfl rfl) ?_
            refine S_ 34 rfl rfl rfl _ (y_call rfl rfl rfl cf115 (fun _ w _ => frameFault_any _ _ _ (by first | omega | (simp; done) | (simp; omega) | (simp only; omega)) (by first | omega | (simp; done) | (simp; omega) | (simp only; omega)) (by first | omega | (simp; done) | (simp; omega) | (simp only; omega)) w)) ?_
            refine S_ 5 rfl rfl rfl _ (y_assign rfl rfl) ?_
            refine S_go (fun _ _ h => h) ?_
            refine T_seq ?_
            refine T_region ?_
            refine S_ 35 rfl rfl rfl _ (y_move rfl rfl) ?_
            refine S_ 36 rfl rfl rfl _ (y_bin rfl rfl rfl (fun _ => b_neq)) ?_
            refine S_go (fun _ _ h => h) ?_
            refine T_cond rfl (fun h36 => ?_) (fun h36 => ?_)
            · try simp only [decide_eq_true_eq, decide_eq_false_iff_not, Bool.or_eq_true, Bool.or_eq_false_iff, Bool.and_eq_true, Bool.and_eq_false_iff, Bool.not_eq_true', Bool.not_eq_false', Bool.not_eq_true, Bool.not_eq_false, Bool.not_true, Bool.not_false, Int.not_lt, Int.not_le, not_or, not_and, Classical.not_not] at h36
              refine T_seq ?_
              refine T_region ?_
              refine S_ 37 rfl rfl rfl _ (y_move rfl rfl) ?_
              refine S_ 2 rfl rfl rfl _ (y_assign rfl rfl) ?_
              refine S_go (fun _ _ h => h) ?_
              refine T_ret (fun a w hF hM => hRb a w (post1 rfl rfl (fun w hM => ?_) a w hF hM))
              exact ⟨by rw [if_f h9, if_f h14, if_neg (by omega), hp2, hx2, filesNo, if_neg h32, if_pos h36, fst_a rfl h36], hM.below⟩
            · try simp only [decide_eq_true_eq, decide_eq_false_iff_not, Bool.or_eq_true, Bool.or_eq_false_iff, Bool.and_eq_true, Bool.and_eq_false_iff, Bool.not_eq_true', Bool.not_eq_false', Bool.not_eq_true, Bool.not_eq_false, Bool.not_true, Bool.not_false, Int.not_lt, Int.not_le, not_or, not_and, Classical.not_not] at h36
              refine T_skip_go (fun _ _ h => h) ?_
              refine T_seq ?_
              refine T_region ?_
              refine S_ 38 rfl rfl rfl _ (y_fieldAddr rfl rfl fa62_2) ?_
              refine S_ 39 rfl rfl rfl _ (y_load 1 rfl rfl rfl rfl Tryz.underlying57 rfl) ?_
              refine S_ 40 rfl rfl rfl _ (y_move rfl rfl) ?_
              refine S_ 41 rfl rfl rfl _ (y_slice rfl rfl Tryz.underlying57 sz9 (.inl ⟨rfl, rfl⟩) (.inr ⟨_, _, rfl, rfl⟩) (by omega) (by omega) hcap) ?_
              refine S_ 42 rfl rfl rfl _ (y_move rfl rfl) ?_
              refine S_ 43 rfl rfl rfl _ (y_as (v' := .bool (decide (x ∈ t.fi.l.take i))) (by simp) (y_call rfl rfl rfl cf116 (fun _ w hM => ContainsS_any _ _ _ _ _ w ((ht.cut (lo := 0) (hi := i) (fun _ => rfl) (by omega) (by omega) hcap).below hM.below) (by omega)))) ?_
              refine S_go (fun _ _ h => h) ?_
              refine T_cond rfl (fun h43 => ?_) (fun h43 => ?_)
              · try simp only [decide_eq_true_eq, decide_eq_false_iff_not, Bool.or_eq_true, Bool.or_eq_false_iff, Bool.and_eq_true, Bool.and_eq_false_iff, Bool.not_eq_true', Bool.not_eq_false', Bool.not_eq_true, Bool.not_eq_false, Bool.not_true, Bool.not_false, Int.not_lt, Int.not_le, not_or, not_and, Classical.not_not] at h43
                refine T_seq ?_
                refine T_region ?_
                refine S_ 2 rfl rfl rfl _ (y_assign rfl rfl) ?_
                refine S_go (fun _ _ h => h) ?_
                refine T_ret (fun a w hF hM => hRb a w (post1 rfl rfl (fun w hM => ?_) a w hF hM))
                exact ⟨by rw [if_f h9, if_f h14, if_neg (by omega), hp2, hx2, filesNo, if_neg h32, if_neg (by simpa using h36), if_pos h43]; rfl, hM.below⟩
              · try simp only [decide_eq_true_eq, decide_eq_false_iff_not, Bool.or_eq_true, Bool.or_eq_false_iff, Bool.and_eq_true, Bool.and_eq_false_iff, Bool.not_eq_true', Bool.not_eq_false', Bool.not_eq_true, Bool.not_eq_false, Bool.not_true, Bool.not_false, Int.not_lt, Int.not_le, not_or, not_and, Classical.not_not] at h43
                refine T_skip_go (fun _ _ h => h) ?_
                refine T_region ?_
                refine S_ 44 rfl rfl rfl _ (y_bin rfl rfl rfl (fun hg => b_add (by omega))) ?_
                refine S_ 26 rfl rfl rfl _ (y_move rfl rfl) ?_
                refine S_nil (nextK1 (kf := [(2, 5), (26, 44)]) (kl := [(2, 5), (26, 44)]) (i + 1) (by repeat (first | exact kf_nil | (apply kf_in; focus rfl) | (apply kf_out; focus rfl))) (by repeat (first | exact kl_nil | exact kl_rest (by assumption) rfl | (apply kl_in; focus rfl) | (apply kl_out; focus rfl))) ?_ ?_ ?_ ?_)
                · omega
                · exact ⟨by omega, by rw [hp2, hx2, filesNo, if_neg h32, if_neg (by simpa using h36), if_neg h43, take_succ_at hx1]⟩
                · exact ⟨rfl, trivial⟩
                · exact trivial
        · try simp only [decide_eq_true_eq, decide_eq_false_iff_not, Bool.or_eq_true, Bool.or_eq_false_iff, Bool.and_eq_true, Bool.and_eq_false_iff, Bool.not_eq_true', Bool.not_eq_false', Bool.not_eq_true, Bool.not_eq_false, Bool.not_true, Bool.not_false, Int.not_lt, Int.not_le, not_or, not_and, Classical.not_not] at h27
          refine T_exit_go (fun _ _ h => h) ?_
          refine T_seq ?_
          refine T_seq ?_
          refine T_region ?_
          refine S_buildSlice 45 45 rfl rfl rfl rfl rfl Tryz.underlying185 inf63 rfl (by decide) (by decide) rfl rfl (by decide) rfl (_) rfl ?_
          intro b45
          refine S_ 46 rfl rfl rfl _ (y_len_slice rfl rfl Tryz.underlying185) ?_
          refine S_ 47 rfl rfl rfl _ (y_move rfl rfl) ?_
          refine S_go (fun _ _ h => h) ?_
          refine T_block ?_
          refine T_loopK1 (kf := [(2, 2), (7, 8), (47, 57)]) (kl := [(2, 2), (7, 8), (47, 57)]) (fun (k : Nat) => [(47, true, .int .i64 (k : Int))]) (fun (k : Nat) => []) (fun (k : Nat) => k ≤ 3 ∧ firstNo (refNos t) = firstNo ((refNos t).drop k)) (fun (k : Nat) => 3 - k) 0 (by repeat (first | exact kf_nil | (apply kf_in; focus rfl) | (apply kf_out; focus rfl))) (by repeat (first | exact kl_nil | exact kl_rest (by assumption) rfl | (apply kl_in; focus rfl) | (apply kl_out; focus rfl))) ?_ ?_ ?_ ?_
          · exact ⟨by omega, rfl⟩
          · exact ⟨rfl, trivial⟩
          · exact trivial
          rintro k ⟨hr1, hr2⟩
          refine T_seq ?_
          refine T_region ?_
          refine S_ 48 rfl rfl rfl _ (y_bin rfl rfl rfl (fun _ => b_lss)) ?_
          refine S_go (fun _ _ h => h) ?_
          refine T_seq ?_
          refine T_cond rfl (fun h48 => ?_) (fun h48 => ?_)
          · try simp only [decide_eq_true_eq, decide_eq_false_iff_not, Bool.or_eq_true, Bool.or_eq_false_iff, Bool.and_eq_true, Bool.and_eq_false_iff, Bool.not_eq_true', Bool.not_eq_false', Bool.not_eq_true, Bool.not_eq_false, Bool.not_true, Bool.not_false, Int.not_lt, Int.not_le, not_or, not_and, Classical.not_not] at h48
            refine T_skip_go (fun _ _ h => h) ?_
            refine T_seq ?_
            refine T_block ?_
            refine T_seq ?_
            refine T_region ?_
            refine S_ 49 rfl rfl rfl _ (y_indexOwn 45 rfl rfl rfl rfl Tryz.underlying185 sz63 (fun _ => by omega)) ?_
            refine S_ 50 rfl rfl rfl _ (y_load_own 45 rfl rfl rfl (fun _ => by omega) (fun _ => ref_fn k (by omega)) Tryz.underlying63 rfl) ?_
            refine S_ 7 rfl rfl rfl _ (y_assign rfl rfl) ?_
            refine S_go (fun _ _ h => h) ?_
            refine T_seq ?_
            refine T_region ?_
            refine S_ 51 rfl rfl rfl _ (y_move rfl rfl) ?_
            refine S_ 52 rfl rfl rfl _ (y_loadA 1 rfl rfl rfl Tryz.underlying62 rfl sz62) ?_
            refine S_ 53 rfl rfl rfl _ (y_call rfl rfl rfl (ref_cf k (by omega)) (fun _ w hM => ref_any t w (hok.below hM.below) hz k (by omega))) ?_
            refine S_ 8 rfl rfl rfl _ (y_assign rfl rfl) ?_
            refine S_go (fun _ _ h => h) ?_
            refine T_seq ?_
            refine T_region ?_
            refine S_ 54 rfl rfl rfl _ (y_move rfl rfl) ?_
            refine S_ 55 rfl rfl rfl _ (y_bin rfl rfl rfl (fun _ => b_neq)) ?_
            refine S_go (fun _ _ h => h) ?_
            refine T_cond rfl (fun h55 => ?_) (fun h55 => ?_)
            · try simp only [decide_eq_true_eq, decide_eq_false_iff_not, Bool.or_eq_true, Bool.or_eq_false_iff, Bool.and_eq_true, Bool.and_eq_false_iff, Bool.not_eq_true', Bool.not_eq_false', Bool.not_eq_true, Bool.not_eq_false, Bool.not_true, Bool.not_false, Int.not_lt, Int.not_le, not_or, not_and, Classical.not_not] at h55
              refine T_seq ?_
              refine T_region ?_
              refine S_ 56 rfl rfl rfl _ (y_move rfl rfl) ?_
              refine S_ 2 rfl rfl rfl _ (y_assign rfl rfl) ?_
              refine S_go (fun _ _ h => h) ?_
              refine T_ret (fun a w hF hM => hRb a w (post1 rfl rfl (fun w hM => ?_) a w hF hM))
              exact ⟨by rw [if_f h9, if_f h14, if_neg (by omega), fst_b (by rw [hp2, ht.end (by omega)]; rfl) (by rw [hr2, ref_drop t k (by omega), firstNo_t h55])], hM.below⟩
            · try simp only [decide_eq_true_eq, decide_eq_false_iff_not, Bool.or_eq_true, Bool.or_eq_false_iff, Bool.and_eq_true, Bool.and_eq_false_iff, Bool.not_eq_true', Bool.not_eq_false', Bool.not_eq_true, Bool.not_eq_false, Bool.not_true, Bool.not_false, Int.not_lt, Int.not_le, not_or, not_and, Classical.not_not] at h55
              refine T_skip_go (fun _ _ h => h) ?_
              refine T_region ?_
              refine S_ 57 rfl rfl rfl _ (y_bin rfl rfl rfl (fun hg => b_add (by omega))) ?_
              refine S_ 47 rfl rfl rfl _ (y_move rfl rfl) ?_
              refine S_nil (nextK1 (kf := [(2, 2), (7, 8), (47, 57)]) (kl := [(2, 2), (7, 8), (47, 57)]) (k + 1) (by repeat (first | exact kf_nil | (apply kf_in; focus rfl) | (apply kf_out; focus rfl))) (by repeat (first | exact kl_nil | exact kl_rest (by assumption) rfl | (apply kl_in; focus rfl) | (apply kl_out; focus rfl))) ?_ ?_ ?_ ?_)
              · omega
              · exact ⟨by omega, by rw [hr2, ref_drop t k (by omega), firstNo_f h55]⟩
              · exact ⟨rfl, trivial⟩
              · exact trivial
          · try simp only [decide_eq_true_eq, decide_eq_false_iff_not, Bool.or_eq_true, Bool.or_eq_false_iff, Bool.and_eq_true, Bool.and_eq_false_iff, Bool.not_eq_true', Bool.not_eq_false', Bool.not_eq_true, Bool.not_eq_false, Bool.not_true, Bool.not_false, Int.not_lt, Int.not_le, not_or, not_and, Classical.not_not] at h48
            refine T_exit_go (fun _ _ h => h) ?_
            refine T_seq ?_
            refine T_region ?_
            refine S_ 2 rfl rfl rfl _ (y_assign rfl rfl) ?_
            refine S_go (fun _ _ h => h) ?_
            refine T_ret (fun a w hF hM => hRb a w (post1 rfl rfl (fun w hM => ?_) a w hF hM))
            exact ⟨by rw [if_f h9, if_f h14, if_neg (by omega), fst_b (by rw [hp2, ht.end (by omega)]; rfl) (by rw [hr2, List.drop_eq_nil_of_le (by simp [refNos]; omega)])]; rfl, hM.below⟩
end Go.Proofs.YtkkngcdikbhkjaaGreatDoor
