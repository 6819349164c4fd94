/- Part 3, merged by a program. The reference's faults of tables and modules. Conditions: those of each theorem. symbol.Lines: the spans of a file's line. Conditions: those of each theorem. FuncAt, ModuleAt and what the reference has in their places. symbol.At: the places of an offset. Conditions: those of each theorem. What a right table keeps: rows rise, files are there. No program in sight. rowAt: the file and the line of an offset by rows. Condition: the table is right. symbol.at and symbol.At: the places of an offset. Conditions: those of each theorem. symbol.At. The bytes of a table, in plain lists. No program in sight. Tables read from bytes, in plain lists. No program in sight. strings.Builder: what its methods do to a builder that the caller has made. Conditions: those of each theorem. symbol.readTable and its closures. Conditions: those of each theorem. symbol.readTable: the closures that take one element, and the lists. Conditions: those of each theorem. symbol.readTable: its lists. Conditions: those of each theorem. -/
import Derived.Test.YtkkngcdikbhkjaaGreatDoorOwn
import Derived.Test.YtkkngcdikbhkjaaGreatDoorOpen
import Derived.Test.YtkkngcdikbhkjaaGreatDoorBld
import Derived.Test.YtkkngcdikbhkjaaGreatDoorLem
import Derived.Test.YtkkngcdikbhkjaaGreatDoorStrs
import Derived.Test.YtkkngcdikbhkjaaGreatDoorPk2
section
namespace Go.Proofs.YtkkngcdikbhkjaaGreatDoor
set_option linter.unusedSimpArgs false
set_option linter.unusedVariables false
set_option maxRecDepth 20000
open Go.RowKit Go.Eng
def eqS (v s : List UInt8) : Bool := decide (v = s)
theorem IndexS_any (A : Option Addr) (q c : Nat) (l : List (List UInt8)) (v : List UInt8) (w : World) (hl : SlT strEnc 1 w A q l) (hq : q ≤ 4611686018427387904) :
    Calls Tryz.prog 130 #[.slice A q c, str v] w fun e w' => e = .returned (.int .i64 (findI (eqS v) l 0)) ∧ Below w.heap.size w w' := by
  refine enter_args (args := [.slice A q c, str v]) (F := _) Tryz.func130 rfl Tryz.ntmps130 rfl rfl ?_
  intro Rb hRb hRn
  refine T_seq ?_
  refine T_region ?_
  refine S_ 4 rfl rfl rfl _ (y_assign rfl rfl) ?_
  refine S_go (fun _ _ h => h) ?_
  refine T_seq ?_
  refine T_seq ?_
  refine T_region ?_
  refine S_ 6 rfl rfl rfl _ (y_move rfl rfl) ?_
  refine S_ 7 rfl rfl rfl _ (y_len_slice rfl rfl Tryz.underlying57) ?_
  refine S_ 8 rfl rfl rfl _ (y_move rfl rfl) ?_
  refine S_go (fun _ _ h => h) ?_
  refine T_block ?_
  refine T_loopK1 (kf := [(4, 5), (8, 18)]) (kl := [(4, 5), (8, 18)]) (fun (i : Nat) => [(8, true, .int .i64 (i : Int))]) (fun (i : Nat) => []) (fun (i : Nat) => i ≤ q ∧ findI (eqS v) l 0 = findI (eqS v) (l.drop i) i) (fun (i : Nat) => q - i) 0 (by repeat (first | exact kf_nil | (apply kf_in; focus rfl) | (apply kf_out; focus rfl))) (by repeat (first | exact kl_nil | exact kl_rest (by assumption) rfl | (apply kl_in; focus rfl) | (apply kl_out; focus rfl))) ?_ ?_ ?_ ?_
  · exact ⟨by omega, rfl⟩
  · exact ⟨rfl, trivial⟩
  · exact trivial
  rintro i ⟨hp1, hp2⟩
  refine T_seq ?_
  refine T_region ?_
  refine S_ 9 rfl rfl rfl _ (y_bin rfl rfl rfl (fun _ => b_lss)) ?_
  refine S_go (fun _ _ h => h) ?_
  refine T_seq ?_
  refine T_cond rfl (fun h9 => ?_) (fun h9 => ?_)
  · try simp only [decide_eq_true_eq, decide_eq_false_iff_not, Bool.or_eq_true, Bool.or_eq_false_iff, Bool.and_eq_true, Bool.and_eq_false_iff, Bool.not_eq_true', Bool.not_eq_false', Bool.not_eq_true, Bool.not_eq_false, Bool.not_true, Bool.not_false, Int.not_lt, Int.not_le, not_or, not_and, Classical.not_not] at h9
    obtain ⟨x, hx1, hx2⟩ := hl.at (i := i) (by omega)
    refine T_skip_go (fun _ _ h => h) ?_
    refine T_seq ?_
    refine T_block ?_
    refine T_seq ?_
    refine T_region ?_
    refine S_ 10 rfl rfl rfl _ (y_move rfl rfl) ?_
    refine S_ 5 rfl rfl rfl _ (y_assign rfl rfl) ?_
    refine S_go (fun _ _ h => h) ?_
    refine T_seq ?_
    refine T_region ?_
    refine S_ 11 rfl rfl rfl _ (y_move rfl rfl) ?_
    refine S_ 12 rfl rfl rfl _ (y_move rfl rfl) ?_
    refine S_ 13 rfl rfl rfl _ (y_move rfl rfl) ?_
    refine S_ 14 rfl rfl rfl _ (y_indexAddr rfl rfl rfl Tryz.underlying57 sz9 (fun hg => hl.isSome (by omega)) (fun _ => by omega)) ?_
    refine S_ 15 rfl rfl rfl _ (y_loadT1 (val := (fun l : List UInt8 => str l)) rfl rfl hl (fun _ => hx1) Tryz.underlying9 rfl) ?_
    refine S_ 16 rfl rfl rfl _ (y_as (v' := .bool (eqS v x)) (by exact rfl) (y_bin rfl rfl rfl (fun _ => b_eqls))) ?_
    refine S_go (fun _ _ h => h) ?_
    refine T_cond rfl (fun h16 => ?_) (fun h16 => ?_)
    · skip
      refine T_seq ?_
      refine T_region ?_
      refine S_ 17 rfl rfl rfl _ (y_move rfl rfl) ?_
      refine S_ 4 rfl rfl rfl _ (y_assign rfl rfl) ?_
      refine S_go (fun _ _ h => h) ?_
      refine T_ret (fun a w hF hM => hRb a w (post1 rfl rfl (fun w hM => ?_) a w hF hM))
      exact ⟨by rw [hp2, hx2, findI_t h16], hM.below⟩
    · skip
      refine T_skip_go (fun _ _ h => h) ?_
      refine T_region ?_
      refine S_ 18 rfl rfl rfl _ (y_bin rfl rfl rfl (fun hg => b_add (by omega))) ?_
      refine S_ 8 rfl rfl rfl _ (y_move rfl rfl) ?_
      refine S_nil (nextK1 (kf := [(4, 5), (8, 18)]) (kl := [(4, 5), (8, 18)]) (i + 1) (by repeat (first | exact kf_nil | (apply kf_in; focus rfl) | (apply kf_out; focus rfl))) (by repeat (first | exact kl_nil | exact kl_rest (by assumption) rfl | (apply kl_in; focus rfl) | (apply kl_out; focus rfl))) ?_ ?_ ?_ ?_)
      · omega
      · exact ⟨by omega, by rw [hp2, hx2, findI_f h16]; rfl⟩
      · exact ⟨rfl, trivial⟩
      · exact trivial
  · try simp only [decide_eq_true_eq, decide_eq_false_iff_not, Bool.or_eq_true, Bool.or_eq_false_iff, Bool.and_eq_true, Bool.and_eq_false_iff, Bool.not_eq_true', Bool.not_eq_false', Bool.not_eq_true, Bool.not_eq_false, Bool.not_true, Bool.not_false, Int.not_lt, Int.not_le, not_or, not_and, Classical.not_not] at h9
    refine T_exit_go (fun _ _ h => h) ?_
    refine T_seq ?_
    refine T_region ?_
    refine S_ 4 rfl rfl rfl _ (y_assign rfl rfl) ?_
    refine S_go (fun _ _ h => h) ?_
    refine T_ret (fun a w hF hM => hRb a w (post1 rfl rfl (fun w hM => ?_) a w hF hM))
    exact ⟨by rw [hp2, hl.end (by omega)]; rfl, hM.below⟩
theorem any_eq_mem (v : List UInt8) : ∀ l : List (List UInt8), l.any (eqS v) = decide (v ∈ l)
  | [] => rfl
  | a :: r => by
    rw [List.any_cons, any_eq_mem v r, Bool.eq_iff_iff]
    simp [eqS]
theorem ContainsS_any (A : Option Addr) (q c : Nat) (l : List (List UInt8)) (v : List UInt8) (w : World) (hl : SlT strEnc 1 w A q l) (hq : q ≤ 4611686018427387904) :
    Calls Tryz.prog 116 #[.slice A q c, str v] w fun e w' => e = .returned (.bool (decide (v ∈ l))) ∧ Below w.heap.size w w' := by
  rw [← any_eq_mem, ← findI_any _ l 0 (by omega)]
  refine enter_args (args := [.slice A q c, str v]) (F := _) Tryz.func116 rfl Tryz.ntmps116 rfl rfl ?_
  intro Rb hRb hRn
  refine T_seq ?_
  refine T_region ?_
  refine S_ 4 rfl rfl rfl _ (y_assign rfl rfl) ?_
  refine S_go (fun _ _ h => h) ?_
  refine T_seq ?_
  refine T_region ?_
  refine S_ 5 rfl rfl rfl _ (y_move rfl rfl) ?_
  refine S_ 6 rfl rfl rfl _ (y_move rfl rfl) ?_
  refine S_ 7 rfl rfl rfl _ (y_call rfl rfl rfl cf130 (fun _ w hM => IndexS_any _ _ _ _ _ w (hl.below hM.below) hq)) ?_
  refine S_ 8 rfl rfl rfl _ (y_bin rfl rfl rfl (fun _ => b_geq)) ?_
  refine S_ 4 rfl rfl rfl _ (y_assign rfl rfl) ?_
  refine S_go (fun _ _ h => h) ?_
  refine T_ret (fun a w hF hM => hRb a w (post1 rfl rfl (fun w hM => ?_) a w hF hM))
  exact ⟨rfl, hM.below⟩
theorem spanFault_any (fr tu size : Int) (hz : 1 ≤ size ∧ size ≤ 4294967296) (w : World) :
    Calls Tryz.prog 253 #[.int .i64 fr, .int .i64 tu, .int .i64 size] w fun e w' => e = .returned (.int .i64 (if spanBad size fr tu = true then 2 else 0)) ∧ Below w.heap.size w w' := by
  refine enter_args (args := [.int .i64 fr, .int .i64 tu, .int .i64 size]) (F := _) Tryz.func253 rfl Tryz.ntmps253 rfl rfl ?_
  intro Rb hRb hRn
  refine T_seq ?_
  refine T_region ?_
  refine S_ 6 rfl rfl rfl _ (y_assign rfl rfl) ?_
  refine S_go (fun _ _ h => h) ?_
  refine T_seq ?_
  refine T_seq ?_
  refine T_region ?_
  refine S_ 7 rfl rfl rfl _ (y_move rfl rfl) ?_
  refine S_ 8 rfl rfl rfl _ (y_move rfl rfl) ?_
  refine S_ 9 rfl rfl rfl _ (y_bin rfl rfl rfl (fun hg => b_sub (by omega))) ?_
  refine S_ 10 rfl rfl rfl _ (y_call rfl rfl rfl cf83 (fun _ w _ => outB_any _ _ _ w)) ?_
  refine S_ 11 rfl rfl rfl _ (y_move rfl rfl) ?_
  refine Sg_ 12 rfl rfl rfl rfl rfl rfl _ (y_move rfl rfl) ?_
  refine Sg_ 13 rfl rfl rfl rfl rfl rfl _ (y_move rfl rfl) ?_
  refine Sg_ 14 rfl rfl rfl rfl rfl rfl _ (y_bin rfl rfl rfl (fun _ => b_leq)) ?_
  refine S_ 15 rfl rfl rfl _ (y_or rfl rfl rfl) ?_
  refine S_ 16 rfl rfl rfl _ (y_move rfl rfl) ?_
  refine Sg_ 17 rfl rfl rfl rfl rfl rfl _ (y_move rfl rfl) ?_
  refine Sg_ 18 rfl rfl rfl rfl rfl rfl _ (y_move rfl rfl) ?_
  refine Sg_ 19 rfl rfl rfl rfl rfl rfl _ (y_bin rfl rfl rfl (fun _ => b_gtr)) ?_
  refine S_ 20 rfl rfl rfl _ (y_as (v' := .bool (spanBad size fr tu)) (by rw [← spanBad_ref]) (y_or rfl rfl rfl)) ?_
  refine S_go (fun _ _ h => h) ?_
  refine T_cond rfl (fun h20 => ?_) (fun h20 => ?_)
  · skip
    refine T_seq ?_
    refine T_region ?_
    refine S_ 6 rfl rfl rfl _ (y_assign rfl rfl) ?_
    refine S_go (fun _ _ h => h) ?_
    refine T_ret (fun a w hF hM => hRb a w (post1 rfl rfl (fun w hM => ?_) a w hF hM))
    exact ⟨by rw [if_t h20], hM.below⟩
  · skip
    refine T_skip_go (fun _ _ h => h) ?_
    refine T_seq ?_
    refine T_region ?_
    refine S_ 6 rfl rfl rfl _ (y_assign rfl rfl) ?_
    refine S_go (fun _ _ h => h) ?_
    refine T_ret (fun a w hF hM => hRb a w (post1 rfl rfl (fun w hM => ?_) a w hF hM))
    exact ⟨by rw [if_f h20], hM.below⟩
theorem span_t {size fr tu : Int} (h : ¬ (if spanBad size fr tu = true then (2 : Int) else 0) = 0) : spanBad size fr tu = true := by
  cases hb : spanBad size fr tu
  · rw [hb] at h; simp at h
  · rfl
theorem span_f {size fr tu : Int} (h : (if spanBad size fr tu = true then (2 : Int) else 0) = 0) : spanBad size fr tu = false := by
  cases hb : spanBad size fr tu
  · rfl
  · rw [hb] at h; simp at h
theorem span_ok {size fr tu : Int} (h : spanBad size fr tu = false) : 0 ≤ fr ∧ fr < tu := by
  simp only [spanBad, outB, Bool.or_eq_false_iff, decide_eq_false_iff_not] at h; omega
def func0 : SFunc := ⟨[], 0, 0⟩
theorem funcs_f {i : Nat} {p b : Int} (h : (decide (0 < (i : Int)) && decide (p < b)) = false) (h0 : i = 0 → b = 0) (hp : 0 ≤ p) : ¬ p < b := by
  simp only [Bool.and_eq_false_iff, decide_eq_false_iff_not] at h
  by_cases hi : i = 0
  · have := h0 hi; omega
  · omega
theorem funcs_t {i : Nat} {p b : Int} (h : (decide (0 < (i : Int)) && decide (p < b)) = true) : p < b := by
  simp only [Bool.and_eq_true, decide_eq_true_eq] at h; omega
theorem funcsFault_any (t : Tab) (w : World) (hok : t.Ok w) (hz : 1 ≤ t.size ∧ t.size ≤ 4294967296) :
    Calls Tryz.prog 117 #[.agg #[str t.id, .int .i64 t.size, .slice t.fi.A t.fi.q t.fi.c, .slice t.fu.A t.fu.q t.fu.c, .slice t.ro.A t.ro.q t.ro.c, .slice t.ca.A t.ca.q t.ca.c]] w fun e w' => e = .returned (.int .i64 (if (1000 : Int) < t.fu.q then 4 else funcsNo t.size t.fu.l 0)) ∧ Below w.heap.size w w' := by
  have ht := hok.fu.t
  have hq := hok.small
  refine enter_args (args := [.agg #[str t.id, .int .i64 t.size, .slice t.fi.A t.fi.q t.fi.c, .slice t.fu.A t.fu.q t.fu.c, .slice t.ro.A t.ro.q t.ro.c, .slice t.ca.A t.ca.q t.ca.c]]) (F := _) Tryz.func117 rfl Tryz.ntmps117 rfl rfl ?_
  intro Rb hRb hRn
  refine T_seq ?_
  refine T_region ?_
  refine S_box 1 1 rfl rfl rfl rfl rfl ?_
  intro b1
  refine S_ 2 rfl rfl rfl _ (y_assign rfl rfl) ?_
  refine S_go (fun _ _ h => h) ?_
  refine T_seq ?_
  refine T_seq ?_
  refine T_region ?_
  refine S_ 7 rfl rfl rfl _ (y_fieldAddr rfl rfl fa62_3) ?_
  refine S_ 8 rfl rfl rfl _ (y_load 1 rfl rfl rfl rfl Tryz.underlying58 rfl) ?_
  refine S_ 9 rfl rfl rfl _ (y_len_slice rfl rfl Tryz.underlying58) ?_
  refine S_ 10 rfl rfl rfl _ (y_bin rfl rfl rfl (fun _ => b_gtr)) ?_
  refine S_go (fun _ _ h => h) ?_
  refine T_cond rfl (fun h10 => ?_) (fun h10 => ?_)
  · try simp only [decide_eq_true_eq, decide_eq_false_iff_not, Bool.or_eq_true, Bool.or_eq_false_iff, Bool.and_eq_true, Bool.and_eq_false_iff, Bool.not_eq_true', Bool.not_eq_false', Bool.not_eq_true, Bool.not_eq_false, Bool.not_true, Bool.not_false, Int.not_lt, Int.not_le, not_or, not_and, Classical.not_not] at h10
    refine T_seq ?_
    refine T_region ?_
    refine S_ 2 rfl rfl rfl _ (y_assign rfl rfl) ?_
    refine S_go (fun _ _ h => h) ?_
    refine T_ret (fun a w hF hM => hRb a w (post1 rfl rfl (fun w hM => ?_) a w hF hM))
    exact ⟨by rw [if_pos (by omega)], hM.below⟩
  · try simp only [decide_eq_true_eq, decide_eq_false_iff_not, Bool.or_eq_true, Bool.or_eq_false_iff, Bool.and_eq_true, Bool.and_eq_false_iff, Bool.not_eq_true', Bool.not_eq_false', Bool.not_eq_true, Bool.not_eq_false, Bool.not_true, Bool.not_false, Int.not_lt, Int.not_le, not_or, not_and, Classical.not_not] at h10
    refine T_skip_go (fun _ _ h => h) ?_
    refine T_seq ?_
    refine T_seq ?_
    refine T_region ?_
    refine S_ 11 rfl rfl rfl _ (y_fieldAddr rfl rfl fa62_3) ?_
    refine S_ 12 rfl rfl rfl _ (y_load 1 rfl rfl rfl rfl Tryz.underlying58 rfl) ?_
    refine S_ 13 rfl rfl rfl _ (y_len_slice rfl rfl Tryz.underlying58) ?_
    refine S_ 14 rfl rfl rfl _ (y_move rfl rfl) ?_
    refine S_go (fun _ _ h => h) ?_
    refine T_block ?_
    refine T_loopK2 (kf := [(2, 6), (14, 49)]) (kl := [(2, 6), (14, 49)]) (fun (i : Nat) (b : SFunc) => [(14, true, .int .i64 (i : Int))]) (fun (i : Nat) (b : SFunc) => []) (fun (i : Nat) (b : SFunc) => i ≤ t.fu.q ∧ funcsNo t.size t.fu.l 0 = funcsNo t.size (t.fu.l.drop i) b.tu ∧ (0 < i → t.fu.l[i - 1]? = some b) ∧ (i = 0 → b.tu = 0)) (fun (i : Nat) (b : SFunc) => t.fu.q - i) 0 func0 (by repeat (first | exact kf_nil | (apply kf_in; focus rfl) | (apply kf_out; focus rfl))) (by repeat (first | exact kl_nil | exact kl_rest (by assumption) rfl | (apply kl_in; focus rfl) | (apply kl_out; focus rfl))) ?_ ?_ ?_ ?_
    · exact ⟨by omega, rfl, by omega, fun _ => rfl⟩
    · exact ⟨rfl, trivial⟩
    · exact trivial
    rintro i b ⟨hp1, hp2, hp3, hp4⟩
    refine T_seq ?_
    refine T_region ?_
    refine S_ 15 rfl rfl rfl _ (y_bin rfl rfl rfl (fun _ => b_lss)) ?_
    refine S_go (fun _ _ h => h) ?_
    refine T_seq ?_
    refine T_cond rfl (fun h15 => ?_) (fun h15 => ?_)
    · try simp only [decide_eq_true_eq, decide_eq_false_iff_not, Bool.or_eq_true, Bool.or_eq_false_iff, Bool.and_eq_true, Bool.and_eq_false_iff, Bool.not_eq_true', Bool.not_eq_false', Bool.not_eq_true, Bool.not_eq_false, Bool.not_true, Bool.not_false, Int.not_lt, Int.not_le, not_or, not_and, Classical.not_not] at h15
      obtain ⟨f, hx1, hx2⟩ := ht.at (i := i) (by omega)
      have hn1 := hok.names.2.1 f (mem_at hx1)
      refine T_skip_go (fun _ _ h => h) ?_
      refine T_seq ?_
      refine T_block ?_
      refine T_seq ?_
      refine T_region ?_
      refine S_ 16 rfl rfl rfl _ (y_move rfl rfl) ?_
      refine S_ 17 rfl rfl rfl _ (y_indexAddr rfl rfl rfl Tryz.underlying58 sz196 (fun hg => ht.isSome (by omega)) (fun _ => by omega)) ?_
      refine S_ 18 rfl rfl rfl _ (y_loadT rfl rfl ht (fun _ => rfl) (fun _ => hx1) Tryz.underlying196 rfl sz196) ?_
      refine S_alloc 4 4 rfl rfl rfl rfl z196 ?_
      intro b4
      refine S_ 3 rfl rfl rfl _ (y_assign rfl rfl) ?_
      refine S_store 4 rfl rfl rfl rfl rfl rfl sz196 rfl rfl ?_
      refine S_go (fun _ _ h => h) ?_
      refine T_seq ?_
      refine T_seq ?_
      refine T_region ?_
      refine S_ 19 rfl rfl rfl _ (y_fieldAddr rfl rfl fa196_0) ?_
      refine S_ 20 rfl rfl rfl _ (y_load 4 rfl rfl rfl rfl Tryz.underlying9 rfl) ?_
      refine S_ 21 rfl rfl rfl _ (y_call rfl rfl rfl cf252 (fun _ w _ => nameFault_any _ (by omega) w)) ?_
      refine S_ 5 rfl rfl rfl _ (y_assign rfl rfl) ?_
      refine S_go (fun _ _ h => h) ?_
      refine T_seq ?_
      refine T_region ?_
      refine S_ 22 rfl rfl rfl _ (y_move rfl rfl) ?_
      refine S_ 23 rfl rfl rfl _ (y_bin rfl rfl rfl (fun _ => b_neq)) ?_
      refine S_go (fun _ _ h => h) ?_
      refine T_cond rfl (fun h23 => ?_) (fun h23 => ?_)
      · try simp only [decide_eq_true_eq, decide_eq_false_iff_not, Bool.or_eq_true, Bool.or_eq_false_iff, Bool.and_eq_true, Bool.and_eq_false_iff, Bool.not_eq_true', Bool.not_eq_false', Bool.not_eq_true, Bool.not_eq_false, Bool.not_true, Bool.not_false, Int.not_lt, Int.not_le, not_or, not_and, Classical.not_not] at h23
        refine T_seq ?_
        refine T_region ?_
        refine S_ 24 rfl rfl rfl _ (y_move rfl rfl) ?_
        refine S_ 2 rfl rfl rfl _ (y_assign rfl rfl) ?_
        refine S_go (fun _ _ h => h) ?_
        refine T_ret (fun a w hF hM => hRb a w (post1 rfl rfl (fun w hM => ?_) a w hF hM))
        exact ⟨by rw [if_neg (by omega), hp2, hx2, funcsNo, if_pos h23], hM.below⟩
      · try simp only [decide_eq_true_eq, decide_eq_false_iff_not, Bool.or_eq_true, Bool.or_eq_false_iff, Bool.and_eq_true, Bool.and_eq_false_iff, Bool.not_eq_true', Bool.not_eq_false', Bool.not_eq_true, Bool.not_eq_false, Bool.not_true, Bool.not_false, Int.not_lt, Int.not_le, not_or, not_and, Classical.not_not] at h23
        refine T_skip_go (fun _ _ h => h) ?_
        refine T_seq ?_
        refine T_seq ?_
        refine T_region ?_
        refine S_ 25 rfl rfl rfl _ (y_fieldAddr rfl rfl fa196_1) ?_
        refine S_ 26 rfl rfl rfl _ (y_load 4 rfl rfl rfl rfl Tryz.underlying3 rfl) ?_
        refine S_ 27 rfl rfl rfl _ (y_fieldAddr rfl rfl fa196_2) ?_
        refine S_ 28 rfl rfl rfl _ (y_load 4 rfl rfl rfl rfl Tryz.underlying3 rfl) ?_
        refine S_ 29 rfl rfl rfl _ (y_fieldAddr rfl rfl fa62_1) ?_
        refine S_ 30 rfl rfl rfl _ (y_load 1 rfl rfl rfl rfl Tryz.underlying3 rfl) ?_
        refine S_ 31 rfl rfl rfl _ (y_call rfl rfl rfl cf253 (fun _ w _ => spanFault_any _ _ _ hz w)) ?_
        refine S_ 6 rfl rfl rfl _ (y_assign rfl rfl) ?_
        refine S_go (fun _ _ h => h) ?_
        refine T_seq ?_
        refine T_region ?_
        refine S_ 32 rfl rfl rfl _ (y_move rfl rfl) ?_
        refine S_ 33 rfl rfl rfl _ (y_bin rfl rfl rfl (fun _ => b_neq)) ?_
        refine S_go (fun _ _ h => h) ?_
        refine T_cond rfl (fun h33 => ?_) (fun h33 => ?_)
        · try simp only [decide_eq_true_eq, decide_eq_false_iff_not, Bool.or_eq_true, Bool.or_eq_false_iff, Bool.and_eq_true, Bool.and_eq_false_iff, Bool.not_eq_true', Bool.not_eq_false', Bool.not_eq_true, Bool.not_eq_false, Bool.not_true, Bool.not_false, Int.not_lt, Int.not_le, not_or, not_and, Classical.not_not] at h33
          refine T_seq ?_
          refine T_region ?_
          refine S_ 34 rfl rfl rfl _ (y_move rfl rfl) ?_
          refine S_ 2 rfl rfl rfl _ (y_assign rfl rfl) ?_
          refine S_go (fun _ _ h => h) ?_
          refine T_ret (fun a w hF hM => hRb a w (post1 rfl rfl (fun w hM => ?_) a w hF hM))
          exact ⟨by rw [if_t (span_t h33), if_neg (by omega), hp2, hx2, funcsNo, if_neg (by simpa using h23), if_t (span_t h33)], hM.below⟩
        · try simp only [decide_eq_true_eq, decide_eq_false_iff_not, Bool.or_eq_true, Bool.or_eq_false_iff, Bool.and_eq_true, Bool.and_eq_false_iff, Bool.not_eq_true', Bool.not_eq_false', Bool.not_eq_true, Bool.not_eq_false, Bool.not_true, Bool.not_false, Int.not_lt, Int.not_le, not_or, not_and, Classical.not_not] at h33
          have hs := span_f h33
          have hso := span_ok hs
          refine T_skip_go (fun _ _ h => h) ?_
          refine T_seq ?_
          refine T_draws (by kernel_rfl) (by kernel_rfl) ?_
          refine D_ 35 rfl rfl rfl _ (y_move rfl rfl) ?_
          refine D_ 36 rfl rfl rfl _ (y_bin rfl rfl rfl (fun _ => b_gtr)) ?_
          refine D_ 37 rfl rfl rfl _ (y_move rfl rfl) ?_
          refine Dg_ 38 rfl rfl rfl rfl rfl rfl _ (y_fieldAddr rfl rfl fa196_1) ?_
          refine Dg_ 39 rfl rfl rfl rfl rfl rfl _ (y_load 4 rfl rfl rfl rfl Tryz.underlying3 rfl) ?_
          refine Dg_ 40 rfl rfl rfl rfl rfl rfl _ (y_fieldAddr rfl rfl fa62_3) ?_
          refine Dg_ 41 rfl rfl rfl rfl rfl rfl _ (y_load 1 rfl rfl rfl rfl Tryz.underlying58 rfl) ?_
          refine Dg_ 42 rfl rfl rfl rfl rfl rfl _ (y_move rfl rfl) ?_
          refine Dg_ 43 rfl rfl rfl rfl rfl rfl _ (y_bin rfl rfl rfl (fun hg => b_subv (((i - 1 : Nat) : Int)) (by simp only [Bool.true_and, Bool.and_eq_true, beq_iff_eq, decide_eq_true_eq, decide_eq_false_iff_not, Int.not_lt, Int.not_le] at hg; omega) (by simp only [Bool.true_and, Bool.and_eq_true, beq_iff_eq, decide_eq_true_eq, decide_eq_false_iff_not, Int.not_lt, Int.not_le] at hg; omega))) ?_
          refine Dg_ 44 rfl rfl rfl rfl rfl rfl _ (y_indexAddr rfl rfl rfl Tryz.underlying58 sz196 (fun hg => ht.isSome (by simp only [Bool.true_and, Bool.and_eq_true, beq_iff_eq, decide_eq_true_eq, decide_eq_false_iff_not, Int.not_lt, Int.not_le] at hg; omega)) (fun hg => by simp only [Bool.true_and, Bool.and_eq_true, beq_iff_eq, decide_eq_true_eq, decide_eq_false_iff_not, Int.not_lt, Int.not_le] at hg; omega)) ?_
          refine Dg_ 45 rfl rfl rfl rfl rfl rfl _ (y_fieldEl rfl rfl ht.rd (fun hg => by simp only [Bool.true_and, Bool.and_eq_true, beq_iff_eq, decide_eq_true_eq, decide_eq_false_iff_not, Int.not_lt, Int.not_le] at hg; omega) fa196_2) ?_
          refine Dg_ 46 rfl rfl rfl rfl rfl rfl _ (y_load_fT rfl rfl ht (fun _ => rfl) (fun hg => hp3 (by simp only [Bool.true_and, Bool.and_eq_true, beq_iff_eq, decide_eq_true_eq, decide_eq_false_iff_not, Int.not_lt, Int.not_le] at hg; omega)) rfl Tryz.underlying3 rfl) ?_
          refine Dg_ 47 rfl rfl rfl rfl rfl rfl _ (y_bin rfl rfl rfl (fun _ => b_lss)) ?_
          refine D_ 48 rfl rfl rfl _ (y_and rfl rfl rfl) ?_
          refine D_go (fun _ _ h => h) ?_
          refine T_cond rfl (fun h48 => ?_) (fun h48 => ?_)
          · skip
            refine T_seq ?_
            refine T_region ?_
            refine S_ 2 rfl rfl rfl _ (y_assign rfl rfl) ?_
            refine S_go (fun _ _ h => h) ?_
            refine T_ret (fun a w hF hM => hRb a w (post1 rfl rfl (fun w hM => ?_) a w hF hM))
            exact ⟨by rw [if_neg (by omega), hp2, hx2, funcsNo, if_neg (by simpa using h23), if_f hs, if_pos (funcs_t h48)], hM.below⟩
          · skip
            refine T_skip_go (fun _ _ h => h) ?_
            refine T_region ?_
            refine S_ 49 rfl rfl rfl _ (y_bin rfl rfl rfl (fun hg => b_add (by omega))) ?_
            refine S_ 14 rfl rfl rfl _ (y_move rfl rfl) ?_
            refine S_nil (nextK2 (kf := [(2, 6), (14, 49)]) (kl := [(2, 6), (14, 49)]) (i + 1) f (by repeat (first | exact kf_nil | (apply kf_in; focus rfl) | (apply kf_out; focus rfl))) (by repeat (first | exact kl_nil | exact kl_rest (by assumption) rfl | (apply kl_in; focus rfl) | (apply kl_out; focus rfl))) ?_ ?_ ?_ ?_)
            · omega
            · exact ⟨by omega, by rw [hp2, hx2, funcsNo, if_neg (by simpa using h23), if_f hs, if_neg (funcs_f h48 hp4 hso.1)], fun _ => hx1, by omega⟩
            · exact ⟨rfl, trivial⟩
            · exact trivial
    · try simp only [decide_eq_true_eq, decide_eq_false_iff_not, Bool.or_eq_true, Bool.or_eq_false_iff, Bool.and_eq_true, Bool.and_eq_false_iff, Bool.not_eq_true', Bool.not_eq_false', Bool.not_eq_true, Bool.not_eq_false, Bool.not_true, Bool.not_false, Int.not_lt, Int.not_le, not_or, not_and, Classical.not_not] at h15
      refine T_exit_go (fun _ _ h => h) ?_
      refine T_seq ?_
      refine T_region ?_
      refine S_ 2 rfl rfl rfl _ (y_assign rfl rfl) ?_
      refine S_go (fun _ _ h => h) ?_
      refine T_ret (fun a w hF hM => hRb a w (post1 rfl rfl (fun w hM => ?_) a w hF hM))
      exact ⟨by rw [if_neg (by omega), hp2, ht.end (by omega)]; rfl, hM.below⟩
theorem callBad_t {size nf : Int} {c : SCall} (h : spanBad size c.fr c.tu = true) : callBad size nf c = true := by simp [callBad, h]
theorem callBad_two {size nf : Int} {c : SCall} (h : spanBad size c.fr c.tu = false) : callBad size nf c = (outB c.fi 0 (nf - 1) || outB c.ln 1 9999999) := by simp [callBad, h]
theorem refNo_end {c : SCall} {wi : Bool} {deep : Int} : refNo c [] wi deep = if wi = false then 11 else if 10 ≤ deep then 13 else 0 := rfl
theorem callsFault_any (t : Tab) (w : World) (hok : t.Ok w) (hz : 1 ≤ t.size ∧ t.size ≤ 4294967296) :
    Calls Tryz.prog 119 #[.agg #[str t.id, .int .i64 t.size, .slice t.fi.A t.fi.q t.fi.c, .slice t.fu.A t.fu.q t.fu.c, .slice t.ro.A t.ro.q t.ro.c, .slice t.ca.A t.ca.q t.ca.c]] w fun e w' => e = .returned (.int .i64 (if (1000 : Int) < t.ca.q then 4 else callsNo t.size t.fi.q t.fu.l [] t.ca.l call0)) ∧ Below w.heap.size w w' := by
  have ht := hok.ca.t
  have hq := hok.small
  have hcap := hok.ca.cap
  refine enter_args (args := [.agg #[str t.id, .int .i64 t.size, .slice t.fi.A t.fi.q t.fi.c, .slice t.fu.A t.fu.q t.fu.c, .slice t.ro.A t.ro.q t.ro.c, .slice t.ca.A t.ca.q t.ca.c]]) (F := _) Tryz.func119 rfl Tryz.ntmps119 rfl rfl ?_
  intro Rb hRb hRn
  refine T_seq ?_
  refine T_region ?_
  refine S_box 1 1 rfl rfl rfl rfl rfl ?_
  intro b1
  refine S_ 2 rfl rfl rfl _ (y_assign rfl rfl) ?_
  refine S_go (fun _ _ h => h) ?_
  refine T_seq ?_
  refine T_seq ?_
  refine T_region ?_
  refine S_ 12 rfl rfl rfl _ (y_fieldAddr rfl rfl fa62_5) ?_
  refine S_ 13 rfl rfl rfl _ (y_load 1 rfl rfl rfl rfl Tryz.underlying60 rfl) ?_
  refine S_ 14 rfl rfl rfl _ (y_len_slice rfl rfl Tryz.underlying60) ?_
  refine S_ 15 rfl rfl rfl _ (y_bin rfl rfl rfl (fun _ => b_gtr)) ?_
  refine S_go (fun _ _ h => h) ?_
  refine T_cond rfl (fun h15 => ?_) (fun h15 => ?_)
  · try simp only [decide_eq_true_eq, decide_eq_false_iff_not, Bool.or_eq_true, Bool.or_eq_false_iff, Bool.and_eq_true, Bool.and_eq_false_iff, Bool.not_eq_true', Bool.not_eq_false', Bool.not_eq_true, Bool.not_eq_false, Bool.not_true, Bool.not_false, Int.not_lt, Int.not_le, not_or, not_and, Classical.not_not] at h15
    refine T_seq ?_
    refine T_region ?_
    refine S_ 2 rfl rfl rfl _ (y_assign rfl rfl) ?_
    refine S_go (fun _ _ h => h) ?_
    refine T_ret (fun a w hF hM => hRb a w (post1 rfl rfl (fun w hM => ?_) a w hF hM))
    exact ⟨by rw [if_pos (by omega)], hM.below⟩
  · try simp only [decide_eq_true_eq, decide_eq_false_iff_not, Bool.or_eq_true, Bool.or_eq_false_iff, Bool.and_eq_true, Bool.and_eq_false_iff, Bool.not_eq_true', Bool.not_eq_false', Bool.not_eq_true, Bool.not_eq_false, Bool.not_true, Bool.not_false, Int.not_lt, Int.not_le, not_or, not_and, Classical.not_not] at h15
    refine T_skip_go (fun _ _ h => h) ?_
    refine T_seq ?_
    refine T_seq ?_
    refine T_region ?_
    refine S_ 16 rfl rfl rfl _ (y_fieldAddr rfl rfl fa62_5) ?_
    refine S_ 17 rfl rfl rfl _ (y_load 1 rfl rfl rfl rfl Tryz.underlying60 rfl) ?_
    refine S_ 18 rfl rfl rfl _ (y_len_slice rfl rfl Tryz.underlying60) ?_
    refine S_ 19 rfl rfl rfl _ (y_move rfl rfl) ?_
    refine S_go (fun _ _ h => h) ?_
    refine T_block ?_
    refine T_loopK2 (kf := [(2, 9), (11, 11), (19, 125)]) (kl := [(2, 9), (11, 11), (19, 125)]) (fun (i : Nat) (b : SCall) => [(19, true, .int .i64 (i : Int))]) (fun (i : Nat) (b : SCall) => []) (fun (i : Nat) (b : SCall) => i ≤ t.ca.q ∧ callsNo t.size t.fi.q t.fu.l [] t.ca.l call0 = callsNo t.size t.fi.q t.fu.l (t.ca.l.take i) (t.ca.l.drop i) b ∧ (0 < i → t.ca.l[i - 1]? = some b) ∧ (i = 0 → b = call0)) (fun (i : Nat) (b : SCall) => t.ca.q - i) 0 call0 (by repeat (first | exact kf_nil | (apply kf_in; focus rfl) | (apply kf_out; focus rfl))) (by repeat (first | exact kl_nil | exact kl_rest (by assumption) rfl | (apply kl_in; focus rfl) | (apply kl_out; focus rfl))) ?_ ?_ ?_ ?_
    · exact ⟨by omega, rfl, by omega, fun _ => rfl⟩
    · exact ⟨rfl, trivial⟩
    · exact trivial
    rintro i b ⟨hp1, hp2, hp3, hp4⟩
    refine T_seq ?_
    refine T_region ?_
    refine S_ 20 rfl rfl rfl _ (y_bin rfl rfl rfl (fun _ => b_lss)) ?_
    refine S_go (fun _ _ h => h) ?_
    refine T_seq ?_
    refine T_cond rfl (fun h20 => ?_) (fun h20 => ?_)
    · try simp only [decide_eq_true_eq, decide_eq_false_iff_not, Bool.or_eq_true, Bool.or_eq_false_iff, Bool.and_eq_true, Bool.and_eq_false_iff, Bool.not_eq_true', Bool.not_eq_false', Bool.not_eq_true, Bool.not_eq_false, Bool.not_true, Bool.not_false, Int.not_lt, Int.not_le, not_or, not_and, Classical.not_not] at h20
      obtain ⟨c, hx1, hx2⟩ := ht.at (i := i) (by omega)
      have hn1 := hok.names.2.2 c (mem_at hx1)
      refine T_skip_go (fun _ _ h => h) ?_
      refine T_seq ?_
      refine T_block ?_
      refine T_seq ?_
      refine T_region ?_
      refine S_ 21 rfl rfl rfl _ (y_move rfl rfl) ?_
      refine S_ 22 rfl rfl rfl _ (y_indexAddr rfl rfl rfl Tryz.underlying60 sz200 (fun hg => ht.isSome (by omega)) (fun _ => by omega)) ?_
      refine S_ 23 rfl rfl rfl _ (y_loadT rfl rfl ht (fun _ => rfl) (fun _ => hx1) Tryz.underlying200 rfl sz200) ?_
      refine S_alloc 4 4 rfl rfl rfl rfl z200 ?_
      intro b4
      refine S_ 3 rfl rfl rfl _ (y_assign rfl rfl) ?_
      refine S_store 4 rfl rfl rfl rfl rfl rfl sz200 rfl rfl ?_
      refine S_go (fun _ _ h => h) ?_
      refine T_seq ?_
      refine T_seq ?_
      refine T_region ?_
      refine S_ 24 rfl rfl rfl _ (y_fieldAddr rfl rfl fa200_0) ?_
      refine S_ 25 rfl rfl rfl _ (y_load 4 rfl rfl rfl rfl Tryz.underlying9 rfl) ?_
      refine S_ 26 rfl rfl rfl _ (y_call rfl rfl rfl cf252 (fun _ w _ => nameFault_any _ (by omega) w)) ?_
      refine S_ 5 rfl rfl rfl _ (y_assign rfl rfl) ?_
      refine S_go (fun _ _ h => h) ?_
      refine T_seq ?_
      refine T_region ?_
      refine S_ 27 rfl rfl rfl _ (y_move rfl rfl) ?_
      refine S_ 28 rfl rfl rfl _ (y_bin rfl rfl rfl (fun _ => b_neq)) ?_
      refine S_go (fun _ _ h => h) ?_
      refine T_cond rfl (fun h28 => ?_) (fun h28 => ?_)
      · try simp only [decide_eq_true_eq, decide_eq_false_iff_not, Bool.or_eq_true, Bool.or_eq_false_iff, Bool.and_eq_true, Bool.and_eq_false_iff, Bool.not_eq_true', Bool.not_eq_false', Bool.not_eq_true, Bool.not_eq_false, Bool.not_true, Bool.not_false, Int.not_lt, Int.not_le, not_or, not_and, Classical.not_not] at h28
        refine T_seq ?_
        refine T_region ?_
        refine S_ 29 rfl rfl rfl _ (y_move rfl rfl) ?_
        refine S_ 2 rfl rfl rfl _ (y_assign rfl rfl) ?_
        refine S_go (fun _ _ h => h) ?_
        refine T_ret (fun a w hF hM => hRb a w (post1 rfl rfl (fun w hM => ?_) a w hF hM))
        exact ⟨by rw [if_neg (by omega), hp2, hx2, callsNo, if_pos h28], hM.below⟩
      · try simp only [decide_eq_true_eq, decide_eq_false_iff_not, Bool.or_eq_true, Bool.or_eq_false_iff, Bool.and_eq_true, Bool.and_eq_false_iff, Bool.not_eq_true', Bool.not_eq_false', Bool.not_eq_true, Bool.not_eq_false, Bool.not_true, Bool.not_false, Int.not_lt, Int.not_le, not_or, not_and, Classical.not_not] at h28
        refine T_skip_go (fun _ _ h => h) ?_
        refine T_seq ?_
        refine T_seq ?_
        refine T_region ?_
        refine S_ 30 rfl rfl rfl _ (y_fieldAddr rfl rfl fa200_1) ?_
        refine S_ 31 rfl rfl rfl _ (y_load 4 rfl rfl rfl rfl Tryz.underlying3 rfl) ?_
        refine S_ 32 rfl rfl rfl _ (y_fieldAddr rfl rfl fa200_2) ?_
        refine S_ 33 rfl rfl rfl _ (y_load 4 rfl rfl rfl rfl Tryz.underlying3 rfl) ?_
        refine S_ 34 rfl rfl rfl _ (y_fieldAddr rfl rfl fa62_1) ?_
        refine S_ 35 rfl rfl rfl _ (y_load 1 rfl rfl rfl rfl Tryz.underlying3 rfl) ?_
        refine S_ 36 rfl rfl rfl _ (y_call rfl rfl rfl cf253 (fun _ w _ => spanFault_any _ _ _ hz w)) ?_
        refine S_ 6 rfl rfl rfl _ (y_assign rfl rfl) ?_
        refine S_go (fun _ _ h => h) ?_
        refine T_seq ?_
        refine T_region ?_
        refine S_ 37 rfl rfl rfl _ (y_move rfl rfl) ?_
        refine S_ 38 rfl rfl rfl _ (y_bin rfl rfl rfl (fun _ => b_neq)) ?_
        refine S_go (fun _ _ h => h) ?_
        refine T_cond rfl (fun h38 => ?_) (fun h38 => ?_)
        · try simp only [decide_eq_true_eq, decide_eq_false_iff_not, Bool.or_eq_true, Bool.or_eq_false_iff, Bool.and_eq_true, Bool.and_eq_false_iff, Bool.not_eq_true', Bool.not_eq_false', Bool.not_eq_true, Bool.not_eq_false, Bool.not_true, Bool.not_false, Int.not_lt, Int.not_le, not_or, not_and, Classical.not_not] at h38
          refine T_seq ?_
          refine T_region ?_
          refine S_ 39 rfl rfl rfl _ (y_move rfl rfl) ?_
          refine S_ 2 rfl rfl rfl _ (y_assign rfl rfl) ?_
          refine S_go (fun _ _ h => h) ?_
          refine T_ret (fun a w hF hM => hRb a w (post1 rfl rfl (fun w hM => ?_) a w hF hM))
          exact ⟨by rw [if_t (span_t h38), if_neg (by omega), hp2, hx2, callsNo, if_neg (by simpa using h28), if_t (callBad_t (span_t h38))], hM.below⟩
        · try simp only [decide_eq_true_eq, decide_eq_false_iff_not, Bool.or_eq_true, Bool.or_eq_false_iff, Bool.and_eq_true, Bool.and_eq_false_iff, Bool.not_eq_true', Bool.not_eq_false', Bool.not_eq_true, Bool.not_eq_false, Bool.not_true, Bool.not_false, Int.not_lt, Int.not_le, not_or, not_and, Classical.not_not] at h38
          have hs := span_f h38
          have hso := span_ok hs
          have hcut := ht.cut (lo := 0) (hi := i) (fun _ => rfl) (by omega) (by omega) hcap
          have hbe : (t.ca.l.drop 0).take (i - 0) = t.ca.l.take i := by simp
          refine T_skip_go (fun _ _ h => h) ?_
          refine T_seq ?_
          refine T_seq ?_
          refine T_region ?_
          refine S_ 40 rfl rfl rfl _ (y_fieldAddr rfl rfl fa200_3) ?_
          refine S_ 41 rfl rfl rfl _ (y_load 4 rfl rfl rfl rfl Tryz.underlying3 rfl) ?_
          refine S_ 42 rfl rfl rfl _ (y_fieldAddr rfl rfl fa62_2) ?_
          refine S_ 43 rfl rfl rfl _ (y_load 1 rfl rfl rfl rfl Tryz.underlying57 rfl) ?_
          refine S_ 44 rfl rfl rfl _ (y_len_slice rfl rfl Tryz.underlying57) ?_
          refine S_ 45 rfl rfl rfl _ (y_bin rfl rfl rfl (fun hg => b_sub (by omega))) ?_
          refine S_ 46 rfl rfl rfl _ (y_call rfl rfl rfl cf83 (fun _ w _ => outB_any _ _ _ w)) ?_
          refine S_ 47 rfl rfl rfl _ (y_move rfl rfl) ?_
          refine Sg_ 48 rfl rfl rfl rfl rfl rfl _ (y_fieldAddr rfl rfl fa200_4) ?_
          refine Sg_ 49 rfl rfl rfl rfl rfl rfl _ (y_load 4 rfl rfl rfl rfl Tryz.underlying3 rfl) ?_
          refine Sg_ 50 rfl rfl rfl rfl rfl rfl _ (y_call rfl rfl rfl cf83 (fun _ w _ => outB_any _ _ _ w)) ?_
          refine S_ 51 rfl rfl rfl _ (y_as (v' := .bool (outB c.fi 0 (t.fi.q - 1) || outB c.ln 1 9999999)) (by exact rfl) (y_or rfl rfl rfl)) ?_
          refine S_go (fun _ _ h => h) ?_
          refine T_cond rfl (fun h51 => ?_) (fun h51 => ?_)
          · skip
            refine T_seq ?_
            refine T_region ?_
            refine S_ 2 rfl rfl rfl _ (y_assign rfl rfl) ?_
            refine S_go (fun _ _ h => h) ?_
            refine T_ret (fun a w hF hM => hRb a w (post1 rfl rfl (fun w hM => ?_) a w hF hM))
            exact ⟨by rw [if_neg (by omega), hp2, hx2, callsNo, if_neg (by simpa using h28), if_t ((callBad_two hs).trans h51)], hM.below⟩
          · skip
            refine T_skip_go (fun _ _ h => h) ?_
            refine T_seq ?_
            refine T_seq ?_
            refine T_region ?_
            refine S_ 52 rfl rfl rfl _ (y_move rfl rfl) ?_
            refine S_ 53 rfl rfl rfl _ (y_bin rfl rfl rfl (fun _ => b_gtr)) ?_
            refine S_go (fun _ _ h => h) ?_
            refine T_cond rfl (fun h53 => ?_) (fun h53 => ?_)
            · try simp only [decide_eq_true_eq, decide_eq_false_iff_not, Bool.or_eq_true, Bool.or_eq_false_iff, Bool.and_eq_true, Bool.and_eq_false_iff, Bool.not_eq_true', Bool.not_eq_false', Bool.not_eq_true, Bool.not_eq_false, Bool.not_true, Bool.not_false, Int.not_lt, Int.not_le, not_or, not_and, Classical.not_not] at h53
              refine T_seq ?_
              refine T_region ?_
              refine S_ 54 rfl rfl rfl _ (y_fieldAddr rfl rfl fa62_5) ?_
              refine S_ 55 rfl rfl rfl _ (y_load 1 rfl rfl rfl rfl Tryz.underlying60 rfl) ?_
              refine S_ 56 rfl rfl rfl _ (y_move rfl rfl) ?_
              refine S_ 57 rfl rfl rfl _ (y_bin rfl rfl rfl (fun hg => b_subv (((i - 1 : Nat) : Int)) (by omega) (by omega))) ?_
              refine S_ 58 rfl rfl rfl _ (y_indexAddr rfl rfl rfl Tryz.underlying60 sz200 (fun hg => ht.isSome (by omega)) (fun _ => by omega)) ?_
              refine S_ 59 rfl rfl rfl _ (y_loadT rfl rfl ht (fun _ => rfl) (fun _ => hp3 (by omega)) Tryz.underlying200 rfl sz200) ?_
              refine S_alloc 7 7 rfl rfl rfl rfl z200 ?_
              intro b7
              refine S_store 7 rfl rfl rfl rfl rfl rfl sz200 rfl rfl ?_
              refine S_go (fun _ _ h => h) ?_
              refine T_seq ?_
              refine T_region ?_
              refine S_ 60 rfl rfl rfl _ (y_fieldAddr rfl rfl fa200_1) ?_
              refine S_ 61 rfl rfl rfl _ (y_load 4 rfl rfl rfl rfl Tryz.underlying3 rfl) ?_
              refine S_ 62 rfl rfl rfl _ (y_fieldAddr rfl rfl fa200_1) ?_
              refine S_ 63 rfl rfl rfl _ (y_load 7 rfl rfl rfl rfl Tryz.underlying3 rfl) ?_
              refine S_ 64 rfl rfl rfl _ (y_bin rfl rfl rfl (fun _ => b_lss)) ?_
              refine S_ 65 rfl rfl rfl _ (y_move rfl rfl) ?_
              refine Sg_ 66 rfl rfl rfl rfl rfl rfl _ (y_fieldAddr rfl rfl fa200_1) ?_
              refine Sg_ 67 rfl rfl rfl rfl rfl rfl _ (y_load 4 rfl rfl rfl rfl Tryz.underlying3 rfl) ?_
              refine Sg_ 68 rfl rfl rfl rfl rfl rfl _ (y_fieldAddr rfl rfl fa200_1) ?_
              refine Sg_ 69 rfl rfl rfl rfl rfl rfl _ (y_load 7 rfl rfl rfl rfl Tryz.underlying3 rfl) ?_
              refine Sg_ 70 rfl rfl rfl rfl rfl rfl _ (y_bin rfl rfl rfl (fun _ => b_eql)) ?_
              refine Sg_ 71 rfl rfl rfl rfl rfl rfl _ (y_move rfl rfl) ?_
              refine Sg_ 72 rfl rfl rfl rfl rfl rfl _ (y_fieldAddr rfl rfl fa200_2) ?_
              refine Sg_ 73 rfl rfl rfl rfl rfl rfl _ (y_load 4 rfl rfl rfl rfl Tryz.underlying3 rfl) ?_
              refine Sg_ 74 rfl rfl rfl rfl rfl rfl _ (y_fieldAddr rfl rfl fa200_2) ?_
              refine Sg_ 75 rfl rfl rfl rfl rfl rfl _ (y_load 7 rfl rfl rfl rfl Tryz.underlying3 rfl) ?_
              refine Sg_ 76 rfl rfl rfl rfl rfl rfl _ (y_bin rfl rfl rfl (fun _ => b_gtr)) ?_
              refine Sg_ 77 rfl rfl rfl rfl rfl rfl _ (y_and rfl rfl rfl) ?_
              refine S_ 78 rfl rfl rfl _ (y_as (v' := .bool (callLate b c)) (by exact rfl) (y_or rfl rfl rfl)) ?_
              refine S_go (fun _ _ h => h) ?_
              refine T_cond rfl (fun h78 => ?_) (fun h78 => ?_)
              · skip
                refine T_seq ?_
                refine T_region ?_
                refine S_ 2 rfl rfl rfl _ (y_assign rfl rfl) ?_
                refine S_go (fun _ _ h => h) ?_
                refine T_ret (fun a w hF hM => hRb a w (post1 rfl rfl (fun w hM => ?_) a w hF hM))
                exact ⟨by rw [if_neg (by omega), hp2, hx2, callsNo, if_neg (by simpa using h28), if_f ((callBad_two hs).trans h51), if_t h78], hM.below⟩
              · skip
                refine T_skip_go (fun _ _ h => h) ?_
                refine T_seq ?_
                refine T_region ?_
                refine S_ 79 rfl rfl rfl _ (y_fieldAddr rfl rfl fa62_3) ?_
                refine S_ 80 rfl rfl rfl _ (y_load 1 rfl rfl rfl rfl Tryz.underlying58 rfl) ?_
                refine S_ 81 rfl rfl rfl _ (y_makeFunc rfl rfl rfl rfl rfl) ?_
                refine S_ 82 rfl rfl rfl _ (y_call rfl rfl rfl cf254 (fun _ w hM => ContainsFuncF_any _ _ _ _ _ _ (SFunc.holds c) w (hok.fu.t.below hM.below) (by omega) (asks_callsFault (hM.box_cell (i := 4) rfl rfl) (hM.box_cell (i := 4) rfl rfl)))) ?_
                refine S_ 8 rfl rfl rfl _ (y_assign rfl rfl) ?_
                refine S_go (fun _ _ h => h) ?_
                refine T_seq ?_
                refine T_region ?_
                refine S_ 9 rfl rfl rfl _ (y_assign rfl rfl) ?_
                refine S_go (fun _ _ h => h) ?_
                refine T_seq ?_
                refine T_seq ?_
                refine T_region ?_
                refine S_ 83 rfl rfl rfl _ (y_fieldAddr rfl rfl fa62_5) ?_
                refine S_ 84 rfl rfl rfl _ (y_load 1 rfl rfl rfl rfl Tryz.underlying60 rfl) ?_
                refine S_ 85 rfl rfl rfl _ (y_move rfl rfl) ?_
                refine S_ 86 rfl rfl rfl _ (y_slice rfl rfl Tryz.underlying60 sz200 (.inl ⟨rfl, rfl⟩) (.inr ⟨_, _, rfl, rfl⟩) (by omega) (by omega) hcap) ?_
                refine S_ 87 rfl rfl rfl _ (y_len_slice rfl rfl Tryz.underlying60) ?_
                refine S_ 88 rfl rfl rfl _ (y_move rfl rfl) ?_
                refine S_go (fun _ _ h => h) ?_
                refine T_block ?_
                refine T_loopK3 (kf := [(8, 9), (11, 11), (88, 120)]) (kl := [(8, 9), (11, 11), (88, 120)]) (fun (j : Nat) (wi : Bool) (deep : Int) => [(88, true, .int .i64 (j : Int)), (8, true, .bool wi), (9, true, .int .i64 deep)]) (fun (j : Nat) (wi : Bool) (deep : Int) => []) (fun (j : Nat) (wi : Bool) (deep : Int) => j ≤ i ∧ callNo t.fu.l (t.ca.l.take i) c = refNo c (((t.ca.l.drop 0).take (i - 0)).drop j) wi deep ∧ 0 ≤ deep ∧ deep ≤ j) (fun (j : Nat) (wi : Bool) (deep : Int) => i - j) 0 (t.fu.l.any (SFunc.holds c)) 0 (by repeat (first | exact kf_nil | (apply kf_in; focus rfl) | (apply kf_out; focus rfl))) (by repeat (first | exact kl_nil | exact kl_rest (by assumption) rfl | (apply kl_in; focus rfl) | (apply kl_out; focus rfl))) ?_ ?_ ?_ ?_
                · exact ⟨by omega, by rw [hbe]; exact (refNo_call hso.2 _ _).symm, by omega, by omega⟩
                · exact ⟨rfl, rfl, rfl, trivial⟩
                · exact trivial
                rintro j wi deep ⟨hr1, hr2, hr3, hr4⟩
                refine T_seq ?_
                refine T_region ?_
                refine S_ 89 rfl rfl rfl _ (y_bin rfl rfl rfl (fun _ => b_lss)) ?_
                refine S_go (fun _ _ h => h) ?_
                refine T_seq ?_
                refine T_cond rfl (fun h89 => ?_) (fun h89 => ?_)
                · try simp only [decide_eq_true_eq, decide_eq_false_iff_not, Bool.or_eq_true, Bool.or_eq_false_iff, Bool.and_eq_true, Bool.and_eq_false_iff, Bool.not_eq_true', Bool.not_eq_false', Bool.not_eq_true, Bool.not_eq_false, Bool.not_true, Bool.not_false, Int.not_lt, Int.not_le, not_or, not_and, Classical.not_not] at h89
                  obtain ⟨b2, hy1, hy2⟩ := hcut.at (i := j) (by omega)
                  refine T_skip_go (fun _ _ h => h) ?_
                  refine T_seq ?_
                  refine T_block ?_
                  refine T_seq ?_
                  refine T_region ?_
                  refine S_ 90 rfl rfl rfl _ (y_indexAddr rfl rfl rfl Tryz.underlying60 sz200 (fun hg => hcut.isSome (by omega)) (fun _ => by omega)) ?_
                  refine S_ 91 rfl rfl rfl _ (y_loadT rfl rfl hcut (fun _ => rfl) (fun _ => hy1) Tryz.underlying200 rfl sz200) ?_
                  refine S_alloc 11 11 rfl rfl rfl rfl z200 ?_
                  intro b11
                  refine S_store 11 rfl rfl rfl rfl rfl rfl sz200 rfl rfl ?_
                  refine S_go (fun _ _ h => h) ?_
                  refine T_block ?_
                  refine T_seq ?_
                  refine T_region ?_
                  refine S_ 93 rfl rfl rfl _ (y_fieldAddr rfl rfl fa200_1) ?_
                  refine S_ 94 rfl rfl rfl _ (y_load 11 rfl rfl rfl rfl Tryz.underlying3 rfl) ?_
                  refine S_ 95 rfl rfl rfl _ (y_fieldAddr rfl rfl fa200_1) ?_
                  refine S_ 96 rfl rfl rfl _ (y_load 4 rfl rfl rfl rfl Tryz.underlying3 rfl) ?_
                  refine S_ 97 rfl rfl rfl _ (y_bin rfl rfl rfl (fun _ => b_leq)) ?_
                  refine S_ 98 rfl rfl rfl _ (y_move rfl rfl) ?_
                  refine Sg_ 99 rfl rfl rfl rfl rfl rfl _ (y_fieldAddr rfl rfl fa200_2) ?_
                  refine Sg_ 100 rfl rfl rfl rfl rfl rfl _ (y_load 4 rfl rfl rfl rfl Tryz.underlying3 rfl) ?_
                  refine Sg_ 101 rfl rfl rfl rfl rfl rfl _ (y_fieldAddr rfl rfl fa200_2) ?_
                  refine Sg_ 102 rfl rfl rfl rfl rfl rfl _ (y_load 11 rfl rfl rfl rfl Tryz.underlying3 rfl) ?_
                  refine Sg_ 103 rfl rfl rfl rfl rfl rfl _ (y_bin rfl rfl rfl (fun _ => b_leq)) ?_
                  refine S_ 104 rfl rfl rfl _ (y_and rfl rfl rfl) ?_
                  refine S_ 92 rfl rfl rfl _ (y_as (v' := .bool (enclB b2 c)) (by exact rfl) (y_assign rfl rfl)) ?_
                  refine S_go (fun _ _ h => h) ?_
                  refine T_cond rfl (fun h92 => ?_) (fun h92 => ?_)
                  · skip
                    refine T_region ?_
                    refine S_ 105 rfl rfl rfl _ (y_move rfl rfl) ?_
                    refine S_ 106 rfl rfl rfl _ (y_bin rfl rfl rfl (fun hg => b_add (by omega))) ?_
                    refine S_ 9 rfl rfl rfl _ (y_assign rfl rfl) ?_
                    refine S_go (fun _ _ h => h) ?_
                    refine T_region ?_
                    refine S_ 120 rfl rfl rfl _ (y_bin rfl rfl rfl (fun hg => b_add (by omega))) ?_
                    refine S_ 88 rfl rfl rfl _ (y_move rfl rfl) ?_
                    refine S_nil (nextK3 (kf := [(8, 9), (11, 11), (88, 120)]) (kl := [(8, 9), (11, 11), (88, 120)]) (j + 1) wi (deep + 1) (by repeat (first | exact kf_nil | (apply kf_in; focus rfl) | (apply kf_out; focus rfl))) (by repeat (first | exact kl_nil | exact kl_rest (by assumption) rfl | (apply kl_in; focus rfl) | (apply kl_out; focus rfl))) ?_ ?_ ?_ ?_)
                    · omega
                    · exact ⟨by omega, by rw [hr2, hy2, refNo, if_t h92], by omega, by omega⟩
                    · exact ⟨rfl, rfl, rfl, trivial⟩
                    · exact trivial
                  · skip
                    refine T_seq ?_
                    refine T_region ?_
                    refine S_ 108 rfl rfl rfl _ (y_fieldAddr rfl rfl fa200_1) ?_
                    refine S_ 109 rfl rfl rfl _ (y_load 11 rfl rfl rfl rfl Tryz.underlying3 rfl) ?_
                    refine S_ 110 rfl rfl rfl _ (y_fieldAddr rfl rfl fa200_2) ?_
                    refine S_ 111 rfl rfl rfl _ (y_load 4 rfl rfl rfl rfl Tryz.underlying3 rfl) ?_
                    refine S_ 112 rfl rfl rfl _ (y_bin rfl rfl rfl (fun _ => b_lss)) ?_
                    refine S_ 113 rfl rfl rfl _ (y_move rfl rfl) ?_
                    refine Sg_ 114 rfl rfl rfl rfl rfl rfl _ (y_fieldAddr rfl rfl fa200_1) ?_
                    refine Sg_ 115 rfl rfl rfl rfl rfl rfl _ (y_load 4 rfl rfl rfl rfl Tryz.underlying3 rfl) ?_
                    refine Sg_ 116 rfl rfl rfl rfl rfl rfl _ (y_fieldAddr rfl rfl fa200_2) ?_
                    refine Sg_ 117 rfl rfl rfl rfl rfl rfl _ (y_load 11 rfl rfl rfl rfl Tryz.underlying3 rfl) ?_
                    refine Sg_ 118 rfl rfl rfl rfl rfl rfl _ (y_bin rfl rfl rfl (fun _ => b_lss)) ?_
                    refine S_ 119 rfl rfl rfl _ (y_and rfl rfl rfl) ?_
                    refine S_ 107 rfl rfl rfl _ (y_as (v' := .bool (overB b2 c)) (by exact rfl) (y_assign rfl rfl)) ?_
                    refine S_go (fun _ _ h => h) ?_
                    refine T_cond rfl (fun h107 => ?_) (fun h107 => ?_)
                    · skip
                      refine T_region ?_
                      refine S_ 8 rfl rfl rfl _ (y_assign rfl rfl) ?_
                      refine S_go (fun _ _ h => h) ?_
                      refine T_region ?_
                      refine S_ 120 rfl rfl rfl _ (y_bin rfl rfl rfl (fun hg => b_add (by omega))) ?_
                      refine S_ 88 rfl rfl rfl _ (y_move rfl rfl) ?_
                      refine S_nil (nextK3 (kf := [(8, 9), (11, 11), (88, 120)]) (kl := [(8, 9), (11, 11), (88, 120)]) (j + 1) false deep (by repeat (first | exact kf_nil | (apply kf_in; focus rfl) | (apply kf_out; focus rfl))) (by repeat (first | exact kl_nil | exact kl_rest (by assumption) rfl | (apply kl_in; focus rfl) | (apply kl_out; focus rfl))) ?_ ?_ ?_ ?_)
                      · omega
                      · exact ⟨by omega, by rw [hr2, hy2, refNo, if_f h92, if_t h107], by omega, by omega⟩
                      · exact ⟨rfl, rfl, rfl, trivial⟩
                      · exact trivial
                    · skip
                      refine T_skip_go (fun _ _ h => h) ?_
                      refine T_region ?_
                      refine S_ 120 rfl rfl rfl _ (y_bin rfl rfl rfl (fun hg => b_add (by omega))) ?_
                      refine S_ 88 rfl rfl rfl _ (y_move rfl rfl) ?_
                      refine S_nil (nextK3 (kf := [(8, 9), (11, 11), (88, 120)]) (kl := [(8, 9), (11, 11), (88, 120)]) (j + 1) wi deep (by repeat (first | exact kf_nil | (apply kf_in; focus rfl) | (apply kf_out; focus rfl))) (by repeat (first | exact kl_nil | exact kl_rest (by assumption) rfl | (apply kl_in; focus rfl) | (apply kl_out; focus rfl))) ?_ ?_ ?_ ?_)
                      · omega
                      · exact ⟨by omega, by rw [hr2, hy2, refNo, if_f h92, if_f h107], by omega, by omega⟩
                      · exact ⟨rfl, rfl, rfl, trivial⟩
                      · exact trivial
                · try simp only [decide_eq_true_eq, decide_eq_false_iff_not, Bool.or_eq_true, Bool.or_eq_false_iff, Bool.and_eq_true, Bool.and_eq_false_iff, Bool.not_eq_true', Bool.not_eq_false', Bool.not_eq_true, Bool.not_eq_false, Bool.not_true, Bool.not_false, Int.not_lt, Int.not_le, not_or, not_and, Classical.not_not] at h89
                  refine T_exit_go (fun _ _ h => h) ?_
                  refine T_seq ?_
                  refine T_seq ?_
                  refine T_region ?_
                  refine S_ 121 rfl rfl rfl _ (y_move rfl rfl) ?_
                  refine S_ 122 rfl rfl rfl _ (y_not rfl rfl) ?_
                  refine S_go (fun _ _ h => h) ?_
                  refine T_cond rfl (fun h122 => ?_) (fun h122 => ?_)
                  · skip
                    refine T_seq ?_
                    refine T_region ?_
                    refine S_ 2 rfl rfl rfl _ (y_assign rfl rfl) ?_
                    refine S_go (fun _ _ h => h) ?_
                    refine T_ret (fun a w hF hM => hRb a w (post1 rfl rfl (fun w hM => ?_) a w hF hM))
                    have he : callNo t.fu.l (t.ca.l.take i) c = 11 := by rw [hr2, hcut.end (by omega), refNo_end, if_pos (by simpa using h122)]
                    exact ⟨by rw [if_neg (by omega), hp2, hx2, callsNo, if_neg (by simpa using h28), if_f ((callBad_two hs).trans h51), if_f h78, if_pos (by rw [he]; decide), he], hM.below⟩
                  · skip
                    refine T_skip_go (fun _ _ h => h) ?_
                    refine T_seq ?_
                    refine T_region ?_
                    refine S_ 123 rfl rfl rfl _ (y_move rfl rfl) ?_
                    refine S_ 124 rfl rfl rfl _ (y_bin rfl rfl rfl (fun _ => b_geq)) ?_
                    refine S_go (fun _ _ h => h) ?_
                    refine T_cond rfl (fun h124 => ?_) (fun h124 => ?_)
                    · try simp only [decide_eq_true_eq, decide_eq_false_iff_not, Bool.or_eq_true, Bool.or_eq_false_iff, Bool.and_eq_true, Bool.and_eq_false_iff, Bool.not_eq_true', Bool.not_eq_false', Bool.not_eq_true, Bool.not_eq_false, Bool.not_true, Bool.not_false, Int.not_lt, Int.not_le, not_or, not_and, Classical.not_not] at h124
                      refine T_seq ?_
                      refine T_region ?_
                      refine S_ 2 rfl rfl rfl _ (y_assign rfl rfl) ?_
                      refine S_go (fun _ _ h => h) ?_
                      refine T_ret (fun a w hF hM => hRb a w (post1 rfl rfl (fun w hM => ?_) a w hF hM))
                      have he : callNo t.fu.l (t.ca.l.take i) c = 13 := by rw [hr2, hcut.end (by omega), refNo_end, if_neg (by simpa using h122), if_pos (by omega)]
                      exact ⟨by rw [if_neg (by omega), hp2, hx2, callsNo, if_neg (by simpa using h28), if_f ((callBad_two hs).trans h51), if_f h78, if_pos (by rw [he]; decide), he], hM.below⟩
                    · try simp only [decide_eq_true_eq, decide_eq_false_iff_not, Bool.or_eq_true, Bool.or_eq_false_iff, Bool.and_eq_true, Bool.and_eq_false_iff, Bool.not_eq_true', Bool.not_eq_false', Bool.not_eq_true, Bool.not_eq_false, Bool.not_true, Bool.not_false, Int.not_lt, Int.not_le, not_or, not_and, Classical.not_not] at h124
                      refine T_skip_go (fun _ _ h => h) ?_
                      refine T_region ?_
                      refine S_ 125 rfl rfl rfl _ (y_bin rfl rfl rfl (fun hg => b_add (by omega))) ?_
                      refine S_ 19 rfl rfl rfl _ (y_move rfl rfl) ?_
                      refine S_nil (nextK2 (kf := [(2, 9), (11, 11), (19, 125)]) (kl := [(2, 9), (11, 11), (19, 125)]) (i + 1) c (by repeat (first | exact kf_nil | (apply kf_in; focus rfl) | (apply kf_out; focus rfl))) (by repeat (first | exact kl_nil | exact kl_rest (by assumption) rfl | (apply kl_in; focus rfl) | (apply kl_out; focus rfl))) ?_ ?_ ?_ ?_)
                      · omega
                      · exact ⟨by omega, by rw [hp2, hx2, callsNo, if_neg (by simpa using h28), if_f ((callBad_two hs).trans h51), if_f h78, if_neg (by rw [hr2, hcut.end (by omega), refNo_end, if_neg (by simpa using h122), if_neg (by omega)]; simp), take_succ_at hx1], fun _ => hx1, by omega⟩
                      · exact ⟨rfl, trivial⟩
                      · exact trivial
            · try simp only [decide_eq_true_eq, decide_eq_false_iff_not, Bool.or_eq_true, Bool.or_eq_false_iff, Bool.and_eq_true, Bool.and_eq_false_iff, Bool.not_eq_true', Bool.not_eq_false', Bool.not_eq_true, Bool.not_eq_false, Bool.not_true, Bool.not_false, Int.not_lt, Int.not_le, not_or, not_and, Classical.not_not] at h53
              have h78 : callLate b c = false := by rw [hp4 (by omega)]; exact late0 ((callBad_two hs).trans h51)
              refine T_skip_go (fun _ _ h => h) ?_
              refine T_seq ?_
              refine T_region ?_
              refine S_ 79 rfl rfl rfl _ (y_fieldAddr rfl rfl fa62_3) ?_
              refine S_ 80 rfl rfl rfl _ (y_load 1 rfl rfl rfl rfl Tryz.underlying58 rfl) ?_
              refine S_ 81 rfl rfl rfl _ (y_makeFunc rfl rfl rfl rfl rfl) ?_
              refine S_ 82 rfl rfl rfl _ (y_call rfl rfl rfl cf254 (fun _ w hM => ContainsFuncF_any _ _ _ _ _ _ (SFunc.holds c) w (hok.fu.t.below hM.below) (by omega) (asks_callsFault (hM.box_cell (i := 4) rfl rfl) (hM.box_cell (i := 4) rfl rfl)))) ?_
              refine S_ 8 rfl rfl rfl _ (y_assign rfl rfl) ?_
              refine S_go (fun _ _ h => h) ?_
              refine T_seq ?_
              refine T_region ?_
              refine S_ 9 rfl rfl rfl _ (y_assign rfl rfl) ?_
              refine S_go (fun _ _ h => h) ?_
              refine T_seq ?_
              refine T_seq ?_
              refine T_region ?_
              refine S_ 83 rfl rfl rfl _ (y_fieldAddr rfl rfl fa62_5) ?_
              refine S_ 84 rfl rfl rfl _ (y_load 1 rfl rfl rfl rfl Tryz.underlying60 rfl) ?_
              refine S_ 85 rfl rfl rfl _ (y_move rfl rfl) ?_
              refine S_ 86 rfl rfl rfl _ (y_slice rfl rfl Tryz.underlying60 sz200 (.inl ⟨rfl, rfl⟩) (.inr ⟨_, _, rfl, rfl⟩) (by omega) (by omega) hcap) ?_
              refine S_ 87 rfl rfl rfl _ (y_len_slice rfl rfl Tryz.underlying60) ?_
              refine S_ 88 rfl rfl rfl _ (y_move rfl rfl) ?_
              refine S_go (fun _ _ h => h) ?_
              refine T_block ?_
              refine T_loopK3 (kf := [(8, 9), (11, 11), (88, 120)]) (kl := [(8, 9), (11, 11), (88, 120)]) (fun (j : Nat) (wi : Bool) (deep : Int) => [(88, true, .int .i64 (j : Int)), (8, true, .bool wi), (9, true, .int .i64 deep)]) (fun (j : Nat) (wi : Bool) (deep : Int) => []) (fun (j : Nat) (wi : Bool) (deep : Int) => j ≤ i ∧ callNo t.fu.l (t.ca.l.take i) c = refNo c (((t.ca.l.drop 0).take (i - 0)).drop j) wi deep ∧ 0 ≤ deep ∧ deep ≤ j) (fun (j : Nat) (wi : Bool) (deep : Int) => i - j) 0 (t.fu.l.any (SFunc.holds c)) 0 (by repeat (first | exact kf_nil | (apply kf_in; focus rfl) | (apply kf_out; focus rfl))) (by repeat (first | exact kl_nil | exact kl_rest (by assumption) rfl | (apply kl_in; focus rfl) | (apply kl_out; focus rfl))) ?_ ?_ ?_ ?_
              · exact ⟨by omega, by rw [hbe]; exact (refNo_call hso.2 _ _).symm, by omega, by omega⟩
              · exact ⟨rfl, rfl, rfl, trivial⟩
              · exact trivial
              rintro j wi deep ⟨hr1, hr2, hr3, hr4⟩
              refine T_seq ?_
              refine T_region ?_
              refine S_ 89 rfl rfl rfl _ (y_bin rfl rfl rfl (fun _ => b_lss)) ?_
              refine S_go (fun _ _ h => h) ?_
              refine T_seq ?_
              refine T_cond rfl (fun h89 => ?_) (fun h89 => ?_)
              · try simp only [decide_eq_true_eq, decide_eq_false_iff_not, Bool.or_eq_true, Bool.or_eq_false_iff, Bool.and_eq_true, Bool.and_eq_false_iff, Bool.not_eq_true', Bool.not_eq_false', Bool.not_eq_true, Bool.not_eq_false, Bool.not_true, Bool.not_false, Int.not_lt, Int.not_le, not_or, not_and, Classical.not_not] at h89
                obtain ⟨b2, hy1, hy2⟩ := hcut.at (i := j) (by omega)
                refine T_skip_go (fun _ _ h => h) ?_
                refine T_seq ?_
                refine T_block ?_
                refine T_seq ?_
                refine T_region ?_
                refine S_ 90 rfl rfl rfl _ (y_indexAddr rfl rfl rfl Tryz.underlying60 sz200 (fun hg => hcut.isSome (by omega)) (fun _ => by omega)) ?_
                refine S_ 91 rfl rfl rfl _ (y_loadT rfl rfl hcut (fun _ => rfl) (fun _ => hy1) Tryz.underlying200 rfl sz200) ?_
                refine S_alloc 11 11 rfl rfl rfl rfl z200 ?_
                intro b11
                refine S_store 11 rfl rfl rfl rfl rfl rfl sz200 rfl rfl ?_
                refine S_go (fun _ _ h => h) ?_
                refine T_block ?_
                refine T_seq ?_
                refine T_region ?_
                refine S_ 93 rfl rfl rfl _ (y_fieldAddr rfl rfl fa200_1) ?_
                refine S_ 94 rfl rfl rfl _ (y_load 11 rfl rfl rfl rfl Tryz.underlying3 rfl) ?_
                refine S_ 95 rfl rfl rfl _ (y_fieldAddr rfl rfl fa200_1) ?_
                refine S_ 96 rfl rfl rfl _ (y_load 4 rfl rfl rfl rfl Tryz.underlying3 rfl) ?_
                refine S_ 97 rfl rfl rfl _ (y_bin rfl rfl rfl (fun _ => b_leq)) ?_
                refine S_ 98 rfl rfl rfl _ (y_move rfl rfl) ?_
                refine Sg_ 99 rfl rfl rfl rfl rfl rfl _ (y_fieldAddr rfl rfl fa200_2) ?_
                refine Sg_ 100 rfl rfl rfl rfl rfl rfl _ (y_load 4 rfl rfl rfl rfl Tryz.underlying3 rfl) ?_
                refine Sg_ 101 rfl rfl rfl rfl rfl rfl _ (y_fieldAddr rfl rfl fa200_2) ?_
                refine Sg_ 102 rfl rfl rfl rfl rfl rfl _ (y_load 11 rfl rfl rfl rfl Tryz.underlying3 rfl) ?_
                refine Sg_ 103 rfl rfl rfl rfl rfl rfl _ (y_bin rfl rfl rfl (fun _ => b_leq)) ?_
                refine S_ 104 rfl rfl rfl _ (y_and rfl rfl rfl) ?_
                refine S_ 92 rfl rfl rfl _ (y_as (v' := .bool (enclB b2 c)) (by exact rfl) (y_assign rfl rfl)) ?_
                refine S_go (fun _ _ h => h) ?_
                refine T_cond rfl (fun h92 => ?_) (fun h92 => ?_)
                · skip
                  refine T_region ?_
                  refine S_ 105 rfl rfl rfl _ (y_move rfl rfl) ?_
                  refine S_ 106 rfl rfl rfl _ (y_bin rfl rfl rfl (fun hg => b_add (by omega))) ?_
                  refine S_ 9 rfl rfl rfl _ (y_assign rfl rfl) ?_
                  refine S_go (fun _ _ h => h) ?_
                  refine T_region ?_
                  refine S_ 120 rfl rfl rfl _ (y_bin rfl rfl rfl (fun hg => b_add (by omega))) ?_
                  refine S_ 88 rfl rfl rfl _ (y_move rfl rfl) ?_
                  refine S_nil (nextK3 (kf := [(8, 9), (11, 11), (88, 120)]) (kl := [(8, 9), (11, 11), (88, 120)]) (j + 1) wi (deep + 1) (by repeat (first | exact kf_nil | (apply kf_in; focus rfl) | (apply kf_out; focus rfl))) (by repeat (first | exact kl_nil | exact kl_rest (by assumption) rfl | (apply kl_in; focus rfl) | (apply kl_out; focus rfl))) ?_ ?_ ?_ ?_)
                  · omega
                  · exact ⟨by omega, by rw [hr2, hy2, refNo, if_t h92], by omega, by omega⟩
                  · exact ⟨rfl, rfl, rfl, trivial⟩
                  · exact trivial
                · skip
                  refine T_seq ?_
                  refine T_region ?_
                  refine S_ 108 rfl rfl rfl _ (y_fieldAddr rfl rfl fa200_1) ?_
                  refine S_ 109 rfl rfl rfl _ (y_load 11 rfl rfl rfl rfl Tryz.underlying3 rfl) ?_
                  refine S_ 110 rfl rfl rfl _ (y_fieldAddr rfl rfl fa200_2) ?_
                  refine S_ 111 rfl rfl rfl _ (y_load 4 rfl rfl rfl rfl Tryz.underlying3 rfl) ?_
                  refine S_ 112 rfl rfl rfl _ (y_bin rfl rfl rfl (fun _ => b_lss)) ?_
                  refine S_ 113 rfl rfl rfl _ (y_move rfl rfl) ?_
                  refine Sg_ 114 rfl rfl rfl rfl rfl rfl _ (y_fieldAddr rfl rfl fa200_1) ?_
                  refine Sg_ 115 rfl rfl rfl rfl rfl rfl _ (y_load 4 rfl rfl rfl rfl Tryz.underlying3 rfl) ?_
                  refine Sg_ 116 rfl rfl rfl rfl rfl rfl _ (y_fieldAddr rfl rfl fa200_2) ?_
                  refine Sg_ 117 rfl rfl rfl rfl rfl rfl _ (y_load 11 rfl rfl rfl rfl Tryz.underlying3 rfl) ?_
                  refine Sg_ 118 rfl rfl rfl rfl rfl rfl _ (y_bin rfl rfl rfl (fun _ => b_lss)) ?_
                  refine S_ 119 rfl rfl rfl _ (y_and rfl rfl rfl) ?_
                  refine S_ 107 rfl rfl rfl _ (y_as (v' := .bool (overB b2 c)) (by exact rfl) (y_assign rfl rfl)) ?_
                  refine S_go (fun _ _ h => h) ?_
                  refine T_cond rfl (fun h107 => ?_) (fun h107 => ?_)
                  · skip
                    refine T_region ?_
                    refine S_ 8 rfl rfl rfl _ (y_assign rfl rfl) ?_
                    refine S_go (fun _ _ h => h) ?_
                    refine T_region ?_
                    refine S_ 120 rfl rfl rfl _ (y_bin rfl rfl rfl (fun hg => b_add (by omega))) ?_
                    refine S_ 88 rfl rfl rfl _ (y_move rfl rfl) ?_
                    refine S_nil (nextK3 (kf := [(8, 9), (11, 11), (88, 120)]) (kl := [(8, 9), (11, 11), (88, 120)]) (j + 1) false deep (by repeat (first | exact kf_nil | (apply kf_in; focus rfl) | (apply kf_out; focus rfl))) (by repeat (first | exact kl_nil | exact kl_rest (by assumption) rfl | (apply kl_in; focus rfl) | (apply kl_out; focus rfl))) ?_ ?_ ?_ ?_)
                    · omega
                    · exact ⟨by omega, by rw [hr2, hy2, refNo, if_f h92, if_t h107], by omega, by omega⟩
                    · exact ⟨rfl, rfl, rfl, trivial⟩
                    · exact trivial
                  · skip
                    refine T_skip_go (fun _ _ h => h) ?_
                    refine T_region ?_
                    refine S_ 120 rfl rfl rfl _ (y_bin rfl rfl rfl (fun hg => b_add (by omega))) ?_
                    refine S_ 88 rfl rfl rfl _ (y_move rfl rfl) ?_
                    refine S_nil (nextK3 (kf := [(8, 9), (11, 11), (88, 120)]) (kl := [(8, 9), (11, 11), (88, 120)]) (j + 1) wi deep (by repeat (first | exact kf_nil | (apply kf_in; focus rfl) | (apply kf_out; focus rfl))) (by repeat (first | exact kl_nil | exact kl_rest (by assumption) rfl | (apply kl_in; focus rfl) | (apply kl_out; focus rfl))) ?_ ?_ ?_ ?_)
                    · omega
                    · exact ⟨by omega, by rw [hr2, hy2, refNo, if_f h92, if_f h107], by omega, by omega⟩
                    · exact ⟨rfl, rfl, rfl, trivial⟩
                    · exact trivial
              · try simp only [decide_eq_true_eq, decide_eq_false_iff_not, Bool.or_eq_true, Bool.or_eq_false_iff, Bool.and_eq_true, Bool.and_eq_false_iff, Bool.not_eq_true', Bool.not_eq_false', Bool.not_eq_true, Bool.not_eq_false, Bool.not_true, Bool.not_false, Int.not_lt, Int.not_le, not_or, not_and, Classical.not_not] at h89
                refine T_exit_go (fun _ _ h => h) ?_
                refine T_seq ?_
                refine T_seq ?_
                refine T_region ?_
                refine S_ 121 rfl rfl rfl _ (y_move rfl rfl) ?_
                refine S_ 122 rfl rfl rfl _ (y_not rfl rfl) ?_
                refine S_go (fun _ _ h => h) ?_
                refine T_cond rfl (fun h122 => ?_) (fun h122 => ?_)
                · skip
                  refine T_seq ?_
                  refine T_region ?_
                  refine S_ 2 rfl rfl rfl _ (y_assign rfl rfl) ?_
                  refine S_go (fun _ _ h => h) ?_
                  refine T_ret (fun a w hF hM => hRb a w (post1 rfl rfl (fun w hM => ?_) a w hF hM))
                  have he : callNo t.fu.l (t.ca.l.take i) c = 11 := by rw [hr2, hcut.end (by omega), refNo_end, if_pos (by simpa using h122)]
                  exact ⟨by rw [if_neg (by omega), hp2, hx2, callsNo, if_neg (by simpa using h28), if_f ((callBad_two hs).trans h51), if_f h78, if_pos (by rw [he]; decide), he], hM.below⟩
                · skip
                  refine T_skip_go (fun _ _ h => h) ?_
                  refine T_seq ?_
                  refine T_region ?_
                  refine S_ 123 rfl rfl rfl _ (y_move rfl rfl) ?_
                  refine S_ 124 rfl rfl rfl _ (y_bin rfl rfl rfl (fun _ => b_geq)) ?_
                  refine S_go (fun _ _ h => h) ?_
                  refine T_cond rfl (fun h124 => ?_) (fun h124 => ?_)
                  · try simp only [decide_eq_true_eq, decide_eq_false_iff_not, Bool.or_eq_true, Bool.or_eq_false_iff, Bool.and_eq_true, Bool.and_eq_false_iff, Bool.not_eq_true', Bool.not_eq_false', Bool.not_eq_true, Bool.not_eq_false, Bool.not_true, Bool.not_false, Int.not_lt, Int.not_le, not_or, not_and, Classical.not_not] at h124
                    refine T_seq ?_
                    refine T_region ?_
                    refine S_ 2 rfl rfl rfl _ (y_assign rfl rfl) ?_
                    refine S_go (fun _ _ h => h) ?_
                    refine T_ret (fun a w hF hM => hRb a w (post1 rfl rfl (fun w hM => ?_) a w hF hM))
                    have he : callNo t.fu.l (t.ca.l.take i) c = 13 := by rw [hr2, hcut.end (by omega), refNo_end, if_neg (by simpa using h122), if_pos (by omega)]
                    exact ⟨by rw [if_neg (by omega), hp2, hx2, callsNo, if_neg (by simpa using h28), if_f ((callBad_two hs).trans h51), if_f h78, if_pos (by rw [he]; decide), he], hM.below⟩
                  · try simp only [decide_eq_true_eq, decide_eq_false_iff_not, Bool.or_eq_true, Bool.or_eq_false_iff, Bool.and_eq_true, Bool.and_eq_false_iff, Bool.not_eq_true', Bool.not_eq_false', Bool.not_eq_true, Bool.not_eq_false, Bool.not_true, Bool.not_false, Int.not_lt, Int.not_le, not_or, not_and, Classical.not_not] at h124
                    refine T_skip_go (fun _ _ h => h) ?_
                    refine T_region ?_
                    refine S_ 125 rfl rfl rfl _ (y_bin rfl rfl rfl (fun hg => b_add (by omega))) ?_
                    refine S_ 19 rfl rfl rfl _ (y_move rfl rfl) ?_
                    refine S_nil (nextK2 (kf := [(2, 9), (11, 11), (19, 125)]) (kl := [(2, 9), (11, 11), (19, 125)]) (i + 1) c (by repeat (first | exact kf_nil | (apply kf_in; focus rfl) | (apply kf_out; focus rfl))) (by repeat (first | exact kl_nil | exact kl_rest (by assumption) rfl | (apply kl_in; focus rfl) | (apply kl_out; focus rfl))) ?_ ?_ ?_ ?_)
                    · omega
                    · exact ⟨by omega, by rw [hp2, hx2, callsNo, if_neg (by simpa using h28), if_f ((callBad_two hs).trans h51), if_f h78, if_neg (by rw [hr2, hcut.end (by omega), refNo_end, if_neg (by simpa using h122), if_neg (by omega)]; simp), take_succ_at hx1], fun _ => hx1, by omega⟩
                    · exact ⟨rfl, trivial⟩
                    · exact trivial
    · try simp only [decide_eq_true_eq, decide_eq_false_iff_not, Bool.or_eq_true, Bool.or_eq_false_iff, Bool.and_eq_true, Bool.and_eq_false_iff, Bool.not_eq_true', Bool.not_eq_false', Bool.not_eq_true, Bool.not_eq_false, Bool.not_true, Bool.not_false, Int.not_lt, Int.not_le, not_or, not_and, Classical.not_not] at h20
      refine T_exit_go (fun _ _ h => h) ?_
      refine T_seq ?_
      refine T_region ?_
      refine S_ 2 rfl rfl rfl _ (y_assign rfl rfl) ?_
      refine S_go (fun _ _ h => h) ?_
      refine T_ret (fun a w hF hM => hRb a w (post1 rfl rfl (fun w hM => ?_) a w hF hM))
      exact ⟨by rw [if_neg (by omega), hp2, ht.end (by omega)]; rfl, hM.below⟩

/-! ### All of a table, all modules -/
def firstNo : List Int → Int
  | [] => 0
  | a :: r => if a ≠ 0 then a else firstNo r
theorem firstNo_three (a b c : Int) : firstNo [a, b, c] = fst a (fst b c) := by
  simp only [firstNo, fst]
  by_cases h : c = 0 <;> simp [h]
def refFns : List FuncId := [117, 118, 119]
def refNos (t : Tab) : List Int := [if (1000 : Int) < t.fu.q then 4 else funcsNo t.size t.fu.l 0, if (5000 : Int) < t.ro.q then 4 else rowsNo t.size t.fi.q t.ro.l (-1), if (1000 : Int) < t.ca.q then 4 else callsNo t.size t.fi.q t.fu.l [] t.ca.l call0]
theorem ref_cf (k : Nat) (h : k < 3) : ∀ args w, (callFunc (refFns.getD k 0) args).run Tryz.prog w = .ok (.enter (refFns.getD k 0) args) w := by
  match k, h with
  | 0, _ => exact cf117
  | 1, _ => exact cf118
  | 2, _ => exact cf119
theorem ref_any (t : Tab) (w : World) (hok : t.Ok w) (hz : 1 ≤ t.size ∧ t.size ≤ 4294967296) (k : Nat) (h : k < 3) :
    Calls Tryz.prog (refFns.getD k 0) #[.agg #[str t.id, .int .i64 t.size, .slice t.fi.A t.fi.q t.fi.c, .slice t.fu.A t.fu.q t.fu.c, .slice t.ro.A t.ro.q t.ro.c, .slice t.ca.A t.ca.q t.ca.c]] w fun e w' => e = .returned (.int .i64 ((refNos t).getD k 0)) ∧ Below w.heap.size w w' := by
  match k, h with
  | 0, _ => exact funcsFault_any t w hok hz
  | 1, _ => exact rowsFault_any t w hok hz
  | 2, _ => exact callsFault_any t w hok hz
theorem ref_fn (k : Nat) (h : k < 3) : [Value.func (.func 117) #[] #[], .func (.func 118) #[] #[], .func (.func 119) #[] #[]][k]? = some (.func (.func (refFns.getD k 0)) #[] #[]) := by
  match k, h with
  | 0, _ => rfl
  | 1, _ => rfl
  | 2, _ => rfl
theorem ref_drop (t : Tab) (k : Nat) (h : k < 3) : (refNos t).drop k = (refNos t).getD k 0 :: (refNos t).drop (k + 1) := by
  match k, h with
  | 0, _ => rfl
  | 1, _ => rfl
  | 2, _ => rfl
theorem firstNo_t {a : Int} {r : List Int} (h : a ≠ 0) : firstNo (a :: r) = a := if_pos h
theorem firstNo_f {a : Int} {r : List Int} (h : a = 0) : firstNo (a :: r) = firstNo r := if_neg (by simp [h])
theorem tabNo_rest (t : Tab) : tabNo t = if (!idOk t.id) = true then 1 else if outB t.size 1 4294967296 = true then 2 else if (200 : Int) < t.fi.q then 4 else fst (filesNo [] t.fi.l) (firstNo (refNos t)) := by
  unfold tabNo refNos
  rw [firstNo_three]
  split
  · rfl
  split
  · rfl
  by_cases h : (200 : Int) < t.fi.q
  · rw [if_pos h, if_pos h]; rfl
  · rw [if_neg h, if_neg h]
theorem TableFault_any (t : Tab) (w : World) (hok : t.Ok w) :
    Calls Tryz.prog 25 #[.agg #[str t.id, .int .i64 t.size, .slice t.fi.A t.fi.q t.fi.c, .slice t.fu.A t.fu.q t.fu.c, .slice t.ro.A t.ro.q t.ro.c, .slice t.ca.A t.ca.q t.ca.c]] w fun e w' => e = .returned (.int .i64 (tabNo t)) ∧ Below w.heap.size w w' := by
  have hq := hok.small
  have ht := hok.fi.t
  have hcap := hok.fi.cap
  rw [tabNo_rest]
  refine enter_args (args := [.agg #[str t.id, .int .i64 t.size, .slice t.fi.A t.fi.q t.fi.c, .slice t.fu.A t.fu.q t.fu.c, .slice t.ro.A t.ro.q t.ro.c, .slice t.ca.A t.ca.q t.ca.c]]) (F := _) Tryz.func25 rfl Tryz.ntmps25 rfl rfl ?_
  intro Rb hRb hRn
  refine T_seq ?_
  refine T_region ?_
  refine S_box 1 1 rfl rfl rfl rfl rfl ?_
  intro b1
  refine S_ 2 rfl rfl rfl _ (y_assign rfl rfl) ?_
  refine S_go (fun _ _ h => h) ?_
  refine T_seq ?_
  refine T_block ?_
  refine T_seq ?_
  refine T_region ?_
  refine S_ 10 rfl rfl rfl _ (y_fieldAddr rfl rfl fa62_0) ?_
  refine S_ 11 rfl rfl rfl _ (y_load 1 rfl rfl rfl rfl Tryz.underlying9 rfl) ?_
  refine S_ 12 rfl rfl rfl _ (y_call rfl rfl rfl cf114 (fun _ w _ => digits16_any _ w)) ?_
  refine S_ 13 rfl rfl rfl _ (y_not rfl rfl) ?_
  refine S_ 9 rfl rfl rfl _ (y_assign rfl rfl) ?_
  refine S_go (fun _ _ h => h) ?_
  refine T_cond rfl (fun h9 => ?_) (fun h9 => ?_)
  · skip
    refine T_seq ?_
    refine T_region ?_
    refine S_ 2 rfl rfl rfl _ (y_assign rfl rfl) ?_
    refine S_go (fun _ _ h => h) ?_
    refine T_ret (fun a w hF hM => hRb a w (post1 rfl rfl (fun w hM => ?_) a w hF hM))
    exact ⟨by rw [if_t h9], hM.below⟩
  · skip
    refine T_seq ?_
    refine T_region ?_
    refine S_ 15 rfl rfl rfl _ (y_fieldAddr rfl rfl fa62_1) ?_
    refine S_ 16 rfl rfl rfl _ (y_load 1 rfl rfl rfl rfl Tryz.underlying3 rfl) ?_
    refine S_ 17 rfl rfl rfl _ (y_call rfl rfl rfl cf83 (fun _ w _ => outB_any _ _ _ w)) ?_
    refine S_ 14 rfl rfl rfl _ (y_assign rfl rfl) ?_
    refine S_go (fun _ _ h => h) ?_
    refine T_cond rfl (fun h14 => ?_) (fun h14 => ?_)
    · skip
      refine T_seq ?_
      refine T_region ?_
      refine S_ 2 rfl rfl rfl _ (y_assign rfl rfl) ?_
      refine S_go (fun _ _ h => h) ?_
      refine T_ret (fun a w hF hM => hRb a w (post1 rfl rfl (fun w hM => ?_) a w hF hM))
      exact ⟨by rw [if_f h9, if_t h14], hM.below⟩
    · skip
      have hz := size_of_out h14
      refine T_seq ?_
      refine T_region ?_
      refine S_ 19 rfl rfl rfl _ (y_fieldAddr rfl rfl fa62_2) ?_
      refine S_ 20 rfl rfl rfl _ (y_load 1 rfl rfl rfl rfl Tryz.underlying57 rfl) ?_
      refine S_ 21 rfl rfl rfl _ (y_len_slice rfl rfl Tryz.underlying57) ?_
      refine S_ 22 rfl rfl rfl _ (y_bin rfl rfl rfl (fun _ => b_gtr)) ?_
      refine S_ 18 rfl rfl rfl _ (y_assign rfl rfl) ?_
      refine S_go (fun _ _ h => h) ?_
      refine T_cond rfl (fun h18 => ?_) (fun h18 => ?_)
      · try simp only [decide_eq_true_eq, decide_eq_false_iff_not, Bool.or_eq_true, Bool.or_eq_false_iff, Bool.and_eq_true, Bool.and_eq_false_iff, Bool.not_eq_true', Bool.not_eq_false', Bool.not_eq_true, Bool.not_eq_false, Bool.not_true, Bool.not_false, Int.not_lt, Int.not_le, not_or, not_and, Classical.not_not] at h18
        refine T_seq ?_
        refine T_region ?_
        refine S_ 2 rfl rfl rfl _ (y_assign rfl rfl) ?_
        refine S_go (fun _ _ h => h) ?_
        refine T_ret (fun a w hF hM => hRb a w (post1 rfl rfl (fun w hM => ?_) a w hF hM))
        exact ⟨by rw [if_f h9, if_f h14, if_pos (by omega)], hM.below⟩
      · try simp only [decide_eq_true_eq, decide_eq_false_iff_not, Bool.or_eq_true, Bool.or_eq_false_iff, Bool.and_eq_true, Bool.and_eq_false_iff, Bool.not_eq_true', Bool.not_eq_false', Bool.not_eq_true, Bool.not_eq_false, Bool.not_true, Bool.not_false, Int.not_lt, Int.not_le, not_or, not_and, Classical.not_not] at h18
        refine T_skip_go (fun _ _ h => h) ?_
        refine T_seq ?_
        refine T_seq ?_
        refine T_region ?_
        refine S_ 23 rfl rfl rfl _ (y_fieldAddr rfl rfl fa62_2) ?_
        refine S_ 24 rfl rfl rfl _ (y_load 1 rfl rfl rfl rfl Tryz.underlying57 rfl) ?_
        refine S_ 25 rfl rfl rfl _ (y_len_slice rfl rfl Tryz.underlying57) ?_
        refine S_ 26 rfl rfl rfl _ (y_move rfl rfl) ?_
        refine S_go (fun _ _ h => h) ?_
        refine T_block ?_
        refine T_loopK1 (kf := [(2, 5), (26, 44)]) (kl := [(2, 5), (26, 44)]) (fun (i : Nat) => [(26, true, .int .i64 (i : Int))]) (fun (i : Nat) => []) (fun (i : Nat) => i ≤ t.fi.q ∧ filesNo [] t.fi.l = filesNo (t.fi.l.take i) (t.fi.l.drop i)) (fun (i : Nat) => t.fi.q - i) 0 (by repeat (first | exact kf_nil | (apply kf_in; focus rfl) | (apply kf_out; focus rfl))) (by repeat (first | exact kl_nil | exact kl_rest (by assumption) rfl | (apply kl_in; focus rfl) | (apply kl_out; focus rfl))) ?_ ?_ ?_ ?_
        · exact ⟨by omega, rfl⟩
        · exact ⟨rfl, trivial⟩
        · exact trivial
        rintro i ⟨hp1, hp2⟩
        refine T_seq ?_
        refine T_region ?_
        refine S_ 27 rfl rfl rfl _ (y_bin rfl rfl rfl (fun _ => b_lss)) ?_
        refine S_go (fun _ _ h => h) ?_
        refine T_seq ?_
        refine T_cond rfl (fun h27 => ?_) (fun h27 => ?_)
        · try simp only [decide_eq_true_eq, decide_eq_false_iff_not, Bool.or_eq_true, Bool.or_eq_false_iff, Bool.and_eq_true, Bool.and_eq_false_iff, Bool.not_eq_true', Bool.not_eq_false', Bool.not_eq_true, Bool.not_eq_false, Bool.not_true, Bool.not_false, Int.not_lt, Int.not_le, not_or, not_and, Classical.not_not] at h27
          obtain ⟨x, hx1, hx2⟩ := ht.at (i := i) (by omega)
          have hn1 := hok.names.1 x (mem_at hx1)
          refine T_skip_go (fun _ _ h => h) ?_
          refine T_seq ?_
          refine T_block ?_
          refine T_seq ?_
          refine T_region ?_
          refine S_ 28 rfl rfl rfl _ (y_move rfl rfl) ?_
          refine S_ 29 rfl rfl rfl _ (y_indexAddr rfl rfl rfl Tryz.underlying57 sz9 (fun hg => ht.isSome (by omega)) (fun _ => by omega)) ?_
          refine S_ 30 rfl rfl rfl _ (y_loadT1 (val := (fun l : List UInt8 => str l)) rfl rfl ht (fun _ => hx1) Tryz.underlying9 rfl) ?_
          refine S_ 3 rfl rfl rfl _ (y_assign rfl rfl) ?_
          refine S_ 4 rfl rfl rfl _ (y_assign rfl rfl) ?_
          refine S_go (fun _ _ h => h) ?_
          refine T_seq ?_
          refine T_seq ?_
          refine T_region ?_
          refine S_ 31 rfl rfl rfl _ (y_move rfl rfl) ?_
          refine S_ 32 rfl rfl rfl _ (y_bin rfl rfl rfl (fun _ => b_eqls)) ?_
          refine S_go (fun _ _ h => h) ?_
          refine T_cond rfl (fun h32 => ?_) (fun h32 => ?_)
          · try simp only [decide_eq_true_eq, decide_eq_false_iff_not, Bool.or_eq_true, Bool.or_eq_false_iff, Bool.and_eq_true, Bool.and_eq_false_iff, Bool.not_eq_true', Bool.not_eq_false', Bool.not_eq_true, Bool.not_eq_false, Bool.not_true, Bool.not_false, Int.not_lt, Int.not_le, not_or, not_and, Classical.not_not] at h32
            refine T_seq ?_
            refine T_region ?_
            refine S_ 2 rfl rfl rfl _ (y_assign rfl rfl) ?_
            refine S_go (fun _ _ h => h) ?_
            refine T_ret (fun a w hF hM => hRb a w (post1 rfl rfl (fun w hM => ?_) a w hF hM))
            exact ⟨by rw [if_f h9, if_f h14, if_neg (by omega), hp2, hx2, filesNo, if_pos h32]; rfl, hM.below⟩
          · try simp only [decide_eq_true_eq, decide_eq_false_iff_not, Bool.or_eq_true, Bool.or_eq_false_iff, Bool.and_eq_true, Bool.and_eq_false_iff, Bool.not_eq_true', Bool.not_eq_false', Bool.not_eq_true, Bool.not_eq_false, Bool.not_true, Bool.not_false, Int.not_lt, Int.not_le, not_or, not_and, Classical.not_not] at h32
            refine T_skip_go (fun _ _ h => h) ?_
            refine T_seq ?_
            refine T_seq ?_
            refine T_region ?_
            refine S_ 33 rfl rfl rfl _ (y_move rfl rfl) ?_
            refine S_ 34 rfl rfl rfl _ (y_call rfl rfl rfl cf115 (fun _ w _ => frameFault_any _ _ _ (by first | omega | (simp; done) | (simp; omega) | (simp only; omega)) (by first | omega | (simp; done) | (simp; omega) | (simp only; omega)) (by first | omega | (simp; done) | (simp; omega) | (simp only; omega)) w)) ?_
            refine S_ 5 rfl rfl rfl _ (y_assign rfl rfl) ?_
            refine S_go (fun _ _ h => h) ?_
            refine T_seq ?_
            refine T_region ?_
            refine S_ 35 rfl rfl rfl _ (y_move rfl rfl) ?_
            refine S_ 36 rfl rfl rfl _ (y_bin rfl rfl rfl (fun _ => b_neq)) ?_
            refine S_go (fun _ _ h => h) ?_
            refine T_cond rfl (fun h36 => ?_) (fun h36 => ?_)
            · try simp only [decide_eq_true_eq, decide_eq_false_iff_not, Bool.or_eq_true, Bool.or_eq_false_iff, Bool.and_eq_true, Bool.and_eq_false_iff, Bool.not_eq_true', Bool.not_eq_false', Bool.not_eq_true, Bool.not_eq_false, Bool.not_true, Bool.not_false, Int.not_lt, Int.not_le, not_or, not_and, Classical.not_not] at h36
              refine T_seq ?_
              refine T_region ?_
              refine S_ 37 rfl rfl rfl _ (y_move rfl rfl) ?_
              refine S_ 2 rfl rfl rfl _ (y_assign rfl rfl) ?_
              refine S_go (fun _ _ h => h) ?_
              refine T_ret (fun a w hF hM => hRb a w (post1 rfl rfl (fun w hM => ?_) a w hF hM))
              exact ⟨by rw [if_f h9, if_f h14, if_neg (by omega), hp2, hx2, filesNo, if_neg h32, if_pos h36, fst_a rfl h36], hM.below⟩
            · try simp only [decide_eq_true_eq, decide_eq_false_iff_not, Bool.or_eq_true, Bool.or_eq_false_iff, Bool.and_eq_true, Bool.and_eq_false_iff, Bool.not_eq_true', Bool.not_eq_false', Bool.not_eq_true, Bool.not_eq_false, Bool.not_true, Bool.not_false, Int.not_lt, Int.not_le, not_or, not_and, Classical.not_not] at h36
              refine T_skip_go (fun _ _ h => h) ?_
              refine T_seq ?_
              refine T_region ?_
              refine S_ 38 rfl rfl rfl _ (y_fieldAddr rfl rfl fa62_2) ?_
              refine S_ 39 rfl rfl rfl _ (y_load 1 rfl rfl rfl rfl Tryz.underlying57 rfl) ?_
              refine S_ 40 rfl rfl rfl _ (y_move rfl rfl) ?_
              refine S_ 41 rfl rfl rfl _ (y_slice rfl rfl Tryz.underlying57 sz9 (.inl ⟨rfl, rfl⟩) (.inr ⟨_, _, rfl, rfl⟩) (by omega) (by omega) hcap) ?_
              refine S_ 42 rfl rfl rfl _ (y_move rfl rfl) ?_
              refine S_ 43 rfl rfl rfl _ (y_as (v' := .bool (decide (x ∈ t.fi.l.take i))) (by simp) (y_call rfl rfl rfl cf116 (fun _ w hM => ContainsS_any _ _ _ _ _ w ((ht.cut (lo := 0) (hi := i) (fun _ => rfl) (by omega) (by omega) hcap).below hM.below) (by omega)))) ?_
              refine S_go (fun _ _ h => h) ?_
              refine T_cond rfl (fun h43 => ?_) (fun h43 => ?_)
              · try simp only [decide_eq_true_eq, decide_eq_false_iff_not, Bool.or_eq_true, Bool.or_eq_false_iff, Bool.and_eq_true, Bool.and_eq_false_iff, Bool.not_eq_true', Bool.not_eq_false', Bool.not_eq_true, Bool.not_eq_false, Bool.not_true, Bool.not_false, Int.not_lt, Int.not_le, not_or, not_and, Classical.not_not] at h43
                refine T_seq ?_
                refine T_region ?_
                refine S_ 2 rfl rfl rfl _ (y_assign rfl rfl) ?_
                refine S_go (fun _ _ h => h) ?_
                refine T_ret (fun a w hF hM => hRb a w (post1 rfl rfl (fun w hM => ?_) a w hF hM))
                exact ⟨by rw [if_f h9, if_f h14, if_neg (by omega), hp2, hx2, filesNo, if_neg h32, if_neg (by simpa using h36), if_pos h43]; rfl, hM.below⟩
              · try simp only [decide_eq_true_eq, decide_eq_false_iff_not, Bool.or_eq_true, Bool.or_eq_false_iff, Bool.and_eq_true, Bool.and_eq_false_iff, Bool.not_eq_true', Bool.not_eq_false', Bool.not_eq_true, Bool.not_eq_false, Bool.not_true, Bool.not_false, Int.not_lt, Int.not_le, not_or, not_and, Classical.not_not] at h43
                refine T_skip_go (fun _ _ h => h) ?_
                refine T_region ?_
                refine S_ 44 rfl rfl rfl _ (y_bin rfl rfl rfl (fun hg => b_add (by omega))) ?_
                refine S_ 26 rfl rfl rfl _ (y_move rfl rfl) ?_
                refine S_nil (nextK1 (kf := [(2, 5), (26, 44)]) (kl := [(2, 5), (26, 44)]) (i + 1) (by repeat (first | exact kf_nil | (apply kf_in; focus rfl) | (apply kf_out; focus rfl))) (by repeat (first | exact kl_nil | exact kl_rest (by assumption) rfl | (apply kl_in; focus rfl) | (apply kl_out; focus rfl))) ?_ ?_ ?_ ?_)
                · omega
                · exact ⟨by omega, by rw [hp2, hx2, filesNo, if_neg h32, if_neg (by simpa using h36), if_neg h43, take_succ_at hx1]⟩
                · exact ⟨rfl, trivial⟩
                · exact trivial
        · try simp only [decide_eq_true_eq, decide_eq_false_iff_not, Bool.or_eq_true, Bool.or_eq_false_iff, Bool.and_eq_true, Bool.and_eq_false_iff, Bool.not_eq_true', Bool.not_eq_false', Bool.not_eq_true, Bool.not_eq_false, Bool.not_true, Bool.not_false, Int.not_lt, Int.not_le, not_or, not_and, Classical.not_not] at h27
          refine T_exit_go (fun _ _ h => h) ?_
          refine T_seq ?_
          refine T_seq ?_
          refine T_region ?_
          refine S_buildSlice 45 45 rfl rfl rfl rfl rfl Tryz.underlying185 inf63 rfl (by decide) (by decide) rfl rfl (by decide) rfl (_) rfl ?_
          intro b45
          refine S_ 46 rfl rfl rfl _ (y_len_slice rfl rfl Tryz.underlying185) ?_
          refine S_ 47 rfl rfl rfl _ (y_move rfl rfl) ?_
          refine S_go (fun _ _ h => h) ?_
          refine T_block ?_
          refine T_loopK1 (kf := [(2, 2), (7, 8), (47, 57)]) (kl := [(2, 2), (7, 8), (47, 57)]) (fun (k : Nat) => [(47, true, .int .i64 (k : Int))]) (fun (k : Nat) => []) (fun (k : Nat) => k ≤ 3 ∧ firstNo (refNos t) = firstNo ((refNos t).drop k)) (fun (k : Nat) => 3 - k) 0 (by repeat (first | exact kf_nil | (apply kf_in; focus rfl) | (apply kf_out; focus rfl))) (by repeat (first | exact kl_nil | exact kl_rest (by assumption) rfl | (apply kl_in; focus rfl) | (apply kl_out; focus rfl))) ?_ ?_ ?_ ?_
          · exact ⟨by omega, rfl⟩
          · exact ⟨rfl, trivial⟩
          · exact trivial
          rintro k ⟨hr1, hr2⟩
          refine T_seq ?_
          refine T_region ?_
          refine S_ 48 rfl rfl rfl _ (y_bin rfl rfl rfl (fun _ => b_lss)) ?_
          refine S_go (fun _ _ h => h) ?_
          refine T_seq ?_
          refine T_cond rfl (fun h48 => ?_) (fun h48 => ?_)
          · try simp only [decide_eq_true_eq, decide_eq_false_iff_not, Bool.or_eq_true, Bool.or_eq_false_iff, Bool.and_eq_true, Bool.and_eq_false_iff, Bool.not_eq_true', Bool.not_eq_false', Bool.not_eq_true, Bool.not_eq_false, Bool.not_true, Bool.not_false, Int.not_lt, Int.not_le, not_or, not_and, Classical.not_not] at h48
            refine T_skip_go (fun _ _ h => h) ?_
            refine T_seq ?_
            refine T_block ?_
            refine T_seq ?_
            refine T_region ?_
            refine S_ 49 rfl rfl rfl _ (y_indexOwn 45 rfl rfl rfl rfl Tryz.underlying185 sz63 (fun _ => by omega)) ?_
            refine S_ 50 rfl rfl rfl _ (y_load_own 45 rfl rfl rfl (fun _ => by omega) (fun _ => ref_fn k (by omega)) Tryz.underlying63 rfl) ?_
            refine S_ 7 rfl rfl rfl _ (y_assign rfl rfl) ?_
            refine S_go (fun _ _ h => h) ?_
            refine T_seq ?_
            refine T_region ?_
            refine S_ 51 rfl rfl rfl _ (y_move rfl rfl) ?_
            refine S_ 52 rfl rfl rfl _ (y_loadA 1 rfl rfl rfl Tryz.underlying62 rfl sz62) ?_
            refine S_ 53 rfl rfl rfl _ (y_call rfl rfl rfl (ref_cf k (by omega)) (fun _ w hM => ref_any t w (hok.below hM.below) hz k (by omega))) ?_
            refine S_ 8 rfl rfl rfl _ (y_assign rfl rfl) ?_
            refine S_go (fun _ _ h => h) ?_
            refine T_seq ?_
            refine T_region ?_
            refine S_ 54 rfl rfl rfl _ (y_move rfl rfl) ?_
            refine S_ 55 rfl rfl rfl _ (y_bin rfl rfl rfl (fun _ => b_neq)) ?_
            refine S_go (fun _ _ h => h) ?_
            refine T_cond rfl (fun h55 => ?_) (fun h55 => ?_)
            · try simp only [decide_eq_true_eq, decide_eq_false_iff_not, Bool.or_eq_true, Bool.or_eq_false_iff, Bool.and_eq_true, Bool.and_eq_false_iff, Bool.not_eq_true', Bool.not_eq_false', Bool.not_eq_true, Bool.not_eq_false, Bool.not_true, Bool.not_false, Int.not_lt, Int.not_le, not_or, not_and, Classical.not_not] at h55
              refine T_seq ?_
              refine T_region ?_
              refine S_ 56 rfl rfl rfl _ (y_move rfl rfl) ?_
              refine S_ 2 rfl rfl rfl _ (y_assign rfl rfl) ?_
              refine S_go (fun _ _ h => h) ?_
              refine T_ret (fun a w hF hM => hRb a w (post1 rfl rfl (fun w hM => ?_) a w hF hM))
              exact ⟨by rw [if_f h9, if_f h14, if_neg (by omega), fst_b (by rw [hp2, ht.end (by omega)]; rfl) (by rw [hr2, ref_drop t k (by omega), firstNo_t h55])], hM.below⟩
            · try simp only [decide_eq_true_eq, decide_eq_false_iff_not, Bool.or_eq_true, Bool.or_eq_false_iff, Bool.and_eq_true, Bool.and_eq_false_iff, Bool.not_eq_true', Bool.not_eq_false', Bool.not_eq_true, Bool.not_eq_false, Bool.not_true, Bool.not_false, Int.not_lt, Int.not_le, not_or, not_and, Classical.not_not] at h55
              refine T_skip_go (fun _ _ h => h) ?_
              refine T_region ?_
              refine S_ 57 rfl rfl rfl _ (y_bin rfl rfl rfl (fun hg => b_add (by omega))) ?_
              refine S_ 47 rfl rfl rfl _ (y_move rfl rfl) ?_
              refine S_nil (nextK1 (kf := [(2, 2), (7, 8), (47, 57)]) (kl := [(2, 2), (7, 8), (47, 57)]) (k + 1) (by repeat (first | exact kf_nil | (apply kf_in; focus rfl) | (apply kf_out; focus rfl))) (by repeat (first | exact kl_nil | exact kl_rest (by assumption) rfl | (apply kl_in; focus rfl) | (apply kl_out; focus rfl))) ?_ ?_ ?_ ?_)
              · omega
              · exact ⟨by omega, by rw [hr2, ref_drop t k (by omega), firstNo_f h55]⟩
              · exact ⟨rfl, trivial⟩
              · exact trivial
          · try simp only [decide_eq_true_eq, decide_eq_false_iff_not, Bool.or_eq_true, Bool.or_eq_false_iff, Bool.and_eq_true, Bool.and_eq_false_iff, Bool.not_eq_true', Bool.not_eq_false', Bool.not_eq_true, Bool.not_eq_false, Bool.not_true, Bool.not_false, Int.not_lt, Int.not_le, not_or, not_and, Classical.not_not] at h48
            refine T_exit_go (fun _ _ h => h) ?_
            refine T_seq ?_
            refine T_region ?_
            refine S_ 2 rfl rfl rfl _ (y_assign rfl rfl) ?_
            refine S_go (fun _ _ h => h) ?_
            refine T_ret (fun a w hF hM => hRb a w (post1 rfl rfl (fun w hM => ?_) a w hF hM))
            exact ⟨by rw [if_f h9, if_f h14, if_neg (by omega), fst_b (by rw [hp2, ht.end (by omega)]; rfl) (by rw [hr2, List.drop_eq_nil_of_le (by simp [refNos]; omega)])]; rfl, hM.below⟩
end Go.Proofs.YtkkngcdikbhkjaaGreatDoor
end
section
namespace Go.Proofs.YtkkngcdikbhkjaaGreatDoor
set_option linter.unusedSimpArgs false
set_option linter.unusedVariables false
set_option maxRecDepth 20000
open Go.RowKit Go.Eng
structure SSpan where
  fr : Int
  tu : Int
def SSpan.enc (s : SSpan) : List Value := [.int .i64 s.fr, .int .i64 s.tu]
theorem fst_zero {a b : Int} (h : fst a b = 0) : a = 0 ∧ b = 0 := by
  unfold fst at h
  by_cases ha : a = 0
  · rw [if_neg (by simp [ha])] at h; exact ⟨ha, h⟩
  · rw [if_pos ha] at h; exact absurd h ha
theorem le_of_ite {p : Prop} [Decidable p] {a : Int} (h : (if p then (4 : Int) else a) = 0) : ¬ p ∧ a = 0 := by
  by_cases hp : p
  · rw [if_pos hp] at h; cases h
  · rw [if_neg hp] at h; exact ⟨hp, h⟩
/-- what a right table keeps -/
theorem rows_of {t : Tab} (h : tabNo t = 0) : (idOk t.id = true ∧ outB t.size 1 4294967296 = false) ∧ t.fi.q ≤ 200 ∧ t.fu.q ≤ 1000 ∧ t.ro.q ≤ 5000 ∧ t.ca.q ≤ 1000 := by
  unfold tabNo at h
  split at h
  · cases h
  rename_i h1
  split at h
  · cases h
  rename_i h2
  obtain ⟨a, h⟩ := fst_zero h
  obtain ⟨b, h⟩ := fst_zero h
  obtain ⟨c, d⟩ := fst_zero h
  have a := (le_of_ite a).1
  have b := (le_of_ite b).1
  have c := (le_of_ite c).1
  have d := (le_of_ite d).1
  exact ⟨⟨by simpa using h1, by simpa using h2⟩, by omega, by omega, by omega, by omega⟩
end Go.Proofs.YtkkngcdikbhkjaaGreatDoor
end
section
namespace Go.Proofs.YtkkngcdikbhkjaaGreatDoor
set_option linter.unusedSimpArgs false
set_option linter.unusedVariables false
set_option maxRecDepth 20000
open Go.RowKit Go.Eng
end Go.Proofs.YtkkngcdikbhkjaaGreatDoor
end
section
namespace Go.Proofs.YtkkngcdikbhkjaaGreatDoor
set_option linter.unusedSimpArgs false
set_option linter.unusedVariables false
set_option maxRecDepth 20000
open Go.RowKit Go.Eng
def Rising (l : List SRow) : Prop := ∀ (i j : Nat) (a b : SRow), l[i]? = some a → l[j]? = some b → i < j → a.pos < b.pos
end Go.Proofs.YtkkngcdikbhkjaaGreatDoor
end
section
namespace Go.Proofs.YtkkngcdikbhkjaaGreatDoor
set_option linter.unusedSimpArgs false
set_option linter.unusedVariables false
set_option maxRecDepth 20000
open Go.RowKit Go.Eng
theorem rows_right {size nf : Int} : ∀ (l : List SRow) (last : Int), rowsNo size nf l last = 0 → (∀ (i : Nat) (r : SRow), l[i]? = some r → rowBad size nf r = false ∧ (r.fi = -1 ↔ r.ln = 0) ∧ last < r.pos) ∧ Rising l
  | [], last, _ => ⟨fun i r h => by simp at h, fun i j a b h => by simp at h⟩
  | r :: rest, last, h => by
    unfold rowsNo at h
    split at h
    · cases h
    rename_i h1
    split at h
    · cases h
    rename_i h2
    split at h
    · cases h
    rename_i h3
    obtain ⟨ih1, ih2⟩ := rows_right rest r.pos h
    have h2' : (r.fi = -1 ↔ r.ln = 0) := by
      by_cases ha : r.fi = -1 <;> by_cases hb : r.ln = 0 <;> simp_all
    refine ⟨fun i a ha => ?_, fun i j a b ha hb hij => ?_⟩
    · cases i with
      | zero => simp at ha; subst ha; exact ⟨by simpa using h1, h2', by omega⟩
      | succ i =>
        obtain ⟨x1, x2, x3⟩ := ih1 i a (by simpa using ha)
        exact ⟨x1, x2, by omega⟩
    · cases j with
      | zero => omega
      | succ j =>
        cases i with
        | zero => simp at ha; subst ha; exact (ih1 j b (by simpa using hb)).2.2
        | succ i => exact ih2 i j a b (by simpa using ha) (by simpa using hb) (by omega)
theorem tab_rows {t : Tab} (h : tabNo t = 0) : rowsNo t.size t.fi.q t.ro.l (-1) = 0 := by
  unfold tabNo at h
  split at h
  · cases h
  split at h
  · cases h
  obtain ⟨_, h⟩ := fst_zero h
  obtain ⟨_, h⟩ := fst_zero h
  obtain ⟨c, _⟩ := fst_zero h
  exact (le_of_ite c).2
end Go.Proofs.YtkkngcdikbhkjaaGreatDoor
end
section
namespace Go.Proofs.YtkkngcdikbhkjaaGreatDoor
set_option linter.unusedSimpArgs false
set_option linter.unusedVariables false
set_option maxRecDepth 20000
open Go.RowKit Go.Eng
end Go.Proofs.YtkkngcdikbhkjaaGreatDoor
end
section
namespace Go.Proofs.YtkkngcdikbhkjaaGreatDoor
set_option linter.unusedSimpArgs false
set_option linter.unusedVariables false
set_option maxRecDepth 20000
open Go.RowKit Go.Eng
structure SPlace where
  fn : List UInt8
  fi : List UInt8
  ln : Int
def SPlace.enc (p : SPlace) : List Value := [str p.fn, str p.fi, .int .i64 p.ln]
def SCall.has (x : Int) (c : SCall) : Bool := decide (c.fr ≤ x) && decide (x < c.tu)
theorem calls_right {size nf : Int} {fu : List SFunc} : ∀ (l before : List SCall) (b : SCall), callsNo size nf fu before l b = 0 →
    (∀ (i : Nat) (c : SCall), l[i]? = some c → nameNo c.name = 0 ∧ callBad size nf c = false ∧ callNo fu (before ++ l.take i) c = 0)
  | [], _, _, _ => fun i c h => by simp at h
  | c :: r, before, b, h => by
    unfold callsNo at h
    split at h
    · rename_i h1; exact absurd h h1
    rename_i h1
    split at h
    · cases h
    rename_i h2
    split at h
    · cases h
    split at h
    · rename_i h4; exact absurd h h4
    rename_i h4
    intro i a ha
    cases i with
    | zero => simp at ha; subst ha; exact ⟨by simpa using h1, by simpa using h2, by simpa using h4⟩
    | succ i =>
      have := calls_right r (before ++ [c]) c h i a (by simpa using ha)
      simpa using this
theorem tab_calls {t : Tab} (h : tabNo t = 0) : callsNo t.size t.fi.q t.fu.l [] t.ca.l call0 = 0 := by
  unfold tabNo at h
  split at h
  · cases h
  split at h
  · cases h
  obtain ⟨_, h⟩ := fst_zero h
  obtain ⟨_, h⟩ := fst_zero h
  obtain ⟨_, d⟩ := fst_zero h
  exact (le_of_ite d).2
end Go.Proofs.YtkkngcdikbhkjaaGreatDoor
end
section
namespace Go.Proofs.YtkkngcdikbhkjaaGreatDoor
set_option linter.unusedSimpArgs false
set_option linter.unusedVariables false
set_option maxRecDepth 20000
open Go.RowKit Go.Eng
end Go.Proofs.YtkkngcdikbhkjaaGreatDoor
end
section
namespace Go.Proofs.YtkkngcdikbhkjaaGreatDoor
set_option linter.unusedSimpArgs false
set_option linter.unusedVariables false
set_option maxRecDepth 20000
open Go.RowKit Go.Eng
theorem dig_le {n : Nat} (h : n ≤ 4611686018427387904) : (dig128 n).length ≤ 9 := dig_len 8 n (by omega)
theorem digI_le {n : Int} (h : n ≤ 4611686018427387904) : (dig128 n.toNat).length ≤ 9 := dig_le (by omega)
def magic : List UInt8 := [73, 81, 84, 49]
def headB (t : Tab) : List UInt8 := magic ++ t.id ++ dig128 t.size.toNat ++ dig128 (t.fi.q : Int).toNat
/-! ### What a right table bounds -/
theorem words_len {m f fi : List UInt8} (h : wordsNo m f fi = 0) : m.length ≤ 200 ∧ f.length ≤ 200 ∧ fi.length ≤ 200 := by
  unfold wordsNo at h
  split at h
  · cases h
  · rename_i hb
    simp only [Bool.or_eq_true, decide_eq_true_eq, not_or, Int.not_lt] at hb
    omega
theorem name_len {s : List UInt8} (h : nameNo s = 0) : s.length ≤ 200 := by
  unfold nameNo at h
  split at h
  · rename_i h1; exact absurd h h1
  · rename_i h1
    exact (words_len (Classical.not_not.1 h1)).2.1
theorem files_len : ∀ (l seen : List (List UInt8)), filesNo seen l = 0 → ∀ s ∈ l, s.length ≤ 200
  | [], _, _, s, hs => by cases hs
  | a :: r, seen, h, s, hs => by
    unfold filesNo at h
    split at h
    · cases h
    split at h
    · rename_i h1; exact absurd h h1
    rename_i h1
    split at h
    · cases h
    cases hs with
    | head => exact (words_len (Classical.not_not.1 h1)).2.2
    | tail _ hm => exact files_len r _ h s hm
theorem funcs_right {size : Int} : ∀ (l : List SFunc) (last : Int), funcsNo size l last = 0 → ∀ (i : Nat) (f : SFunc), l[i]? = some f → nameNo f.name = 0 ∧ spanBad size f.fr f.tu = false ∧ last ≤ f.fr ∧ ∀ g, l[i + 1]? = some g → f.tu ≤ g.fr
  | [], _, _, i, f, hf => by simp at hf
  | a :: r, last, h, i, f, hf => by
    unfold funcsNo at h
    split at h
    · rename_i h1; exact absurd h h1
    rename_i h1
    split at h
    · cases h
    rename_i h2
    split at h
    · cases h
    rename_i h3
    have ih := funcs_right r a.tu h
    have hs : spanBad size a.fr a.tu = false := by simpa using h2
    have hso := span_ok hs
    cases i with
    | zero =>
      simp at hf; subst hf
      exact ⟨Classical.not_not.1 h1, hs, by omega, fun g hg => (ih 0 g (by simpa using hg)).2.2.1⟩
    | succ i =>
      obtain ⟨x1, x2, x3, x4⟩ := ih i f (by simpa using hf)
      exact ⟨x1, x2, by omega, fun g hg => x4 g (by simpa using hg)⟩
theorem tab_parts {t : Tab} (h : tabNo t = 0) : filesNo [] t.fi.l = 0 ∧ funcsNo t.size t.fu.l 0 = 0 := by
  unfold tabNo at h
  split at h
  · cases h
  split at h
  · cases h
  obtain ⟨a, h⟩ := fst_zero h
  obtain ⟨b, h⟩ := fst_zero h
  exact ⟨(le_of_ite a).2, (le_of_ite b).2⟩
theorem calls_rise {size nf : Int} {fu : List SFunc} : ∀ (l before : List SCall) (b : SCall), callsNo size nf fu before l b = 0 → ∀ (i : Nat) (c : SCall), l[i]? = some c → b.fr ≤ c.fr ∧ ∀ g, l[i + 1]? = some g → c.fr ≤ g.fr
  | [], _, _, _, i, c, hc => by simp at hc
  | a :: r, before, b, h, i, c, hc => by
    unfold callsNo at h
    split at h
    · rename_i h1; exact absurd h h1
    split at h
    · cases h
    split at h
    · cases h
    rename_i h3
    split at h
    · rename_i h4; exact absurd h h4
    have ih := calls_rise r (before ++ [a]) a h
    have hl : b.fr ≤ a.fr := by
      simp only [callLate, Bool.or_eq_true, decide_eq_true_eq, not_or] at h3; omega
    cases i with
    | zero => simp at hc; subst hc; exact ⟨hl, fun g hg => (ih 0 g (by simpa using hg)).1⟩
    | succ i =>
      obtain ⟨x1, x2⟩ := ih i c (by simpa using hc)
      exact ⟨by omega, fun g hg => x2 g (by simpa using hg)⟩
theorem span_in {size fr tu : Int} (h : spanBad size fr tu = false) : 0 ≤ fr ∧ fr < tu ∧ tu ≤ size := by
  simp only [spanBad, outB, Bool.or_eq_false_iff, decide_eq_false_iff_not] at h; omega
theorem call_in {size nf : Int} {c : SCall} (h : callBad size nf c = false) : 0 ≤ c.fr ∧ c.fr < c.tu ∧ c.tu ≤ size ∧ 0 ≤ c.fi ∧ c.fi ≤ nf - 1 ∧ 1 ≤ c.ln ∧ c.ln ≤ 9999999 := by
  simp only [callBad, Bool.or_eq_false_iff] at h
  have h1 := span_in h.1.1
  have h2 := h.1.2
  have h3 := h.2
  simp only [outB, Bool.or_eq_false_iff, decide_eq_false_iff_not] at h2 h3
  omega
theorem row_in {size nf : Int} {r : SRow} (h : rowBad size nf r = false) : 0 ≤ r.pos ∧ r.pos < size ∧ -1 ≤ r.fi ∧ r.fi ≤ nf - 1 ∧ 0 ≤ r.ln ∧ r.ln ≤ 9999999 := by
  simp only [rowBad, outB, Bool.or_eq_false_iff, decide_eq_false_iff_not] at h; omega
end Go.Proofs.YtkkngcdikbhkjaaGreatDoor
end
section
namespace Go.Proofs.YtkkngcdikbhkjaaGreatDoor
set_option linter.unusedSimpArgs false
set_option linter.unusedVariables false
set_option maxRecDepth 20000
open Go.RowKit Go.Eng
abbrev Pa (α : Type) := List UInt8 → Option (α × List UInt8)
def bnd {α β : Type} (p : Pa α) (q : α → Pa β) : Pa β := fun s => match p s with
  | some (x, s1) => q x s1
  | none => none
def giv {α : Type} (x : α) : Pa α := fun s => some (x, s)
/-- what a reader leaves: a value, the rest, whether all was right so far -/
def PRes {α : Type} (p : Pa α) (s : List UInt8) (ok : Bool) (x : α) (s1 : List UInt8) (ok1 : Bool) : Prop := ok1 = (ok && (p s).isSome) ∧ (ok1 = true → p s = some (x, s1))
section
variable {α β : Type} {p : Pa α} {q : α → Pa β} {s s1 s2 : List UInt8} {ok ok1 ok2 : Bool} {x : α} {y : β}
theorem PRes.bnd (h1 : PRes p s ok x s1 ok1) (h2 : PRes (q x) s1 ok1 y s2 ok2) : PRes (bnd p q) s ok y s2 ok2 := by
  obtain ⟨a1, b1⟩ := h1
  obtain ⟨a2, b2⟩ := h2
  cases ok1 with
  | true =>
    have := b1 rfl
    have hs : (p s).isSome = true := by rw [this]; rfl
    rw [hs, Bool.and_true] at a1
    refine ⟨?_, fun h => ?_⟩
    · rw [a2, ← a1]; simp [Go.Proofs.YtkkngcdikbhkjaaGreatDoor.bnd, this]
    · simp [Go.Proofs.YtkkngcdikbhkjaaGreatDoor.bnd, this, b2 h]
  | false =>
    rw [Bool.false_and] at a2
    subst a2
    refine ⟨?_, fun h => by cases h⟩
    cases ok with
    | false => rfl
    | true =>
      simp only [Bool.true_and] at a1 ⊢
      have : p s = none := by
        cases hp : p s with
        | none => rfl
        | some u => rw [hp] at a1; cases a1
      simp [Go.Proofs.YtkkngcdikbhkjaaGreatDoor.bnd, this]
theorem PRes.giv : PRes (giv x) s ok x s ok := ⟨by simp [Go.Proofs.YtkkngcdikbhkjaaGreatDoor.giv], fun _ => rfl⟩
theorem PRes.map {γ : Type} {f : α → γ} (h : PRes p s ok x s1 ok1) : PRes (Go.Proofs.YtkkngcdikbhkjaaGreatDoor.bnd p fun x => Go.Proofs.YtkkngcdikbhkjaaGreatDoor.giv (f x)) s ok (f x) s1 ok1 := h.bnd PRes.giv
theorem PRes.some (h : PRes p s ok x s1 true) : p s = some (x, s1) ∧ ok = true := by
  refine ⟨h.2 rfl, ?_⟩
  have := h.1
  cases ok with
  | true => rfl
  | false => cases this
end
/-! ### Lists -/
def iter {σ : Type} (one : σ → Pa σ) : Nat → σ → Pa σ
  | 0, a => giv a
  | n + 1, a => bnd (one a) (iter one n)
structure IterInv {σ : Type} (one : σ → Pa σ) (N : Nat) (a0 : σ) (s0 : List UInt8) (ok0 : Bool) (m : Nat) (a : σ) (s : List UInt8) (ok : Bool) : Prop where
  on : ok = true → iter one N a0 s0 = iter one m a s ∧ ok0 = true
  off : ok = false → ok0 = false ∨ iter one N a0 s0 = none
section
variable {σ : Type} {one : σ → Pa σ} {N m : Nat} {a0 a a' : σ} {s0 s s1 : List UInt8} {ok0 ok ok1 : Bool}
theorem IterInv.start : IterInv one N a0 s0 ok0 N a0 s0 ok0 := ⟨fun h => ⟨rfl, h⟩, fun h => .inl h⟩
theorem IterInv.step (h : IterInv one N a0 s0 ok0 (m + 1) a s true) (hr : PRes (one a) s true a' s1 ok1) : IterInv one N a0 s0 ok0 m a' s1 ok1 := by
  have h1 := h.on rfl
  refine ⟨fun h2 => ⟨?_, h1.2⟩, fun h2 => .inr ?_⟩
  · subst h2
    rw [h1.1]
    simp [iter, Go.Proofs.YtkkngcdikbhkjaaGreatDoor.bnd, (hr.2 rfl)]
  · subst h2
    rw [h1.1]
    have := hr.1
    rw [Bool.true_and] at this
    have hn : one a s = none := by
      cases hp : one a s with
      | none => rfl
      | some u => rw [hp] at this; cases this
    simp [iter, Go.Proofs.YtkkngcdikbhkjaaGreatDoor.bnd, hn]
theorem IterInv.done (h : IterInv one N a0 s0 ok0 m a s ok) (he : m = 0 ∨ ok = false) : PRes (iter one N a0) s0 ok0 a s ok := by
  cases ok with
  | true =>
    have h1 := h.on rfl
    have hm : m = 0 := by rcases he with he | he <;> first | exact he | cases he
    subst hm
    refine ⟨?_, fun _ => by rw [h1.1]; rfl⟩
    rw [h1.1, h1.2]; rfl
  | false =>
    refine ⟨?_, fun h => by cases h⟩
    rcases h.off rfl with h1 | h1
    · rw [h1]; rfl
    · rw [h1]; simp
end
/-- a table's contents -/
structure PT where
  id : List UInt8
  size : Int
  fi : List (List UInt8)
  fu : List SFunc
  ro : List SRow
  ca : List SCall
end Go.Proofs.YtkkngcdikbhkjaaGreatDoor
end
section
namespace Go.Proofs.YtkkngcdikbhkjaaGreatDoor
set_option linter.unusedSimpArgs false
set_option linter.unusedVariables false
set_option maxRecDepth 20000
open Go.RowKit Go.Eng
/-- a builder's box, and its row of bytes -/
abbrev bldBox (b : Nat) (ad : Value) (A : Option Addr) (q c : Nat) : It := .blk b (IsBox [ad, .slice A q c] 189)
abbrev bldRow (A : Option Addr) (q c : Nat) (l : List UInt8) : It := .own 5 1 (.slice A q c) q (bytesV l)
abbrev selfP (b : Nat) : Value := .pointer (some ⟨b, 0, none⟩)
theorem copyCheck_any {w0 : World} {K : HL} (hK : FromK K) (b : Nat) (ad sl : Value) (had : ad = .pointer none ∨ ad = selfP b) (w : World) (hM0 : Mem w0 ([(0, .blk b (IsBox [ad, sl] 189))] ++ K) w) :
    Calls Tryz.prog 256 #[selfP b] w fun e w' => e = .returned (.tuple #[]) ∧ Mem w0 ([(0, .blk b (IsBox [selfP b, sl] 189))] ++ K) w' := by
  obtain ⟨j, hinf189, _⟩ := Option.map_eq_some_iff.1 sz189
  rcases had with rfl | rfl
  ·
    refine enterM_args (args := [selfP b]) (F := _) hM0 Tryz.func256 rfl Tryz.ntmps256 rfl rfl ?_
    intro Rb hRb hRn
    refine T_seq ?_
    refine T_region ?_
    refine S_ 2 rfl rfl rfl _ (y_move rfl rfl) ?_
    refine S_ 3 rfl rfl rfl _ (y_nilCheck rfl rfl) ?_
    refine S_ 4 rfl rfl rfl _ (y_fieldAddr rfl rfl fa189_0) ?_
    refine S_ 5 rfl rfl rfl _ (y_load 0 rfl rfl rfl rfl Tryz.underlying186 rfl) ?_
    refine S_ 6 rfl rfl rfl _ (y_bin rfl rfl rfl (fun _ => b_eqlp Tryz.underlying186)) ?_
    refine S_go (fun _ _ h => h) ?_
    refine T_cond rfl (fun h6 => ?_) (fun h6 => ?_)
    · skip
      refine T_region ?_
      refine S_ 7 rfl rfl rfl _ (y_move rfl rfl) ?_
      refine S_ 8 rfl rfl rfl _ (y_move rfl rfl) ?_
      refine S_ 9 rfl rfl rfl _ (y_conv_to (i := 0) rfl rfl rfl Tryz.underlying186 Tryz.underlying342 sz189 (Nat.succ_pos _)) ?_
      refine S_ 10 rfl rfl rfl _ (y_noEscape rfl rfl (run_callFunc_extern Tryz.func328 (by kernel_rfl) (by kernel_rfl) (by kernel_rfl) (by kernel_rfl))) ?_
      refine S_ 11 rfl rfl rfl _ (y_conv_from (i := 0) rfl rfl rfl Tryz.underlying342 Tryz.underlying186 sz189 (by kernel_rfl)) ?_
      refine S_ 12 rfl rfl rfl _ (y_nilCheck rfl rfl) ?_
      refine S_ 13 rfl rfl rfl _ (y_fieldAddr rfl rfl fa189_0) ?_
      refine S_store 0 rfl rfl rfl rfl rfl rfl sz186 rfl rfl ?_
      refine S_nil (fun a w hF hM => hRn a w (post0 rfl (fun w hM => ?_) a w hF hM))
      exact ⟨rfl, hM.keep (ks := [(0, 999)]) (by repeat (first | exact kl_rest (by assumption) rfl | (apply kl_in; focus rfl))) _ ⟨rfl, trivial⟩⟩
    · skip
      simp at h6
  ·
    refine enterM_args (args := [selfP b]) (F := _) hM0 Tryz.func256 rfl Tryz.ntmps256 rfl rfl ?_
    intro Rb hRb hRn
    refine T_seq ?_
    refine T_region ?_
    refine S_ 2 rfl rfl rfl _ (y_move rfl rfl) ?_
    refine S_ 3 rfl rfl rfl _ (y_nilCheck rfl rfl) ?_
    refine S_ 4 rfl rfl rfl _ (y_fieldAddr rfl rfl fa189_0) ?_
    refine S_ 5 rfl rfl rfl _ (y_load 0 rfl rfl rfl rfl Tryz.underlying186 rfl) ?_
    refine S_ 6 rfl rfl rfl _ (y_bin rfl rfl rfl (fun _ => b_eqlp Tryz.underlying186)) ?_
    refine S_go (fun _ _ h => h) ?_
    refine T_cond rfl (fun h6 => ?_) (fun h6 => ?_)
    · skip
      simp at h6
    · skip
      refine T_seq ?_
      refine T_region ?_
      refine S_ 14 rfl rfl rfl _ (y_move rfl rfl) ?_
      refine S_ 15 rfl rfl rfl _ (y_nilCheck rfl rfl) ?_
      refine S_ 16 rfl rfl rfl _ (y_fieldAddr rfl rfl fa189_0) ?_
      refine S_ 17 rfl rfl rfl _ (y_load 0 rfl rfl rfl rfl Tryz.underlying186 rfl) ?_
      refine S_ 18 rfl rfl rfl _ (y_move rfl rfl) ?_
      refine S_ 19 rfl rfl rfl _ (y_bin rfl rfl rfl (fun _ => b_neqp_same Tryz.underlying186 hinf189)) ?_
      refine S_go (fun _ _ h => h) ?_
      refine T_cond rfl (fun h19 => ?_) (fun h19 => ?_)
      · skip
        cases h19
      · skip
        refine T_skip (fun a w hF hM => hRn a w (post0 rfl (fun w hM => ?_) a w hF hM))
        exact ⟨rfl, hM.keep (ks := [(0, 999)]) (by repeat (first | exact kl_rest (by assumption) rfl | (apply kl_in; focus rfl))) _ ⟨rfl, trivial⟩⟩
theorem WriteString_any {w0 : World} {K : HL} (hK : FromK K) (b : Nat) (ad : Value) (A : Option Addr) (q c : Nat) (l s : List UInt8) (had : ad = .pointer none ∨ ad = selfP b) (hlen : q + s.length ≤ 140737488355328) (w : World) (hM0 : Mem w0 ([(0, bldBox b ad A q c), (1, bldRow A q c l)] ++ K) w) :
    Calls Tryz.prog 120 #[selfP b, str s] w fun e w' => ∃ x : Option Addr × Nat, e = .returned (.tuple #[.int .i64 s.length, .nilIface]) ∧ (A = none → c = 0 → s = [] → x.1 = none ∧ x.2 = 0) ∧
      Mem w0 ([(0, bldBox b (selfP b) x.1 (q + s.length) x.2), (1, bldRow x.1 (q + s.length) x.2 (l ++ s))] ++ K) w' := by
  refine enterM_args (args := [selfP b, str s]) (F := _) hM0 Tryz.func120 rfl Tryz.ntmps120 rfl rfl ?_
  intro Rb hRb hRn
  refine T_seq ?_
  refine T_region ?_
  refine S_ 4 rfl rfl rfl _ (y_assign rfl rfl) ?_
  refine S_ 5 rfl rfl rfl _ (y_assign rfl rfl) ?_
  refine S_go (fun _ _ h => h) ?_
  refine T_seq ?_
  refine T_region ?_
  refine S_ 6 rfl rfl rfl _ (y_move rfl rfl) ?_
  refine S_callM 7 [(0, 0)] (X := Unit) rfl rfl rfl rfl rfl rfl rfl cf256 rfl (fun _ => .tuple #[]) (fun _ => True) (fun _ => [(0, bldBox b (selfP b) A q c)]) (fun _ => rfl) (fun _ => rfl) (fun K1 hK1 w hM => (copyCheck_any hK1 b ad _ had w hM).mono fun e w1 h => ⟨(), h.1, trivial, h.2⟩) ?_
  intro _ _
  refine S_go (fun _ _ h => h) ?_
  refine T_seq ?_
  refine T_region ?_
  refine S_ 8 rfl rfl rfl _ (y_move rfl rfl) ?_
  refine S_ 9 rfl rfl rfl _ (y_move rfl rfl) ?_
  refine S_ 10 rfl rfl rfl _ (y_nilCheck rfl rfl) ?_
  refine S_ 11 rfl rfl rfl _ (y_fieldAddr rfl rfl fa189_1) ?_
  refine S_ 12 rfl rfl rfl _ (y_load 0 rfl rfl rfl rfl Tryz.underlying187 rfl) ?_
  refine S_ 13 rfl rfl rfl _ (y_move rfl rfl) ?_
  refine S_appendStr 14 1 rfl rfl rfl rfl rfl rfl rfl Tryz.underlying187 Tryz.underlying9 inf5 ?_ (q + s.length) (l ++ s) rfl rfl ?_
  · omega
  intro A14 c14 hn14
  refine S_ 15 rfl rfl rfl _ (y_nilCheck rfl rfl) ?_
  refine S_ 16 rfl rfl rfl _ (y_fieldAddr rfl rfl fa189_1) ?_
  refine S_store 0 rfl rfl rfl rfl rfl rfl sz187 rfl rfl ?_
  refine S_go (fun _ _ h => h) ?_
  refine T_seq ?_
  refine T_region ?_
  refine S_ 17 rfl rfl rfl _ (y_move rfl rfl) ?_
  refine S_ 18 rfl rfl rfl _ (y_len_str rfl rfl Tryz.underlying9) ?_
  refine S_ 4 rfl rfl rfl _ (y_assign rfl rfl) ?_
  refine S_ 5 rfl rfl rfl _ (y_assign rfl rfl) ?_
  refine S_go (fun _ _ h => h) ?_
  refine T_ret (fun a w hF hM => hRb a w (post2 rfl rfl rfl (fun w hM => ?_) a w hF hM))
  exact ⟨(A14, c14), rfl, hn14, hM.keep (ks := [(0, 999)]) (by repeat (first | exact kl_rest (by assumption) rfl | (apply kl_in; focus rfl))) _ ⟨rfl, rfl, trivial⟩⟩
theorem BLen_any (b : Nat) (A : Option Addr) (q c : Nat) (w : World) (hc : w.cell? ⟨b, 1, none⟩ = some (.slice A q c) ∧ b < w.heap.size) :
    Calls Tryz.prog 126 #[selfP b] w fun e w' => e = .returned (.int .i64 q) ∧ Below w.heap.size w w' := by
  refine enter_args (args := [selfP b]) (F := _) Tryz.func126 rfl Tryz.ntmps126 rfl rfl ?_
  intro Rb hRb hRn
  refine T_seq ?_
  refine T_region ?_
  refine S_ 2 rfl rfl rfl _ (y_assign rfl rfl) ?_
  refine S_go (fun _ _ h => h) ?_
  refine T_seq ?_
  refine T_region ?_
  refine S_ 3 rfl rfl rfl _ (y_move rfl rfl) ?_
  refine S_ 4 rfl rfl rfl _ (y_nilCheck rfl rfl) ?_
  refine S_ 5 rfl rfl rfl _ (y_fieldAddr rfl rfl fa189_1) ?_
  refine S_ 6 rfl rfl rfl _ (y_load_far rfl rfl hc.1 hc.2 Tryz.underlying187 rfl) ?_
  refine S_ 7 rfl rfl rfl _ (y_len_slice rfl rfl Tryz.underlying187) ?_
  refine S_ 2 rfl rfl rfl _ (y_assign rfl rfl) ?_
  refine S_go (fun _ _ h => h) ?_
  refine T_ret (fun a w hF hM => hRb a w (post1 rfl rfl (fun w hM => ?_) a w hF hM))
  exact ⟨rfl, hM.below⟩
theorem BString_any {w0 : World} {K : HL} (hK : FromK K) (b : Nat) (ad : Value) (A : Option Addr) (q c : Nat) (l : List UInt8) (hz : q = 0 → A = none) (h63 : q ≤ 9223372036854775807) (w : World) (hM0 : Mem w0 ([(0, bldBox b ad A q c), (1, bldRow A q c l)] ++ K) w) :
    Calls Tryz.prog 122 #[selfP b] w fun e w' => e = .returned (str l) ∧ Mem w0 ([(1, bldRow none 0 0 []), (0, bldBox b ad A q c)] ++ K) w' := by
  have hrow : w.ownsRow w0.heap.size 5 1 (.slice A q c) q (bytesV l) := hM0.sat 1 _ rfl
  have hql : l.length = q := by have := hrow.1; simp [bytesV] at this; omega
  by_cases h0 : q = 0
  · have hA := hz h0
    subst hA
    have hl : l = [] := List.eq_nil_of_length_eq_zero (by omega)
    subst hl
    subst h0
    refine enterM_args (args := [selfP b]) (F := _) hM0 Tryz.func122 rfl Tryz.ntmps122 rfl rfl ?_
    intro Rb hRb hRn
    refine T_seq ?_
    refine T_region ?_
    refine S_ 2 rfl rfl rfl _ (y_assign rfl rfl) ?_
    refine S_go (fun _ _ h => h) ?_
    refine T_seq ?_
    refine T_tail 10 (by kernel_rfl) (by kernel_rfl) ?_
    refine E_ 3 rfl rfl rfl _ (z_move rfl rfl) ?_
    refine E_ 4 rfl rfl rfl _ (z_nilCheck rfl rfl) ?_
    refine E_ 5 rfl rfl rfl _ (z_fieldAddr rfl rfl fa189_1) ?_
    refine E_ 6 rfl rfl rfl _ (z_load 0 rfl rfl rfl rfl Tryz.underlying187 rfl) ?_
    refine E_ 7 rfl rfl rfl _ (z_sliceData rfl rfl (.inl rfl)) ?_
    refine E_ 8 rfl rfl rfl _ (z_move rfl rfl) ?_
    refine E_ 9 rfl rfl rfl _ (z_nilCheck rfl rfl) ?_
    refine E_ 10 rfl rfl rfl _ (z_fieldAddr rfl rfl fa189_1) ?_
    refine E_ 11 rfl rfl rfl _ (z_load 0 rfl rfl rfl rfl Tryz.underlying187 rfl) ?_
    refine E_ 12 rfl rfl rfl _ (z_len rfl rfl Tryz.underlying187) ?_
    refine E_nil ?_
    refine S_unsafeString0 13 rfl rfl rfl rfl rfl rfl ?_
    refine S_ 2 rfl rfl rfl _ (y_assign rfl rfl) ?_
    refine S_go (fun _ _ h => h) ?_
    refine T_ret (fun a w hF hM => hRb a w (post1 rfl rfl (fun w hM => ?_) a w hF hM))
    exact ⟨rfl, (hM.keep (ks := [(0, 999)]) (by repeat (first | exact kl_rest (by assumption) rfl | (apply kl_in; focus rfl))) _ ⟨rfl, trivial⟩ : Mem w0 ([(0, bldBox b ad _ _ c)] ++ K) w).add 1 _ rfl (World.ownsRow_nil _ _ _ _)⟩
  · obtain ⟨g, rfl, hc0⟩ : ∃ g, A = some ⟨g, 0, none⟩ ∧ c ≠ 0 := by
      rcases hrow.2 with ⟨_, h⟩ | ⟨g, cap, cur, hv, _, _, hnc, _⟩
      · exact absurd h h0
      · exact ⟨g, by injection hv, by have : c = cap := by injection hv
                                      omega⟩
    refine enterM_args (args := [selfP b]) (F := _) hM0 Tryz.func122 rfl Tryz.ntmps122 rfl rfl ?_
    intro Rb hRb hRn
    refine T_seq ?_
    refine T_region ?_
    refine S_ 2 rfl rfl rfl _ (y_assign rfl rfl) ?_
    refine S_go (fun _ _ h => h) ?_
    refine T_seq ?_
    refine T_tail 10 (by kernel_rfl) (by kernel_rfl) ?_
    refine E_ 3 rfl rfl rfl _ (z_move rfl rfl) ?_
    refine E_ 4 rfl rfl rfl _ (z_nilCheck rfl rfl) ?_
    refine E_ 5 rfl rfl rfl _ (z_fieldAddr rfl rfl fa189_1) ?_
    refine E_ 6 rfl rfl rfl _ (z_load 0 rfl rfl rfl rfl Tryz.underlying187 rfl) ?_
    refine E_ 7 rfl rfl rfl _ (z_sliceData rfl rfl (.inr hc0)) ?_
    refine E_ 8 rfl rfl rfl _ (z_move rfl rfl) ?_
    refine E_ 9 rfl rfl rfl _ (z_nilCheck rfl rfl) ?_
    refine E_ 10 rfl rfl rfl _ (z_fieldAddr rfl rfl fa189_1) ?_
    refine E_ 11 rfl rfl rfl _ (z_load 0 rfl rfl rfl rfl Tryz.underlying187 rfl) ?_
    refine E_ 12 rfl rfl rfl _ (z_len rfl rfl Tryz.underlying187) ?_
    refine E_nil ?_
    refine S_giveRow 1 (g := g) rfl ?_
    refine S_unsafeString 13 1 rfl rfl rfl rfl rfl rfl rfl hql (by omega) h63 Tryz.underlying303 co5 ?_
    refine S_ 2 rfl rfl rfl _ (y_assign rfl rfl) ?_
    refine S_go (fun _ _ h => h) ?_
    refine T_ret (fun a w hF hM => hRb a w (post1 rfl rfl (fun w hM => ?_) a w hF hM))
    exact ⟨rfl, (hM.keep (ks := [(0, 999)]) (by repeat (first | exact kl_rest (by assumption) rfl | (apply kl_in; focus rfl))) _ ⟨rfl, trivial⟩ : Mem w0 ([(0, bldBox b ad _ _ c)] ++ K) w).add 1 _ rfl (World.ownsRow_nil _ _ _ _)⟩
/-! ### .. by the bytes alone -/
abbrev bB (b : Nat) (ad : Value) (A : Option Addr) (c : Nat) (l : List UInt8) : It := bldBox b ad A l.length c
abbrev bR (A : Option Addr) (c : Nat) (l : List UInt8) : It := bldRow A l.length c l
theorem WStr_any {w0 : World} {K : HL} (hK : FromK K) (b : Nat) (ad : Value) (A : Option Addr) (c : Nat) (l s : List UInt8) (had : ad = .pointer none ∨ ad = selfP b) (hlen : l.length + s.length ≤ 140737488355328) (w : World) (hM0 : Mem w0 ([(0, bB b ad A c l), (1, bR A c l)] ++ K) w) :
    Calls Tryz.prog 120 #[selfP b, str s] w fun e w' => ∃ x : Option Addr × Nat, e = .returned (.tuple #[.int .i64 s.length, .nilIface]) ∧ (A = none → c = 0 → s = [] → x.1 = none ∧ x.2 = 0) ∧
      Mem w0 ([(0, bB b (selfP b) x.1 x.2 (l ++ s)), (1, bR x.1 x.2 (l ++ s))] ++ K) w' :=
  (WriteString_any hK b ad A l.length c l s had hlen w hM0).mono fun e w' ⟨x, h1, h2, h3⟩ => ⟨x, h1, h2, by
    show Mem w0 ([(0, bldBox b (selfP b) x.1 (l ++ s).length x.2), (1, bldRow x.1 (l ++ s).length x.2 (l ++ s))] ++ K) w'
    rw [List.length_append]; exact h3⟩
theorem BStr_any {w0 : World} {K : HL} (hK : FromK K) (b : Nat) (ad : Value) (A : Option Addr) (c : Nat) (l : List UInt8) (hz : l.length = 0 → A = none) (h63 : l.length ≤ 9223372036854775807) (w : World) (hM0 : Mem w0 ([(0, bB b ad A c l), (1, bR A c l)] ++ K) w) :
    Calls Tryz.prog 122 #[selfP b] w fun e w' => e = .returned (str l) ∧ Mem w0 ([(1, bR none 0 []), (0, bB b ad A c l)] ++ K) w' := BString_any hK b ad A l.length c l hz h63 w hM0
end Go.Proofs.YtkkngcdikbhkjaaGreatDoor
end
section
namespace Go.Proofs.YtkkngcdikbhkjaaGreatDoor
set_option linter.unusedSimpArgs false
set_option linter.unusedVariables false
set_option maxRecDepth 20000
open Go.RowKit Go.Eng
abbrev rF (A : Option Addr) (c : Nat) (l : List (List UInt8)) : It := .own 9 1 (.slice A l.length c) l.length (l.flatMap strEnc)
abbrev rU (A : Option Addr) (c : Nat) (l : List SFunc) : It := .own 196 3 (.slice A l.length c) l.length (l.flatMap SFunc.enc)
abbrev rR (A : Option Addr) (c : Nat) (l : List SRow) : It := .own 198 3 (.slice A l.length c) l.length (l.flatMap SRow.enc)
abbrev rC (A : Option Addr) (c : Nat) (l : List SCall) : It := .own 200 5 (.slice A l.length c) l.length (l.flatMap SCall.enc)
end Go.Proofs.YtkkngcdikbhkjaaGreatDoor
end
section
namespace Go.Proofs.YtkkngcdikbhkjaaGreatDoor
set_option linter.unusedSimpArgs false
set_option linter.unusedVariables false
set_option maxRecDepth 20000
open Go.RowKit Go.Eng
end Go.Proofs.YtkkngcdikbhkjaaGreatDoor
end
section
namespace Go.Proofs.YtkkngcdikbhkjaaGreatDoor
set_option linter.unusedSimpArgs false
set_option linter.unusedVariables false
set_option maxRecDepth 20000
open Go.RowKit Go.Eng
theorem all_snoc {α : Type} {p : α → Prop} {l l' : List α} {x : α} (he : l' = l ++ [x]) (h : ∀ y ∈ l, p y) (hx : p x) : ∀ y ∈ l', p y := fun y hy => by
  subst he
  rcases List.mem_append.1 hy with hy | hy
  · exact h y hy
  · have := List.mem_singleton.1 hy; subst this; exact hx
theorem IterInv.next {σ : Type} {one : σ → Pa σ} {N m : Nat} {a0 a a' : σ} {s0 s s1 : List UInt8} {ok0 ok ok1 : Bool} (hm : 0 < m) (hok : ok = true) (h : IterInv one N a0 s0 ok0 m a s ok) (hr : PRes (one a) s ok a' s1 ok1) : IterInv one N a0 s0 ok0 (m - 1) a' s1 ok1 := by
  subst hok
  rw [show m = m - 1 + 1 by omega] at h
  exact h.step hr
end Go.Proofs.YtkkngcdikbhkjaaGreatDoor
end
