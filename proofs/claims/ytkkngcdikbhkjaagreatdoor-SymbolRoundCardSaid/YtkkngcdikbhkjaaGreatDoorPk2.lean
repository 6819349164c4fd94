/- Part 2, merged by a program. The checks of calls, of the program and of the reference; the reference's functions. Conditions: those of each theorem. The reference's faults of tables and modules. Conditions: those of each theorem. symbol.Lines: the spans of a file's line. Conditions: those of each theorem. FuncAt, ModuleAt and what the reference has in their places. symbol.At: the places of an offset. Conditions: those of each theorem. What a right table keeps: rows rise, files are there. No program in sight. rowAt: the file and the line of an offset by rows. Condition: the table is right. symbol.at and symbol.At: the places of an offset. Conditions: those of each theorem. symbol.At. The bytes of a table, in plain lists. No program in sight. Tables read from bytes, in plain lists. No program in sight. strings.Builder: what its methods do to a builder that the caller has made. Conditions: those of each theorem. symbol.readTable and its closures. Conditions: those of each theorem. -/
import Derived.Test.YtkkngcdikbhkjaaGreatDoorOwn
import Derived.Test.YtkkngcdikbhkjaaGreatDoorOpen
import Derived.Test.YtkkngcdikbhkjaaGreatDoorBld
import Derived.Test.YtkkngcdikbhkjaaGreatDoorLem
import Derived.Test.YtkkngcdikbhkjaaGreatDoorStrs
import Derived.Test.YtkkngcdikbhkjaaGreatDoorPk1
section
namespace Go.Proofs.YtkkngcdikbhkjaaGreatDoor
set_option linter.unusedSimpArgs false
set_option linter.unusedVariables false
set_option maxRecDepth 20000
open Go.RowKit Go.Eng
theorem ContainsFuncF_any (A : Option Addr) (q c : Nat) (l : List SFunc) (g : FuncId) (cap : Array Value) (p : SFunc → Bool) (w : World) (hl : SlT SFunc.enc 3 w A q l) (hq : q ≤ 4611686018427387904) (hA : Asks Tryz.prog SFunc.enc w g cap p) :
    Calls Tryz.prog 254 #[.slice A q c, .func (.func g) #[] cap] w fun e w' => e = .returned (.bool (l.any p)) ∧ Below w.heap.size w w' := by
  rw [← findI_any p l 0 (by omega)]
  refine enter_args (args := [.slice A q c, .func (.func g) #[] cap]) (F := _) Tryz.func254 rfl Tryz.ntmps254 rfl rfl ?_
  intro Rb hRb hRn
  refine T_seq ?_
  refine T_region ?_
  refine S_ 4 rfl rfl rfl _ (y_assign rfl rfl) ?_
  refine S_go (fun _ _ h => h) ?_
  refine T_seq ?_
  refine T_region ?_
  refine S_ 5 rfl rfl rfl _ (y_move rfl rfl) ?_
  refine S_ 6 rfl rfl rfl _ (y_move rfl rfl) ?_
  refine S_ 7 rfl rfl rfl _ (y_call rfl rfl rfl cf168 (fun _ w hM => IndexFuncF_any _ _ _ _ _ _ p w (hl.below hM.below) hq ⟨hA.1, fun x w' hb => hA.2 x w' (hM.below.trans (hb.mono hM.below.size))⟩)) ?_
  refine S_ 8 rfl rfl rfl _ (y_bin rfl rfl rfl (fun _ => b_geq)) ?_
  refine S_ 4 rfl rfl rfl _ (y_assign rfl rfl) ?_
  refine S_go (fun _ _ h => h) ?_
  refine T_ret (fun a w hF hM => hRb a w (post1 rfl rfl (fun w hM => ?_) a w hF hM))
  exact ⟨rfl, hM.below⟩
theorem checkCall1_any (f : SFunc) (ad : Addr) (c : SCall) (w : World) (hb : ad.block < w.heap.size) (h1 : w.cell? (ad.add 1) = some (.int .i64 c.fr)) (h2 : w.cell? (ad.add 2) = some (.int .i64 c.tu)) :
    Calls Tryz.prog 403 #[.agg f.enc.toArray, .pointer (some ad)] w fun e w' => e = .returned (.bool (f.holds c)) ∧ Below w.heap.size w w' := by
  refine enter_args (args := [.agg #[str f.name, .int .i64 f.fr, .int .i64 f.tu], .pointer (some ad)]) (F := _) Tryz.func403 rfl Tryz.ntmps403 rfl rfl ?_
  intro Rb hRb hRn
  refine T_seq ?_
  refine T_region ?_
  refine S_box 2 2 rfl rfl rfl rfl rfl ?_
  intro b2
  refine S_ 3 rfl rfl rfl _ (y_assign rfl rfl) ?_
  refine S_go (fun _ _ h => h) ?_
  refine T_seq ?_
  refine T_region ?_
  refine S_ 4 rfl rfl rfl _ (y_fieldAddr rfl rfl fa196_1) ?_
  refine S_ 5 rfl rfl rfl _ (y_load 2 rfl rfl rfl rfl Tryz.underlying3 rfl) ?_
  refine S_ 6 rfl rfl rfl _ (y_fieldAddr rfl rfl fa200_1) ?_
  refine S_ 7 rfl rfl rfl _ (y_load_far rfl rfl h1 (by rw [block_of_add]; exact hb) Tryz.underlying3 rfl) ?_
  refine S_ 8 rfl rfl rfl _ (y_bin rfl rfl rfl (fun _ => b_leq)) ?_
  refine S_ 9 rfl rfl rfl _ (y_move rfl rfl) ?_
  refine Sg_ 10 rfl rfl rfl rfl rfl rfl _ (y_fieldAddr rfl rfl fa200_2) ?_
  refine Sg_ 11 rfl rfl rfl rfl rfl rfl _ (y_load_far rfl rfl h2 (by rw [block_of_add]; exact hb) Tryz.underlying3 rfl) ?_
  refine Sg_ 12 rfl rfl rfl rfl rfl rfl _ (y_fieldAddr rfl rfl fa196_2) ?_
  refine Sg_ 13 rfl rfl rfl rfl rfl rfl _ (y_load 2 rfl rfl rfl rfl Tryz.underlying3 rfl) ?_
  refine Sg_ 14 rfl rfl rfl rfl rfl rfl _ (y_bin rfl rfl rfl (fun _ => b_leq)) ?_
  refine S_ 15 rfl rfl rfl _ (y_and rfl rfl rfl) ?_
  refine S_ 3 rfl rfl rfl _ (y_assign rfl rfl) ?_
  refine S_go (fun _ _ h => h) ?_
  refine T_ret (fun a w hF hM => hRb a w (post1 rfl rfl (fun w hM => ?_) a w hF hM))
  exact ⟨rfl, hM.below⟩
theorem asks_checkCall {b : Nat} {c : SCall} {w : World} (h1 : w.cell? ⟨b, 1, none⟩ = some (.int .i64 c.fr) ∧ b < w.heap.size) (h2 : w.cell? ⟨b, 2, none⟩ = some (.int .i64 c.tu) ∧ b < w.heap.size) : Asks Tryz.prog SFunc.enc w 403 #[.pointer (some ⟨b, 0, none⟩)] (SFunc.holds c) :=
  ⟨cf403, fun f w' hb => checkCall1_any f ⟨b, 0, none⟩ c w' (Nat.lt_of_lt_of_le h1.2 hb.size) ((hb.cell h1.2).trans h1.1) ((hb.cell h1.2).trans h2.1)⟩
theorem checkCall_any (t : Tab) (i : Nat) (c : SCall) (w : World) (hok : t.Ok w) (hi : t.ca.l[i]? = some c) (hiq : i < t.ca.q) :
    Calls Tryz.prog 331 #[.agg #[str t.id, .int .i64 t.size, .slice t.fi.A t.fi.q t.fi.c, .slice t.fu.A t.fu.q t.fu.c, .slice t.ro.A t.ro.q t.ro.c, .slice t.ca.A t.ca.q t.ca.c], .int .i64 i] w fun e w' => e = .returned (.int .i64 (callNo t.fu.l (t.ca.l.take i) c)) ∧ Below w.heap.size w w' := by
  have ht := hok.ca.t
  have hq := hok.small
  have hcap := hok.ca.cap
  have hcut := ht.cut (lo := 0) (hi := i) (fun _ => rfl) (by omega) (by omega) hcap
  have hbe : (t.ca.l.drop 0).take (i - 0) = t.ca.l.take i := by simp
  refine enter_args (args := [.agg #[str t.id, .int .i64 t.size, .slice t.fi.A t.fi.q t.fi.c, .slice t.fu.A t.fu.q t.fu.c, .slice t.ro.A t.ro.q t.ro.c, .slice t.ca.A t.ca.q t.ca.c], .int .i64 i]) (F := _) Tryz.func331 rfl Tryz.ntmps331 rfl rfl ?_
  intro Rb hRb hRn
  refine T_seq ?_
  refine T_region ?_
  refine S_box 2 2 rfl rfl rfl rfl rfl ?_
  intro b2
  refine S_ 4 rfl rfl rfl _ (y_assign rfl rfl) ?_
  refine S_go (fun _ _ h => h) ?_
  refine T_seq ?_
  refine T_region ?_
  refine S_ 9 rfl rfl rfl _ (y_fieldAddr rfl rfl fa62_5) ?_
  refine S_ 10 rfl rfl rfl _ (y_load 2 rfl rfl rfl rfl Tryz.underlying60 rfl) ?_
  refine S_ 11 rfl rfl rfl _ (y_move rfl rfl) ?_
  refine S_ 12 rfl rfl rfl _ (y_indexAddr rfl rfl rfl Tryz.underlying60 sz200 (fun hg => ht.isSome (by omega)) (fun _ => by omega)) ?_
  refine S_ 13 rfl rfl rfl _ (y_loadT rfl rfl ht (fun _ => rfl) (fun _ => hi) Tryz.underlying200 rfl sz200) ?_
  refine S_alloc 5 5 rfl rfl rfl rfl z200 ?_
  intro b5
  refine S_store 5 rfl rfl rfl rfl rfl rfl sz200 rfl rfl ?_
  refine S_go (fun _ _ h => h) ?_
  refine T_seq ?_
  refine T_seq ?_
  refine T_region ?_
  refine S_ 14 rfl rfl rfl _ (y_fieldAddr rfl rfl fa62_3) ?_
  refine S_ 15 rfl rfl rfl _ (y_load 2 rfl rfl rfl rfl Tryz.underlying58 rfl) ?_
  refine S_ 16 rfl rfl rfl _ (y_makeFunc rfl rfl rfl rfl rfl) ?_
  refine S_ 17 rfl rfl rfl _ (y_call rfl rfl rfl cf254 (fun _ w hM => ContainsFuncF_any _ _ _ _ _ _ (SFunc.holds c) w (hok.fu.t.below hM.below) (by omega) (asks_checkCall (hM.box_cell (i := 5) rfl rfl) (hM.box_cell (i := 5) rfl rfl)))) ?_
  refine S_ 18 rfl rfl rfl _ (y_not rfl rfl) ?_
  refine S_go (fun _ _ h => h) ?_
  refine T_cond rfl (fun h18 => ?_) (fun h18 => ?_)
  · skip
    refine T_seq ?_
    refine T_region ?_
    refine S_ 4 rfl rfl rfl _ (y_assign rfl rfl) ?_
    refine S_go (fun _ _ h => h) ?_
    refine T_ret (fun a w hF hM => hRb a w (post1 rfl rfl (fun w hM => ?_) a w hF hM))
    exact ⟨by rw [callNo, if_t h18], hM.below⟩
  · skip
    refine T_skip_go (fun _ _ h => h) ?_
    refine T_seq ?_
    refine T_region ?_
    refine S_ 6 rfl rfl rfl _ (y_assign rfl rfl) ?_
    refine S_go (fun _ _ h => h) ?_
    refine T_seq ?_
    refine T_seq ?_
    refine T_region ?_
    refine S_ 19 rfl rfl rfl _ (y_fieldAddr rfl rfl fa62_5) ?_
    refine S_ 20 rfl rfl rfl _ (y_load 2 rfl rfl rfl rfl Tryz.underlying60 rfl) ?_
    refine S_ 21 rfl rfl rfl _ (y_move rfl rfl) ?_
    refine S_ 22 rfl rfl rfl _ (y_slice rfl rfl Tryz.underlying60 sz200 (.inl ⟨rfl, rfl⟩) (.inr ⟨_, _, rfl, rfl⟩) (by omega) (by omega) hcap) ?_
    refine S_ 23 rfl rfl rfl _ (y_len_slice rfl rfl Tryz.underlying60) ?_
    refine S_ 24 rfl rfl rfl _ (y_move rfl rfl) ?_
    refine S_go (fun _ _ h => h) ?_
    refine T_block ?_
    refine T_loopK2 (kf := [(4, 4), (6, 6), (8, 8), (24, 54)]) (kl := [(4, 4), (6, 6), (8, 8), (24, 54)]) (fun (j : Nat) (deep : Int) => [(24, true, .int .i64 (j : Int)), (6, true, .int .i64 deep)]) (fun (j : Nat) (deep : Int) => []) (fun (j : Nat) (deep : Int) => j ≤ i ∧ nestNo c (t.ca.l.take i) 0 = nestNo c (((t.ca.l.drop 0).take (i - 0)).drop j) deep ∧ 0 ≤ deep ∧ deep ≤ j) (fun (j : Nat) (deep : Int) => i - j) 0 0 (by repeat (first | exact kf_nil | (apply kf_in; focus rfl) | (apply kf_out; focus rfl))) (by repeat (first | exact kl_nil | exact kl_rest (by assumption) rfl | (apply kl_in; focus rfl) | (apply kl_out; focus rfl))) ?_ ?_ ?_ ?_
    · exact ⟨by omega, by rw [hbe]; rfl, by omega, by omega⟩
    · exact ⟨rfl, rfl, trivial⟩
    · exact trivial
    rintro j deep ⟨hp1, hp2, hp3, hp4⟩
    refine T_seq ?_
    refine T_region ?_
    refine S_ 25 rfl rfl rfl _ (y_bin rfl rfl rfl (fun _ => b_lss)) ?_
    refine S_go (fun _ _ h => h) ?_
    refine T_seq ?_
    refine T_cond rfl (fun h25 => ?_) (fun h25 => ?_)
    · try simp only [decide_eq_true_eq, decide_eq_false_iff_not, Bool.or_eq_true, Bool.or_eq_false_iff, Bool.and_eq_true, Bool.and_eq_false_iff, Bool.not_eq_true', Bool.not_eq_false', Bool.not_eq_true, Bool.not_eq_false, Bool.not_true, Bool.not_false, Int.not_lt, Int.not_le, not_or, not_and, Classical.not_not] at h25
      obtain ⟨b, hx1, hx2⟩ := hcut.at (i := j) (by omega)
      refine T_skip_go (fun _ _ h => h) ?_
      refine T_seq ?_
      refine T_block ?_
      refine T_seq ?_
      refine T_region ?_
      refine S_ 26 rfl rfl rfl _ (y_indexAddr rfl rfl rfl Tryz.underlying60 sz200 (fun hg => hcut.isSome (by omega)) (fun _ => by omega)) ?_
      refine S_ 27 rfl rfl rfl _ (y_loadT rfl rfl hcut (fun _ => rfl) (fun _ => hx1) Tryz.underlying200 rfl sz200) ?_
      refine S_alloc 8 8 rfl rfl rfl rfl z200 ?_
      intro b8
      refine S_store 8 rfl rfl rfl rfl rfl rfl sz200 rfl rfl ?_
      refine S_go (fun _ _ h => h) ?_
      refine T_seq ?_
      refine T_seq ?_
      refine T_region ?_
      refine S_ 28 rfl rfl rfl _ (y_fieldAddr rfl rfl fa200_2) ?_
      refine S_ 29 rfl rfl rfl _ (y_load 8 rfl rfl rfl rfl Tryz.underlying3 rfl) ?_
      refine S_ 30 rfl rfl rfl _ (y_fieldAddr rfl rfl fa200_1) ?_
      refine S_ 31 rfl rfl rfl _ (y_load 5 rfl rfl rfl rfl Tryz.underlying3 rfl) ?_
      refine S_ 32 rfl rfl rfl _ (y_bin rfl rfl rfl (fun _ => b_leq)) ?_
      refine S_ 33 rfl rfl rfl _ (y_move rfl rfl) ?_
      refine Sg_ 34 rfl rfl rfl rfl rfl rfl _ (y_fieldAddr rfl rfl fa200_2) ?_
      refine Sg_ 35 rfl rfl rfl rfl rfl rfl _ (y_load 5 rfl rfl rfl rfl Tryz.underlying3 rfl) ?_
      refine Sg_ 36 rfl rfl rfl rfl rfl rfl _ (y_fieldAddr rfl rfl fa200_1) ?_
      refine Sg_ 37 rfl rfl rfl rfl rfl rfl _ (y_load 8 rfl rfl rfl rfl Tryz.underlying3 rfl) ?_
      refine Sg_ 38 rfl rfl rfl rfl rfl rfl _ (y_bin rfl rfl rfl (fun _ => b_leq)) ?_
      refine S_ 39 rfl rfl rfl _ (y_as (v' := .bool (apartB b c)) (by exact rfl) (y_or rfl rfl rfl)) ?_
      refine S_go (fun _ _ h => h) ?_
      refine T_cond rfl (fun h39 => ?_) (fun h39 => ?_)
      · skip
        refine T_exit_go (fun _ _ h => h) ?_
        refine T_region ?_
        refine S_ 54 rfl rfl rfl _ (y_bin rfl rfl rfl (fun hg => b_add (by omega))) ?_
        refine S_ 24 rfl rfl rfl _ (y_move rfl rfl) ?_
        refine S_nil (nextK2 (kf := [(4, 4), (6, 6), (8, 8), (24, 54)]) (kl := [(4, 4), (6, 6), (8, 8), (24, 54)]) (j + 1) deep (by repeat (first | exact kf_nil | (apply kf_in; focus rfl) | (apply kf_out; focus rfl))) (by repeat (first | exact kl_nil | exact kl_rest (by assumption) rfl | (apply kl_in; focus rfl) | (apply kl_out; focus rfl))) ?_ ?_ ?_ ?_)
        · omega
        · exact ⟨by omega, by rw [hp2, hx2, nestNo, if_t h39], by omega, by omega⟩
        · exact ⟨rfl, rfl, trivial⟩
        · exact trivial
      · skip
        refine T_skip_go (fun _ _ h => h) ?_
        refine T_seq ?_
        refine T_seq ?_
        refine T_region ?_
        refine S_ 40 rfl rfl rfl _ (y_fieldAddr rfl rfl fa200_1) ?_
        refine S_ 41 rfl rfl rfl _ (y_load 8 rfl rfl rfl rfl Tryz.underlying3 rfl) ?_
        refine S_ 42 rfl rfl rfl _ (y_fieldAddr rfl rfl fa200_1) ?_
        refine S_ 43 rfl rfl rfl _ (y_load 5 rfl rfl rfl rfl Tryz.underlying3 rfl) ?_
        refine S_ 44 rfl rfl rfl _ (y_bin rfl rfl rfl (fun _ => b_gtr)) ?_
        refine S_ 45 rfl rfl rfl _ (y_move rfl rfl) ?_
        refine Sg_ 46 rfl rfl rfl rfl rfl rfl _ (y_fieldAddr rfl rfl fa200_2) ?_
        refine Sg_ 47 rfl rfl rfl rfl rfl rfl _ (y_load 8 rfl rfl rfl rfl Tryz.underlying3 rfl) ?_
        refine Sg_ 48 rfl rfl rfl rfl rfl rfl _ (y_fieldAddr rfl rfl fa200_2) ?_
        refine Sg_ 49 rfl rfl rfl rfl rfl rfl _ (y_load 5 rfl rfl rfl rfl Tryz.underlying3 rfl) ?_
        refine Sg_ 50 rfl rfl rfl rfl rfl rfl _ (y_bin rfl rfl rfl (fun _ => b_lss)) ?_
        refine S_ 51 rfl rfl rfl _ (y_as (v' := .bool (cutsB b c)) (by exact rfl) (y_or rfl rfl rfl)) ?_
        refine S_go (fun _ _ h => h) ?_
        refine T_cond rfl (fun h51 => ?_) (fun h51 => ?_)
        · skip
          refine T_seq ?_
          refine T_region ?_
          refine S_ 4 rfl rfl rfl _ (y_assign rfl rfl) ?_
          refine S_go (fun _ _ h => h) ?_
          refine T_ret (fun a w hF hM => hRb a w (post1 rfl rfl (fun w hM => ?_) a w hF hM))
          exact ⟨by rw [callNo, if_f h18, hp2, hx2, nestNo, if_f h39, if_t h51], hM.below⟩
        · skip
          refine T_skip_go (fun _ _ h => h) ?_
          refine T_region ?_
          refine S_ 52 rfl rfl rfl _ (y_move rfl rfl) ?_
          refine S_ 53 rfl rfl rfl _ (y_bin rfl rfl rfl (fun hg => b_add (by omega))) ?_
          refine S_ 6 rfl rfl rfl _ (y_assign rfl rfl) ?_
          refine S_go (fun _ _ h => h) ?_
          refine T_region ?_
          refine S_ 54 rfl rfl rfl _ (y_bin rfl rfl rfl (fun hg => b_add (by omega))) ?_
          refine S_ 24 rfl rfl rfl _ (y_move rfl rfl) ?_
          refine S_nil (nextK2 (kf := [(4, 4), (6, 6), (8, 8), (24, 54)]) (kl := [(4, 4), (6, 6), (8, 8), (24, 54)]) (j + 1) (deep + 1) (by repeat (first | exact kf_nil | (apply kf_in; focus rfl) | (apply kf_out; focus rfl))) (by repeat (first | exact kl_nil | exact kl_rest (by assumption) rfl | (apply kl_in; focus rfl) | (apply kl_out; focus rfl))) ?_ ?_ ?_ ?_)
          · omega
          · exact ⟨by omega, by rw [hp2, hx2, nestNo, if_f h39, if_f h51], by omega, by omega⟩
          · exact ⟨rfl, rfl, trivial⟩
          · exact trivial
    · try simp only [decide_eq_true_eq, decide_eq_false_iff_not, Bool.or_eq_true, Bool.or_eq_false_iff, Bool.and_eq_true, Bool.and_eq_false_iff, Bool.not_eq_true', Bool.not_eq_false', Bool.not_eq_true, Bool.not_eq_false, Bool.not_true, Bool.not_false, Int.not_lt, Int.not_le, not_or, not_and, Classical.not_not] at h25
      refine T_exit_go (fun _ _ h => h) ?_
      refine T_seq ?_
      refine T_seq ?_
      refine T_region ?_
      refine S_ 55 rfl rfl rfl _ (y_move rfl rfl) ?_
      refine S_ 56 rfl rfl rfl _ (y_bin rfl rfl rfl (fun _ => b_geq)) ?_
      refine S_go (fun _ _ h => h) ?_
      refine T_cond rfl (fun h56 => ?_) (fun h56 => ?_)
      · try simp only [decide_eq_true_eq, decide_eq_false_iff_not, Bool.or_eq_true, Bool.or_eq_false_iff, Bool.and_eq_true, Bool.and_eq_false_iff, Bool.not_eq_true', Bool.not_eq_false', Bool.not_eq_true, Bool.not_eq_false, Bool.not_true, Bool.not_false, Int.not_lt, Int.not_le, not_or, not_and, Classical.not_not] at h56
        refine T_seq ?_
        refine T_region ?_
        refine S_ 4 rfl rfl rfl _ (y_assign rfl rfl) ?_
        refine S_go (fun _ _ h => h) ?_
        refine T_ret (fun a w hF hM => hRb a w (post1 rfl rfl (fun w hM => ?_) a w hF hM))
        exact ⟨by rw [callNo, if_f h18, hp2, hcut.end (by omega), nestNo, if_pos (by omega)], hM.below⟩
      · try simp only [decide_eq_true_eq, decide_eq_false_iff_not, Bool.or_eq_true, Bool.or_eq_false_iff, Bool.and_eq_true, Bool.and_eq_false_iff, Bool.not_eq_true', Bool.not_eq_false', Bool.not_eq_true, Bool.not_eq_false, Bool.not_true, Bool.not_false, Int.not_lt, Int.not_le, not_or, not_and, Classical.not_not] at h56
        refine T_skip_go (fun _ _ h => h) ?_
        refine T_seq ?_
        refine T_region ?_
        refine S_ 4 rfl rfl rfl _ (y_assign rfl rfl) ?_
        refine S_go (fun _ _ h => h) ?_
        refine T_ret (fun a w hF hM => hRb a w (post1 rfl rfl (fun w hM => ?_) a w hF hM))
        exact ⟨by rw [callNo, if_f h18, hp2, hcut.end (by omega), nestNo, if_neg (by omega)], hM.below⟩
theorem late0 {size nf : Int} {c : SCall} (h : callBad size nf c = false) : callLate call0 c = false := by
  simp only [callBad, spanBad, outB, Bool.or_eq_false_iff, decide_eq_false_iff_not] at h
  show (decide (c.fr < -1) || (decide (c.fr = -1) && decide (-1 < c.tu))) = false
  simp only [Bool.or_eq_false_iff, Bool.and_eq_false_iff, decide_eq_false_iff_not]
  omega
theorem checkCalls_any (t : Tab) (w : World) (hok : t.Ok w) (hz : 1 ≤ t.size ∧ t.size ≤ 4294967296) :
    Calls Tryz.prog 261 #[.agg #[str t.id, .int .i64 t.size, .slice t.fi.A t.fi.q t.fi.c, .slice t.fu.A t.fu.q t.fu.c, .slice t.ro.A t.ro.q t.ro.c, .slice t.ca.A t.ca.q t.ca.c]] w fun e w' => e = .returned (.int .i64 (if (1000 : Int) < t.ca.q then 4 else callsNo t.size t.fi.q t.fu.l [] t.ca.l call0)) ∧ Below w.heap.size w w' := by
  have ht := hok.ca.t
  have hq := hok.small
  refine enter_args (args := [.agg #[str t.id, .int .i64 t.size, .slice t.fi.A t.fi.q t.fi.c, .slice t.fu.A t.fu.q t.fu.c, .slice t.ro.A t.ro.q t.ro.c, .slice t.ca.A t.ca.q t.ca.c]]) (F := _) Tryz.func261 rfl Tryz.ntmps261 rfl rfl ?_
  intro Rb hRb hRn
  refine T_seq ?_
  refine T_region ?_
  refine S_box 1 1 rfl rfl rfl rfl rfl ?_
  intro b1
  refine S_ 2 rfl rfl rfl _ (y_assign rfl rfl) ?_
  refine S_go (fun _ _ h => h) ?_
  refine T_seq ?_
  refine T_seq ?_
  refine T_region ?_
  refine S_ 8 rfl rfl rfl _ (y_fieldAddr rfl rfl fa62_5) ?_
  refine S_ 9 rfl rfl rfl _ (y_load 1 rfl rfl rfl rfl Tryz.underlying60 rfl) ?_
  refine S_ 10 rfl rfl rfl _ (y_len_slice rfl rfl Tryz.underlying60) ?_
  refine S_ 11 rfl rfl rfl _ (y_bin rfl rfl rfl (fun _ => b_gtr)) ?_
  refine S_go (fun _ _ h => h) ?_
  refine T_cond rfl (fun h11 => ?_) (fun h11 => ?_)
  · try simp only [decide_eq_true_eq, decide_eq_false_iff_not, Bool.or_eq_true, Bool.or_eq_false_iff, Bool.and_eq_true, Bool.and_eq_false_iff, Bool.not_eq_true', Bool.not_eq_false', Bool.not_eq_true, Bool.not_eq_false, Bool.not_true, Bool.not_false, Int.not_lt, Int.not_le, not_or, not_and, Classical.not_not] at h11
    refine T_seq ?_
    refine T_region ?_
    refine S_ 2 rfl rfl rfl _ (y_assign rfl rfl) ?_
    refine S_go (fun _ _ h => h) ?_
    refine T_ret (fun a w hF hM => hRb a w (post1 rfl rfl (fun w hM => ?_) a w hF hM))
    exact ⟨by rw [if_pos (by omega)], hM.below⟩
  · try simp only [decide_eq_true_eq, decide_eq_false_iff_not, Bool.or_eq_true, Bool.or_eq_false_iff, Bool.and_eq_true, Bool.and_eq_false_iff, Bool.not_eq_true', Bool.not_eq_false', Bool.not_eq_true, Bool.not_eq_false, Bool.not_true, Bool.not_false, Int.not_lt, Int.not_le, not_or, not_and, Classical.not_not] at h11
    refine T_skip_go (fun _ _ h => h) ?_
    refine T_seq ?_
    refine T_seq ?_
    refine T_region ?_
    refine S_ 12 rfl rfl rfl _ (y_fieldAddr rfl rfl fa62_5) ?_
    refine S_ 13 rfl rfl rfl _ (y_load 1 rfl rfl rfl rfl Tryz.underlying60 rfl) ?_
    refine S_ 14 rfl rfl rfl _ (y_len_slice rfl rfl Tryz.underlying60) ?_
    refine S_ 15 rfl rfl rfl _ (y_move rfl rfl) ?_
    refine S_go (fun _ _ h => h) ?_
    refine T_block ?_
    refine T_loopK2 (kf := [(2, 7), (15, 89)]) (kl := [(2, 7), (15, 89)]) (fun (i : Nat) (b : SCall) => [(15, true, .int .i64 (i : Int))]) (fun (i : Nat) (b : SCall) => []) (fun (i : Nat) (b : SCall) => i ≤ t.ca.q ∧ callsNo t.size t.fi.q t.fu.l [] t.ca.l call0 = callsNo t.size t.fi.q t.fu.l (t.ca.l.take i) (t.ca.l.drop i) b ∧ (0 < i → t.ca.l[i - 1]? = some b) ∧ (i = 0 → b = call0)) (fun (i : Nat) (b : SCall) => t.ca.q - i) 0 call0 (by repeat (first | exact kf_nil | (apply kf_in; focus rfl) | (apply kf_out; focus rfl))) (by repeat (first | exact kl_nil | exact kl_rest (by assumption) rfl | (apply kl_in; focus rfl) | (apply kl_out; focus rfl))) ?_ ?_ ?_ ?_
    · exact ⟨by omega, rfl, by omega, fun _ => rfl⟩
    · exact ⟨rfl, trivial⟩
    · exact trivial
    rintro i b ⟨hp1, hp2, hp3, hp4⟩
    refine T_seq ?_
    refine T_region ?_
    refine S_ 16 rfl rfl rfl _ (y_bin rfl rfl rfl (fun _ => b_lss)) ?_
    refine S_go (fun _ _ h => h) ?_
    refine T_seq ?_
    refine T_cond rfl (fun h16 => ?_) (fun h16 => ?_)
    · try simp only [decide_eq_true_eq, decide_eq_false_iff_not, Bool.or_eq_true, Bool.or_eq_false_iff, Bool.and_eq_true, Bool.and_eq_false_iff, Bool.not_eq_true', Bool.not_eq_false', Bool.not_eq_true, Bool.not_eq_false, Bool.not_true, Bool.not_false, Int.not_lt, Int.not_le, not_or, not_and, Classical.not_not] at h16
      obtain ⟨c, hx1, hx2⟩ := ht.at (i := i) (by omega)
      have hn1 := hok.names.2.2 c (mem_at hx1)
      refine T_skip_go (fun _ _ h => h) ?_
      refine T_seq ?_
      refine T_block ?_
      refine T_seq ?_
      refine T_region ?_
      refine S_ 17 rfl rfl rfl _ (y_move rfl rfl) ?_
      refine S_ 18 rfl rfl rfl _ (y_indexAddr rfl rfl rfl Tryz.underlying60 sz200 (fun hg => ht.isSome (by omega)) (fun _ => by omega)) ?_
      refine S_ 19 rfl rfl rfl _ (y_loadT rfl rfl ht (fun _ => rfl) (fun _ => hx1) Tryz.underlying200 rfl sz200) ?_
      refine S_alloc 4 4 rfl rfl rfl rfl z200 ?_
      intro b4
      refine S_ 3 rfl rfl rfl _ (y_assign rfl rfl) ?_
      refine S_store 4 rfl rfl rfl rfl rfl rfl sz200 rfl rfl ?_
      refine S_go (fun _ _ h => h) ?_
      refine T_seq ?_
      refine T_seq ?_
      refine T_region ?_
      refine S_ 20 rfl rfl rfl _ (y_fieldAddr rfl rfl fa200_0) ?_
      refine S_ 21 rfl rfl rfl _ (y_load 4 rfl rfl rfl rfl Tryz.underlying9 rfl) ?_
      refine S_ 22 rfl rfl rfl _ (y_call rfl rfl rfl cf330 (fun _ w _ => checkName_any _ (by omega) w)) ?_
      refine S_ 5 rfl rfl rfl _ (y_assign rfl rfl) ?_
      refine S_go (fun _ _ h => h) ?_
      refine T_seq ?_
      refine T_region ?_
      refine S_ 23 rfl rfl rfl _ (y_move rfl rfl) ?_
      refine S_ 24 rfl rfl rfl _ (y_bin rfl rfl rfl (fun _ => b_neq)) ?_
      refine S_go (fun _ _ h => h) ?_
      refine T_cond rfl (fun h24 => ?_) (fun h24 => ?_)
      · try simp only [decide_eq_true_eq, decide_eq_false_iff_not, Bool.or_eq_true, Bool.or_eq_false_iff, Bool.and_eq_true, Bool.and_eq_false_iff, Bool.not_eq_true', Bool.not_eq_false', Bool.not_eq_true, Bool.not_eq_false, Bool.not_true, Bool.not_false, Int.not_lt, Int.not_le, not_or, not_and, Classical.not_not] at h24
        refine T_seq ?_
        refine T_region ?_
        refine S_ 25 rfl rfl rfl _ (y_move rfl rfl) ?_
        refine S_ 2 rfl rfl rfl _ (y_assign rfl rfl) ?_
        refine S_go (fun _ _ h => h) ?_
        refine T_ret (fun a w hF hM => hRb a w (post1 rfl rfl (fun w hM => ?_) a w hF hM))
        exact ⟨by rw [if_neg (by omega), hp2, hx2, callsNo, if_pos h24], hM.below⟩
      · try simp only [decide_eq_true_eq, decide_eq_false_iff_not, Bool.or_eq_true, Bool.or_eq_false_iff, Bool.and_eq_true, Bool.and_eq_false_iff, Bool.not_eq_true', Bool.not_eq_false', Bool.not_eq_true, Bool.not_eq_false, Bool.not_true, Bool.not_false, Int.not_lt, Int.not_le, not_or, not_and, Classical.not_not] at h24
        refine T_skip_go (fun _ _ h => h) ?_
        refine T_seq ?_
        refine T_seq ?_
        refine T_region ?_
        refine S_ 26 rfl rfl rfl _ (y_fieldAddr rfl rfl fa200_1) ?_
        refine S_ 27 rfl rfl rfl _ (y_load 4 rfl rfl rfl rfl Tryz.underlying3 rfl) ?_
        refine S_ 28 rfl rfl rfl _ (y_fieldAddr rfl rfl fa62_1) ?_
        refine S_ 29 rfl rfl rfl _ (y_load 1 rfl rfl rfl rfl Tryz.underlying3 rfl) ?_
        refine S_ 30 rfl rfl rfl _ (y_bin rfl rfl rfl (fun hg => b_sub (by omega))) ?_
        refine S_ 31 rfl rfl rfl _ (y_call rfl rfl rfl cf166 (fun _ w _ => outsideB_any _ _ _ w)) ?_
        refine S_ 32 rfl rfl rfl _ (y_move rfl rfl) ?_
        refine Sg_ 33 rfl rfl rfl rfl rfl rfl _ (y_fieldAddr rfl rfl fa200_2) ?_
        refine Sg_ 34 rfl rfl rfl rfl rfl rfl _ (y_load 4 rfl rfl rfl rfl Tryz.underlying3 rfl) ?_
        refine Sg_ 35 rfl rfl rfl rfl rfl rfl _ (y_fieldAddr rfl rfl fa200_1) ?_
        refine Sg_ 36 rfl rfl rfl rfl rfl rfl _ (y_load 4 rfl rfl rfl rfl Tryz.underlying3 rfl) ?_
        refine Sg_ 37 rfl rfl rfl rfl rfl rfl _ (y_bin rfl rfl rfl (fun hg => b_add (by simp only [outB, spanBad, Bool.true_and, Bool.and_eq_true, beq_iff_eq, Bool.or_eq_false_iff, Bool.or_eq_true, decide_eq_false_iff_not, decide_eq_true_eq, Int.not_lt] at hg; omega))) ?_
        refine Sg_ 38 rfl rfl rfl rfl rfl rfl _ (y_fieldAddr rfl rfl fa62_1) ?_
        refine Sg_ 39 rfl rfl rfl rfl rfl rfl _ (y_load 1 rfl rfl rfl rfl Tryz.underlying3 rfl) ?_
        refine Sg_ 40 rfl rfl rfl rfl rfl rfl _ (y_call rfl rfl rfl cf166 (fun _ w _ => outsideB_any _ _ _ w)) ?_
        refine S_ 41 rfl rfl rfl _ (y_or rfl rfl rfl) ?_
        refine S_ 42 rfl rfl rfl _ (y_move rfl rfl) ?_
        refine Sg_ 43 rfl rfl rfl rfl rfl rfl _ (y_fieldAddr rfl rfl fa200_3) ?_
        refine Sg_ 44 rfl rfl rfl rfl rfl rfl _ (y_load 4 rfl rfl rfl rfl Tryz.underlying3 rfl) ?_
        refine Sg_ 45 rfl rfl rfl rfl rfl rfl _ (y_fieldAddr rfl rfl fa62_2) ?_
        refine Sg_ 46 rfl rfl rfl rfl rfl rfl _ (y_load 1 rfl rfl rfl rfl Tryz.underlying57 rfl) ?_
        refine Sg_ 47 rfl rfl rfl rfl rfl rfl _ (y_len_slice rfl rfl Tryz.underlying57) ?_
        refine Sg_ 48 rfl rfl rfl rfl rfl rfl _ (y_bin rfl rfl rfl (fun hg => b_sub (by simp only [Bool.true_and, Bool.and_eq_true, beq_iff_eq, decide_eq_true_eq, decide_eq_false_iff_not, Int.not_lt, Int.not_le] at hg; omega))) ?_
        refine Sg_ 49 rfl rfl rfl rfl rfl rfl _ (y_call rfl rfl rfl cf166 (fun _ w _ => outsideB_any _ _ _ w)) ?_
        refine S_ 50 rfl rfl rfl _ (y_or rfl rfl rfl) ?_
        refine S_ 51 rfl rfl rfl _ (y_move rfl rfl) ?_
        refine Sg_ 52 rfl rfl rfl rfl rfl rfl _ (y_fieldAddr rfl rfl fa200_4) ?_
        refine Sg_ 53 rfl rfl rfl rfl rfl rfl _ (y_load 4 rfl rfl rfl rfl Tryz.underlying3 rfl) ?_
        refine Sg_ 54 rfl rfl rfl rfl rfl rfl _ (y_call rfl rfl rfl cf166 (fun _ w _ => outsideB_any _ _ _ w)) ?_
        refine S_ 55 rfl rfl rfl _ (y_as (v' := .bool (callBad t.size t.fi.q c)) (by exact rfl) (y_or rfl rfl rfl)) ?_
        refine S_go (fun _ _ h => h) ?_
        refine T_cond rfl (fun h55 => ?_) (fun h55 => ?_)
        · skip
          refine T_seq ?_
          refine T_region ?_
          refine S_ 2 rfl rfl rfl _ (y_assign rfl rfl) ?_
          refine S_go (fun _ _ h => h) ?_
          refine T_ret (fun a w hF hM => hRb a w (post1 rfl rfl (fun w hM => ?_) a w hF hM))
          exact ⟨by rw [if_neg (by omega), hp2, hx2, callsNo, if_neg (by simpa using h24), if_t h55], hM.below⟩
        · skip
          refine T_skip_go (fun _ _ h => h) ?_
          refine T_seq ?_
          refine T_seq ?_
          refine T_region ?_
          refine S_ 56 rfl rfl rfl _ (y_move rfl rfl) ?_
          refine S_ 57 rfl rfl rfl _ (y_bin rfl rfl rfl (fun _ => b_gtr)) ?_
          refine S_go (fun _ _ h => h) ?_
          refine T_cond rfl (fun h57 => ?_) (fun h57 => ?_)
          · try simp only [decide_eq_true_eq, decide_eq_false_iff_not, Bool.or_eq_true, Bool.or_eq_false_iff, Bool.and_eq_true, Bool.and_eq_false_iff, Bool.not_eq_true', Bool.not_eq_false', Bool.not_eq_true, Bool.not_eq_false, Bool.not_true, Bool.not_false, Int.not_lt, Int.not_le, not_or, not_and, Classical.not_not] at h57
            refine T_seq ?_
            refine T_region ?_
            refine S_ 58 rfl rfl rfl _ (y_fieldAddr rfl rfl fa62_5) ?_
            refine S_ 59 rfl rfl rfl _ (y_load 1 rfl rfl rfl rfl Tryz.underlying60 rfl) ?_
            refine S_ 60 rfl rfl rfl _ (y_move rfl rfl) ?_
            refine S_ 61 rfl rfl rfl _ (y_bin rfl rfl rfl (fun hg => b_subv (((i - 1 : Nat) : Int)) (by omega) (by omega))) ?_
            refine S_ 62 rfl rfl rfl _ (y_indexAddr rfl rfl rfl Tryz.underlying60 sz200 (fun hg => ht.isSome (by omega)) (fun _ => by omega)) ?_
            refine S_ 63 rfl rfl rfl _ (y_loadT rfl rfl ht (fun _ => rfl) (fun _ => hp3 (by omega)) Tryz.underlying200 rfl sz200) ?_
            refine S_alloc 6 6 rfl rfl rfl rfl z200 ?_
            intro b6
            refine S_store 6 rfl rfl rfl rfl rfl rfl sz200 rfl rfl ?_
            refine S_go (fun _ _ h => h) ?_
            refine T_seq ?_
            refine T_region ?_
            refine S_ 64 rfl rfl rfl _ (y_fieldAddr rfl rfl fa200_1) ?_
            refine S_ 65 rfl rfl rfl _ (y_load 4 rfl rfl rfl rfl Tryz.underlying3 rfl) ?_
            refine S_ 66 rfl rfl rfl _ (y_fieldAddr rfl rfl fa200_1) ?_
            refine S_ 67 rfl rfl rfl _ (y_load 6 rfl rfl rfl rfl Tryz.underlying3 rfl) ?_
            refine S_ 68 rfl rfl rfl _ (y_bin rfl rfl rfl (fun _ => b_lss)) ?_
            refine S_ 69 rfl rfl rfl _ (y_move rfl rfl) ?_
            refine Sg_ 70 rfl rfl rfl rfl rfl rfl _ (y_fieldAddr rfl rfl fa200_1) ?_
            refine Sg_ 71 rfl rfl rfl rfl rfl rfl _ (y_load 4 rfl rfl rfl rfl Tryz.underlying3 rfl) ?_
            refine Sg_ 72 rfl rfl rfl rfl rfl rfl _ (y_fieldAddr rfl rfl fa200_1) ?_
            refine Sg_ 73 rfl rfl rfl rfl rfl rfl _ (y_load 6 rfl rfl rfl rfl Tryz.underlying3 rfl) ?_
            refine Sg_ 74 rfl rfl rfl rfl rfl rfl _ (y_bin rfl rfl rfl (fun _ => b_eql)) ?_
            refine Sg_ 75 rfl rfl rfl rfl rfl rfl _ (y_move rfl rfl) ?_
            refine Sg_ 76 rfl rfl rfl rfl rfl rfl _ (y_fieldAddr rfl rfl fa200_2) ?_
            refine Sg_ 77 rfl rfl rfl rfl rfl rfl _ (y_load 4 rfl rfl rfl rfl Tryz.underlying3 rfl) ?_
            refine Sg_ 78 rfl rfl rfl rfl rfl rfl _ (y_fieldAddr rfl rfl fa200_2) ?_
            refine Sg_ 79 rfl rfl rfl rfl rfl rfl _ (y_load 6 rfl rfl rfl rfl Tryz.underlying3 rfl) ?_
            refine Sg_ 80 rfl rfl rfl rfl rfl rfl _ (y_bin rfl rfl rfl (fun _ => b_gtr)) ?_
            refine Sg_ 81 rfl rfl rfl rfl rfl rfl _ (y_and rfl rfl rfl) ?_
            refine S_ 82 rfl rfl rfl _ (y_as (v' := .bool (callLate b c)) (by exact rfl) (y_or rfl rfl rfl)) ?_
            refine S_go (fun _ _ h => h) ?_
            refine T_cond rfl (fun h82 => ?_) (fun h82 => ?_)
            · skip
              refine T_seq ?_
              refine T_region ?_
              refine S_ 2 rfl rfl rfl _ (y_assign rfl rfl) ?_
              refine S_go (fun _ _ h => h) ?_
              refine T_ret (fun a w hF hM => hRb a w (post1 rfl rfl (fun w hM => ?_) a w hF hM))
              exact ⟨by rw [if_neg (by omega), hp2, hx2, callsNo, if_neg (by simpa using h24), if_f h55, if_t h82], hM.below⟩
            · skip
              refine T_skip_go (fun _ _ h => h) ?_
              refine T_seq ?_
              refine T_region ?_
              refine S_ 83 rfl rfl rfl _ (y_loadA 1 rfl rfl rfl Tryz.underlying62 rfl sz62) ?_
              refine S_ 84 rfl rfl rfl _ (y_move rfl rfl) ?_
              refine S_ 85 rfl rfl rfl _ (y_call rfl rfl rfl cf331 (fun _ w hM => checkCall_any t i c w (hok.below hM.below) hx1 (by omega))) ?_
              refine S_ 7 rfl rfl rfl _ (y_assign rfl rfl) ?_
              refine S_go (fun _ _ h => h) ?_
              refine T_seq ?_
              refine T_region ?_
              refine S_ 86 rfl rfl rfl _ (y_move rfl rfl) ?_
              refine S_ 87 rfl rfl rfl _ (y_bin rfl rfl rfl (fun _ => b_neq)) ?_
              refine S_go (fun _ _ h => h) ?_
              refine T_cond rfl (fun h87 => ?_) (fun h87 => ?_)
              · try simp only [decide_eq_true_eq, decide_eq_false_iff_not, Bool.or_eq_true, Bool.or_eq_false_iff, Bool.and_eq_true, Bool.and_eq_false_iff, Bool.not_eq_true', Bool.not_eq_false', Bool.not_eq_true, Bool.not_eq_false, Bool.not_true, Bool.not_false, Int.not_lt, Int.not_le, not_or, not_and, Classical.not_not] at h87
                refine T_seq ?_
                refine T_region ?_
                refine S_ 88 rfl rfl rfl _ (y_move rfl rfl) ?_
                refine S_ 2 rfl rfl rfl _ (y_assign rfl rfl) ?_
                refine S_go (fun _ _ h => h) ?_
                refine T_ret (fun a w hF hM => hRb a w (post1 rfl rfl (fun w hM => ?_) a w hF hM))
                exact ⟨by rw [if_neg (by omega), hp2, hx2, callsNo, if_neg (by simpa using h24), if_f h55, if_f h82, if_pos h87], hM.below⟩
              · try simp only [decide_eq_true_eq, decide_eq_false_iff_not, Bool.or_eq_true, Bool.or_eq_false_iff, Bool.and_eq_true, Bool.and_eq_false_iff, Bool.not_eq_true', Bool.not_eq_false', Bool.not_eq_true, Bool.not_eq_false, Bool.not_true, Bool.not_false, Int.not_lt, Int.not_le, not_or, not_and, Classical.not_not] at h87
                refine T_skip_go (fun _ _ h => h) ?_
                refine T_region ?_
                refine S_ 89 rfl rfl rfl _ (y_bin rfl rfl rfl (fun hg => b_add (by omega))) ?_
                refine S_ 15 rfl rfl rfl _ (y_move rfl rfl) ?_
                refine S_nil (nextK2 (kf := [(2, 7), (15, 89)]) (kl := [(2, 7), (15, 89)]) (i + 1) c (by repeat (first | exact kf_nil | (apply kf_in; focus rfl) | (apply kf_out; focus rfl))) (by repeat (first | exact kl_nil | exact kl_rest (by assumption) rfl | (apply kl_in; focus rfl) | (apply kl_out; focus rfl))) ?_ ?_ ?_ ?_)
                · omega
                · exact ⟨by omega, by rw [hp2, hx2, callsNo, if_neg (by simpa using h24), if_f h55, if_f h82, if_neg (by simpa using h87), take_succ_at hx1], fun _ => hx1, by omega⟩
                · exact ⟨rfl, trivial⟩
                · exact trivial
          · try simp only [decide_eq_true_eq, decide_eq_false_iff_not, Bool.or_eq_true, Bool.or_eq_false_iff, Bool.and_eq_true, Bool.and_eq_false_iff, Bool.not_eq_true', Bool.not_eq_false', Bool.not_eq_true, Bool.not_eq_false, Bool.not_true, Bool.not_false, Int.not_lt, Int.not_le, not_or, not_and, Classical.not_not] at h57
            have h82 : callLate b c = false := by rw [hp4 (by omega)]; exact late0 h55
            refine T_skip_go (fun _ _ h => h) ?_
            refine T_seq ?_
            refine T_region ?_
            refine S_ 83 rfl rfl rfl _ (y_loadA 1 rfl rfl rfl Tryz.underlying62 rfl sz62) ?_
            refine S_ 84 rfl rfl rfl _ (y_move rfl rfl) ?_
            refine S_ 85 rfl rfl rfl _ (y_call rfl rfl rfl cf331 (fun _ w hM => checkCall_any t i c w (hok.below hM.below) hx1 (by omega))) ?_
            refine S_ 7 rfl rfl rfl _ (y_assign rfl rfl) ?_
            refine S_go (fun _ _ h => h) ?_
            refine T_seq ?_
            refine T_region ?_
            refine S_ 86 rfl rfl rfl _ (y_move rfl rfl) ?_
            refine S_ 87 rfl rfl rfl _ (y_bin rfl rfl rfl (fun _ => b_neq)) ?_
            refine S_go (fun _ _ h => h) ?_
            refine T_cond rfl (fun h87 => ?_) (fun h87 => ?_)
            · try simp only [decide_eq_true_eq, decide_eq_false_iff_not, Bool.or_eq_true, Bool.or_eq_false_iff, Bool.and_eq_true, Bool.and_eq_false_iff, Bool.not_eq_true', Bool.not_eq_false', Bool.not_eq_true, Bool.not_eq_false, Bool.not_true, Bool.not_false, Int.not_lt, Int.not_le, not_or, not_and, Classical.not_not] at h87
              refine T_seq ?_
              refine T_region ?_
              refine S_ 88 rfl rfl rfl _ (y_move rfl rfl) ?_
              refine S_ 2 rfl rfl rfl _ (y_assign rfl rfl) ?_
              refine S_go (fun _ _ h => h) ?_
              refine T_ret (fun a w hF hM => hRb a w (post1 rfl rfl (fun w hM => ?_) a w hF hM))
              exact ⟨by rw [if_neg (by omega), hp2, hx2, callsNo, if_neg (by simpa using h24), if_f h55, if_f h82, if_pos h87], hM.below⟩
            · try simp only [decide_eq_true_eq, decide_eq_false_iff_not, Bool.or_eq_true, Bool.or_eq_false_iff, Bool.and_eq_true, Bool.and_eq_false_iff, Bool.not_eq_true', Bool.not_eq_false', Bool.not_eq_true, Bool.not_eq_false, Bool.not_true, Bool.not_false, Int.not_lt, Int.not_le, not_or, not_and, Classical.not_not] at h87
              refine T_skip_go (fun _ _ h => h) ?_
              refine T_region ?_
              refine S_ 89 rfl rfl rfl _ (y_bin rfl rfl rfl (fun hg => b_add (by omega))) ?_
              refine S_ 15 rfl rfl rfl _ (y_move rfl rfl) ?_
              refine S_nil (nextK2 (kf := [(2, 7), (15, 89)]) (kl := [(2, 7), (15, 89)]) (i + 1) c (by repeat (first | exact kf_nil | (apply kf_in; focus rfl) | (apply kf_out; focus rfl))) (by repeat (first | exact kl_nil | exact kl_rest (by assumption) rfl | (apply kl_in; focus rfl) | (apply kl_out; focus rfl))) ?_ ?_ ?_ ?_)
              · omega
              · exact ⟨by omega, by rw [hp2, hx2, callsNo, if_neg (by simpa using h24), if_f h55, if_f h82, if_neg (by simpa using h87), take_succ_at hx1], fun _ => hx1, by omega⟩
              · exact ⟨rfl, trivial⟩
              · exact trivial
    · try simp only [decide_eq_true_eq, decide_eq_false_iff_not, Bool.or_eq_true, Bool.or_eq_false_iff, Bool.and_eq_true, Bool.and_eq_false_iff, Bool.not_eq_true', Bool.not_eq_false', Bool.not_eq_true, Bool.not_eq_false, Bool.not_true, Bool.not_false, Int.not_lt, Int.not_le, not_or, not_and, Classical.not_not] at h16
      refine T_exit_go (fun _ _ h => h) ?_
      refine T_seq ?_
      refine T_region ?_
      refine S_ 2 rfl rfl rfl _ (y_assign rfl rfl) ?_
      refine S_go (fun _ _ h => h) ?_
      refine T_ret (fun a w hF hM => hRb a w (post1 rfl rfl (fun w hM => ?_) a w hF hM))
      exact ⟨by rw [if_neg (by omega), hp2, ht.end (by omega)]; rfl, hM.below⟩
theorem size_of_out {n : Int} (h : outB n 1 4294967296 = false) : 1 ≤ n ∧ n ≤ 4294967296 := by
  simp only [outB, Bool.or_eq_false_iff, decide_eq_false_iff_not] at h; omega
theorem CheckTable_any (t : Tab) (w : World) (hok : t.Ok w) :
    Calls Tryz.prog 123 #[.agg #[str t.id, .int .i64 t.size, .slice t.fi.A t.fi.q t.fi.c, .slice t.fu.A t.fu.q t.fu.c, .slice t.ro.A t.ro.q t.ro.c, .slice t.ca.A t.ca.q t.ca.c]] w fun e w' => e = .returned (.int .i64 (tabNo t)) ∧ Below w.heap.size w w' := by
  have hq := hok.small
  refine enter_args (args := [.agg #[str t.id, .int .i64 t.size, .slice t.fi.A t.fi.q t.fi.c, .slice t.fu.A t.fu.q t.fu.c, .slice t.ro.A t.ro.q t.ro.c, .slice t.ca.A t.ca.q t.ca.c]]) (F := _) Tryz.func123 rfl Tryz.ntmps123 rfl rfl ?_
  intro Rb hRb hRn
  refine T_seq ?_
  refine T_region ?_
  refine S_box 1 1 rfl rfl rfl rfl rfl ?_
  intro b1
  refine S_ 2 rfl rfl rfl _ (y_assign rfl rfl) ?_
  refine S_go (fun _ _ h => h) ?_
  refine T_seq ?_
  refine T_seq ?_
  refine T_region ?_
  refine S_ 6 rfl rfl rfl _ (y_fieldAddr rfl rfl fa62_0) ?_
  refine S_ 7 rfl rfl rfl _ (y_load 1 rfl rfl rfl rfl Tryz.underlying9 rfl) ?_
  refine S_ 8 rfl rfl rfl _ (y_call rfl rfl rfl cf257 (fun _ w _ => IsId_any _ w)) ?_
  refine S_ 9 rfl rfl rfl _ (y_not rfl rfl) ?_
  refine S_go (fun _ _ h => h) ?_
  refine T_cond rfl (fun h9 => ?_) (fun h9 => ?_)
  · skip
    refine T_seq ?_
    refine T_region ?_
    refine S_ 2 rfl rfl rfl _ (y_assign rfl rfl) ?_
    refine S_go (fun _ _ h => h) ?_
    refine T_ret (fun a w hF hM => hRb a w (post1 rfl rfl (fun w hM => ?_) a w hF hM))
    exact ⟨by rw [tabNo, if_t h9], hM.below⟩
  · skip
    refine T_skip_go (fun _ _ h => h) ?_
    refine T_seq ?_
    refine T_seq ?_
    refine T_region ?_
    refine S_ 10 rfl rfl rfl _ (y_fieldAddr rfl rfl fa62_1) ?_
    refine S_ 11 rfl rfl rfl _ (y_load 1 rfl rfl rfl rfl Tryz.underlying3 rfl) ?_
    refine S_ 12 rfl rfl rfl _ (y_call rfl rfl rfl cf166 (fun _ w _ => outsideB_any _ _ _ w)) ?_
    refine S_go (fun _ _ h => h) ?_
    refine T_cond rfl (fun h12 => ?_) (fun h12 => ?_)
    · skip
      refine T_seq ?_
      refine T_region ?_
      refine S_ 2 rfl rfl rfl _ (y_assign rfl rfl) ?_
      refine S_go (fun _ _ h => h) ?_
      refine T_ret (fun a w hF hM => hRb a w (post1 rfl rfl (fun w hM => ?_) a w hF hM))
      exact ⟨by rw [tabNo, if_f h9, if_t h12], hM.below⟩
    · skip
      have hz := size_of_out h12
      refine T_skip_go (fun _ _ h => h) ?_
      refine T_seq ?_
      refine T_seq ?_
      refine T_region ?_
      refine S_ 13 rfl rfl rfl _ (y_fieldAddr rfl rfl fa62_2) ?_
      refine S_ 14 rfl rfl rfl _ (y_load 1 rfl rfl rfl rfl Tryz.underlying57 rfl) ?_
      refine S_ 15 rfl rfl rfl _ (y_call rfl rfl rfl cf258 (fun _ w hM => checkFiles_any t.fi w (hok.fi.below hM.below) (by omega) hok.names.1)) ?_
      refine S_ 3 rfl rfl rfl _ (y_assign rfl rfl) ?_
      refine S_go (fun _ _ h => h) ?_
      refine T_seq ?_
      refine T_region ?_
      refine S_ 16 rfl rfl rfl _ (y_move rfl rfl) ?_
      refine S_ 17 rfl rfl rfl _ (y_bin rfl rfl rfl (fun _ => b_neq)) ?_
      refine S_go (fun _ _ h => h) ?_
      refine T_cond rfl (fun h17 => ?_) (fun h17 => ?_)
      · try simp only [decide_eq_true_eq, decide_eq_false_iff_not, Bool.or_eq_true, Bool.or_eq_false_iff, Bool.and_eq_true, Bool.and_eq_false_iff, Bool.not_eq_true', Bool.not_eq_false', Bool.not_eq_true, Bool.not_eq_false, Bool.not_true, Bool.not_false, Int.not_lt, Int.not_le, not_or, not_and, Classical.not_not] at h17
        refine T_seq ?_
        refine T_region ?_
        refine S_ 18 rfl rfl rfl _ (y_move rfl rfl) ?_
        refine S_ 2 rfl rfl rfl _ (y_assign rfl rfl) ?_
        refine S_go (fun _ _ h => h) ?_
        refine T_ret (fun a w hF hM => hRb a w (post1 rfl rfl (fun w hM => ?_) a w hF hM))
        exact ⟨by rw [tabNo, if_f h9, if_f h12, fst_a rfl h17], hM.below⟩
      · try simp only [decide_eq_true_eq, decide_eq_false_iff_not, Bool.or_eq_true, Bool.or_eq_false_iff, Bool.and_eq_true, Bool.and_eq_false_iff, Bool.not_eq_true', Bool.not_eq_false', Bool.not_eq_true, Bool.not_eq_false, Bool.not_true, Bool.not_false, Int.not_lt, Int.not_le, not_or, not_and, Classical.not_not] at h17
        refine T_skip_go (fun _ _ h => h) ?_
        refine T_seq ?_
        refine T_seq ?_
        refine T_region ?_
        refine S_ 19 rfl rfl rfl _ (y_loadA 1 rfl rfl rfl Tryz.underlying62 rfl sz62) ?_
        refine S_ 20 rfl rfl rfl _ (y_call rfl rfl rfl cf259 (fun _ w hM => checkFuncs_any t w (hok.below hM.below) hz)) ?_
        refine S_ 4 rfl rfl rfl _ (y_assign rfl rfl) ?_
        refine S_go (fun _ _ h => h) ?_
        refine T_seq ?_
        refine T_region ?_
        refine S_ 21 rfl rfl rfl _ (y_move rfl rfl) ?_
        refine S_ 22 rfl rfl rfl _ (y_bin rfl rfl rfl (fun _ => b_neq)) ?_
        refine S_go (fun _ _ h => h) ?_
        refine T_cond rfl (fun h22 => ?_) (fun h22 => ?_)
        · try simp only [decide_eq_true_eq, decide_eq_false_iff_not, Bool.or_eq_true, Bool.or_eq_false_iff, Bool.and_eq_true, Bool.and_eq_false_iff, Bool.not_eq_true', Bool.not_eq_false', Bool.not_eq_true, Bool.not_eq_false, Bool.not_true, Bool.not_false, Int.not_lt, Int.not_le, not_or, not_and, Classical.not_not] at h22
          refine T_seq ?_
          refine T_region ?_
          refine S_ 23 rfl rfl rfl _ (y_move rfl rfl) ?_
          refine S_ 2 rfl rfl rfl _ (y_assign rfl rfl) ?_
          refine S_go (fun _ _ h => h) ?_
          refine T_ret (fun a w hF hM => hRb a w (post1 rfl rfl (fun w hM => ?_) a w hF hM))
          exact ⟨by rw [tabNo, if_f h9, if_f h12, fst_b h17 (fst_a rfl h22)], hM.below⟩
        · try simp only [decide_eq_true_eq, decide_eq_false_iff_not, Bool.or_eq_true, Bool.or_eq_false_iff, Bool.and_eq_true, Bool.and_eq_false_iff, Bool.not_eq_true', Bool.not_eq_false', Bool.not_eq_true, Bool.not_eq_false, Bool.not_true, Bool.not_false, Int.not_lt, Int.not_le, not_or, not_and, Classical.not_not] at h22
          refine T_skip_go (fun _ _ h => h) ?_
          refine T_seq ?_
          refine T_seq ?_
          refine T_region ?_
          refine S_ 24 rfl rfl rfl _ (y_loadA 1 rfl rfl rfl Tryz.underlying62 rfl sz62) ?_
          refine S_ 25 rfl rfl rfl _ (y_call rfl rfl rfl cf260 (fun _ w hM => checkRows_any t w (hok.below hM.below) hz)) ?_
          refine S_ 5 rfl rfl rfl _ (y_assign rfl rfl) ?_
          refine S_go (fun _ _ h => h) ?_
          refine T_seq ?_
          refine T_region ?_
          refine S_ 26 rfl rfl rfl _ (y_move rfl rfl) ?_
          refine S_ 27 rfl rfl rfl _ (y_bin rfl rfl rfl (fun _ => b_neq)) ?_
          refine S_go (fun _ _ h => h) ?_
          refine T_cond rfl (fun h27 => ?_) (fun h27 => ?_)
          · try simp only [decide_eq_true_eq, decide_eq_false_iff_not, Bool.or_eq_true, Bool.or_eq_false_iff, Bool.and_eq_true, Bool.and_eq_false_iff, Bool.not_eq_true', Bool.not_eq_false', Bool.not_eq_true, Bool.not_eq_false, Bool.not_true, Bool.not_false, Int.not_lt, Int.not_le, not_or, not_and, Classical.not_not] at h27
            refine T_seq ?_
            refine T_region ?_
            refine S_ 28 rfl rfl rfl _ (y_move rfl rfl) ?_
            refine S_ 2 rfl rfl rfl _ (y_assign rfl rfl) ?_
            refine S_go (fun _ _ h => h) ?_
            refine T_ret (fun a w hF hM => hRb a w (post1 rfl rfl (fun w hM => ?_) a w hF hM))
            exact ⟨by rw [tabNo, if_f h9, if_f h12, fst_b h17 (fst_b h22 (fst_a rfl h27))], hM.below⟩
          · try simp only [decide_eq_true_eq, decide_eq_false_iff_not, Bool.or_eq_true, Bool.or_eq_false_iff, Bool.and_eq_true, Bool.and_eq_false_iff, Bool.not_eq_true', Bool.not_eq_false', Bool.not_eq_true, Bool.not_eq_false, Bool.not_true, Bool.not_false, Int.not_lt, Int.not_le, not_or, not_and, Classical.not_not] at h27
            refine T_skip_go (fun _ _ h => h) ?_
            refine T_seq ?_
            refine T_region ?_
            refine S_ 29 rfl rfl rfl _ (y_loadA 1 rfl rfl rfl Tryz.underlying62 rfl sz62) ?_
            refine S_ 30 rfl rfl rfl _ (y_call rfl rfl rfl cf261 (fun _ w hM => checkCalls_any t w (hok.below hM.below) hz)) ?_
            refine S_ 2 rfl rfl rfl _ (y_assign rfl rfl) ?_
            refine S_go (fun _ _ h => h) ?_
            refine T_ret (fun a w hF hM => hRb a w (post1 rfl rfl (fun w hM => ?_) a w hF hM))
            exact ⟨by rw [tabNo, if_f h9, if_f h12, fst_b h17 (fst_b h22 (fst_b h27 rfl))], hM.below⟩
end Go.Proofs.YtkkngcdikbhkjaaGreatDoor
end
section
namespace Go.Proofs.YtkkngcdikbhkjaaGreatDoor
set_option linter.unusedSimpArgs false
set_option linter.unusedVariables false
set_option maxRecDepth 20000
open Go.RowKit Go.Eng
theorem span_ok {size fr tu : Int} (h : spanBad size fr tu = false) : 0 ≤ fr ∧ fr < tu := by
  simp only [spanBad, outB, Bool.or_eq_false_iff, decide_eq_false_iff_not] at h; omega
/-! ### All of a table, all modules -/
end Go.Proofs.YtkkngcdikbhkjaaGreatDoor
end
section
namespace Go.Proofs.YtkkngcdikbhkjaaGreatDoor
set_option linter.unusedSimpArgs false
set_option linter.unusedVariables false
set_option maxRecDepth 20000
open Go.RowKit Go.Eng
structure SSpan where
  fr : Int
  tu : Int
def SSpan.enc (s : SSpan) : List Value := [.int .i64 s.fr, .int .i64 s.tu]
theorem fst_zero {a b : Int} (h : fst a b = 0) : a = 0 ∧ b = 0 := by
  unfold fst at h
  by_cases ha : a = 0
  · rw [if_neg (by simp [ha])] at h; exact ⟨ha, h⟩
  · rw [if_pos ha] at h; exact absurd h ha
theorem le_of_ite {p : Prop} [Decidable p] {a : Int} (h : (if p then (4 : Int) else a) = 0) : ¬ p ∧ a = 0 := by
  by_cases hp : p
  · rw [if_pos hp] at h; cases h
  · rw [if_neg hp] at h; exact ⟨hp, h⟩
/-- what a right table keeps -/
theorem rows_of {t : Tab} (h : tabNo t = 0) : (idOk t.id = true ∧ outB t.size 1 4294967296 = false) ∧ t.fi.q ≤ 200 ∧ t.fu.q ≤ 1000 ∧ t.ro.q ≤ 5000 ∧ t.ca.q ≤ 1000 := by
  unfold tabNo at h
  split at h
  · cases h
  rename_i h1
  split at h
  · cases h
  rename_i h2
  obtain ⟨a, h⟩ := fst_zero h
  obtain ⟨b, h⟩ := fst_zero h
  obtain ⟨c, d⟩ := fst_zero h
  have a := (le_of_ite a).1
  have b := (le_of_ite b).1
  have c := (le_of_ite c).1
  have d := (le_of_ite d).1
  exact ⟨⟨by simpa using h1, by simpa using h2⟩, by omega, by omega, by omega, by omega⟩
end Go.Proofs.YtkkngcdikbhkjaaGreatDoor
end
section
namespace Go.Proofs.YtkkngcdikbhkjaaGreatDoor
set_option linter.unusedSimpArgs false
set_option linter.unusedVariables false
set_option maxRecDepth 20000
open Go.RowKit Go.Eng
end Go.Proofs.YtkkngcdikbhkjaaGreatDoor
end
section
namespace Go.Proofs.YtkkngcdikbhkjaaGreatDoor
set_option linter.unusedSimpArgs false
set_option linter.unusedVariables false
set_option maxRecDepth 20000
open Go.RowKit Go.Eng
def Rising (l : List SRow) : Prop := ∀ (i j : Nat) (a b : SRow), l[i]? = some a → l[j]? = some b → i < j → a.pos < b.pos
end Go.Proofs.YtkkngcdikbhkjaaGreatDoor
end
section
namespace Go.Proofs.YtkkngcdikbhkjaaGreatDoor
set_option linter.unusedSimpArgs false
set_option linter.unusedVariables false
set_option maxRecDepth 20000
open Go.RowKit Go.Eng
theorem rows_right {size nf : Int} : ∀ (l : List SRow) (last : Int), rowsNo size nf l last = 0 → (∀ (i : Nat) (r : SRow), l[i]? = some r → rowBad size nf r = false ∧ (r.fi = -1 ↔ r.ln = 0) ∧ last < r.pos) ∧ Rising l
  | [], last, _ => ⟨fun i r h => by simp at h, fun i j a b h => by simp at h⟩
  | r :: rest, last, h => by
    unfold rowsNo at h
    split at h
    · cases h
    rename_i h1
    split at h
    · cases h
    rename_i h2
    split at h
    · cases h
    rename_i h3
    obtain ⟨ih1, ih2⟩ := rows_right rest r.pos h
    have h2' : (r.fi = -1 ↔ r.ln = 0) := by
      by_cases ha : r.fi = -1 <;> by_cases hb : r.ln = 0 <;> simp_all
    refine ⟨fun i a ha => ?_, fun i j a b ha hb hij => ?_⟩
    · cases i with
      | zero => simp at ha; subst ha; exact ⟨by simpa using h1, h2', by omega⟩
      | succ i =>
        obtain ⟨x1, x2, x3⟩ := ih1 i a (by simpa using ha)
        exact ⟨x1, x2, by omega⟩
    · cases j with
      | zero => omega
      | succ j =>
        cases i with
        | zero => simp at ha; subst ha; exact (ih1 j b (by simpa using hb)).2.2
        | succ i => exact ih2 i j a b (by simpa using ha) (by simpa using hb) (by omega)
theorem tab_rows {t : Tab} (h : tabNo t = 0) : rowsNo t.size t.fi.q t.ro.l (-1) = 0 := by
  unfold tabNo at h
  split at h
  · cases h
  split at h
  · cases h
  obtain ⟨_, h⟩ := fst_zero h
  obtain ⟨_, h⟩ := fst_zero h
  obtain ⟨c, _⟩ := fst_zero h
  exact (le_of_ite c).2
end Go.Proofs.YtkkngcdikbhkjaaGreatDoor
end
section
namespace Go.Proofs.YtkkngcdikbhkjaaGreatDoor
set_option linter.unusedSimpArgs false
set_option linter.unusedVariables false
set_option maxRecDepth 20000
open Go.RowKit Go.Eng
end Go.Proofs.YtkkngcdikbhkjaaGreatDoor
end
section
namespace Go.Proofs.YtkkngcdikbhkjaaGreatDoor
set_option linter.unusedSimpArgs false
set_option linter.unusedVariables false
set_option maxRecDepth 20000
open Go.RowKit Go.Eng
structure SPlace where
  fn : List UInt8
  fi : List UInt8
  ln : Int
def SPlace.enc (p : SPlace) : List Value := [str p.fn, str p.fi, .int .i64 p.ln]
def SCall.has (x : Int) (c : SCall) : Bool := decide (c.fr ≤ x) && decide (x < c.tu)
theorem calls_right {size nf : Int} {fu : List SFunc} : ∀ (l before : List SCall) (b : SCall), callsNo size nf fu before l b = 0 →
    (∀ (i : Nat) (c : SCall), l[i]? = some c → nameNo c.name = 0 ∧ callBad size nf c = false ∧ callNo fu (before ++ l.take i) c = 0)
  | [], _, _, _ => fun i c h => by simp at h
  | c :: r, before, b, h => by
    unfold callsNo at h
    split at h
    · rename_i h1; exact absurd h h1
    rename_i h1
    split at h
    · cases h
    rename_i h2
    split at h
    · cases h
    split at h
    · rename_i h4; exact absurd h h4
    rename_i h4
    intro i a ha
    cases i with
    | zero => simp at ha; subst ha; exact ⟨by simpa using h1, by simpa using h2, by simpa using h4⟩
    | succ i =>
      have := calls_right r (before ++ [c]) c h i a (by simpa using ha)
      simpa using this
theorem tab_calls {t : Tab} (h : tabNo t = 0) : callsNo t.size t.fi.q t.fu.l [] t.ca.l call0 = 0 := by
  unfold tabNo at h
  split at h
  · cases h
  split at h
  · cases h
  obtain ⟨_, h⟩ := fst_zero h
  obtain ⟨_, h⟩ := fst_zero h
  obtain ⟨_, d⟩ := fst_zero h
  exact (le_of_ite d).2
end Go.Proofs.YtkkngcdikbhkjaaGreatDoor
end
section
namespace Go.Proofs.YtkkngcdikbhkjaaGreatDoor
set_option linter.unusedSimpArgs false
set_option linter.unusedVariables false
set_option maxRecDepth 20000
open Go.RowKit Go.Eng
end Go.Proofs.YtkkngcdikbhkjaaGreatDoor
end
section
namespace Go.Proofs.YtkkngcdikbhkjaaGreatDoor
set_option linter.unusedSimpArgs false
set_option linter.unusedVariables false
set_option maxRecDepth 20000
open Go.RowKit Go.Eng
theorem dig_le {n : Nat} (h : n ≤ 4611686018427387904) : (dig128 n).length ≤ 9 := dig_len 8 n (by omega)
theorem digI_le {n : Int} (h : n ≤ 4611686018427387904) : (dig128 n.toNat).length ≤ 9 := dig_le (by omega)
def signB (d : Int) : List UInt8 := if d < 0 then dig128 (-2 * d - 1).toNat else dig128 (2 * d).toNat
theorem signB_le {d : Int} (h : -2305843009213693952 ≤ d ∧ d ≤ 2305843009213693952) : (signB d).length ≤ 9 := by
  unfold signB
  split <;> exact digI_le (by omega)
def wordB (s : List UInt8) : List UInt8 := dig128 (s.length : Int).toNat ++ s
theorem wordB_le {s : List UInt8} {k : Nat} (h : s.length ≤ k) (hk : k ≤ 1000000) : (wordB s).length ≤ k + 9 := by
  have := digI_le (n := s.length) (by omega)
  simp only [wordB, List.length_append]; omega
def filesB : List (List UInt8) → List UInt8
  | [] => []
  | s :: r => wordB s ++ filesB r
def funcB (last : Int) (f : SFunc) : List UInt8 := dig128 (f.fr - last).toNat ++ dig128 (f.tu - f.fr).toNat ++ wordB f.name
def funcsB : List SFunc → Int → List UInt8
  | [], _ => []
  | f :: r, last => funcB last f ++ funcsB r f.tu
def rowB (b r : SRow) : List UInt8 := dig128 (r.pos - b.pos).toNat ++ signB (r.fi - b.fi) ++ signB (r.ln - b.ln)
def rowsB : List SRow → SRow → List UInt8
  | [], _ => []
  | r :: rest, b => rowB b r ++ rowsB rest r
def callB (last : Int) (c : SCall) : List UInt8 := dig128 (c.fr - last).toNat ++ dig128 (c.tu - c.fr).toNat ++ dig128 c.fi.toNat ++ dig128 c.ln.toNat ++ wordB c.name
def callsB : List SCall → Int → List UInt8
  | [], _ => []
  | c :: r, last => callB last c ++ callsB r c.fr
def rowZ : SRow := ⟨0, 0, 0⟩
def magic : List UInt8 := [73, 81, 84, 49]
def headB (t : Tab) : List UInt8 := magic ++ t.id ++ dig128 t.size.toNat ++ dig128 (t.fi.q : Int).toNat
def tabB (t : Tab) : List UInt8 := headB t ++ filesB t.fi.l ++ dig128 (t.fu.q : Int).toNat ++ funcsB t.fu.l 0 ++ dig128 (t.ro.q : Int).toNat ++ rowsB t.ro.l rowZ ++ dig128 (t.ca.q : Int).toNat ++ callsB t.ca.l 0

/-! ### What a right table bounds -/
theorem words_len {m f fi : List UInt8} (h : wordsNo m f fi = 0) : m.length ≤ 200 ∧ f.length ≤ 200 ∧ fi.length ≤ 200 := by
  unfold wordsNo at h
  split at h
  · cases h
  · rename_i hb
    simp only [Bool.or_eq_true, decide_eq_true_eq, not_or, Int.not_lt] at hb
    omega
theorem name_len {s : List UInt8} (h : nameNo s = 0) : s.length ≤ 200 := by
  unfold nameNo at h
  split at h
  · rename_i h1; exact absurd h h1
  · rename_i h1
    exact (words_len (Classical.not_not.1 h1)).2.1
theorem files_len : ∀ (l seen : List (List UInt8)), filesNo seen l = 0 → ∀ s ∈ l, s.length ≤ 200
  | [], _, _, s, hs => by cases hs
  | a :: r, seen, h, s, hs => by
    unfold filesNo at h
    split at h
    · cases h
    split at h
    · rename_i h1; exact absurd h h1
    rename_i h1
    split at h
    · cases h
    cases hs with
    | head => exact (words_len (Classical.not_not.1 h1)).2.2
    | tail _ hm => exact files_len r _ h s hm
theorem funcs_right {size : Int} : ∀ (l : List SFunc) (last : Int), funcsNo size l last = 0 → ∀ (i : Nat) (f : SFunc), l[i]? = some f → nameNo f.name = 0 ∧ spanBad size f.fr f.tu = false ∧ last ≤ f.fr ∧ ∀ g, l[i + 1]? = some g → f.tu ≤ g.fr
  | [], _, _, i, f, hf => by simp at hf
  | a :: r, last, h, i, f, hf => by
    unfold funcsNo at h
    split at h
    · rename_i h1; exact absurd h h1
    rename_i h1
    split at h
    · cases h
    rename_i h2
    split at h
    · cases h
    rename_i h3
    have ih := funcs_right r a.tu h
    have hs : spanBad size a.fr a.tu = false := by simpa using h2
    have hso := span_ok hs
    cases i with
    | zero =>
      simp at hf; subst hf
      exact ⟨Classical.not_not.1 h1, hs, by omega, fun g hg => (ih 0 g (by simpa using hg)).2.2.1⟩
    | succ i =>
      obtain ⟨x1, x2, x3, x4⟩ := ih i f (by simpa using hf)
      exact ⟨x1, x2, by omega, fun g hg => x4 g (by simpa using hg)⟩
theorem tab_parts {t : Tab} (h : tabNo t = 0) : filesNo [] t.fi.l = 0 ∧ funcsNo t.size t.fu.l 0 = 0 := by
  unfold tabNo at h
  split at h
  · cases h
  split at h
  · cases h
  obtain ⟨a, h⟩ := fst_zero h
  obtain ⟨b, h⟩ := fst_zero h
  exact ⟨(le_of_ite a).2, (le_of_ite b).2⟩
theorem calls_rise {size nf : Int} {fu : List SFunc} : ∀ (l before : List SCall) (b : SCall), callsNo size nf fu before l b = 0 → ∀ (i : Nat) (c : SCall), l[i]? = some c → b.fr ≤ c.fr ∧ ∀ g, l[i + 1]? = some g → c.fr ≤ g.fr
  | [], _, _, _, i, c, hc => by simp at hc
  | a :: r, before, b, h, i, c, hc => by
    unfold callsNo at h
    split at h
    · rename_i h1; exact absurd h h1
    split at h
    · cases h
    split at h
    · cases h
    rename_i h3
    split at h
    · rename_i h4; exact absurd h h4
    have ih := calls_rise r (before ++ [a]) a h
    have hl : b.fr ≤ a.fr := by
      simp only [callLate, Bool.or_eq_true, decide_eq_true_eq, not_or] at h3; omega
    cases i with
    | zero => simp at hc; subst hc; exact ⟨hl, fun g hg => (ih 0 g (by simpa using hg)).1⟩
    | succ i =>
      obtain ⟨x1, x2⟩ := ih i c (by simpa using hc)
      exact ⟨by omega, fun g hg => x2 g (by simpa using hg)⟩
theorem span_in {size fr tu : Int} (h : spanBad size fr tu = false) : 0 ≤ fr ∧ fr < tu ∧ tu ≤ size := by
  simp only [spanBad, outB, Bool.or_eq_false_iff, decide_eq_false_iff_not] at h; omega
theorem call_in {size nf : Int} {c : SCall} (h : callBad size nf c = false) : 0 ≤ c.fr ∧ c.fr < c.tu ∧ c.tu ≤ size ∧ 0 ≤ c.fi ∧ c.fi ≤ nf - 1 ∧ 1 ≤ c.ln ∧ c.ln ≤ 9999999 := by
  simp only [callBad, Bool.or_eq_false_iff] at h
  have h1 := span_in h.1.1
  have h2 := h.1.2
  have h3 := h.2
  simp only [outB, Bool.or_eq_false_iff, decide_eq_false_iff_not] at h2 h3
  omega
theorem row_in {size nf : Int} {r : SRow} (h : rowBad size nf r = false) : 0 ≤ r.pos ∧ r.pos < size ∧ -1 ≤ r.fi ∧ r.fi ≤ nf - 1 ∧ 0 ≤ r.ln ∧ r.ln ≤ 9999999 := by
  simp only [rowBad, outB, Bool.or_eq_false_iff, decide_eq_false_iff_not] at h; omega
end Go.Proofs.YtkkngcdikbhkjaaGreatDoor
end
section
namespace Go.Proofs.YtkkngcdikbhkjaaGreatDoor
set_option linter.unusedSimpArgs false
set_option linter.unusedVariables false
set_option maxRecDepth 20000
open Go.RowKit Go.Eng
abbrev Pa (α : Type) := List UInt8 → Option (α × List UInt8)
def nm : Pa Nat := fun s => (rd 8 s 0 0).map fun p => (p.1, s.drop p.2)
theorem rd_bounds {most : Nat} : ∀ (l : List UInt8) (i n a k : Nat), rd most l i n = some (a, k) → a ≤ 281474976710656 ∧ i < k ∧ k ≤ i + l.length
  | [], i, n, a, k, h => by simp [rd] at h
  | d :: r, i, n, a, k, h => by
    unfold rd at h
    split at h
    · cases h
    split at h
    · have := rd_bounds r _ _ a k h
      simp only [List.length_cons]; omega
    split at h
    · cases h
    · rename_i h1
      simp only [Option.some.injEq, Prod.mk.injEq] at h
      simp only [List.length_cons]; omega
theorem nm_some {s s' : List UInt8} {n : Nat} (h : nm s = some (n, s')) : n ≤ 281474976710656 ∧ s'.length < s.length := by
  unfold nm at h
  cases hr : rd 8 s 0 0 with
  | none => rw [hr] at h; cases h
  | some p =>
    rw [hr] at h
    simp only [Option.map_some, Option.some.injEq, Prod.mk.injEq] at h
    have := rd_bounds s 0 0 p.1 p.2 hr
    refine ⟨by omega, ?_⟩
    rw [← h.2, List.length_drop]; omega
def tk (n : Nat) : Pa (List UInt8) := fun s => if n ≤ s.length then some (s.take n, s.drop n) else none
def bnd {α β : Type} (p : Pa α) (q : α → Pa β) : Pa β := fun s => match p s with
  | some (x, s1) => q x s1
  | none => none
def giv {α : Type} (x : α) : Pa α := fun s => some (x, s)
def wd : Pa (List UInt8) := bnd nm tk
def sgn (n : Nat) : Int := if (n : Int) % 2 = 1 then IntKind.i64.wrap ((-((n : Int) + 1)).tdiv 2) else (n : Int) / 2
def sg : Pa Int := bnd nm fun n => giv (sgn n)
/-- what a reader leaves: a value, the rest, whether all was right so far -/
def PRes {α : Type} (p : Pa α) (s : List UInt8) (ok : Bool) (x : α) (s1 : List UInt8) (ok1 : Bool) : Prop := ok1 = (ok && (p s).isSome) ∧ (ok1 = true → p s = some (x, s1))
section
variable {α β : Type} {p : Pa α} {q : α → Pa β} {s s1 s2 : List UInt8} {ok ok1 ok2 : Bool} {x : α} {y : β}
theorem PRes.bnd (h1 : PRes p s ok x s1 ok1) (h2 : PRes (q x) s1 ok1 y s2 ok2) : PRes (bnd p q) s ok y s2 ok2 := by
  obtain ⟨a1, b1⟩ := h1
  obtain ⟨a2, b2⟩ := h2
  cases ok1 with
  | true =>
    have := b1 rfl
    have hs : (p s).isSome = true := by rw [this]; rfl
    rw [hs, Bool.and_true] at a1
    refine ⟨?_, fun h => ?_⟩
    · rw [a2, ← a1]; simp [Go.Proofs.YtkkngcdikbhkjaaGreatDoor.bnd, this]
    · simp [Go.Proofs.YtkkngcdikbhkjaaGreatDoor.bnd, this, b2 h]
  | false =>
    rw [Bool.false_and] at a2
    subst a2
    refine ⟨?_, fun h => by cases h⟩
    cases ok with
    | false => rfl
    | true =>
      simp only [Bool.true_and] at a1 ⊢
      have : p s = none := by
        cases hp : p s with
        | none => rfl
        | some u => rw [hp] at a1; cases a1
      simp [Go.Proofs.YtkkngcdikbhkjaaGreatDoor.bnd, this]
theorem PRes.giv : PRes (giv x) s ok x s ok := ⟨by simp [Go.Proofs.YtkkngcdikbhkjaaGreatDoor.giv], fun _ => rfl⟩
theorem PRes.map {γ : Type} {f : α → γ} (h : PRes p s ok x s1 ok1) : PRes (Go.Proofs.YtkkngcdikbhkjaaGreatDoor.bnd p fun x => Go.Proofs.YtkkngcdikbhkjaaGreatDoor.giv (f x)) s ok (f x) s1 ok1 := h.bnd PRes.giv
theorem PRes.some (h : PRes p s ok x s1 true) : p s = some (x, s1) ∧ ok = true := by
  refine ⟨h.2 rfl, ?_⟩
  have := h.1
  cases ok with
  | true => rfl
  | false => cases this
end
theorem tk_res {n : Nat} {s : List UInt8} {ok : Bool} (h : n ≤ s.length) : PRes (tk n) s ok (s.take n) (s.drop n) ok := by
  refine ⟨by simp [tk, h], fun _ => by simp [tk, h]⟩
theorem tk_bad {n : Nat} {s x s1 : List UInt8} {ok : Bool} (h : s.length < n) : PRes (tk n) s ok x s1 false := by
  refine ⟨by have : ¬ n ≤ s.length := by omega
             simp [tk, this], fun h => by cases h⟩
theorem tk_len {n : Nat} {s x s1 : List UInt8} (h : tk n s = some (x, s1)) : s1.length ≤ s.length := by
  unfold tk at h
  split at h
  · simp only [Option.some.injEq, Prod.mk.injEq] at h
    rw [← h.2, List.length_drop]; omega
  · cases h
theorem nm_res {s x s1 : List UInt8} {ok ok1 : Bool} {n k : Nat} (hr : rd 8 s 0 0 = some (n, k)) (h : PRes (tk k) s ok x s1 ok1) : PRes nm s ok n s1 ok1 := by
  have hk := (rd_bounds s 0 0 n k hr).2.2
  have hk' : k ≤ s.length := by omega
  obtain ⟨h1, h2⟩ := h
  simp only [tk, hk', if_true, Option.isSome_some, Bool.and_true, Option.some.injEq, Prod.mk.injEq] at h1 h2
  refine ⟨by simp [nm, hr, h1], fun h => ?_⟩
  simp [nm, hr, (h2 h).2]
theorem nm_bad {s s1 : List UInt8} {ok : Bool} {n : Nat} (hr : rd 8 s 0 0 = none) : PRes nm s ok n s1 false := ⟨by simp [nm, hr], fun h => by cases h⟩
theorem bnd_some {α β : Type} {p : Pa α} {q : α → Pa β} {s s2 : List UInt8} {y : β} (h : bnd p q s = some (y, s2)) : ∃ x s1, p s = some (x, s1) ∧ q x s1 = some (y, s2) := by
  unfold bnd at h
  cases hp : p s with
  | none => rw [hp] at h; cases h
  | some u => rw [hp] at h; exact ⟨u.1, u.2, rfl, h⟩
theorem giv_some {α : Type} {x y : α} {s s1 : List UInt8} (h : giv x s = some (y, s1)) : x = y ∧ s = s1 := by simpa [giv] using h
theorem wd_less {s s1 x : List UInt8} (h : wd s = some (x, s1)) : s1.length < s.length := by
  obtain ⟨n, s2, h1, h2⟩ := bnd_some h
  have := (nm_some h1).2
  have := tk_len h2
  omega
theorem sg_less {s s1 : List UInt8} {x : Int} (h : sg s = some (x, s1)) : s1.length < s.length := by
  obtain ⟨n, s2, h1, h2⟩ := bnd_some h
  have := (nm_some h1).2
  have := (giv_some h2).2
  subst this; exact (nm_some h1).2

/-! ### Lists -/
def iter {σ : Type} (one : σ → Pa σ) : Nat → σ → Pa σ
  | 0, a => giv a
  | n + 1, a => bnd (one a) (iter one n)
structure IterInv {σ : Type} (one : σ → Pa σ) (N : Nat) (a0 : σ) (s0 : List UInt8) (ok0 : Bool) (m : Nat) (a : σ) (s : List UInt8) (ok : Bool) : Prop where
  on : ok = true → iter one N a0 s0 = iter one m a s ∧ ok0 = true
  off : ok = false → ok0 = false ∨ iter one N a0 s0 = none
section
variable {σ : Type} {one : σ → Pa σ} {N m : Nat} {a0 a a' : σ} {s0 s s1 : List UInt8} {ok0 ok ok1 : Bool}
theorem IterInv.start : IterInv one N a0 s0 ok0 N a0 s0 ok0 := ⟨fun h => ⟨rfl, h⟩, fun h => .inl h⟩
theorem IterInv.step (h : IterInv one N a0 s0 ok0 (m + 1) a s true) (hr : PRes (one a) s true a' s1 ok1) : IterInv one N a0 s0 ok0 m a' s1 ok1 := by
  have h1 := h.on rfl
  refine ⟨fun h2 => ⟨?_, h1.2⟩, fun h2 => .inr ?_⟩
  · subst h2
    rw [h1.1]
    simp [iter, Go.Proofs.YtkkngcdikbhkjaaGreatDoor.bnd, (hr.2 rfl)]
  · subst h2
    rw [h1.1]
    have := hr.1
    rw [Bool.true_and] at this
    have hn : one a s = none := by
      cases hp : one a s with
      | none => rfl
      | some u => rw [hp] at this; cases this
    simp [iter, Go.Proofs.YtkkngcdikbhkjaaGreatDoor.bnd, hn]
theorem IterInv.done (h : IterInv one N a0 s0 ok0 m a s ok) (he : m = 0 ∨ ok = false) : PRes (iter one N a0) s0 ok0 a s ok := by
  cases ok with
  | true =>
    have h1 := h.on rfl
    have hm : m = 0 := by rcases he with he | he <;> first | exact he | cases he
    subst hm
    refine ⟨?_, fun _ => by rw [h1.1]; rfl⟩
    rw [h1.1, h1.2]; rfl
  | false =>
    refine ⟨?_, fun h => by cases h⟩
    rcases h.off rfl with h1 | h1
    · rw [h1]; rfl
    · rw [h1]; simp
end
abbrev wr (n : Int) : Int := IntKind.i64.wrap n
def oneF (fs : List (List UInt8)) : Pa (List (List UInt8)) := bnd wd fun x => giv (fs ++ [x])
def oneU (a : List SFunc × Int) : Pa (List SFunc × Int) := bnd nm fun n => bnd nm fun m => bnd wd fun x => giv (a.1 ++ [⟨x, wr (a.2 + n), wr (wr (a.2 + n) + m)⟩], wr (wr (a.2 + n) + m))
def oneR (a : List SRow × SRow) : Pa (List SRow × SRow) := bnd nm fun n => bnd sg fun m => bnd sg fun k => giv (a.1 ++ [⟨wr (a.2.pos + n), wr (a.2.fi + m), wr (a.2.ln + k)⟩], ⟨wr (a.2.pos + n), wr (a.2.fi + m), wr (a.2.ln + k)⟩)
def oneC (a : List SCall × Int) : Pa (List SCall × Int) := bnd nm fun n => bnd nm fun m => bnd nm fun k => bnd nm fun j => bnd wd fun x => giv (a.1 ++ [⟨x, wr (a.2 + n), wr (wr (a.2 + n) + m), k, j⟩], wr (a.2 + n))
theorem oneF_less {a b : List (List UInt8)} {s s1 : List UInt8} (h : oneF a s = some (b, s1)) : s1.length < s.length := by
  obtain ⟨x, s2, h1, h2⟩ := bnd_some h
  have := wd_less h1
  have := (giv_some h2).2
  subst this; assumption
theorem oneU_less {a b : List SFunc × Int} {s s1 : List UInt8} (h : oneU a s = some (b, s1)) : s1.length < s.length := by
  obtain ⟨x, s2, h1, h⟩ := bnd_some h
  obtain ⟨y, s3, h2, h⟩ := bnd_some h
  obtain ⟨z, s4, h3, h⟩ := bnd_some h
  have := (nm_some h1).2
  have := (nm_some h2).2
  have := wd_less h3
  have := (giv_some h).2
  subst this; omega
theorem oneR_less {a b : List SRow × SRow} {s s1 : List UInt8} (h : oneR a s = some (b, s1)) : s1.length < s.length := by
  obtain ⟨x, s2, h1, h⟩ := bnd_some h
  obtain ⟨y, s3, h2, h⟩ := bnd_some h
  obtain ⟨z, s4, h3, h⟩ := bnd_some h
  have := (nm_some h1).2
  have := sg_less h2
  have := sg_less h3
  have := (giv_some h).2
  subst this; omega
theorem oneC_less {a b : List SCall × Int} {s s1 : List UInt8} (h : oneC a s = some (b, s1)) : s1.length < s.length := by
  obtain ⟨x, s2, h1, h⟩ := bnd_some h
  obtain ⟨y, s3, h2, h⟩ := bnd_some h
  obtain ⟨z, s4, h3, h⟩ := bnd_some h
  obtain ⟨u, s5, h4, h⟩ := bnd_some h
  obtain ⟨v, s6, h5, h⟩ := bnd_some h
  have := (nm_some h1).2
  have := (nm_some h2).2
  have := (nm_some h3).2
  have := (nm_some h4).2
  have := wd_less h5
  have := (giv_some h).2
  subst this; omega
def lst {σ : Type} (one : σ → Pa σ) (a : σ) : Pa σ := bnd nm fun n => iter one n a
/-- a table's contents -/
structure PT where
  id : List UInt8
  size : Int
  fi : List (List UInt8)
  fu : List SFunc
  ro : List SRow
  ca : List SCall
def pTab : Pa PT := bnd (tk 16) fun id => bnd nm fun size => bnd (lst oneF []) fun fi => bnd (lst oneU ([], 0)) fun fu => bnd (lst oneR ([], rowZ)) fun ro => bnd (lst oneC ([], 0)) fun ca => giv ⟨id, size, fi, fu.1, ro.1, ca.1⟩
def parseT (s : List UInt8) : Option PT := match tk 4 s with
  | some (x, s1) => if x = magic then (match pTab s1 with
    | some (t, []) => some t
    | _ => none) else none
  | none => none
end Go.Proofs.YtkkngcdikbhkjaaGreatDoor
end
section
namespace Go.Proofs.YtkkngcdikbhkjaaGreatDoor
set_option linter.unusedSimpArgs false
set_option linter.unusedVariables false
set_option maxRecDepth 20000
open Go.RowKit Go.Eng
/-- a builder's box, and its row of bytes -/
abbrev bldBox (b : Nat) (ad : Value) (A : Option Addr) (q c : Nat) : It := .blk b (IsBox [ad, .slice A q c] 189)
abbrev bldRow (A : Option Addr) (q c : Nat) (l : List UInt8) : It := .own 5 1 (.slice A q c) q (bytesV l)
abbrev selfP (b : Nat) : Value := .pointer (some ⟨b, 0, none⟩)
theorem copyCheck_any {w0 : World} {K : HL} (hK : FromK K) (b : Nat) (ad sl : Value) (had : ad = .pointer none ∨ ad = selfP b) (w : World) (hM0 : Mem w0 ([(0, .blk b (IsBox [ad, sl] 189))] ++ K) w) :
    Calls Tryz.prog 256 #[selfP b] w fun e w' => e = .returned (.tuple #[]) ∧ Mem w0 ([(0, .blk b (IsBox [selfP b, sl] 189))] ++ K) w' := by
  obtain ⟨j, hinf189, _⟩ := Option.map_eq_some_iff.1 sz189
  rcases had with rfl | rfl
  ·
    refine enterM_args (args := [selfP b]) (F := _) hM0 Tryz.func256 rfl Tryz.ntmps256 rfl rfl ?_
    intro Rb hRb hRn
    refine T_seq ?_
    refine T_region ?_
    refine S_ 2 rfl rfl rfl _ (y_move rfl rfl) ?_
    refine S_ 3 rfl rfl rfl _ (y_nilCheck rfl rfl) ?_
    refine S_ 4 rfl rfl rfl _ (y_fieldAddr rfl rfl fa189_0) ?_
    refine S_ 5 rfl rfl rfl _ (y_load 0 rfl rfl rfl rfl Tryz.underlying186 rfl) ?_
    refine S_ 6 rfl rfl rfl _ (y_bin rfl rfl rfl (fun _ => b_eqlp Tryz.underlying186)) ?_
    refine S_go (fun _ _ h => h) ?_
    refine T_cond rfl (fun h6 => ?_) (fun h6 => ?_)
    · skip
      refine T_region ?_
      refine S_ 7 rfl rfl rfl _ (y_move rfl rfl) ?_
      refine S_ 8 rfl rfl rfl _ (y_move rfl rfl) ?_
      refine S_ 9 rfl rfl rfl _ (y_conv_to (i := 0) rfl rfl rfl Tryz.underlying186 Tryz.underlying342 sz189 (Nat.succ_pos _)) ?_
      refine S_ 10 rfl rfl rfl _ (y_noEscape rfl rfl (run_callFunc_extern Tryz.func328 (by kernel_rfl) (by kernel_rfl) (by kernel_rfl) (by kernel_rfl))) ?_
      refine S_ 11 rfl rfl rfl _ (y_conv_from (i := 0) rfl rfl rfl Tryz.underlying342 Tryz.underlying186 sz189 (by kernel_rfl)) ?_
      refine S_ 12 rfl rfl rfl _ (y_nilCheck rfl rfl) ?_
      refine S_ 13 rfl rfl rfl _ (y_fieldAddr rfl rfl fa189_0) ?_
      refine S_store 0 rfl rfl rfl rfl rfl rfl sz186 rfl rfl ?_
      refine S_nil (fun a w hF hM => hRn a w (post0 rfl (fun w hM => ?_) a w hF hM))
      exact ⟨rfl, hM.keep (ks := [(0, 999)]) (by repeat (first | exact kl_rest (by assumption) rfl | (apply kl_in; focus rfl))) _ ⟨rfl, trivial⟩⟩
    · skip
      simp at h6
  ·
    refine enterM_args (args := [selfP b]) (F := _) hM0 Tryz.func256 rfl Tryz.ntmps256 rfl rfl ?_
    intro Rb hRb hRn
    refine T_seq ?_
    refine T_region ?_
    refine S_ 2 rfl rfl rfl _ (y_move rfl rfl) ?_
    refine S_ 3 rfl rfl rfl _ (y_nilCheck rfl rfl) ?_
    refine S_ 4 rfl rfl rfl _ (y_fieldAddr rfl rfl fa189_0) ?_
    refine S_ 5 rfl rfl rfl _ (y_load 0 rfl rfl rfl rfl Tryz.underlying186 rfl) ?_
    refine S_ 6 rfl rfl rfl _ (y_bin rfl rfl rfl (fun _ => b_eqlp Tryz.underlying186)) ?_
    refine S_go (fun _ _ h => h) ?_
    refine T_cond rfl (fun h6 => ?_) (fun h6 => ?_)
    · skip
      simp at h6
    · skip
      refine T_seq ?_
      refine T_region ?_
      refine S_ 14 rfl rfl rfl _ (y_move rfl rfl) ?_
      refine S_ 15 rfl rfl rfl _ (y_nilCheck rfl rfl) ?_
      refine S_ 16 rfl rfl rfl _ (y_fieldAddr rfl rfl fa189_0) ?_
      refine S_ 17 rfl rfl rfl _ (y_load 0 rfl rfl rfl rfl Tryz.underlying186 rfl) ?_
      refine S_ 18 rfl rfl rfl _ (y_move rfl rfl) ?_
      refine S_ 19 rfl rfl rfl _ (y_bin rfl rfl rfl (fun _ => b_neqp_same Tryz.underlying186 hinf189)) ?_
      refine S_go (fun _ _ h => h) ?_
      refine T_cond rfl (fun h19 => ?_) (fun h19 => ?_)
      · skip
        cases h19
      · skip
        refine T_skip (fun a w hF hM => hRn a w (post0 rfl (fun w hM => ?_) a w hF hM))
        exact ⟨rfl, hM.keep (ks := [(0, 999)]) (by repeat (first | exact kl_rest (by assumption) rfl | (apply kl_in; focus rfl))) _ ⟨rfl, trivial⟩⟩
theorem WriteString_any {w0 : World} {K : HL} (hK : FromK K) (b : Nat) (ad : Value) (A : Option Addr) (q c : Nat) (l s : List UInt8) (had : ad = .pointer none ∨ ad = selfP b) (hlen : q + s.length ≤ 140737488355328) (w : World) (hM0 : Mem w0 ([(0, bldBox b ad A q c), (1, bldRow A q c l)] ++ K) w) :
    Calls Tryz.prog 120 #[selfP b, str s] w fun e w' => ∃ x : Option Addr × Nat, e = .returned (.tuple #[.int .i64 s.length, .nilIface]) ∧ (A = none → c = 0 → s = [] → x.1 = none ∧ x.2 = 0) ∧
      Mem w0 ([(0, bldBox b (selfP b) x.1 (q + s.length) x.2), (1, bldRow x.1 (q + s.length) x.2 (l ++ s))] ++ K) w' := by
  refine enterM_args (args := [selfP b, str s]) (F := _) hM0 Tryz.func120 rfl Tryz.ntmps120 rfl rfl ?_
  intro Rb hRb hRn
  refine T_seq ?_
  refine T_region ?_
  refine S_ 4 rfl rfl rfl _ (y_assign rfl rfl) ?_
  refine S_ 5 rfl rfl rfl _ (y_assign rfl rfl) ?_
  refine S_go (fun _ _ h => h) ?_
  refine T_seq ?_
  refine T_region ?_
  refine S_ 6 rfl rfl rfl _ (y_move rfl rfl) ?_
  refine S_callM 7 [(0, 0)] (X := Unit) rfl rfl rfl rfl rfl rfl rfl cf256 rfl (fun _ => .tuple #[]) (fun _ => True) (fun _ => [(0, bldBox b (selfP b) A q c)]) (fun _ => rfl) (fun _ => rfl) (fun K1 hK1 w hM => (copyCheck_any hK1 b ad _ had w hM).mono fun e w1 h => ⟨(), h.1, trivial, h.2⟩) ?_
  intro _ _
  refine S_go (fun _ _ h => h) ?_
  refine T_seq ?_
  refine T_region ?_
  refine S_ 8 rfl rfl rfl _ (y_move rfl rfl) ?_
  refine S_ 9 rfl rfl rfl _ (y_move rfl rfl) ?_
  refine S_ 10 rfl rfl rfl _ (y_nilCheck rfl rfl) ?_
  refine S_ 11 rfl rfl rfl _ (y_fieldAddr rfl rfl fa189_1) ?_
  refine S_ 12 rfl rfl rfl _ (y_load 0 rfl rfl rfl rfl Tryz.underlying187 rfl) ?_
  refine S_ 13 rfl rfl rfl _ (y_move rfl rfl) ?_
  refine S_appendStr 14 1 rfl rfl rfl rfl rfl rfl rfl Tryz.underlying187 Tryz.underlying9 inf5 ?_ (q + s.length) (l ++ s) rfl rfl ?_
  · omega
  intro A14 c14 hn14
  refine S_ 15 rfl rfl rfl _ (y_nilCheck rfl rfl) ?_
  refine S_ 16 rfl rfl rfl _ (y_fieldAddr rfl rfl fa189_1) ?_
  refine S_store 0 rfl rfl rfl rfl rfl rfl sz187 rfl rfl ?_
  refine S_go (fun _ _ h => h) ?_
  refine T_seq ?_
  refine T_region ?_
  refine S_ 17 rfl rfl rfl _ (y_move rfl rfl) ?_
  refine S_ 18 rfl rfl rfl _ (y_len_str rfl rfl Tryz.underlying9) ?_
  refine S_ 4 rfl rfl rfl _ (y_assign rfl rfl) ?_
  refine S_ 5 rfl rfl rfl _ (y_assign rfl rfl) ?_
  refine S_go (fun _ _ h => h) ?_
  refine T_ret (fun a w hF hM => hRb a w (post2 rfl rfl rfl (fun w hM => ?_) a w hF hM))
  exact ⟨(A14, c14), rfl, hn14, hM.keep (ks := [(0, 999)]) (by repeat (first | exact kl_rest (by assumption) rfl | (apply kl_in; focus rfl))) _ ⟨rfl, rfl, trivial⟩⟩
theorem BLen_any (b : Nat) (A : Option Addr) (q c : Nat) (w : World) (hc : w.cell? ⟨b, 1, none⟩ = some (.slice A q c) ∧ b < w.heap.size) :
    Calls Tryz.prog 126 #[selfP b] w fun e w' => e = .returned (.int .i64 q) ∧ Below w.heap.size w w' := by
  refine enter_args (args := [selfP b]) (F := _) Tryz.func126 rfl Tryz.ntmps126 rfl rfl ?_
  intro Rb hRb hRn
  refine T_seq ?_
  refine T_region ?_
  refine S_ 2 rfl rfl rfl _ (y_assign rfl rfl) ?_
  refine S_go (fun _ _ h => h) ?_
  refine T_seq ?_
  refine T_region ?_
  refine S_ 3 rfl rfl rfl _ (y_move rfl rfl) ?_
  refine S_ 4 rfl rfl rfl _ (y_nilCheck rfl rfl) ?_
  refine S_ 5 rfl rfl rfl _ (y_fieldAddr rfl rfl fa189_1) ?_
  refine S_ 6 rfl rfl rfl _ (y_load_far rfl rfl hc.1 hc.2 Tryz.underlying187 rfl) ?_
  refine S_ 7 rfl rfl rfl _ (y_len_slice rfl rfl Tryz.underlying187) ?_
  refine S_ 2 rfl rfl rfl _ (y_assign rfl rfl) ?_
  refine S_go (fun _ _ h => h) ?_
  refine T_ret (fun a w hF hM => hRb a w (post1 rfl rfl (fun w hM => ?_) a w hF hM))
  exact ⟨rfl, hM.below⟩
theorem BString_any {w0 : World} {K : HL} (hK : FromK K) (b : Nat) (ad : Value) (A : Option Addr) (q c : Nat) (l : List UInt8) (hz : q = 0 → A = none) (h63 : q ≤ 9223372036854775807) (w : World) (hM0 : Mem w0 ([(0, bldBox b ad A q c), (1, bldRow A q c l)] ++ K) w) :
    Calls Tryz.prog 122 #[selfP b] w fun e w' => e = .returned (str l) ∧ Mem w0 ([(1, bldRow none 0 0 []), (0, bldBox b ad A q c)] ++ K) w' := by
  have hrow : w.ownsRow w0.heap.size 5 1 (.slice A q c) q (bytesV l) := hM0.sat 1 _ rfl
  have hql : l.length = q := by have := hrow.1; simp [bytesV] at this; omega
  by_cases h0 : q = 0
  · have hA := hz h0
    subst hA
    have hl : l = [] := List.eq_nil_of_length_eq_zero (by omega)
    subst hl
    subst h0
    refine enterM_args (args := [selfP b]) (F := _) hM0 Tryz.func122 rfl Tryz.ntmps122 rfl rfl ?_
    intro Rb hRb hRn
    refine T_seq ?_
    refine T_region ?_
    refine S_ 2 rfl rfl rfl _ (y_assign rfl rfl) ?_
    refine S_go (fun _ _ h => h) ?_
    refine T_seq ?_
    refine T_tail 10 (by kernel_rfl) (by kernel_rfl) ?_
    refine E_ 3 rfl rfl rfl _ (z_move rfl rfl) ?_
    refine E_ 4 rfl rfl rfl _ (z_nilCheck rfl rfl) ?_
    refine E_ 5 rfl rfl rfl _ (z_fieldAddr rfl rfl fa189_1) ?_
    refine E_ 6 rfl rfl rfl _ (z_load 0 rfl rfl rfl rfl Tryz.underlying187 rfl) ?_
    refine E_ 7 rfl rfl rfl _ (z_sliceData rfl rfl (.inl rfl)) ?_
    refine E_ 8 rfl rfl rfl _ (z_move rfl rfl) ?_
    refine E_ 9 rfl rfl rfl _ (z_nilCheck rfl rfl) ?_
    refine E_ 10 rfl rfl rfl _ (z_fieldAddr rfl rfl fa189_1) ?_
    refine E_ 11 rfl rfl rfl _ (z_load 0 rfl rfl rfl rfl Tryz.underlying187 rfl) ?_
    refine E_ 12 rfl rfl rfl _ (z_len rfl rfl Tryz.underlying187) ?_
    refine E_nil ?_
    refine S_unsafeString0 13 rfl rfl rfl rfl rfl rfl ?_
    refine S_ 2 rfl rfl rfl _ (y_assign rfl rfl) ?_
    refine S_go (fun _ _ h => h) ?_
    refine T_ret (fun a w hF hM => hRb a w (post1 rfl rfl (fun w hM => ?_) a w hF hM))
    exact ⟨rfl, (hM.keep (ks := [(0, 999)]) (by repeat (first | exact kl_rest (by assumption) rfl | (apply kl_in; focus rfl))) _ ⟨rfl, trivial⟩ : Mem w0 ([(0, bldBox b ad _ _ c)] ++ K) w).add 1 _ rfl (World.ownsRow_nil _ _ _ _)⟩
  · obtain ⟨g, rfl, hc0⟩ : ∃ g, A = some ⟨g, 0, none⟩ ∧ c ≠ 0 := by
      rcases hrow.2 with ⟨_, h⟩ | ⟨g, cap, cur, hv, _, _, hnc, _⟩
      · exact absurd h h0
      · exact ⟨g, by injection hv, by have : c = cap := by injection hv
                                      omega⟩
    refine enterM_args (args := [selfP b]) (F := _) hM0 Tryz.func122 rfl Tryz.ntmps122 rfl rfl ?_
    intro Rb hRb hRn
    refine T_seq ?_
    refine T_region ?_
    refine S_ 2 rfl rfl rfl _ (y_assign rfl rfl) ?_
    refine S_go (fun _ _ h => h) ?_
    refine T_seq ?_
    refine T_tail 10 (by kernel_rfl) (by kernel_rfl) ?_
    refine E_ 3 rfl rfl rfl _ (z_move rfl rfl) ?_
    refine E_ 4 rfl rfl rfl _ (z_nilCheck rfl rfl) ?_
    refine E_ 5 rfl rfl rfl _ (z_fieldAddr rfl rfl fa189_1) ?_
    refine E_ 6 rfl rfl rfl _ (z_load 0 rfl rfl rfl rfl Tryz.underlying187 rfl) ?_
    refine E_ 7 rfl rfl rfl _ (z_sliceData rfl rfl (.inr hc0)) ?_
    refine E_ 8 rfl rfl rfl _ (z_move rfl rfl) ?_
    refine E_ 9 rfl rfl rfl _ (z_nilCheck rfl rfl) ?_
    refine E_ 10 rfl rfl rfl _ (z_fieldAddr rfl rfl fa189_1) ?_
    refine E_ 11 rfl rfl rfl _ (z_load 0 rfl rfl rfl rfl Tryz.underlying187 rfl) ?_
    refine E_ 12 rfl rfl rfl _ (z_len rfl rfl Tryz.underlying187) ?_
    refine E_nil ?_
    refine S_giveRow 1 (g := g) rfl ?_
    refine S_unsafeString 13 1 rfl rfl rfl rfl rfl rfl rfl hql (by omega) h63 Tryz.underlying303 co5 ?_
    refine S_ 2 rfl rfl rfl _ (y_assign rfl rfl) ?_
    refine S_go (fun _ _ h => h) ?_
    refine T_ret (fun a w hF hM => hRb a w (post1 rfl rfl (fun w hM => ?_) a w hF hM))
    exact ⟨rfl, (hM.keep (ks := [(0, 999)]) (by repeat (first | exact kl_rest (by assumption) rfl | (apply kl_in; focus rfl))) _ ⟨rfl, trivial⟩ : Mem w0 ([(0, bldBox b ad _ _ c)] ++ K) w).add 1 _ rfl (World.ownsRow_nil _ _ _ _)⟩
/-! ### .. by the bytes alone -/
abbrev bB (b : Nat) (ad : Value) (A : Option Addr) (c : Nat) (l : List UInt8) : It := bldBox b ad A l.length c
abbrev bR (A : Option Addr) (c : Nat) (l : List UInt8) : It := bldRow A l.length c l
theorem WStr_any {w0 : World} {K : HL} (hK : FromK K) (b : Nat) (ad : Value) (A : Option Addr) (c : Nat) (l s : List UInt8) (had : ad = .pointer none ∨ ad = selfP b) (hlen : l.length + s.length ≤ 140737488355328) (w : World) (hM0 : Mem w0 ([(0, bB b ad A c l), (1, bR A c l)] ++ K) w) :
    Calls Tryz.prog 120 #[selfP b, str s] w fun e w' => ∃ x : Option Addr × Nat, e = .returned (.tuple #[.int .i64 s.length, .nilIface]) ∧ (A = none → c = 0 → s = [] → x.1 = none ∧ x.2 = 0) ∧
      Mem w0 ([(0, bB b (selfP b) x.1 x.2 (l ++ s)), (1, bR x.1 x.2 (l ++ s))] ++ K) w' :=
  (WriteString_any hK b ad A l.length c l s had hlen w hM0).mono fun e w' ⟨x, h1, h2, h3⟩ => ⟨x, h1, h2, by
    show Mem w0 ([(0, bldBox b (selfP b) x.1 (l ++ s).length x.2), (1, bldRow x.1 (l ++ s).length x.2 (l ++ s))] ++ K) w'
    rw [List.length_append]; exact h3⟩
theorem BStr_any {w0 : World} {K : HL} (hK : FromK K) (b : Nat) (ad : Value) (A : Option Addr) (c : Nat) (l : List UInt8) (hz : l.length = 0 → A = none) (h63 : l.length ≤ 9223372036854775807) (w : World) (hM0 : Mem w0 ([(0, bB b ad A c l), (1, bR A c l)] ++ K) w) :
    Calls Tryz.prog 122 #[selfP b] w fun e w' => e = .returned (str l) ∧ Mem w0 ([(1, bR none 0 []), (0, bB b ad A c l)] ++ K) w' := BString_any hK b ad A l.length c l hz h63 w hM0
end Go.Proofs.YtkkngcdikbhkjaaGreatDoor
end
section
namespace Go.Proofs.YtkkngcdikbhkjaaGreatDoor
set_option linter.unusedSimpArgs false
set_option linter.unusedVariables false
set_option maxRecDepth 20000
open Go.RowKit Go.Eng
/-- where the variables lie that readTable's closures have caught -/
structure Ad where
  s : Nat
  o : Nat
  t : Nat
  n : Nat
  g : Nat
  w : Nat
  T : Nat
  l : Nat
  r : Nat
abbrev Ad.iS (d : Ad) (s : List UInt8) : It := .blk d.s (IsBox [str s] 9)
abbrev Ad.iO (d : Ad) (ok : Bool) : It := .blk d.o (IsBox [.bool ok] 4)
abbrev Ad.fT (d : Ad) : Value := .func (.func 273) #[] #[selfP d.s, selfP d.o]
abbrev Ad.iT (d : Ad) : It := .blk d.t (IsBox [d.fT] 202)
abbrev Ad.fN (d : Ad) : Value := .func (.func 274) #[] #[selfP d.s, selfP d.o, selfP d.t]
abbrev Ad.iN (d : Ad) : It := .blk d.n (IsBox [d.fN] 117)
abbrev Ad.fG (d : Ad) : Value := .func (.func 276) #[] #[selfP d.n]
abbrev Ad.iG (d : Ad) : It := .blk d.g (IsBox [d.fG] 117)
abbrev Ad.fW (d : Ad) : Value := .func (.func 277) #[] #[selfP d.t, selfP d.n]
abbrev Ad.iW (d : Ad) : It := .blk d.w (IsBox [d.fW] 201)
abbrev Ad.iTab (d : Ad) (id : List UInt8) (size : Int) (vf vu vr vc : Value) : It := .blk d.T (IsBox [str id, .int .i64 size, vf, vu, vr, vc] 62)
abbrev Ad.iL (d : Ad) (n : Int) : It := .blk d.l (IsBox [.int .i64 n] 3)
abbrev Ad.iR (d : Ad) (r : SRow) : It := .blk d.r (IsBox (SRow.enc r) 198)
abbrev rF (A : Option Addr) (c : Nat) (l : List (List UInt8)) : It := .own 9 1 (.slice A l.length c) l.length (l.flatMap strEnc)
abbrev rU (A : Option Addr) (c : Nat) (l : List SFunc) : It := .own 196 3 (.slice A l.length c) l.length (l.flatMap SFunc.enc)
abbrev rR (A : Option Addr) (c : Nat) (l : List SRow) : It := .own 198 3 (.slice A l.length c) l.length (l.flatMap SRow.enc)
abbrev rC (A : Option Addr) (c : Nat) (l : List SCall) : It := .own 200 5 (.slice A l.length c) l.length (l.flatMap SCall.enc)
theorem take_any {w0 : World} {K : HL} (hK : FromK K) (d : Ad) (n : Nat) (s : List UInt8) (ok : Bool) (w : World) (hM0 : Mem w0 ([(901, d.iS s), (902, d.iO ok)] ++ K) w) :
    Calls Tryz.prog 273 #[.int .i64 (n : Int), selfP d.s, selfP d.o] w fun e w' => ∃ z : List UInt8 × List UInt8 × Bool, e = .returned (str z.1) ∧ (PRes (tk n) s ok z.1 z.2.1 z.2.2 ∧ z.1.length ≤ s.length ∧ z.2.1.length ≤ s.length) ∧
      Mem w0 ([(901, d.iS z.2.1), (902, d.iO z.2.2)] ++ K) w' := by
  refine enterM_args (args := [.int .i64 (n : Int), selfP d.s, selfP d.o]) (F := _) hM0 Tryz.func273 rfl Tryz.ntmps273 rfl rfl ?_
  intro Rb hRb hRn
  refine T_seq ?_
  refine T_region ?_
  refine S_ 4 rfl rfl rfl _ (y_assign rfl rfl) ?_
  refine S_go (fun _ _ h => h) ?_
  refine T_seq ?_
  refine T_seq ?_
  refine T_region ?_
  refine S_ 6 rfl rfl rfl _ (y_move rfl rfl) ?_
  refine S_ 7 rfl rfl rfl _ (y_load 901 rfl rfl rfl rfl Tryz.underlying9 rfl) ?_
  refine S_ 8 rfl rfl rfl _ (y_len_str rfl rfl Tryz.underlying9) ?_
  refine S_ 9 rfl rfl rfl _ (y_bin rfl rfl rfl (fun _ => b_gtr)) ?_
  refine S_go (fun _ _ h => h) ?_
  refine T_cond rfl (fun h9 => ?_) (fun h9 => ?_)
  · try simp only [decide_eq_true_eq, decide_eq_false_iff_not, Bool.or_eq_true, Bool.or_eq_false_iff, Bool.and_eq_true, Bool.and_eq_false_iff, Bool.not_eq_true', Bool.not_eq_false', Bool.not_eq_true, Bool.not_eq_false, Bool.not_true, Bool.not_false, Int.not_lt, Int.not_le, not_or, not_and, Classical.not_not] at h9
    refine T_seq ?_
    refine T_region ?_
    refine S_store 902 rfl rfl rfl rfl rfl rfl sz4 rfl rfl ?_
    refine S_go (fun _ _ h => h) ?_
    refine T_region ?_
    refine S_ 10 rfl rfl rfl _ (y_load 901 rfl rfl rfl rfl Tryz.underlying9 rfl) ?_
    refine S_ 11 rfl rfl rfl _ (y_len_str rfl rfl Tryz.underlying9) ?_
    refine S_ 0 rfl rfl rfl _ (y_assign rfl rfl) ?_
    refine S_go (fun _ _ h => h) ?_
    refine T_seq ?_
    refine T_region ?_
    refine S_ 12 rfl rfl rfl _ (y_load 901 rfl rfl rfl rfl Tryz.underlying9 rfl) ?_
    refine S_ 13 rfl rfl rfl _ (y_move rfl rfl) ?_
    refine S_ 14 rfl rfl rfl _ (y_strTo rfl rfl rfl Tryz.underlying9 (fun _ => by omega)) ?_
    refine S_ 5 rfl rfl rfl _ (y_assign rfl rfl) ?_
    refine S_go (fun _ _ h => h) ?_
    refine T_seq ?_
    refine T_region ?_
    refine S_ 15 rfl rfl rfl _ (y_load 901 rfl rfl rfl rfl Tryz.underlying9 rfl) ?_
    refine S_ 16 rfl rfl rfl _ (y_move rfl rfl) ?_
    refine S_ 17 rfl rfl rfl _ (y_strFrom rfl rfl rfl Tryz.underlying9 (fun _ => by omega)) ?_
    refine S_store 901 rfl rfl rfl rfl rfl rfl sz9 rfl rfl ?_
    refine S_go (fun _ _ h => h) ?_
    refine T_seq ?_
    refine T_region ?_
    refine S_ 18 rfl rfl rfl _ (y_move rfl rfl) ?_
    refine S_ 4 rfl rfl rfl _ (y_assign rfl rfl) ?_
    refine S_go (fun _ _ h => h) ?_
    refine T_ret (fun a w hF hM => hRb a w (post1 rfl rfl (fun w hM => ?_) a w hF hM))
    exact ⟨(_, _, false), rfl, ⟨tk_bad (by omega), by simp, by simp⟩, hM.keep (ks := [(0, 999)]) (by repeat (first | exact kl_rest (by assumption) rfl | (apply kl_in; focus rfl))) _ ⟨rfl, rfl, trivial⟩⟩
  · try simp only [decide_eq_true_eq, decide_eq_false_iff_not, Bool.or_eq_true, Bool.or_eq_false_iff, Bool.and_eq_true, Bool.and_eq_false_iff, Bool.not_eq_true', Bool.not_eq_false', Bool.not_eq_true, Bool.not_eq_false, Bool.not_true, Bool.not_false, Int.not_lt, Int.not_le, not_or, not_and, Classical.not_not] at h9
    refine T_skip_go (fun _ _ h => h) ?_
    refine T_seq ?_
    refine T_region ?_
    refine S_ 12 rfl rfl rfl _ (y_load 901 rfl rfl rfl rfl Tryz.underlying9 rfl) ?_
    refine S_ 13 rfl rfl rfl _ (y_move rfl rfl) ?_
    refine S_ 14 rfl rfl rfl _ (y_strTo rfl rfl rfl Tryz.underlying9 (fun _ => by omega)) ?_
    refine S_ 5 rfl rfl rfl _ (y_assign rfl rfl) ?_
    refine S_go (fun _ _ h => h) ?_
    refine T_seq ?_
    refine T_region ?_
    refine S_ 15 rfl rfl rfl _ (y_load 901 rfl rfl rfl rfl Tryz.underlying9 rfl) ?_
    refine S_ 16 rfl rfl rfl _ (y_move rfl rfl) ?_
    refine S_ 17 rfl rfl rfl _ (y_strFrom rfl rfl rfl Tryz.underlying9 (fun _ => by omega)) ?_
    refine S_store 901 rfl rfl rfl rfl rfl rfl sz9 rfl rfl ?_
    refine S_go (fun _ _ h => h) ?_
    refine T_seq ?_
    refine T_region ?_
    refine S_ 18 rfl rfl rfl _ (y_move rfl rfl) ?_
    refine S_ 4 rfl rfl rfl _ (y_assign rfl rfl) ?_
    refine S_go (fun _ _ h => h) ?_
    refine T_ret (fun a w hF hM => hRb a w (post1 rfl rfl (fun w hM => ?_) a w hF hM))
    exact ⟨(s.take n, s.drop n, ok), rfl, ⟨tk_res (by omega), by simp; omega, by simp⟩, hM.keep (ks := [(0, 999)]) (by repeat (first | exact kl_rest (by assumption) rfl | (apply kl_in; focus rfl))) _ ⟨rfl, rfl, trivial⟩⟩
theorem num_any {w0 : World} {K : HL} (hK : FromK K) (d : Ad) (s : List UInt8) (ok : Bool) (w : World) (hM0 : Mem w0 ([(901, d.iS s), (902, d.iO ok), (903, d.iT)] ++ K) w) :
    Calls Tryz.prog 274 #[selfP d.s, selfP d.o, selfP d.t] w fun e w' => ∃ z : Nat × List UInt8 × Bool, e = .returned (.int .i64 (z.1 : Int)) ∧ (PRes nm s ok z.1 z.2.1 z.2.2 ∧ z.2.1.length ≤ s.length ∧ z.1 ≤ 281474976710656) ∧
      Mem w0 ([(901, d.iS z.2.1), (902, d.iO z.2.2), (903, d.iT)] ++ K) w' := by
  cases hr : rd 8 s 0 0 with
  | none =>
    refine enterM_args (args := [selfP d.s, selfP d.o, selfP d.t]) (F := _) hM0 Tryz.func274 rfl Tryz.ntmps274 rfl rfl ?_
    intro Rb hRb hRn
    refine T_seq ?_
    refine T_region ?_
    refine S_ 3 rfl rfl rfl _ (y_assign rfl rfl) ?_
    refine S_go (fun _ _ h => h) ?_
    refine T_seq ?_
    refine T_region ?_
    refine S_ 8 rfl rfl rfl _ (y_load 901 rfl rfl rfl rfl Tryz.underlying9 rfl) ?_
    refine S_ 9 rfl rfl rfl _ (y_as (v' := .tuple #[.int .i64 0, .int .i64 0, .int .i64 8]) (by exact rdV_none hr) (y_call rfl rfl rfl cf275 (fun _ w _ => ReadNumber_any _ w))) ?_
    refine S_ 7 rfl rfl rfl _ (y_move rfl rfl) ?_
    refine S_ 10 rfl rfl rfl _ (y_extract rfl rfl rfl) ?_
    refine S_ 11 rfl rfl rfl _ (y_extract rfl rfl rfl) ?_
    refine S_ 12 rfl rfl rfl _ (y_extract rfl rfl rfl) ?_
    refine S_ 4 rfl rfl rfl _ (y_assign rfl rfl) ?_
    refine S_ 5 rfl rfl rfl _ (y_assign rfl rfl) ?_
    refine S_ 6 rfl rfl rfl _ (y_assign rfl rfl) ?_
    refine S_go (fun _ _ h => h) ?_
    refine T_seq ?_
    refine T_seq ?_
    refine T_region ?_
    refine S_ 13 rfl rfl rfl _ (y_move rfl rfl) ?_
    refine S_ 14 rfl rfl rfl _ (y_bin rfl rfl rfl (fun _ => b_neq)) ?_
    refine S_go (fun _ _ h => h) ?_
    refine T_cond rfl (fun h14 => ?_) (fun h14 => ?_)
    · try simp only [decide_eq_true_eq, decide_eq_false_iff_not, Bool.or_eq_true, Bool.or_eq_false_iff, Bool.and_eq_true, Bool.and_eq_false_iff, Bool.not_eq_true', Bool.not_eq_false', Bool.not_eq_true, Bool.not_eq_false, Bool.not_true, Bool.not_false, Int.not_lt, Int.not_le, not_or, not_and, Classical.not_not] at h14
      refine T_seq ?_
      refine T_region ?_
      refine S_store 902 rfl rfl rfl rfl rfl rfl sz4 rfl rfl ?_
      refine S_go (fun _ _ h => h) ?_
      refine T_seq ?_
      refine T_region ?_
      refine S_ 3 rfl rfl rfl _ (y_assign rfl rfl) ?_
      refine S_go (fun _ _ h => h) ?_
      refine T_ret (fun a w hF hM => hRb a w (post1 rfl rfl (fun w hM => ?_) a w hF hM))
      exact ⟨(0, s, false), rfl, ⟨nm_bad hr, Nat.le_refl _, by simp⟩, hM.keep (ks := [(0, 999)]) (by repeat (first | exact kl_rest (by assumption) rfl | (apply kl_in; focus rfl))) _ ⟨rfl, rfl, rfl, trivial⟩⟩
    · try simp only [decide_eq_true_eq, decide_eq_false_iff_not, Bool.or_eq_true, Bool.or_eq_false_iff, Bool.and_eq_true, Bool.and_eq_false_iff, Bool.not_eq_true', Bool.not_eq_false', Bool.not_eq_true, Bool.not_eq_false, Bool.not_true, Bool.not_false, Int.not_lt, Int.not_le, not_or, not_and, Classical.not_not] at h14
      simp at h14
  | some p =>
    obtain ⟨n, k⟩ := p
    have hb := rd_bounds s 0 0 n k hr
    refine enterM_args (args := [selfP d.s, selfP d.o, selfP d.t]) (F := _) hM0 Tryz.func274 rfl Tryz.ntmps274 rfl rfl ?_
    intro Rb hRb hRn
    refine T_seq ?_
    refine T_region ?_
    refine S_ 3 rfl rfl rfl _ (y_assign rfl rfl) ?_
    refine S_go (fun _ _ h => h) ?_
    refine T_seq ?_
    refine T_region ?_
    refine S_ 8 rfl rfl rfl _ (y_load 901 rfl rfl rfl rfl Tryz.underlying9 rfl) ?_
    refine S_ 9 rfl rfl rfl _ (y_as (v' := .tuple #[.int .i64 n, .int .i64 k, .int .i64 0]) (by exact rdV_some hr) (y_call rfl rfl rfl cf275 (fun _ w _ => ReadNumber_any _ w))) ?_
    refine S_ 7 rfl rfl rfl _ (y_move rfl rfl) ?_
    refine S_ 10 rfl rfl rfl _ (y_extract rfl rfl rfl) ?_
    refine S_ 11 rfl rfl rfl _ (y_extract rfl rfl rfl) ?_
    refine S_ 12 rfl rfl rfl _ (y_extract rfl rfl rfl) ?_
    refine S_ 4 rfl rfl rfl _ (y_assign rfl rfl) ?_
    refine S_ 5 rfl rfl rfl _ (y_assign rfl rfl) ?_
    refine S_ 6 rfl rfl rfl _ (y_assign rfl rfl) ?_
    refine S_go (fun _ _ h => h) ?_
    refine T_seq ?_
    refine T_seq ?_
    refine T_region ?_
    refine S_ 13 rfl rfl rfl _ (y_move rfl rfl) ?_
    refine S_ 14 rfl rfl rfl _ (y_bin rfl rfl rfl (fun _ => b_neq)) ?_
    refine S_go (fun _ _ h => h) ?_
    refine T_cond rfl (fun h14 => ?_) (fun h14 => ?_)
    · try simp only [decide_eq_true_eq, decide_eq_false_iff_not, Bool.or_eq_true, Bool.or_eq_false_iff, Bool.and_eq_true, Bool.and_eq_false_iff, Bool.not_eq_true', Bool.not_eq_false', Bool.not_eq_true, Bool.not_eq_false, Bool.not_true, Bool.not_false, Int.not_lt, Int.not_le, not_or, not_and, Classical.not_not] at h14
      simp at h14
    · try simp only [decide_eq_true_eq, decide_eq_false_iff_not, Bool.or_eq_true, Bool.or_eq_false_iff, Bool.and_eq_true, Bool.and_eq_false_iff, Bool.not_eq_true', Bool.not_eq_false', Bool.not_eq_true, Bool.not_eq_false, Bool.not_true, Bool.not_false, Int.not_lt, Int.not_le, not_or, not_and, Classical.not_not] at h14
      refine T_skip_go (fun _ _ h => h) ?_
      refine T_seq ?_
      refine T_region ?_
      refine S_ 15 rfl rfl rfl _ (y_load 903 rfl rfl rfl rfl Tryz.underlying202 rfl) ?_
      refine S_ 16 rfl rfl rfl _ (y_move rfl rfl) ?_
      refine S_callM 17 [(901, 901), (902, 902)] (X := List UInt8 × List UInt8 × Bool) rfl rfl rfl rfl rfl rfl rfl cf273 rfl (fun z => str z.1) (fun z => PRes (tk (k)) (s) (ok) z.1 z.2.1 z.2.2 ∧ z.1.length ≤ (s).length ∧ z.2.1.length ≤ (s).length) (fun z => [(901, Ad.iS (d) z.2.1), (902, Ad.iO (d) z.2.2)]) (fun _ => rfl) (fun _ => rfl) (fun K1 hK1 w hM => take_any hK1 (d) (k) (s) (ok) w hM) ?_
      rintro ⟨x, s1, ok1⟩ h
      try dsimp only at h
      refine S_go (fun _ _ h => h) ?_
      refine T_seq ?_
      refine T_region ?_
      refine S_ 18 rfl rfl rfl _ (y_move rfl rfl) ?_
      refine S_ 3 rfl rfl rfl _ (y_assign rfl rfl) ?_
      refine S_go (fun _ _ h => h) ?_
      refine T_ret (fun a w hF hM => hRb a w (post1 rfl rfl (fun w hM => ?_) a w hF hM))
      exact ⟨(n, s1, ok1), rfl, ⟨nm_res hr h.1, h.2.2, hb.1⟩, hM.keep (ks := [(0, 999)]) (by repeat (first | exact kl_rest (by assumption) rfl | (apply kl_in; focus rfl))) _ ⟨rfl, rfl, rfl, trivial⟩⟩
theorem sgn_any {w0 : World} {K : HL} (hK : FromK K) (d : Ad) (s : List UInt8) (ok : Bool) (w : World) (hM0 : Mem w0 ([(901, d.iS s), (902, d.iO ok), (903, d.iT), (904, d.iN)] ++ K) w) :
    Calls Tryz.prog 276 #[selfP d.n] w fun e w' => ∃ z : Int × List UInt8 × Bool, e = .returned (.int .i64 z.1) ∧ (PRes sg s ok z.1 z.2.1 z.2.2 ∧ z.2.1.length ≤ s.length) ∧
      Mem w0 ([(901, d.iS z.2.1), (902, d.iO z.2.2), (903, d.iT), (904, d.iN)] ++ K) w' := by
  refine enterM_args (args := [selfP d.n]) (F := _) hM0 Tryz.func276 rfl Tryz.ntmps276 rfl rfl ?_
  intro Rb hRb hRn
  refine T_seq ?_
  refine T_region ?_
  refine S_ 1 rfl rfl rfl _ (y_assign rfl rfl) ?_
  refine S_go (fun _ _ h => h) ?_
  refine T_seq ?_
  refine T_region ?_
  refine S_ 3 rfl rfl rfl _ (y_load 904 rfl rfl rfl rfl Tryz.underlying117 rfl) ?_
  refine S_callM 4 [(901, 901), (902, 902), (903, 903)] (X := Nat × List UInt8 × Bool) rfl rfl rfl rfl rfl rfl rfl cf274 rfl (fun z => .int .i64 (z.1 : Int)) (fun z => PRes nm (s) (ok) z.1 z.2.1 z.2.2 ∧ z.2.1.length ≤ (s).length ∧ z.1 ≤ 281474976710656) (fun z => [(901, Ad.iS (d) z.2.1), (902, Ad.iO (d) z.2.2), (903, Ad.iT (d))]) (fun _ => rfl) (fun _ => rfl) (fun K1 hK1 w hM => num_any hK1 (d) (s) (ok) w hM) ?_
  rintro ⟨n, s1, ok1⟩ h
  try dsimp only at h
  refine S_ 2 rfl rfl rfl _ (y_assign rfl rfl) ?_
  refine S_go (fun _ _ h => h) ?_
  refine T_seq ?_
  refine T_seq ?_
  refine T_region ?_
  refine S_ 5 rfl rfl rfl _ (y_move rfl rfl) ?_
  refine S_ 6 rfl rfl rfl _ (y_bin rfl rfl rfl (fun hg => b_rem (by omega) (by omega) (by omega))) ?_
  refine S_ 7 rfl rfl rfl _ (y_bin rfl rfl rfl (fun _ => b_eql)) ?_
  refine S_go (fun _ _ h => h) ?_
  refine T_cond rfl (fun h7 => ?_) (fun h7 => ?_)
  · try simp only [decide_eq_true_eq, decide_eq_false_iff_not, Bool.or_eq_true, Bool.or_eq_false_iff, Bool.and_eq_true, Bool.and_eq_false_iff, Bool.not_eq_true', Bool.not_eq_false', Bool.not_eq_true, Bool.not_eq_false, Bool.not_true, Bool.not_false, Int.not_lt, Int.not_le, not_or, not_and, Classical.not_not] at h7
    refine T_seq ?_
    refine T_region ?_
    refine S_ 8 rfl rfl rfl _ (y_move rfl rfl) ?_
    refine S_ 9 rfl rfl rfl _ (y_bin rfl rfl rfl (fun hg => b_add (by omega))) ?_
    refine S_ 10 rfl rfl rfl _ (y_neg (-((n : Int) + 1)) rfl rfl (fun hg => by rw [IntWalk.i64_in _ (by omega)]; omega)) ?_
    refine S_ 11 rfl rfl rfl _ (y_bin rfl rfl rfl (fun hg => b_quot (by decide))) ?_
    refine S_ 1 rfl rfl rfl _ (y_assign rfl rfl) ?_
    refine S_go (fun _ _ h => h) ?_
    refine T_ret (fun a w hF hM => hRb a w (post1 rfl rfl (fun w hM => ?_) a w hF hM))
    have e : sgn n = IntKind.i64.wrap ((-((n : Int) + 1)).tdiv 2) := if_pos (by omega)
    exact ⟨(sgn n, s1, ok1), by rw [e], ⟨h.1.map, h.2.1⟩, hM.keep (ks := [(0, 999)]) (by repeat (first | exact kl_rest (by assumption) rfl | (apply kl_in; focus rfl))) _ ⟨rfl, rfl, rfl, rfl, trivial⟩⟩
  · try simp only [decide_eq_true_eq, decide_eq_false_iff_not, Bool.or_eq_true, Bool.or_eq_false_iff, Bool.and_eq_true, Bool.and_eq_false_iff, Bool.not_eq_true', Bool.not_eq_false', Bool.not_eq_true, Bool.not_eq_false, Bool.not_true, Bool.not_false, Int.not_lt, Int.not_le, not_or, not_and, Classical.not_not] at h7
    refine T_skip_go (fun _ _ h => h) ?_
    refine T_seq ?_
    refine T_region ?_
    refine S_ 12 rfl rfl rfl _ (y_move rfl rfl) ?_
    refine S_ 13 rfl rfl rfl _ (y_bin rfl rfl rfl (fun hg => b_quo (by omega) (by omega) (by omega))) ?_
    refine S_ 1 rfl rfl rfl _ (y_assign rfl rfl) ?_
    refine S_go (fun _ _ h => h) ?_
    refine T_ret (fun a w hF hM => hRb a w (post1 rfl rfl (fun w hM => ?_) a w hF hM))
    have e : sgn n = (n : Int) / 2 := if_neg (by omega)
    exact ⟨(sgn n, s1, ok1), by rw [e], ⟨h.1.map, h.2.1⟩, hM.keep (ks := [(0, 999)]) (by repeat (first | exact kl_rest (by assumption) rfl | (apply kl_in; focus rfl))) _ ⟨rfl, rfl, rfl, rfl, trivial⟩⟩
theorem wordc_any {w0 : World} {K : HL} (hK : FromK K) (d : Ad) (s : List UInt8) (ok : Bool) (w : World) (hM0 : Mem w0 ([(901, d.iS s), (902, d.iO ok), (903, d.iT), (904, d.iN)] ++ K) w) :
    Calls Tryz.prog 277 #[selfP d.t, selfP d.n] w fun e w' => ∃ z : List UInt8 × List UInt8 × Bool, e = .returned (str z.1) ∧ (PRes wd s ok z.1 z.2.1 z.2.2 ∧ z.1.length ≤ s.length ∧ z.2.1.length ≤ s.length) ∧
      Mem w0 ([(901, d.iS z.2.1), (902, d.iO z.2.2), (903, d.iT), (904, d.iN)] ++ K) w' := by
  refine enterM_args (args := [selfP d.t, selfP d.n]) (F := _) hM0 Tryz.func277 rfl Tryz.ntmps277 rfl rfl ?_
  intro Rb hRb hRn
  refine T_seq ?_
  refine T_region ?_
  refine S_ 2 rfl rfl rfl _ (y_assign rfl rfl) ?_
  refine S_go (fun _ _ h => h) ?_
  refine T_seq ?_
  refine T_perm [0, 1, 2, 3, 4] [true, true, false, false, true] [0, 0, 2, 7, 15] [(0, [903]), (1, [904])] (by kernel_rfl) (by kernel_rfl) (by kernel_rfl) rfl (by kernel_rfl) ?_
  refine Rf_ 0 3 rfl rfl rfl rfl rfl _ ⟨rfl, trivial⟩ (Y.z (y_load 903 rfl rfl rfl rfl Tryz.underlying202 rfl) rfl) ?_
  refine Rf_ 1 4 rfl rfl rfl rfl rfl _ ⟨rfl, trivial⟩ (Y.z (y_load 904 rfl rfl rfl rfl Tryz.underlying117 rfl) rfl) ?_
  refine R_chain 2 rfl rfl ?_
  refine S_callM 5 [(901, 901), (902, 902), (903, 903)] (X := Nat × List UInt8 × Bool) rfl rfl rfl rfl rfl rfl rfl cf274 rfl (fun z => .int .i64 (z.1 : Int)) (fun z => PRes nm (s) (ok) z.1 z.2.1 z.2.2 ∧ z.2.1.length ≤ (s).length ∧ z.1 ≤ 281474976710656) (fun z => [(901, Ad.iS (d) z.2.1), (902, Ad.iO (d) z.2.2), (903, Ad.iT (d))]) (fun _ => rfl) (fun _ => rfl) (fun K1 hK1 w hM => num_any hK1 (d) (s) (ok) w hM) ?_
  rintro ⟨n, s1, ok1⟩ h
  try dsimp only at h
  refine R_next ⟨.inr ⟨rfl, trivial⟩, .inl rfl, trivial⟩ ?_
  refine R_chain 3 rfl rfl ?_
  refine S_callM 6 [(901, 901), (902, 902)] (X := List UInt8 × List UInt8 × Bool) rfl rfl rfl rfl rfl rfl rfl cf273 rfl (fun z => str z.1) (fun z => PRes (tk (n)) (s1) (ok1) z.1 z.2.1 z.2.2 ∧ z.1.length ≤ (s1).length ∧ z.2.1.length ≤ (s1).length) (fun z => [(901, Ad.iS (d) z.2.1), (902, Ad.iO (d) z.2.2)]) (fun _ => rfl) (fun _ => rfl) (fun K1 hK1 w hM => take_any hK1 (d) (n) (s1) (ok1) w hM) ?_
  rintro ⟨x, s2, ok2⟩ h2
  try dsimp only at h2
  refine R_next ⟨.inl rfl, .inl rfl, trivial⟩ ?_
  refine Rf_ 4 2 rfl rfl rfl rfl rfl _ trivial (Y.z (y_assign rfl rfl) rfl) ?_
  refine R_go (fun _ _ h => h) ?_
  refine T_ret (fun a w hF hM => hRb a w (post1 rfl rfl (fun w hM => ?_) a w hF hM))
  exact ⟨(x, s2, ok2), rfl, ⟨h.1.bnd h2.1, Nat.le_trans h2.2.1 h.2.1, Nat.le_trans h2.2.2 h.2.1⟩, hM.keep (ks := [(0, 999)]) (by repeat (first | exact kl_rest (by assumption) rfl | (apply kl_in; focus rfl))) _ ⟨rfl, rfl, rfl, rfl, trivial⟩⟩
end Go.Proofs.YtkkngcdikbhkjaaGreatDoor
end
