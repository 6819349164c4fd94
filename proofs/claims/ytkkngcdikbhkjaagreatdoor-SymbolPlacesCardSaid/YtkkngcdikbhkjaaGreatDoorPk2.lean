/- Part 2, merged by a program. The checks of calls, of the program and of the reference; the reference's functions. Conditions: those of each theorem. -/
import Derived.Test.YtkkngcdikbhkjaaGreatDoorPk1
namespace Go.Proofs.YtkkngcdikbhkjaaGreatDoor
set_option linter.unusedSimpArgs false
set_option linter.unusedVariables false
set_option maxRecDepth 20000
open Go.RowKit Go.Eng
theorem ContainsFuncF_any (A : Option Addr) (q c : Nat) (l : List SFunc) (g : FuncId) (cap : Array Value) (p : SFunc → Bool) (w : World) (hl : SlT SFunc.enc 3 w A q l) (hq : q ≤ 4611686018427387904) (hA : Asks Tryz.prog SFunc.enc w g cap p) :
    Calls Tryz.prog 254 #[.slice A q c, .func (.func g) #[] cap] w fun e w' => e = .returned (.bool (l.any p)) ∧ Below w.heap.size w w' := by
  rw [← findI_any p l 0 (by omega)]
  refine enter_args (args := [.slice A q c, .func (.func g) #[] cap]) (F := _) Tryz.func254 rfl Tryz.ntmps254 rfl rfl ?_
  intro Rb hRb hRn
  refine T_seq ?_
  refine T_region ?_
  refine S_ 4 rfl rfl rfl _ (y_assign rfl rfl) ?_
  refine S_go (fun _ _ h => h) ?_
  refine T_seq ?_
  refine T_region ?_
  refine S_ 5 rfl rfl rfl _ (y_move rfl rfl) ?_
  refine S_ 6 rfl rfl rfl _ (y_move rfl rfl) ?_
  refine S_ 7 rfl rfl rfl _ (y_call rfl rfl rfl cf168 (fun _ w hM => IndexFuncF_any _ _ _ _ _ _ p w (hl.below hM.below) hq ⟨hA.1, fun x w' hb => hA.2 x w' (hM.below.trans (hb.mono hM.below.size))⟩)) ?_
  refine S_ 8 rfl rfl rfl _ (y_bin rfl rfl rfl (fun _ => b_geq)) ?_
  refine S_ 4 rfl rfl rfl _ (y_assign rfl rfl) ?_
  refine S_go (fun _ _ h => h) ?_
  refine T_ret (fun a w hF hM => hRb a w (post1 rfl rfl (fun w hM => ?_) a w hF hM))
  exact ⟨rfl, hM.below⟩
theorem checkCall1_any (f : SFunc) (ad : Addr) (c : SCall) (w : World) (hb : ad.block < w.heap.size) (h1 : w.cell? (ad.add 1) = some (.int .i64 c.fr)) (h2 : w.cell? (ad.add 2) = some (.int .i64 c.tu)) :
    Calls Tryz.prog 403 #[.agg f.enc.toArray, .pointer (some ad)] w fun e w' => e = .returned (.bool (f.holds c)) ∧ Below w.heap.size w w' := by
  refine enter_args (args := [.agg #[str f.name, .int .i64 f.fr, .int .i64 f.tu], .pointer (some ad)]) (F := _) Tryz.func403 rfl Tryz.ntmps403 rfl rfl ?_
  intro Rb hRb hRn
  refine T_seq ?_
  refine T_region ?_
  refine S_box 2 2 rfl rfl rfl rfl rfl ?_
  intro b2
  refine S_ 3 rfl rfl rfl _ (y_assign rfl rfl) ?_
  refine S_go (fun _ _ h => h) ?_
  refine T_seq ?_
  refine T_region ?_
  refine S_ 4 rfl rfl rfl _ (y_fieldAddr rfl rfl fa196_1) ?_
  refine S_ 5 rfl rfl rfl _ (y_load 2 rfl rfl rfl rfl Tryz.underlying3 rfl) ?_
  refine S_ 6 rfl rfl rfl _ (y_fieldAddr rfl rfl fa200_1) ?_
  refine S_ 7 rfl rfl rfl _ (y_load_far rfl rfl h1 (by rw [block_of_add]; exact hb) Tryz.underlying3 rfl) ?_
  refine S_ 8 rfl rfl rfl _ (y_bin rfl rfl rfl (fun _ => b_leq)) ?_
  refine S_ 9 rfl rfl rfl _ (y_move rfl rfl) ?_
  refine Sg_ 10 rfl rfl rfl rfl rfl rfl _ (y_fieldAddr rfl rfl fa200_2) ?_
  refine Sg_ 11 rfl rfl rfl rfl rfl rfl _ (y_load_far rfl rfl h2 (by rw [block_of_add]; exact hb) Tryz.underlying3 rfl) ?_
  refine Sg_ 12 rfl rfl rfl rfl rfl rfl _ (y_fieldAddr rfl rfl fa196_2) ?_
  refine Sg_ 13 rfl rfl rfl rfl rfl rfl _ (y_load 2 rfl rfl rfl rfl Tryz.underlying3 rfl) ?_
  refine Sg_ 14 rfl rfl rfl rfl rfl rfl _ (y_bin rfl rfl rfl (fun _ => b_leq)) ?_
  refine S_ 15 rfl rfl rfl _ (y_and rfl rfl rfl) ?_
  refine S_ 3 rfl rfl rfl _ (y_assign rfl rfl) ?_
  refine S_go (fun _ _ h => h) ?_
  refine T_ret (fun a w hF hM => hRb a w (post1 rfl rfl (fun w hM => ?_) a w hF hM))
  exact ⟨rfl, hM.below⟩
theorem asks_checkCall {b : Nat} {c : SCall} {w : World} (h1 : w.cell? ⟨b, 1, none⟩ = some (.int .i64 c.fr) ∧ b < w.heap.size) (h2 : w.cell? ⟨b, 2, none⟩ = some (.int .i64 c.tu) ∧ b < w.heap.size) : Asks Tryz.prog SFunc.enc w 403 #[.pointer (some ⟨b, 0, none⟩)] (SFunc.holds c) :=
  ⟨cf403, fun f w' hb => checkCall1_any f ⟨b, 0, none⟩ c w' (Nat.lt_of_lt_of_le h1.2 hb.size) ((hb.cell h1.2).trans h1.1) ((hb.cell h1.2).trans h2.1)⟩
theorem callsFault1_any (f : SFunc) (ad : Addr) (c : SCall) (w : World) (hb : ad.block < w.heap.size) (h1 : w.cell? (ad.add 1) = some (.int .i64 c.fr)) (h2 : w.cell? (ad.add 2) = some (.int .i64 c.tu)) :
    Calls Tryz.prog 255 #[.agg f.enc.toArray, .pointer (some ad)] w fun e w' => e = .returned (.bool (f.holds c)) ∧ Below w.heap.size w w' := by
  refine enter_args (args := [.agg #[str f.name, .int .i64 f.fr, .int .i64 f.tu], .pointer (some ad)]) (F := _) Tryz.func255 rfl Tryz.ntmps255 rfl rfl ?_
  intro Rb hRb hRn
  refine T_seq ?_
  refine T_region ?_
  refine S_box 2 2 rfl rfl rfl rfl rfl ?_
  intro b2
  refine S_ 3 rfl rfl rfl _ (y_assign rfl rfl) ?_
  refine S_go (fun _ _ h => h) ?_
  refine T_seq ?_
  refine T_region ?_
  refine S_ 4 rfl rfl rfl _ (y_fieldAddr rfl rfl fa196_1) ?_
  refine S_ 5 rfl rfl rfl _ (y_load 2 rfl rfl rfl rfl Tryz.underlying3 rfl) ?_
  refine S_ 6 rfl rfl rfl _ (y_fieldAddr rfl rfl fa200_1) ?_
  refine S_ 7 rfl rfl rfl _ (y_load_far rfl rfl h1 (by rw [block_of_add]; exact hb) Tryz.underlying3 rfl) ?_
  refine S_ 8 rfl rfl rfl _ (y_bin rfl rfl rfl (fun _ => b_leq)) ?_
  refine S_ 9 rfl rfl rfl _ (y_move rfl rfl) ?_
  refine Sg_ 10 rfl rfl rfl rfl rfl rfl _ (y_fieldAddr rfl rfl fa200_2) ?_
  refine Sg_ 11 rfl rfl rfl rfl rfl rfl _ (y_load_far rfl rfl h2 (by rw [block_of_add]; exact hb) Tryz.underlying3 rfl) ?_
  refine Sg_ 12 rfl rfl rfl rfl rfl rfl _ (y_fieldAddr rfl rfl fa196_2) ?_
  refine Sg_ 13 rfl rfl rfl rfl rfl rfl _ (y_load 2 rfl rfl rfl rfl Tryz.underlying3 rfl) ?_
  refine Sg_ 14 rfl rfl rfl rfl rfl rfl _ (y_bin rfl rfl rfl (fun _ => b_leq)) ?_
  refine S_ 15 rfl rfl rfl _ (y_and rfl rfl rfl) ?_
  refine S_ 3 rfl rfl rfl _ (y_assign rfl rfl) ?_
  refine S_go (fun _ _ h => h) ?_
  refine T_ret (fun a w hF hM => hRb a w (post1 rfl rfl (fun w hM => ?_) a w hF hM))
  exact ⟨rfl, hM.below⟩
theorem asks_callsFault {b : Nat} {c : SCall} {w : World} (h1 : w.cell? ⟨b, 1, none⟩ = some (.int .i64 c.fr) ∧ b < w.heap.size) (h2 : w.cell? ⟨b, 2, none⟩ = some (.int .i64 c.tu) ∧ b < w.heap.size) : Asks Tryz.prog SFunc.enc w 255 #[.pointer (some ⟨b, 0, none⟩)] (SFunc.holds c) :=
  ⟨cf255, fun f w' hb => callsFault1_any f ⟨b, 0, none⟩ c w' (Nat.lt_of_lt_of_le h1.2 hb.size) ((hb.cell h1.2).trans h1.1) ((hb.cell h1.2).trans h2.1)⟩
theorem checkCall_any (t : Tab) (i : Nat) (c : SCall) (w : World) (hok : t.Ok w) (hi : t.ca.l[i]? = some c) (hiq : i < t.ca.q) :
    Calls Tryz.prog 331 #[.agg #[str t.id, .int .i64 t.size, .slice t.fi.A t.fi.q t.fi.c, .slice t.fu.A t.fu.q t.fu.c, .slice t.ro.A t.ro.q t.ro.c, .slice t.ca.A t.ca.q t.ca.c], .int .i64 i] w fun e w' => e = .returned (.int .i64 (callNo t.fu.l (t.ca.l.take i) c)) ∧ Below w.heap.size w w' := by
  have ht := hok.ca.t
  have hq := hok.small
  have hcap := hok.ca.cap
  have hcut := ht.cut (lo := 0) (hi := i) (fun _ => rfl) (by omega) (by omega) hcap
  have hbe : (t.ca.l.drop 0).take (i - 0) = t.ca.l.take i := by simp
  refine enter_args (args := [.agg #[str t.id, .int .i64 t.size, .slice t.fi.A t.fi.q t.fi.c, .slice t.fu.A t.fu.q t.fu.c, .slice t.ro.A t.ro.q t.ro.c, .slice t.ca.A t.ca.q t.ca.c], .int .i64 i]) (F := _) Tryz.func331 rfl Tryz.ntmps331 rfl rfl ?_
  intro Rb hRb hRn
  refine T_seq ?_
  refine T_region ?_
  refine S_box 2 2 rfl rfl rfl rfl rfl ?_
  intro b2
  refine S_ 4 rfl rfl rfl _ (y_assign rfl rfl) ?_
  refine S_go (fun _ _ h => h) ?_
  refine T_seq ?_
  refine T_region ?_
  refine S_ 9 rfl rfl rfl _ (y_fieldAddr rfl rfl fa62_5) ?_
  refine S_ 10 rfl rfl rfl _ (y_load 2 rfl rfl rfl rfl Tryz.underlying60 rfl) ?_
  refine S_ 11 rfl rfl rfl _ (y_move rfl rfl) ?_
  refine S_ 12 rfl rfl rfl _ (y_indexAddr rfl rfl rfl Tryz.underlying60 sz200 (fun hg => ht.isSome (by omega)) (fun _ => by omega)) ?_
  refine S_ 13 rfl rfl rfl _ (y_loadT rfl rfl ht (fun _ => rfl) (fun _ => hi) Tryz.underlying200 rfl sz200) ?_
  refine S_alloc 5 5 rfl rfl rfl rfl z200 ?_
  intro b5
  refine S_store 5 rfl rfl rfl rfl rfl rfl sz200 rfl rfl ?_
  refine S_go (fun _ _ h => h) ?_
  refine T_seq ?_
  refine T_seq ?_
  refine T_region ?_
  refine S_ 14 rfl rfl rfl _ (y_fieldAddr rfl rfl fa62_3) ?_
  refine S_ 15 rfl rfl rfl _ (y_load 2 rfl rfl rfl rfl Tryz.underlying58 rfl) ?_
  refine S_ 16 rfl rfl rfl _ (y_makeFunc rfl rfl rfl rfl rfl) ?_
  refine S_ 17 rfl rfl rfl _ (y_call rfl rfl rfl cf254 (fun _ w hM => ContainsFuncF_any _ _ _ _ _ _ (SFunc.holds c) w (hok.fu.t.below hM.below) (by omega) (asks_checkCall (hM.box_cell (i := 5) rfl rfl) (hM.box_cell (i := 5) rfl rfl)))) ?_
  refine S_ 18 rfl rfl rfl _ (y_not rfl rfl) ?_
  refine S_go (fun _ _ h => h) ?_
  refine T_cond rfl (fun h18 => ?_) (fun h18 => ?_)
  · skip
    refine T_seq ?_
    refine T_region ?_
    refine S_ 4 rfl rfl rfl _ (y_assign rfl rfl) ?_
    refine S_go (fun _ _ h => h) ?_
    refine T_ret (fun a w hF hM => hRb a w (post1 rfl rfl (fun w hM => ?_) a w hF hM))
    exact ⟨by rw [callNo, if_t h18], hM.below⟩
  · skip
    refine T_skip_go (fun _ _ h => h) ?_
    refine T_seq ?_
    refine T_region ?_
    refine S_ 6 rfl rfl rfl _ (y_assign rfl rfl) ?_
    refine S_go (fun _ _ h => h) ?_
    refine T_seq ?_
    refine T_seq ?_
    refine T_region ?_
    refine S_ 19 rfl rfl rfl _ (y_fieldAddr rfl rfl fa62_5) ?_
    refine S_ 20 rfl rfl rfl _ (y_load 2 rfl rfl rfl rfl Tryz.underlying60 rfl) ?_
    refine S_ 21 rfl rfl rfl _ (y_move rfl rfl) ?_
    refine S_ 22 rfl rfl rfl _ (y_slice rfl rfl Tryz.underlying60 sz200 (.inl ⟨rfl, rfl⟩) (.inr ⟨_, _, rfl, rfl⟩) (by omega) (by omega) hcap) ?_
    refine S_ 23 rfl rfl rfl _ (y_len_slice rfl rfl Tryz.underlying60) ?_
    refine S_ 24 rfl rfl rfl _ (y_move rfl rfl) ?_
    refine S_go (fun _ _ h => h) ?_
    refine T_block ?_
    refine T_loopK2 (kf := [(4, 4), (6, 6), (8, 8), (24, 54)]) (kl := [(4, 4), (6, 6), (8, 8), (24, 54)]) (fun (j : Nat) (deep : Int) => [(24, true, .int .i64 (j : Int)), (6, true, .int .i64 deep)]) (fun (j : Nat) (deep : Int) => []) (fun (j : Nat) (deep : Int) => j ≤ i ∧ nestNo c (t.ca.l.take i) 0 = nestNo c (((t.ca.l.drop 0).take (i - 0)).drop j) deep ∧ 0 ≤ deep ∧ deep ≤ j) (fun (j : Nat) (deep : Int) => i - j) 0 0 (by repeat (first | exact kf_nil | (apply kf_in; focus rfl) | (apply kf_out; focus rfl))) (by repeat (first | exact kl_nil | exact kl_rest (by assumption) rfl | (apply kl_in; focus rfl) | (apply kl_out; focus rfl))) ?_ ?_ ?_ ?_
    · exact ⟨by omega, by rw [hbe]; rfl, by omega, by omega⟩
    · exact ⟨rfl, rfl, trivial⟩
    · exact trivial
    rintro j deep ⟨hp1, hp2, hp3, hp4⟩
    refine T_seq ?_
    refine T_region ?_
    refine S_ 25 rfl rfl rfl _ (y_bin rfl rfl rfl (fun _ => b_lss)) ?_
    refine S_go (fun _ _ h => h) ?_
    refine T_seq ?_
    refine T_cond rfl (fun h25 => ?_) (fun h25 => ?_)
    · try simp only [decide_eq_true_eq, decide_eq_false_iff_not, Bool.or_eq_true, Bool.or_eq_false_iff, Bool.and_eq_true, Bool.and_eq_false_iff, Bool.not_eq_true', Bool.not_eq_false', Bool.not_eq_true, Bool.not_eq_false, Bool.not_true, Bool.not_false, Int.not_lt, Int.not_le, not_or, not_and, Classical.not_not] at h25
      obtain ⟨b, hx1, hx2⟩ := hcut.at (i := j) (by omega)
      refine T_skip_go (fun _ _ h => h) ?_
      refine T_seq ?_
      refine T_block ?_
      refine T_seq ?_
      refine T_region ?_
      refine S_ 26 rfl rfl rfl _ (y_indexAddr rfl rfl rfl Tryz.underlying60 sz200 (fun hg => hcut.isSome (by omega)) (fun _ => by omega)) ?_
      refine S_ 27 rfl rfl rfl _ (y_loadT rfl rfl hcut (fun _ => rfl) (fun _ => hx1) Tryz.underlying200 rfl sz200) ?_
      refine S_alloc 8 8 rfl rfl rfl rfl z200 ?_
      intro b8
      refine S_store 8 rfl rfl rfl rfl rfl rfl sz200 rfl rfl ?_
      refine S_go (fun _ _ h => h) ?_
      refine T_seq ?_
      refine T_seq ?_
      refine T_region ?_
      refine S_ 28 rfl rfl rfl _ (y_fieldAddr rfl rfl fa200_2) ?_
      refine S_ 29 rfl rfl rfl _ (y_load 8 rfl rfl rfl rfl Tryz.underlying3 rfl) ?_
      refine S_ 30 rfl rfl rfl _ (y_fieldAddr rfl rfl fa200_1) ?_
      refine S_ 31 rfl rfl rfl _ (y_load 5 rfl rfl rfl rfl Tryz.underlying3 rfl) ?_
      refine S_ 32 rfl rfl rfl _ (y_bin rfl rfl rfl (fun _ => b_leq)) ?_
      refine S_ 33 rfl rfl rfl _ (y_move rfl rfl) ?_
      refine Sg_ 34 rfl rfl rfl rfl rfl rfl _ (y_fieldAddr rfl rfl fa200_2) ?_
      refine Sg_ 35 rfl rfl rfl rfl rfl rfl _ (y_load 5 rfl rfl rfl rfl Tryz.underlying3 rfl) ?_
      refine Sg_ 36 rfl rfl rfl rfl rfl rfl _ (y_fieldAddr rfl rfl fa200_1) ?_
      refine Sg_ 37 rfl rfl rfl rfl rfl rfl _ (y_load 8 rfl rfl rfl rfl Tryz.underlying3 rfl) ?_
      refine Sg_ 38 rfl rfl rfl rfl rfl rfl _ (y_bin rfl rfl rfl (fun _ => b_leq)) ?_
      refine S_ 39 rfl rfl rfl _ (y_as (v' := .bool (apartB b c)) (by exact rfl) (y_or rfl rfl rfl)) ?_
      refine S_go (fun _ _ h => h) ?_
      refine T_cond rfl (fun h39 => ?_) (fun h39 => ?_)
      · skip
        refine T_exit_go (fun _ _ h => h) ?_
        refine T_region ?_
        refine S_ 54 rfl rfl rfl _ (y_bin rfl rfl rfl (fun hg => b_add (by omega))) ?_
        refine S_ 24 rfl rfl rfl _ (y_move rfl rfl) ?_
        refine S_nil (nextK2 (kf := [(4, 4), (6, 6), (8, 8), (24, 54)]) (kl := [(4, 4), (6, 6), (8, 8), (24, 54)]) (j + 1) deep (by repeat (first | exact kf_nil | (apply kf_in; focus rfl) | (apply kf_out; focus rfl))) (by repeat (first | exact kl_nil | exact kl_rest (by assumption) rfl | (apply kl_in; focus rfl) | (apply kl_out; focus rfl))) ?_ ?_ ?_ ?_)
        · omega
        · exact ⟨by omega, by rw [hp2, hx2, nestNo, if_t h39], by omega, by omega⟩
        · exact ⟨rfl, rfl, trivial⟩
        · exact trivial
      · skip
        refine T_skip_go (fun _ _ h => h) ?_
        refine T_seq ?_
        refine T_seq ?_
        refine T_region ?_
        refine S_ 40 rfl rfl rfl _ (y_fieldAddr rfl rfl fa200_1) ?_
        refine S_ 41 rfl rfl rfl _ (y_load 8 rfl rfl rfl rfl Tryz.underlying3 rfl) ?_
        refine S_ 42 rfl rfl rfl _ (y_fieldAddr rfl rfl fa200_1) ?_
        refine S_ 43 rfl rfl rfl _ (y_load 5 rfl rfl rfl rfl Tryz.underlying3 rfl) ?_
        refine S_ 44 rfl rfl rfl _ (y_bin rfl rfl rfl (fun _ => b_gtr)) ?_
        refine S_ 45 rfl rfl rfl _ (y_move rfl rfl) ?_
        refine Sg_ 46 rfl rfl rfl rfl rfl rfl _ (y_fieldAddr rfl rfl fa200_2) ?_
        refine Sg_ 47 rfl rfl rfl rfl rfl rfl _ (y_load 8 rfl rfl rfl rfl Tryz.underlying3 rfl) ?_
        refine Sg_ 48 rfl rfl rfl rfl rfl rfl _ (y_fieldAddr rfl rfl fa200_2) ?_
        refine Sg_ 49 rfl rfl rfl rfl rfl rfl _ (y_load 5 rfl rfl rfl rfl Tryz.underlying3 rfl) ?_
        refine Sg_ 50 rfl rfl rfl rfl rfl rfl _ (y_bin rfl rfl rfl (fun _ => b_lss)) ?_
        refine S_ 51 rfl rfl rfl _ (y_as (v' := .bool (cutsB b c)) (by exact rfl) (y_or rfl rfl rfl)) ?_
        refine S_go (fun _ _ h => h) ?_
        refine T_cond rfl (fun h51 => ?_) (fun h51 => ?_)
        · skip
          refine T_seq ?_
          refine T_region ?_
          refine S_ 4 rfl rfl rfl _ (y_assign rfl rfl) ?_
          refine S_go (fun _ _ h => h) ?_
          refine T_ret (fun a w hF hM => hRb a w (post1 rfl rfl (fun w hM => ?_) a w hF hM))
          exact ⟨by rw [callNo, if_f h18, hp2, hx2, nestNo, if_f h39, if_t h51], hM.below⟩
        · skip
          refine T_skip_go (fun _ _ h => h) ?_
          refine T_region ?_
          refine S_ 52 rfl rfl rfl _ (y_move rfl rfl) ?_
          refine S_ 53 rfl rfl rfl _ (y_bin rfl rfl rfl (fun hg => b_add (by omega))) ?_
          refine S_ 6 rfl rfl rfl _ (y_assign rfl rfl) ?_
          refine S_go (fun _ _ h => h) ?_
          refine T_region ?_
          refine S_ 54 rfl rfl rfl _ (y_bin rfl rfl rfl (fun hg => b_add (by omega))) ?_
          refine S_ 24 rfl rfl rfl _ (y_move rfl rfl) ?_
          refine S_nil (nextK2 (kf := [(4, 4), (6, 6), (8, 8), (24, 54)]) (kl := [(4, 4), (6, 6), (8, 8), (24, 54)]) (j + 1) (deep + 1) (by repeat (first | exact kf_nil | (apply kf_in; focus rfl) | (apply kf_out; focus rfl))) (by repeat (first | exact kl_nil | exact kl_rest (by assumption) rfl | (apply kl_in; focus rfl) | (apply kl_out; focus rfl))) ?_ ?_ ?_ ?_)
          · omega
          · exact ⟨by omega, by rw [hp2, hx2, nestNo, if_f h39, if_f h51], by omega, by omega⟩
          · exact ⟨rfl, rfl, trivial⟩
          · exact trivial
    · try simp only [decide_eq_true_eq, decide_eq_false_iff_not, Bool.or_eq_true, Bool.or_eq_false_iff, Bool.and_eq_true, Bool.and_eq_false_iff, Bool.not_eq_true', Bool.not_eq_false', Bool.not_eq_true, Bool.not_eq_false, Bool.not_true, Bool.not_false, Int.not_lt, Int.not_le, not_or, not_and, Classical.not_not] at h25
      refine T_exit_go (fun _ _ h => h) ?_
      refine T_seq ?_
      refine T_seq ?_
      refine T_region ?_
      refine S_ 55 rfl rfl rfl _ (y_move rfl rfl) ?_
      refine S_ 56 rfl rfl rfl _ (y_bin rfl rfl rfl (fun _ => b_geq)) ?_
      refine S_go (fun _ _ h => h) ?_
      refine T_cond rfl (fun h56 => ?_) (fun h56 => ?_)
      · try simp only [decide_eq_true_eq, decide_eq_false_iff_not, Bool.or_eq_true, Bool.or_eq_false_iff, Bool.and_eq_true, Bool.and_eq_false_iff, Bool.not_eq_true', Bool.not_eq_false', Bool.not_eq_true, Bool.not_eq_false, Bool.not_true, Bool.not_false, Int.not_lt, Int.not_le, not_or, not_and, Classical.not_not] at h56
        refine T_seq ?_
        refine T_region ?_
        refine S_ 4 rfl rfl rfl _ (y_assign rfl rfl) ?_
        refine S_go (fun _ _ h => h) ?_
        refine T_ret (fun a w hF hM => hRb a w (post1 rfl rfl (fun w hM => ?_) a w hF hM))
        exact ⟨by rw [callNo, if_f h18, hp2, hcut.end (by omega), nestNo, if_pos (by omega)], hM.below⟩
      · try simp only [decide_eq_true_eq, decide_eq_false_iff_not, Bool.or_eq_true, Bool.or_eq_false_iff, Bool.and_eq_true, Bool.and_eq_false_iff, Bool.not_eq_true', Bool.not_eq_false', Bool.not_eq_true, Bool.not_eq_false, Bool.not_true, Bool.not_false, Int.not_lt, Int.not_le, not_or, not_and, Classical.not_not] at h56
        refine T_skip_go (fun _ _ h => h) ?_
        refine T_seq ?_
        refine T_region ?_
        refine S_ 4 rfl rfl rfl _ (y_assign rfl rfl) ?_
        refine S_go (fun _ _ h => h) ?_
        refine T_ret (fun a w hF hM => hRb a w (post1 rfl rfl (fun w hM => ?_) a w hF hM))
        exact ⟨by rw [callNo, if_f h18, hp2, hcut.end (by omega), nestNo, if_neg (by omega)], hM.below⟩
theorem late0 {size nf : Int} {c : SCall} (h : callBad size nf c = false) : callLate call0 c = false := by
  simp only [callBad, spanBad, outB, Bool.or_eq_false_iff, decide_eq_false_iff_not] at h
  show (decide (c.fr < -1) || (decide (c.fr = -1) && decide (-1 < c.tu))) = false
  simp only [Bool.or_eq_false_iff, Bool.and_eq_false_iff, decide_eq_false_iff_not]
  omega
theorem checkCalls_any (t : Tab) (w : World) (hok : t.Ok w) (hz : 1 ≤ t.size ∧ t.size ≤ 4294967296) :
    Calls Tryz.prog 261 #[.agg #[str t.id, .int .i64 t.size, .slice t.fi.A t.fi.q t.fi.c, .slice t.fu.A t.fu.q t.fu.c, .slice t.ro.A t.ro.q t.ro.c, .slice t.ca.A t.ca.q t.ca.c]] w fun e w' => e = .returned (.int .i64 (if (1000 : Int) < t.ca.q then 4 else callsNo t.size t.fi.q t.fu.l [] t.ca.l call0)) ∧ Below w.heap.size w w' := by
  have ht := hok.ca.t
  have hq := hok.small
  refine enter_args (args := [.agg #[str t.id, .int .i64 t.size, .slice t.fi.A t.fi.q t.fi.c, .slice t.fu.A t.fu.q t.fu.c, .slice t.ro.A t.ro.q t.ro.c, .slice t.ca.A t.ca.q t.ca.c]]) (F := _) Tryz.func261 rfl Tryz.ntmps261 rfl rfl ?_
  intro Rb hRb hRn
  refine T_seq ?_
  refine T_region ?_
  refine S_box 1 1 rfl rfl rfl rfl rfl ?_
  intro b1
  refine S_ 2 rfl rfl rfl _ (y_assign rfl rfl) ?_
  refine S_go (fun _ _ h => h) ?_
  refine T_seq ?_
  refine T_seq ?_
  refine T_region ?_
  refine S_ 8 rfl rfl rfl _ (y_fieldAddr rfl rfl fa62_5) ?_
  refine S_ 9 rfl rfl rfl _ (y_load 1 rfl rfl rfl rfl Tryz.underlying60 rfl) ?_
  refine S_ 10 rfl rfl rfl _ (y_len_slice rfl rfl Tryz.underlying60) ?_
  refine S_ 11 rfl rfl rfl _ (y_bin rfl rfl rfl (fun _ => b_gtr)) ?_
  refine S_go (fun _ _ h => h) ?_
  refine T_cond rfl (fun h11 => ?_) (fun h11 => ?_)
  · try simp only [decide_eq_true_eq, decide_eq_false_iff_not, Bool.or_eq_true, Bool.or_eq_false_iff, Bool.and_eq_true, Bool.and_eq_false_iff, Bool.not_eq_true', Bool.not_eq_false', Bool.not_eq_true, Bool.not_eq_false, Bool.not_true, Bool.not_false, Int.not_lt, Int.not_le, not_or, not_and, Classical.not_not] at h11
    refine T_seq ?_
    refine T_region ?_
    refine S_ 2 rfl rfl rfl _ (y_assign rfl rfl) ?_
    refine S_go (fun _ _ h => h) ?_
    refine T_ret (fun a w hF hM => hRb a w (post1 rfl rfl (fun w hM => ?_) a w hF hM))
    exact ⟨by rw [if_pos (by omega)], hM.below⟩
  · try simp only [decide_eq_true_eq, decide_eq_false_iff_not, Bool.or_eq_true, Bool.or_eq_false_iff, Bool.and_eq_true, Bool.and_eq_false_iff, Bool.not_eq_true', Bool.not_eq_false', Bool.not_eq_true, Bool.not_eq_false, Bool.not_true, Bool.not_false, Int.not_lt, Int.not_le, not_or, not_and, Classical.not_not] at h11
    refine T_skip_go (fun _ _ h => h) ?_
    refine T_seq ?_
    refine T_seq ?_
    refine T_region ?_
    refine S_ 12 rfl rfl rfl _ (y_fieldAddr rfl rfl fa62_5) ?_
    refine S_ 13 rfl rfl rfl _ (y_load 1 rfl rfl rfl rfl Tryz.underlying60 rfl) ?_
    refine S_ 14 rfl rfl rfl _ (y_len_slice rfl rfl Tryz.underlying60) ?_
    refine S_ 15 rfl rfl rfl _ (y_move rfl rfl) ?_
    refine S_go (fun _ _ h => h) ?_
    refine T_block ?_
    refine T_loopK2 (kf := [(2, 7), (15, 89)]) (kl := [(2, 7), (15, 89)]) (fun (i : Nat) (b : SCall) => [(15, true, .int .i64 (i : Int))]) (fun (i : Nat) (b : SCall) => []) (fun (i : Nat) (b : SCall) => i ≤ t.ca.q ∧ callsNo t.size t.fi.q t.fu.l [] t.ca.l call0 = callsNo t.size t.fi.q t.fu.l (t.ca.l.take i) (t.ca.l.drop i) b ∧ (0 < i → t.ca.l[i - 1]? = some b) ∧ (i = 0 → b = call0)) (fun (i : Nat) (b : SCall) => t.ca.q - i) 0 call0 (by repeat (first | exact kf_nil | (apply kf_in; focus rfl) | (apply kf_out; focus rfl))) (by repeat (first | exact kl_nil | exact kl_rest (by assumption) rfl | (apply kl_in; focus rfl) | (apply kl_out; focus rfl))) ?_ ?_ ?_ ?_
    · exact ⟨by omega, rfl, by omega, fun _ => rfl⟩
    · exact ⟨rfl, trivial⟩
    · exact trivial
    rintro i b ⟨hp1, hp2, hp3, hp4⟩
    refine T_seq ?_
    refine T_region ?_
    refine S_ 16 rfl rfl rfl _ (y_bin rfl rfl rfl (fun _ => b_lss)) ?_
    refine S_go (fun _ _ h => h) ?_
    refine T_seq ?_
    refine T_cond rfl (fun h16 => ?_) (fun h16 => ?_)
    · try simp only [decide_eq_true_eq, decide_eq_false_iff_not, Bool.or_eq_true, Bool.or_eq_false_iff, Bool.and_eq_true, Bool.and_eq_false_iff, Bool.not_eq_true', Bool.not_eq_false', Bool.not_eq_true, Bool.not_eq_false, Bool.not_true, Bool.not_false, Int.not_lt, Int.not_le, not_or, not_and, Classical.not_not] at h16
      obtain ⟨c, hx1, hx2⟩ := ht.at (i := i) (by omega)
      have hn1 := hok.names.2.2 c (mem_at hx1)
      refine T_skip_go (fun _ _ h => h) ?_
      refine T_seq ?_
      refine T_block ?_
      refine T_seq ?_
      refine T_region ?_
      refine S_ 17 rfl rfl rfl _ (y_move rfl rfl) ?_
      refine S_ 18 rfl rfl rfl _ (y_indexAddr rfl rfl rfl Tryz.underlying60 sz200 (fun hg => ht.isSome (by omega)) (fun _ => by omega)) ?_
      refine S_ 19 rfl rfl rfl _ (y_loadT rfl rfl ht (fun _ => rfl) (fun _ => hx1) Tryz.underlying200 rfl sz200) ?_
      refine S_alloc 4 4 rfl rfl rfl rfl z200 ?_
      intro b4
      refine S_ 3 rfl rfl rfl _ (y_assign rfl rfl) ?_
      refine S_store 4 rfl rfl rfl rfl rfl rfl sz200 rfl rfl ?_
      refine S_go (fun _ _ h => h) ?_
      refine T_seq ?_
      refine T_seq ?_
      refine T_region ?_
      refine S_ 20 rfl rfl rfl _ (y_fieldAddr rfl rfl fa200_0) ?_
      refine S_ 21 rfl rfl rfl _ (y_load 4 rfl rfl rfl rfl Tryz.underlying9 rfl) ?_
      refine S_ 22 rfl rfl rfl _ (y_call rfl rfl rfl cf330 (fun _ w _ => checkName_any _ (by omega) w)) ?_
      refine S_ 5 rfl rfl rfl _ (y_assign rfl rfl) ?_
      refine S_go (fun _ _ h => h) ?_
      refine T_seq ?_
      refine T_region ?_
      refine S_ 23 rfl rfl rfl _ (y_move rfl rfl) ?_
      refine S_ 24 rfl rfl rfl _ (y_bin rfl rfl rfl (fun _ => b_neq)) ?_
      refine S_go (fun _ _ h => h) ?_
      refine T_cond rfl (fun h24 => ?_) (fun h24 => ?_)
      · try simp only [decide_eq_true_eq, decide_eq_false_iff_not, Bool.or_eq_true, Bool.or_eq_false_iff, Bool.and_eq_true, Bool.and_eq_false_iff, Bool.not_eq_true', Bool.not_eq_false', Bool.not_eq_true, Bool.not_eq_false, Bool.not_true, Bool.not_false, Int.not_lt, Int.not_le, not_or, not_and, Classical.not_not] at h24
        refine T_seq ?_
        refine T_region ?_
        refine S_ 25 rfl rfl rfl _ (y_move rfl rfl) ?_
        refine S_ 2 rfl rfl rfl _ (y_assign rfl rfl) ?_
        refine S_go (fun _ _ h => h) ?_
        refine T_ret (fun a w hF hM => hRb a w (post1 rfl rfl (fun w hM => ?_) a w hF hM))
        exact ⟨by rw [if_neg (by omega), hp2, hx2, callsNo, if_pos h24], hM.below⟩
      · try simp only [decide_eq_true_eq, decide_eq_false_iff_not, Bool.or_eq_true, Bool.or_eq_false_iff, Bool.and_eq_true, Bool.and_eq_false_iff, Bool.not_eq_true', Bool.not_eq_false', Bool.not_eq_true, Bool.not_eq_false, Bool.not_true, Bool.not_false, Int.not_lt, Int.not_le, not_or, not_and, Classical.not_not] at h24
        refine T_skip_go (fun _ _ h => h) ?_
        refine T_seq ?_
        refine T_seq ?_
        refine T_region ?_
        refine S_ 26 rfl rfl rfl _ (y_fieldAddr rfl rfl fa200_1) ?_
        refine S_ 27 rfl rfl rfl _ (y_load 4 rfl rfl rfl rfl Tryz.underlying3 rfl) ?_
        refine S_ 28 rfl rfl rfl _ (y_fieldAddr rfl rfl fa62_1) ?_
        refine S_ 29 rfl rfl rfl _ (y_load 1 rfl rfl rfl rfl Tryz.underlying3 rfl) ?_
        refine S_ 30 rfl rfl rfl _ (y_bin rfl rfl rfl (fun hg => b_sub (by omega))) ?_
        refine S_ 31 rfl rfl rfl _ (y_call rfl rfl rfl cf166 (fun _ w _ => outsideB_any _ _ _ w)) ?_
        refine S_ 32 rfl rfl rfl _ (y_move rfl rfl) ?_
        refine Sg_ 33 rfl rfl rfl rfl rfl rfl _ (y_fieldAddr rfl rfl fa200_2) ?_
        refine Sg_ 34 rfl rfl rfl rfl rfl rfl _ (y_load 4 rfl rfl rfl rfl Tryz.underlying3 rfl) ?_
        refine Sg_ 35 rfl rfl rfl rfl rfl rfl _ (y_fieldAddr rfl rfl fa200_1) ?_
        refine Sg_ 36 rfl rfl rfl rfl rfl rfl _ (y_load 4 rfl rfl rfl rfl Tryz.underlying3 rfl) ?_
        refine Sg_ 37 rfl rfl rfl rfl rfl rfl _ (y_bin rfl rfl rfl (fun hg => b_add (by simp only [outB, spanBad, Bool.true_and, Bool.and_eq_true, beq_iff_eq, Bool.or_eq_false_iff, Bool.or_eq_true, decide_eq_false_iff_not, decide_eq_true_eq, Int.not_lt] at hg; omega))) ?_
        refine Sg_ 38 rfl rfl rfl rfl rfl rfl _ (y_fieldAddr rfl rfl fa62_1) ?_
        refine Sg_ 39 rfl rfl rfl rfl rfl rfl _ (y_load 1 rfl rfl rfl rfl Tryz.underlying3 rfl) ?_
        refine Sg_ 40 rfl rfl rfl rfl rfl rfl _ (y_call rfl rfl rfl cf166 (fun _ w _ => outsideB_any _ _ _ w)) ?_
        refine S_ 41 rfl rfl rfl _ (y_or rfl rfl rfl) ?_
        refine S_ 42 rfl rfl rfl _ (y_move rfl rfl) ?_
        refine Sg_ 43 rfl rfl rfl rfl rfl rfl _ (y_fieldAddr rfl rfl fa200_3) ?_
        refine Sg_ 44 rfl rfl rfl rfl rfl rfl _ (y_load 4 rfl rfl rfl rfl Tryz.underlying3 rfl) ?_
        refine Sg_ 45 rfl rfl rfl rfl rfl rfl _ (y_fieldAddr rfl rfl fa62_2) ?_
        refine Sg_ 46 rfl rfl rfl rfl rfl rfl _ (y_load 1 rfl rfl rfl rfl Tryz.underlying57 rfl) ?_
        refine Sg_ 47 rfl rfl rfl rfl rfl rfl _ (y_len_slice rfl rfl Tryz.underlying57) ?_
        refine Sg_ 48 rfl rfl rfl rfl rfl rfl _ (y_bin rfl rfl rfl (fun hg => b_sub (by simp only [Bool.true_and, Bool.and_eq_true, beq_iff_eq, decide_eq_true_eq, decide_eq_false_iff_not, Int.not_lt, Int.not_le] at hg; omega))) ?_
        refine Sg_ 49 rfl rfl rfl rfl rfl rfl _ (y_call rfl rfl rfl cf166 (fun _ w _ => outsideB_any _ _ _ w)) ?_
        refine S_ 50 rfl rfl rfl _ (y_or rfl rfl rfl) ?_
        refine S_ 51 rfl rfl rfl _ (y_move rfl rfl) ?_
        refine Sg_ 52 rfl rfl rfl rfl rfl rfl _ (y_fieldAddr rfl rfl fa200_4) ?_
        refine Sg_ 53 rfl rfl rfl rfl rfl rfl _ (y_load 4 rfl rfl rfl rfl Tryz.underlying3 rfl) ?_
        refine Sg_ 54 rfl rfl rfl rfl rfl rfl _ (y_call rfl rfl rfl cf166 (fun _ w _ => outsideB_any _ _ _ w)) ?_
        refine S_ 55 rfl rfl rfl _ (y_as (v' := .bool (callBad t.size t.fi.q c)) (by exact rfl) (y_or rfl rfl rfl)) ?_
        refine S_go (fun _ _ h => h) ?_
        refine T_cond rfl (fun h55 => ?_) (fun h55 => ?_)
        · skip
          refine T_seq ?_
          refine T_region ?_
          refine S_ 2 rfl rfl rfl _ (y_assign rfl rfl) ?_
          refine S_go (fun _ _ h => h) ?_
          refine T_ret (fun a w hF hM => hRb a w (post1 rfl rfl (fun w hM => ?_) a w hF hM))
          exact ⟨by rw [if_neg (by omega), hp2, hx2, callsNo, if_neg (by simpa using h24), if_t h55], hM.below⟩
        · skip
          refine T_skip_go (fun _ _ h => h) ?_
          refine T_seq ?_
          refine T_seq ?_
          refine T_region ?_
          refine S_ 56 rfl rfl rfl _ (y_move rfl rfl) ?_
          refine S_ 57 rfl rfl rfl _ (y_bin rfl rfl rfl (fun _ => b_gtr)) ?_
          refine S_go (fun _ _ h => h) ?_
          refine T_cond rfl (fun h57 => ?_) (fun h57 => ?_)
          · try simp only [decide_eq_true_eq, decide_eq_false_iff_not, Bool.or_eq_true, Bool.or_eq_false_iff, Bool.and_eq_true, Bool.and_eq_false_iff, Bool.not_eq_true', Bool.not_eq_false', Bool.not_eq_true, Bool.not_eq_false, Bool.not_true, Bool.not_false, Int.not_lt, Int.not_le, not_or, not_and, Classical.not_not] at h57
            refine T_seq ?_
            refine T_region ?_
            refine S_ 58 rfl rfl rfl _ (y_fieldAddr rfl rfl fa62_5) ?_
            refine S_ 59 rfl rfl rfl _ (y_load 1 rfl rfl rfl rfl Tryz.underlying60 rfl) ?_
            refine S_ 60 rfl rfl rfl _ (y_move rfl rfl) ?_
            refine S_ 61 rfl rfl rfl _ (y_bin rfl rfl rfl (fun hg => b_subv (((i - 1 : Nat) : Int)) (by omega) (by omega))) ?_
            refine S_ 62 rfl rfl rfl _ (y_indexAddr rfl rfl rfl Tryz.underlying60 sz200 (fun hg => ht.isSome (by omega)) (fun _ => by omega)) ?_
            refine S_ 63 rfl rfl rfl _ (y_loadT rfl rfl ht (fun _ => rfl) (fun _ => hp3 (by omega)) Tryz.underlying200 rfl sz200) ?_
            refine S_alloc 6 6 rfl rfl rfl rfl z200 ?_
            intro b6
            refine S_store 6 rfl rfl rfl rfl rfl rfl sz200 rfl rfl ?_
            refine S_go (fun _ _ h => h) ?_
            refine T_seq ?_
            refine T_region ?_
            refine S_ 64 rfl rfl rfl _ (y_fieldAddr rfl rfl fa200_1) ?_
            refine S_ 65 rfl rfl rfl _ (y_load 4 rfl rfl rfl rfl Tryz.underlying3 rfl) ?_
            refine S_ 66 rfl rfl rfl _ (y_fieldAddr rfl rfl fa200_1) ?_
            refine S_ 67 rfl rfl rfl _ (y_load 6 rfl rfl rfl rfl Tryz.underlying3 rfl) ?_
            refine S_ 68 rfl rfl rfl _ (y_bin rfl rfl rfl (fun _ => b_lss)) ?_
            refine S_ 69 rfl rfl rfl _ (y_move rfl rfl) ?_
            refine Sg_ 70 rfl rfl rfl rfl rfl rfl _ (y_fieldAddr rfl rfl fa200_1) ?_
            refine Sg_ 71 rfl rfl rfl rfl rfl rfl _ (y_load 4 rfl rfl rfl rfl Tryz.underlying3 rfl) ?_
            refine Sg_ 72 rfl rfl rfl rfl rfl rfl _ (y_fieldAddr rfl rfl fa200_1) ?_
            refine Sg_ 73 rfl rfl rfl rfl rfl rfl _ (y_load 6 rfl rfl rfl rfl Tryz.underlying3 rfl) ?_
            refine Sg_ 74 rfl rfl rfl rfl rfl rfl _ (y_bin rfl rfl rfl (fun _ => b_eql)) ?_
            refine Sg_ 75 rfl rfl rfl rfl rfl rfl _ (y_move rfl rfl) ?_
            refine Sg_ 76 rfl rfl rfl rfl rfl rfl _ (y_fieldAddr rfl rfl fa200_2) ?_
            refine Sg_ 77 rfl rfl rfl rfl rfl rfl _ (y_load 4 rfl rfl rfl rfl Tryz.underlying3 rfl) ?_
            refine Sg_ 78 rfl rfl rfl rfl rfl rfl _ (y_fieldAddr rfl rfl fa200_2) ?_
            refine Sg_ 79 rfl rfl rfl rfl rfl rfl _ (y_load 6 rfl rfl rfl rfl Tryz.underlying3 rfl) ?_
            refine Sg_ 80 rfl rfl rfl rfl rfl rfl _ (y_bin rfl rfl rfl (fun _ => b_gtr)) ?_
            refine Sg_ 81 rfl rfl rfl rfl rfl rfl _ (y_and rfl rfl rfl) ?_
            refine S_ 82 rfl rfl rfl _ (y_as (v' := .bool (callLate b c)) (by exact rfl) (y_or rfl rfl rfl)) ?_
            refine S_go (fun _ _ h => h) ?_
            refine T_cond rfl (fun h82 => ?_) (fun h82 => ?_)
            · skip
              refine T_seq ?_
              refine T_region ?_
              refine S_ 2 rfl rfl rfl _ (y_assign rfl rfl) ?_
              refine S_go (fun _ _ h => h) ?_
              refine T_ret (fun a w hF hM => hRb a w (post1 rfl rfl (fun w hM => ?_) a w hF hM))
              exact ⟨by rw [if_neg (by omega), hp2, hx2, callsNo, if_neg (by simpa using h24), if_f h55, if_t h82], hM.below⟩
            · skip
              refine T_skip_go (fun _ _ h => h) ?_
              refine T_seq ?_
              refine T_region ?_
              refine S_ 83 rfl rfl rfl _ (y_loadA 1 rfl rfl rfl Tryz.underlying62 rfl sz62) ?_
              refine S_ 84 rfl rfl rfl _ (y_move rfl rfl) ?_
              refine S_ 85 rfl rfl rfl _ (y_call rfl rfl rfl cf331 (fun _ w hM => checkCall_any t i c w (hok.below hM.below) hx1 (by omega))) ?_
              refine S_ 7 rfl rfl rfl _ (y_assign rfl rfl) ?_
              refine S_go (fun _ _ h => h) ?_
              refine T_seq ?_
              refine T_region ?_
              refine S_ 86 rfl rfl rfl _ (y_move rfl rfl) ?_
              refine S_ 87 rfl rfl rfl _ (y_bin rfl rfl rfl (fun _ => b_neq)) ?_
              refine S_go (fun _ _ h => h) ?_
              refine T_cond rfl (fun h87 => ?_) (fun h87 => ?_)
              · try simp only [decide_eq_true_eq, decide_eq_false_iff_not, Bool.or_eq_true, Bool.or_eq_false_iff, Bool.and_eq_true, Bool.and_eq_false_iff, Bool.not_eq_true', Bool.not_eq_false', Bool.not_eq_true, Bool.not_eq_false, Bool.not_true, Bool.not_false, Int.not_lt, Int.not_le, not_or, not_and, Classical.not_not] at h87
                refine T_seq ?_
                refine T_region ?_
                refine S_ 88 rfl rfl rfl _ (y_move rfl rfl) ?_
                refine S_ 2 rfl rfl rfl _ (y_assign rfl rfl) ?_
                refine S_go (fun _ _ h => h) ?_
                refine T_ret (fun a w hF hM => hRb a w (post1 rfl rfl (fun w hM => ?_) a w hF hM))
                exact ⟨by rw [if_neg (by omega), hp2, hx2, callsNo, if_neg (by simpa using h24), if_f h55, if_f h82, if_pos h87], hM.below⟩
              · try simp only [decide_eq_true_eq, decide_eq_false_iff_not, Bool.or_eq_true, Bool.or_eq_false_iff, Bool.and_eq_true, Bool.and_eq_false_iff, Bool.not_eq_true', Bool.not_eq_false', Bool.not_eq_true, Bool.not_eq_false, Bool.not_true, Bool.not_false, Int.not_lt, Int.not_le, not_or, not_and, Classical.not_not] at h87
                refine T_skip_go (fun _ _ h => h) ?_
                refine T_region ?_
                refine S_ 89 rfl rfl rfl _ (y_bin rfl rfl rfl (fun hg => b_add (by omega))) ?_
                refine S_ 15 rfl rfl rfl _ (y_move rfl rfl) ?_
                refine S_nil (nextK2 (kf := [(2, 7), (15, 89)]) (kl := [(2, 7), (15, 89)]) (i + 1) c (by repeat (first | exact kf_nil | (apply kf_in; focus rfl) | (apply kf_out; focus rfl))) (by repeat (first | exact kl_nil | exact kl_rest (by assumption) rfl | (apply kl_in; focus rfl) | (apply kl_out; focus rfl))) ?_ ?_ ?_ ?_)
                · omega
                · exact ⟨by omega, by rw [hp2, hx2, callsNo, if_neg (by simpa using h24), if_f h55, if_f h82, if_neg (by simpa using h87), take_succ_at hx1], fun _ => hx1, by omega⟩
                · exact ⟨rfl, trivial⟩
                · exact trivial
          · try simp only [decide_eq_true_eq, decide_eq_false_iff_not, Bool.or_eq_true, Bool.or_eq_false_iff, Bool.and_eq_true, Bool.and_eq_false_iff, Bool.not_eq_true', Bool.not_eq_false', Bool.not_eq_true, Bool.not_eq_false, Bool.not_true, Bool.not_false, Int.not_lt, Int.not_le, not_or, not_and, Classical.not_not] at h57
            have h82 : callLate b c = false := by rw [hp4 (by omega)]; exact late0 h55
            refine T_skip_go (fun _ _ h => h) ?_
            refine T_seq ?_
            refine T_region ?_
            refine S_ 83 rfl rfl rfl _ (y_loadA 1 rfl rfl rfl Tryz.underlying62 rfl sz62) ?_
            refine S_ 84 rfl rfl rfl _ (y_move rfl rfl) ?_
            refine S_ 85 rfl rfl rfl _ (y_call rfl rfl rfl cf331 (fun _ w hM => checkCall_any t i c w (hok.below hM.below) hx1 (by omega))) ?_
            refine S_ 7 rfl rfl rfl _ (y_assign rfl rfl) ?_
            refine S_go (fun _ _ h => h) ?_
            refine T_seq ?_
            refine T_region ?_
            refine S_ 86 rfl rfl rfl _ (y_move rfl rfl) ?_
            refine S_ 87 rfl rfl rfl _ (y_bin rfl rfl rfl (fun _ => b_neq)) ?_
            refine S_go (fun _ _ h => h) ?_
            refine T_cond rfl (fun h87 => ?_) (fun h87 => ?_)
            · try simp only [decide_eq_true_eq, decide_eq_false_iff_not, Bool.or_eq_true, Bool.or_eq_false_iff, Bool.and_eq_true, Bool.and_eq_false_iff, Bool.not_eq_true', Bool.not_eq_false', Bool.not_eq_true, Bool.not_eq_false, Bool.not_true, Bool.not_false, Int.not_lt, Int.not_le, not_or, not_and, Classical.not_not] at h87
              refine T_seq ?_
              refine T_region ?_
              refine S_ 88 rfl rfl rfl _ (y_move rfl rfl) ?_
              refine S_ 2 rfl rfl rfl _ (y_assign rfl rfl) ?_
              refine S_go (fun _ _ h => h) ?_
              refine T_ret (fun a w hF hM => hRb a w (post1 rfl rfl (fun w hM => ?_) a w hF hM))
              exact ⟨by rw [if_neg (by omega), hp2, hx2, callsNo, if_neg (by simpa using h24), if_f h55, if_f h82, if_pos h87], hM.below⟩
            · try simp only [decide_eq_true_eq, decide_eq_false_iff_not, Bool.or_eq_true, Bool.or_eq_false_iff, Bool.and_eq_true, Bool.and_eq_false_iff, Bool.not_eq_true', Bool.not_eq_false', Bool.not_eq_true, Bool.not_eq_false, Bool.not_true, Bool.not_false, Int.not_lt, Int.not_le, not_or, not_and, Classical.not_not] at h87
              refine T_skip_go (fun _ _ h => h) ?_
              refine T_region ?_
              refine S_ 89 rfl rfl rfl _ (y_bin rfl rfl rfl (fun hg => b_add (by omega))) ?_
              refine S_ 15 rfl rfl rfl _ (y_move rfl rfl) ?_
              refine S_nil (nextK2 (kf := [(2, 7), (15, 89)]) (kl := [(2, 7), (15, 89)]) (i + 1) c (by repeat (first | exact kf_nil | (apply kf_in; focus rfl) | (apply kf_out; focus rfl))) (by repeat (first | exact kl_nil | exact kl_rest (by assumption) rfl | (apply kl_in; focus rfl) | (apply kl_out; focus rfl))) ?_ ?_ ?_ ?_)
              · omega
              · exact ⟨by omega, by rw [hp2, hx2, callsNo, if_neg (by simpa using h24), if_f h55, if_f h82, if_neg (by simpa using h87), take_succ_at hx1], fun _ => hx1, by omega⟩
              · exact ⟨rfl, trivial⟩
              · exact trivial
    · try simp only [decide_eq_true_eq, decide_eq_false_iff_not, Bool.or_eq_true, Bool.or_eq_false_iff, Bool.and_eq_true, Bool.and_eq_false_iff, Bool.not_eq_true', Bool.not_eq_false', Bool.not_eq_true, Bool.not_eq_false, Bool.not_true, Bool.not_false, Int.not_lt, Int.not_le, not_or, not_and, Classical.not_not] at h16
      refine T_exit_go (fun _ _ h => h) ?_
      refine T_seq ?_
      refine T_region ?_
      refine S_ 2 rfl rfl rfl _ (y_assign rfl rfl) ?_
      refine S_go (fun _ _ h => h) ?_
      refine T_ret (fun a w hF hM => hRb a w (post1 rfl rfl (fun w hM => ?_) a w hF hM))
      exact ⟨by rw [if_neg (by omega), hp2, ht.end (by omega)]; rfl, hM.below⟩
theorem size_of_out {n : Int} (h : outB n 1 4294967296 = false) : 1 ≤ n ∧ n ≤ 4294967296 := by
  simp only [outB, Bool.or_eq_false_iff, decide_eq_false_iff_not] at h; omega
theorem CheckTable_any (t : Tab) (w : World) (hok : t.Ok w) :
    Calls Tryz.prog 123 #[.agg #[str t.id, .int .i64 t.size, .slice t.fi.A t.fi.q t.fi.c, .slice t.fu.A t.fu.q t.fu.c, .slice t.ro.A t.ro.q t.ro.c, .slice t.ca.A t.ca.q t.ca.c]] w fun e w' => e = .returned (.int .i64 (tabNo t)) ∧ Below w.heap.size w w' := by
  have hq := hok.small
  refine enter_args (args := [.agg #[str t.id, .int .i64 t.size, .slice t.fi.A t.fi.q t.fi.c, .slice t.fu.A t.fu.q t.fu.c, .slice t.ro.A t.ro.q t.ro.c, .slice t.ca.A t.ca.q t.ca.c]]) (F := _) Tryz.func123 rfl Tryz.ntmps123 rfl rfl ?_
  intro Rb hRb hRn
  refine T_seq ?_
  refine T_region ?_
  refine S_box 1 1 rfl rfl rfl rfl rfl ?_
  intro b1
  refine S_ 2 rfl rfl rfl _ (y_assign rfl rfl) ?_
  refine S_go (fun _ _ h => h) ?_
  refine T_seq ?_
  refine T_seq ?_
  refine T_region ?_
  refine S_ 6 rfl rfl rfl _ (y_fieldAddr rfl rfl fa62_0) ?_
  refine S_ 7 rfl rfl rfl _ (y_load 1 rfl rfl rfl rfl Tryz.underlying9 rfl) ?_
  refine S_ 8 rfl rfl rfl _ (y_call rfl rfl rfl cf257 (fun _ w _ => IsId_any _ w)) ?_
  refine S_ 9 rfl rfl rfl _ (y_not rfl rfl) ?_
  refine S_go (fun _ _ h => h) ?_
  refine T_cond rfl (fun h9 => ?_) (fun h9 => ?_)
  · skip
    refine T_seq ?_
    refine T_region ?_
    refine S_ 2 rfl rfl rfl _ (y_assign rfl rfl) ?_
    refine S_go (fun _ _ h => h) ?_
    refine T_ret (fun a w hF hM => hRb a w (post1 rfl rfl (fun w hM => ?_) a w hF hM))
    exact ⟨by rw [tabNo, if_t h9], hM.below⟩
  · skip
    refine T_skip_go (fun _ _ h => h) ?_
    refine T_seq ?_
    refine T_seq ?_
    refine T_region ?_
    refine S_ 10 rfl rfl rfl _ (y_fieldAddr rfl rfl fa62_1) ?_
    refine S_ 11 rfl rfl rfl _ (y_load 1 rfl rfl rfl rfl Tryz.underlying3 rfl) ?_
    refine S_ 12 rfl rfl rfl _ (y_call rfl rfl rfl cf166 (fun _ w _ => outsideB_any _ _ _ w)) ?_
    refine S_go (fun _ _ h => h) ?_
    refine T_cond rfl (fun h12 => ?_) (fun h12 => ?_)
    · skip
      refine T_seq ?_
      refine T_region ?_
      refine S_ 2 rfl rfl rfl _ (y_assign rfl rfl) ?_
      refine S_go (fun _ _ h => h) ?_
      refine T_ret (fun a w hF hM => hRb a w (post1 rfl rfl (fun w hM => ?_) a w hF hM))
      exact ⟨by rw [tabNo, if_f h9, if_t h12], hM.below⟩
    · skip
      have hz := size_of_out h12
      refine T_skip_go (fun _ _ h => h) ?_
      refine T_seq ?_
      refine T_seq ?_
      refine T_region ?_
      refine S_ 13 rfl rfl rfl _ (y_fieldAddr rfl rfl fa62_2) ?_
      refine S_ 14 rfl rfl rfl _ (y_load 1 rfl rfl rfl rfl Tryz.underlying57 rfl) ?_
      refine S_ 15 rfl rfl rfl _ (y_call rfl rfl rfl cf258 (fun _ w hM => checkFiles_any t.fi w (hok.fi.below hM.below) (by omega) hok.names.1)) ?_
      refine S_ 3 rfl rfl rfl _ (y_assign rfl rfl) ?_
      refine S_go (fun _ _ h => h) ?_
      refine T_seq ?_
      refine T_region ?_
      refine S_ 16 rfl rfl rfl _ (y_move rfl rfl) ?_
      refine S_ 17 rfl rfl rfl _ (y_bin rfl rfl rfl (fun _ => b_neq)) ?_
      refine S_go (fun _ _ h => h) ?_
      refine T_cond rfl (fun h17 => ?_) (fun h17 => ?_)
      · try simp only [decide_eq_true_eq, decide_eq_false_iff_not, Bool.or_eq_true, Bool.or_eq_false_iff, Bool.and_eq_true, Bool.and_eq_false_iff, Bool.not_eq_true', Bool.not_eq_false', Bool.not_eq_true, Bool.not_eq_false, Bool.not_true, Bool.not_false, Int.not_lt, Int.not_le, not_or, not_and, Classical.not_not] at h17
        refine T_seq ?_
        refine T_region ?_
        refine S_ 18 rfl rfl rfl _ (y_move rfl rfl) ?_
        refine S_ 2 rfl rfl rfl _ (y_assign rfl rfl) ?_
        refine S_go (fun _ _ h => h) ?_
        refine T_ret (fun a w hF hM => hRb a w (post1 rfl rfl (fun w hM => ?_) a w hF hM))
        exact ⟨by rw [tabNo, if_f h9, if_f h12, fst_a rfl h17], hM.below⟩
      · try simp only [decide_eq_true_eq, decide_eq_false_iff_not, Bool.or_eq_true, Bool.or_eq_false_iff, Bool.and_eq_true, Bool.and_eq_false_iff, Bool.not_eq_true', Bool.not_eq_false', Bool.not_eq_true, Bool.not_eq_false, Bool.not_true, Bool.not_false, Int.not_lt, Int.not_le, not_or, not_and, Classical.not_not] at h17
        refine T_skip_go (fun _ _ h => h) ?_
        refine T_seq ?_
        refine T_seq ?_
        refine T_region ?_
        refine S_ 19 rfl rfl rfl _ (y_loadA 1 rfl rfl rfl Tryz.underlying62 rfl sz62) ?_
        refine S_ 20 rfl rfl rfl _ (y_call rfl rfl rfl cf259 (fun _ w hM => checkFuncs_any t w (hok.below hM.below) hz)) ?_
        refine S_ 4 rfl rfl rfl _ (y_assign rfl rfl) ?_
        refine S_go (fun _ _ h => h) ?_
        refine T_seq ?_
        refine T_region ?_
        refine S_ 21 rfl rfl rfl _ (y_move rfl rfl) ?_
        refine S_ 22 rfl rfl rfl _ (y_bin rfl rfl rfl (fun _ => b_neq)) ?_
        refine S_go (fun _ _ h => h) ?_
        refine T_cond rfl (fun h22 => ?_) (fun h22 => ?_)
        · try simp only [decide_eq_true_eq, decide_eq_false_iff_not, Bool.or_eq_true, Bool.or_eq_false_iff, Bool.and_eq_true, Bool.and_eq_false_iff, Bool.not_eq_true', Bool.not_eq_false', Bool.not_eq_true, Bool.not_eq_false, Bool.not_true, Bool.not_false, Int.not_lt, Int.not_le, not_or, not_and, Classical.not_not] at h22
          refine T_seq ?_
          refine T_region ?_
          refine S_ 23 rfl rfl rfl _ (y_move rfl rfl) ?_
          refine S_ 2 rfl rfl rfl _ (y_assign rfl rfl) ?_
          refine S_go (fun _ _ h => h) ?_
          refine T_ret (fun a w hF hM => hRb a w (post1 rfl rfl (fun w hM => ?_) a w hF hM))
          exact ⟨by rw [tabNo, if_f h9, if_f h12, fst_b h17 (fst_a rfl h22)], hM.below⟩
        · try simp only [decide_eq_true_eq, decide_eq_false_iff_not, Bool.or_eq_true, Bool.or_eq_false_iff, Bool.and_eq_true, Bool.and_eq_false_iff, Bool.not_eq_true', Bool.not_eq_false', Bool.not_eq_true, Bool.not_eq_false, Bool.not_true, Bool.not_false, Int.not_lt, Int.not_le, not_or, not_and, Classical.not_not] at h22
          refine T_skip_go (fun _ _ h => h) ?_
          refine T_seq ?_
          refine T_seq ?_
          refine T_region ?_
          refine S_ 24 rfl rfl rfl _ (y_loadA 1 rfl rfl rfl Tryz.underlying62 rfl sz62) ?_
          refine S_ 25 rfl rfl rfl _ (y_call rfl rfl rfl cf260 (fun _ w hM => checkRows_any t w (hok.below hM.below) hz)) ?_
          refine S_ 5 rfl rfl rfl _ (y_assign rfl rfl) ?_
          refine S_go (fun _ _ h => h) ?_
          refine T_seq ?_
          refine T_region ?_
          refine S_ 26 rfl rfl rfl _ (y_move rfl rfl) ?_
          refine S_ 27 rfl rfl rfl _ (y_bin rfl rfl rfl (fun _ => b_neq)) ?_
          refine S_go (fun _ _ h => h) ?_
          refine T_cond rfl (fun h27 => ?_) (fun h27 => ?_)
          · try simp only [decide_eq_true_eq, decide_eq_false_iff_not, Bool.or_eq_true, Bool.or_eq_false_iff, Bool.and_eq_true, Bool.and_eq_false_iff, Bool.not_eq_true', Bool.not_eq_false', Bool.not_eq_true, Bool.not_eq_false, Bool.not_true, Bool.not_false, Int.not_lt, Int.not_le, not_or, not_and, Classical.not_not] at h27
            refine T_seq ?_
            refine T_region ?_
            refine S_ 28 rfl rfl rfl _ (y_move rfl rfl) ?_
            refine S_ 2 rfl rfl rfl _ (y_assign rfl rfl) ?_
            refine S_go (fun _ _ h => h) ?_
            refine T_ret (fun a w hF hM => hRb a w (post1 rfl rfl (fun w hM => ?_) a w hF hM))
            exact ⟨by rw [tabNo, if_f h9, if_f h12, fst_b h17 (fst_b h22 (fst_a rfl h27))], hM.below⟩
          · try simp only [decide_eq_true_eq, decide_eq_false_iff_not, Bool.or_eq_true, Bool.or_eq_false_iff, Bool.and_eq_true, Bool.and_eq_false_iff, Bool.not_eq_true', Bool.not_eq_false', Bool.not_eq_true, Bool.not_eq_false, Bool.not_true, Bool.not_false, Int.not_lt, Int.not_le, not_or, not_and, Classical.not_not] at h27
            refine T_skip_go (fun _ _ h => h) ?_
            refine T_seq ?_
            refine T_region ?_
            refine S_ 29 rfl rfl rfl _ (y_loadA 1 rfl rfl rfl Tryz.underlying62 rfl sz62) ?_
            refine S_ 30 rfl rfl rfl _ (y_call rfl rfl rfl cf261 (fun _ w hM => checkCalls_any t w (hok.below hM.below) hz)) ?_
            refine S_ 2 rfl rfl rfl _ (y_assign rfl rfl) ?_
            refine S_go (fun _ _ h => h) ?_
            refine T_ret (fun a w hF hM => hRb a w (post1 rfl rfl (fun w hM => ?_) a w hF hM))
            exact ⟨by rw [tabNo, if_f h9, if_f h12, fst_b h17 (fst_b h22 (fst_b h27 rfl))], hM.below⟩
end Go.Proofs.YtkkngcdikbhkjaaGreatDoor
