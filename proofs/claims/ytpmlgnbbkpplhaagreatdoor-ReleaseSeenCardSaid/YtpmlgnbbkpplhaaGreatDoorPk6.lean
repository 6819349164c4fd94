/- Part 6, merged by a program. States of groups: CheckState and StateFault, comesBack and after, resolvedAgain and SeenState, walked. Conditions: those of each theorem. resolvedAgain, SeenState and Seen, and the law ReleaseSeen, walked. Conditions: those of each theorem. -/
import Derived.Test.YtpmlgnbbkpplhaaGreatDoorPost
import Derived.Test.YtpmlgnbbkpplhaaGreatDoorPk5
section
namespace Go.Proofs.YtpmlgnbbkpplhaaGreatDoor
set_option linter.unusedSimpArgs false
set_option linter.unusedVariables false
set_option maxRecDepth 20000
open Go.RowKit Go.Eng
structure PSt where
  k : Int
  at_ : Int
  inn : List UInt8
  nx : Bool
  till : Int
  more : Int
  ppl : Int
  again : Int
def PSt.enc (s : PSt) : List Value := [.int .i64 s.k, .int .i64 s.at_, str s.inn, .bool s.nx, .int .i64 s.till, .int .i64 s.more, .int .i64 s.ppl, .int .i64 s.again]
abbrev PSt.val (s : PSt) : Value := .agg #[.int .i64 s.k, .int .i64 s.at_, str s.inn, .bool s.nx, .int .i64 s.till, .int .i64 s.more, .int .i64 s.ppl, .int .i64 s.again]
def stBadA (s : PSt) : Bool := outB s.at_ 0 3155759999 || outB s.till (-1) 3155759999 || outB s.more (-1) 1000000 || outB s.ppl (-1) 1000000 || outB s.again 0 1000000
def stBadB (s : PSt) : Bool := (!decide (s.inn = []) || s.nx) && !decide (s.k = 2) || s.nx && decide (s.inn = []) || (!decide (s.till = -1) || !decide (s.more = -1) || !decide (s.ppl = -1)) && !decide (s.k = 3)
def stNo (s : PSt) : Int := if outB s.k 1 3 = true then 10 else if stBadA s = true then 2 else if (!decide (s.inn = []) && !relOk s.inn) = true then 8 else if stBadB s = true then 1 else 0
theorem rout_any (n lo hi : Int) (w : World) : Calls Tryz.prog 65 #[.int .i64 n, .int .i64 lo, .int .i64 hi] w fun e w' => e = .returned (.bool (outB n lo hi)) ∧ Below w.heap.size w w' := out_any n lo hi w
theorem CheckState_any (s : PSt) (w : World) : Calls Tryz.prog 109 #[s.val] w fun e w' => e = .returned (.int .i64 (stNo s)) ∧ Below w.heap.size w w' := by
  refine enter_args (args := [.agg #[.int .i64 s.k, .int .i64 s.at_, str s.inn, .bool s.nx, .int .i64 s.till, .int .i64 s.more, .int .i64 s.ppl, .int .i64 s.again]]) (F := _) Tryz.func109 rfl Tryz.ntmps109 rfl rfl ?_
  intro Rb hRb hRn
  refine T_seq ?_
  refine T_region ?_
  refine S_box 1 1 rfl rfl rfl rfl rfl ?_
  intro b1
  refine S_ 2 rfl rfl rfl _ (y_assign rfl rfl) ?_
  refine S_go (fun _ _ h => h) ?_
  refine T_seq ?_
  refine T_seq ?_
  refine T_region ?_
  refine S_ 5 rfl rfl rfl _ (y_fieldAddr rfl rfl fa52_0) ?_
  refine S_ 6 rfl rfl rfl _ (y_load 1 rfl rfl rfl rfl Tryz.underlying3 rfl) ?_
  refine S_ 7 rfl rfl rfl _ (y_call rfl rfl rfl cf87 (fun _ w _ => routside_any _ _ _ w)) ?_
  refine S_go (fun _ _ h => h) ?_
  refine T_cond rfl (fun h7 => ?_) (fun h7 => ?_)
  · skip
    refine T_seq ?_
    refine T_region ?_
    refine S_ 2 rfl rfl rfl _ (y_assign rfl rfl) ?_
    refine S_go (fun _ _ h => h) ?_
    refine T_ret (fun a w hF hM => hRb a w (post1 rfl rfl (fun w hM => ?_) a w hF hM))
    exact ⟨by rw [stNo, if_pos h7], hM.below⟩
  · skip
    refine T_skip_go (fun _ _ h => h) ?_
    refine T_seq ?_
    refine T_seq ?_
    refine T_region ?_
    refine S_ 8 rfl rfl rfl _ (y_fieldAddr rfl rfl fa52_1) ?_
    refine S_ 9 rfl rfl rfl _ (y_load 1 rfl rfl rfl rfl Tryz.underlying3 rfl) ?_
    refine S_ 10 rfl rfl rfl _ (y_call rfl rfl rfl cf87 (fun _ w _ => routside_any _ _ _ w)) ?_
    refine S_ 11 rfl rfl rfl _ (y_move rfl rfl) ?_
    refine Sg_ 12 rfl rfl rfl rfl rfl rfl _ (y_fieldAddr rfl rfl fa52_4) ?_
    refine Sg_ 13 rfl rfl rfl rfl rfl rfl _ (y_load 1 rfl rfl rfl rfl Tryz.underlying3 rfl) ?_
    refine Sg_ 14 rfl rfl rfl rfl rfl rfl _ (y_call rfl rfl rfl cf87 (fun _ w _ => routside_any _ _ _ w)) ?_
    refine S_ 15 rfl rfl rfl _ (y_or rfl rfl rfl) ?_
    refine S_ 16 rfl rfl rfl _ (y_move rfl rfl) ?_
    refine Sg_ 17 rfl rfl rfl rfl rfl rfl _ (y_fieldAddr rfl rfl fa52_5) ?_
    refine Sg_ 18 rfl rfl rfl rfl rfl rfl _ (y_load 1 rfl rfl rfl rfl Tryz.underlying3 rfl) ?_
    refine Sg_ 19 rfl rfl rfl rfl rfl rfl _ (y_call rfl rfl rfl cf87 (fun _ w _ => routside_any _ _ _ w)) ?_
    refine S_ 20 rfl rfl rfl _ (y_or rfl rfl rfl) ?_
    refine S_ 21 rfl rfl rfl _ (y_move rfl rfl) ?_
    refine Sg_ 22 rfl rfl rfl rfl rfl rfl _ (y_fieldAddr rfl rfl fa52_6) ?_
    refine Sg_ 23 rfl rfl rfl rfl rfl rfl _ (y_load 1 rfl rfl rfl rfl Tryz.underlying3 rfl) ?_
    refine Sg_ 24 rfl rfl rfl rfl rfl rfl _ (y_call rfl rfl rfl cf87 (fun _ w _ => routside_any _ _ _ w)) ?_
    refine S_ 25 rfl rfl rfl _ (y_or rfl rfl rfl) ?_
    refine S_ 26 rfl rfl rfl _ (y_move rfl rfl) ?_
    refine Sg_ 27 rfl rfl rfl rfl rfl rfl _ (y_fieldAddr rfl rfl fa52_7) ?_
    refine Sg_ 28 rfl rfl rfl rfl rfl rfl _ (y_load 1 rfl rfl rfl rfl Tryz.underlying3 rfl) ?_
    refine Sg_ 29 rfl rfl rfl rfl rfl rfl _ (y_call rfl rfl rfl cf87 (fun _ w _ => routside_any _ _ _ w)) ?_
    refine S_ 30 rfl rfl rfl _ (y_as (v' := .bool (stBadA s)) (by exact rfl) (y_or rfl rfl rfl)) ?_
    refine S_go (fun _ _ h => h) ?_
    refine T_cond rfl (fun h30 => ?_) (fun h30 => ?_)
    · skip
      refine T_seq ?_
      refine T_region ?_
      refine S_ 2 rfl rfl rfl _ (y_assign rfl rfl) ?_
      refine S_go (fun _ _ h => h) ?_
      refine T_ret (fun a w hF hM => hRb a w (post1 rfl rfl (fun w hM => ?_) a w hF hM))
      exact ⟨by rw [stNo, if_neg (by rw [h7]; simp), if_pos h30], hM.below⟩
    · skip
      refine T_skip_go (fun _ _ h => h) ?_
      refine T_seq ?_
      refine T_seq ?_
      refine T_region ?_
      refine S_ 31 rfl rfl rfl _ (y_fieldAddr rfl rfl fa52_2) ?_
      refine S_ 32 rfl rfl rfl _ (y_load 1 rfl rfl rfl rfl Tryz.underlying9 rfl) ?_
      refine S_ 33 rfl rfl rfl _ (y_bin rfl rfl rfl (fun _ => b_neqs)) ?_
      refine S_go (fun _ _ h => h) ?_
      refine T_cond rfl (fun h33 => ?_) (fun h33 => ?_)
      · skip
        have hin : ¬ s.inn = [] := by simpa using h33
        refine T_seq ?_
        refine T_region ?_
        refine S_ 35 rfl rfl rfl _ (y_fieldAddr rfl rfl fa52_2) ?_
        refine S_ 36 rfl rfl rfl _ (y_load 1 rfl rfl rfl rfl Tryz.underlying9 rfl) ?_
        refine S_callOwn 37 37 rfl rfl rfl rfl rfl rfl rfl cf101 (fun A c => .tuple #[pvV (parseR s.inn).1 A c, .bool (parseR s.inn).2]) 9 1 ((parseR s.inn).1.pre.length) ((parseR s.inn).1.pre.flatMap strE) (fun w hM => parse_any s.inn w) ?_
        intro A37 c37
        refine S_ 34 rfl rfl rfl _ (y_move rfl rfl) ?_
        refine S_ 38 rfl rfl rfl _ (y_extract rfl rfl rfl) ?_
        refine S_ 39 rfl rfl rfl _ (y_extract rfl rfl rfl) ?_
        refine S_alloc 3 3 rfl rfl rfl rfl z42 ?_
        intro b3
        refine S_store 3 rfl rfl rfl rfl rfl rfl sz42 rfl rfl ?_
        refine S_ 4 rfl rfl rfl _ (y_assign rfl rfl) ?_
        refine S_go (fun _ _ h => h) ?_
        refine T_seq ?_
        refine T_region ?_
        refine S_ 40 rfl rfl rfl _ (y_move rfl rfl) ?_
        refine S_ 41 rfl rfl rfl _ (y_not rfl rfl) ?_
        refine S_go (fun _ _ h => h) ?_
        refine T_cond rfl (fun h41 => ?_) (fun h41 => ?_)
        · skip
          have hr : relOk s.inn = false := by simpa using h41
          refine T_seq ?_
          refine T_region ?_
          refine S_ 2 rfl rfl rfl _ (y_assign rfl rfl) ?_
          refine S_go (fun _ _ h => h) ?_
          refine T_ret (fun a w hF hM => hRb a w (post1 rfl rfl (fun w hM => ?_) a w hF hM))
          exact ⟨by rw [stNo, if_neg (by rw [h7]; simp), if_neg (by rw [h30]; simp), if_pos (by simp [hin, hr])], hM.below⟩
        · skip
          have hr : relOk s.inn = true := by simpa using h41
          refine T_skip_go (fun _ _ h => h) ?_
          refine T_seq ?_
          refine T_seq ?_
          refine T_region ?_
          refine S_ 42 rfl rfl rfl _ (y_fieldAddr rfl rfl fa52_2) ?_
          refine S_ 43 rfl rfl rfl _ (y_load 1 rfl rfl rfl rfl Tryz.underlying9 rfl) ?_
          refine S_ 44 rfl rfl rfl _ (y_bin rfl rfl rfl (fun _ => b_neqs)) ?_
          refine S_ 45 rfl rfl rfl _ (y_move rfl rfl) ?_
          refine Sg_ 46 rfl rfl rfl rfl rfl rfl _ (y_fieldAddr rfl rfl fa52_3) ?_
          refine Sg_ 47 rfl rfl rfl rfl rfl rfl _ (y_load 1 rfl rfl rfl rfl Tryz.underlying4 rfl) ?_
          refine S_ 48 rfl rfl rfl _ (y_or rfl rfl rfl) ?_
          refine S_ 49 rfl rfl rfl _ (y_move rfl rfl) ?_
          refine Sg_ 50 rfl rfl rfl rfl rfl rfl _ (y_fieldAddr rfl rfl fa52_0) ?_
          refine Sg_ 51 rfl rfl rfl rfl rfl rfl _ (y_load 1 rfl rfl rfl rfl Tryz.underlying3 rfl) ?_
          refine Sg_ 52 rfl rfl rfl rfl rfl rfl _ (y_bin rfl rfl rfl (fun _ => b_neq)) ?_
          refine S_ 53 rfl rfl rfl _ (y_and rfl rfl rfl) ?_
          refine S_ 54 rfl rfl rfl _ (y_move rfl rfl) ?_
          refine Sg_ 55 rfl rfl rfl rfl rfl rfl _ (y_fieldAddr rfl rfl fa52_3) ?_
          refine Sg_ 56 rfl rfl rfl rfl rfl rfl _ (y_load 1 rfl rfl rfl rfl Tryz.underlying4 rfl) ?_
          refine Sg_ 57 rfl rfl rfl rfl rfl rfl _ (y_move rfl rfl) ?_
          refine Sg_ 58 rfl rfl rfl rfl rfl rfl _ (y_fieldAddr rfl rfl fa52_2) ?_
          refine Sg_ 59 rfl rfl rfl rfl rfl rfl _ (y_load 1 rfl rfl rfl rfl Tryz.underlying9 rfl) ?_
          refine Sg_ 60 rfl rfl rfl rfl rfl rfl _ (y_bin rfl rfl rfl (fun _ => b_eqls)) ?_
          refine Sg_ 61 rfl rfl rfl rfl rfl rfl _ (y_and rfl rfl rfl) ?_
          refine S_ 62 rfl rfl rfl _ (y_or rfl rfl rfl) ?_
          refine S_ 63 rfl rfl rfl _ (y_move rfl rfl) ?_
          refine Sg_ 64 rfl rfl rfl rfl rfl rfl _ (y_fieldAddr rfl rfl fa52_4) ?_
          refine Sg_ 65 rfl rfl rfl rfl rfl rfl _ (y_load 1 rfl rfl rfl rfl Tryz.underlying3 rfl) ?_
          refine Sg_ 66 rfl rfl rfl rfl rfl rfl _ (y_bin rfl rfl rfl (fun _ => b_neq)) ?_
          refine Sg_ 67 rfl rfl rfl rfl rfl rfl _ (y_move rfl rfl) ?_
          refine Sg_ 68 rfl rfl rfl rfl rfl rfl _ (y_fieldAddr rfl rfl fa52_5) ?_
          refine Sg_ 69 rfl rfl rfl rfl rfl rfl _ (y_load 1 rfl rfl rfl rfl Tryz.underlying3 rfl) ?_
          refine Sg_ 70 rfl rfl rfl rfl rfl rfl _ (y_bin rfl rfl rfl (fun _ => b_neq)) ?_
          refine Sg_ 71 rfl rfl rfl rfl rfl rfl _ (y_or rfl rfl rfl) ?_
          refine Sg_ 72 rfl rfl rfl rfl rfl rfl _ (y_move rfl rfl) ?_
          refine Sg_ 73 rfl rfl rfl rfl rfl rfl _ (y_fieldAddr rfl rfl fa52_6) ?_
          refine Sg_ 74 rfl rfl rfl rfl rfl rfl _ (y_load 1 rfl rfl rfl rfl Tryz.underlying3 rfl) ?_
          refine Sg_ 75 rfl rfl rfl rfl rfl rfl _ (y_bin rfl rfl rfl (fun _ => b_neq)) ?_
          refine Sg_ 76 rfl rfl rfl rfl rfl rfl _ (y_or rfl rfl rfl) ?_
          refine Sg_ 77 rfl rfl rfl rfl rfl rfl _ (y_move rfl rfl) ?_
          refine Sg_ 78 rfl rfl rfl rfl rfl rfl _ (y_fieldAddr rfl rfl fa52_0) ?_
          refine Sg_ 79 rfl rfl rfl rfl rfl rfl _ (y_load 1 rfl rfl rfl rfl Tryz.underlying3 rfl) ?_
          refine Sg_ 80 rfl rfl rfl rfl rfl rfl _ (y_bin rfl rfl rfl (fun _ => b_neq)) ?_
          refine Sg_ 81 rfl rfl rfl rfl rfl rfl _ (y_and rfl rfl rfl) ?_
          refine S_ 82 rfl rfl rfl _ (y_as (v' := .bool (stBadB s)) (by exact rfl) (y_or rfl rfl rfl)) ?_
          refine S_go (fun _ _ h => h) ?_
          refine T_cond rfl (fun h82 => ?_) (fun h82 => ?_)
          · skip
            refine T_seq ?_
            refine T_region ?_
            refine S_ 2 rfl rfl rfl _ (y_assign rfl rfl) ?_
            refine S_go (fun _ _ h => h) ?_
            refine T_ret (fun a w hF hM => hRb a w (post1 rfl rfl (fun w hM => ?_) a w hF hM))
            exact ⟨by rw [stNo, if_neg (by rw [h7]; simp), if_neg (by rw [h30]; simp), if_neg (by simp [hr]), if_pos h82], hM.below⟩
          · skip
            refine T_skip_go (fun _ _ h => h) ?_
            refine T_seq ?_
            refine T_region ?_
            refine S_ 2 rfl rfl rfl _ (y_assign rfl rfl) ?_
            refine S_go (fun _ _ h => h) ?_
            refine T_ret (fun a w hF hM => hRb a w (post1 rfl rfl (fun w hM => ?_) a w hF hM))
            exact ⟨by rw [stNo, if_neg (by rw [h7]; simp), if_neg (by rw [h30]; simp), if_neg (by simp [hr]), if_neg (by rw [h82]; simp)], hM.below⟩
      · skip
        have hin : s.inn = [] := by simpa using h33
        refine T_skip_go (fun _ _ h => h) ?_
        refine T_seq ?_
        refine T_seq ?_
        refine T_region ?_
        refine S_ 42 rfl rfl rfl _ (y_fieldAddr rfl rfl fa52_2) ?_
        refine S_ 43 rfl rfl rfl _ (y_load 1 rfl rfl rfl rfl Tryz.underlying9 rfl) ?_
        refine S_ 44 rfl rfl rfl _ (y_bin rfl rfl rfl (fun _ => b_neqs)) ?_
        refine S_ 45 rfl rfl rfl _ (y_move rfl rfl) ?_
        refine Sg_ 46 rfl rfl rfl rfl rfl rfl _ (y_fieldAddr rfl rfl fa52_3) ?_
        refine Sg_ 47 rfl rfl rfl rfl rfl rfl _ (y_load 1 rfl rfl rfl rfl Tryz.underlying4 rfl) ?_
        refine S_ 48 rfl rfl rfl _ (y_or rfl rfl rfl) ?_
        refine S_ 49 rfl rfl rfl _ (y_move rfl rfl) ?_
        refine Sg_ 50 rfl rfl rfl rfl rfl rfl _ (y_fieldAddr rfl rfl fa52_0) ?_
        refine Sg_ 51 rfl rfl rfl rfl rfl rfl _ (y_load 1 rfl rfl rfl rfl Tryz.underlying3 rfl) ?_
        refine Sg_ 52 rfl rfl rfl rfl rfl rfl _ (y_bin rfl rfl rfl (fun _ => b_neq)) ?_
        refine S_ 53 rfl rfl rfl _ (y_and rfl rfl rfl) ?_
        refine S_ 54 rfl rfl rfl _ (y_move rfl rfl) ?_
        refine Sg_ 55 rfl rfl rfl rfl rfl rfl _ (y_fieldAddr rfl rfl fa52_3) ?_
        refine Sg_ 56 rfl rfl rfl rfl rfl rfl _ (y_load 1 rfl rfl rfl rfl Tryz.underlying4 rfl) ?_
        refine Sg_ 57 rfl rfl rfl rfl rfl rfl _ (y_move rfl rfl) ?_
        refine Sg_ 58 rfl rfl rfl rfl rfl rfl _ (y_fieldAddr rfl rfl fa52_2) ?_
        refine Sg_ 59 rfl rfl rfl rfl rfl rfl _ (y_load 1 rfl rfl rfl rfl Tryz.underlying9 rfl) ?_
        refine Sg_ 60 rfl rfl rfl rfl rfl rfl _ (y_bin rfl rfl rfl (fun _ => b_eqls)) ?_
        refine Sg_ 61 rfl rfl rfl rfl rfl rfl _ (y_and rfl rfl rfl) ?_
        refine S_ 62 rfl rfl rfl _ (y_or rfl rfl rfl) ?_
        refine S_ 63 rfl rfl rfl _ (y_move rfl rfl) ?_
        refine Sg_ 64 rfl rfl rfl rfl rfl rfl _ (y_fieldAddr rfl rfl fa52_4) ?_
        refine Sg_ 65 rfl rfl rfl rfl rfl rfl _ (y_load 1 rfl rfl rfl rfl Tryz.underlying3 rfl) ?_
        refine Sg_ 66 rfl rfl rfl rfl rfl rfl _ (y_bin rfl rfl rfl (fun _ => b_neq)) ?_
        refine Sg_ 67 rfl rfl rfl rfl rfl rfl _ (y_move rfl rfl) ?_
        refine Sg_ 68 rfl rfl rfl rfl rfl rfl _ (y_fieldAddr rfl rfl fa52_5) ?_
        refine Sg_ 69 rfl rfl rfl rfl rfl rfl _ (y_load 1 rfl rfl rfl rfl Tryz.underlying3 rfl) ?_
        refine Sg_ 70 rfl rfl rfl rfl rfl rfl _ (y_bin rfl rfl rfl (fun _ => b_neq)) ?_
        refine Sg_ 71 rfl rfl rfl rfl rfl rfl _ (y_or rfl rfl rfl) ?_
        refine Sg_ 72 rfl rfl rfl rfl rfl rfl _ (y_move rfl rfl) ?_
        refine Sg_ 73 rfl rfl rfl rfl rfl rfl _ (y_fieldAddr rfl rfl fa52_6) ?_
        refine Sg_ 74 rfl rfl rfl rfl rfl rfl _ (y_load 1 rfl rfl rfl rfl Tryz.underlying3 rfl) ?_
        refine Sg_ 75 rfl rfl rfl rfl rfl rfl _ (y_bin rfl rfl rfl (fun _ => b_neq)) ?_
        refine Sg_ 76 rfl rfl rfl rfl rfl rfl _ (y_or rfl rfl rfl) ?_
        refine Sg_ 77 rfl rfl rfl rfl rfl rfl _ (y_move rfl rfl) ?_
        refine Sg_ 78 rfl rfl rfl rfl rfl rfl _ (y_fieldAddr rfl rfl fa52_0) ?_
        refine Sg_ 79 rfl rfl rfl rfl rfl rfl _ (y_load 1 rfl rfl rfl rfl Tryz.underlying3 rfl) ?_
        refine Sg_ 80 rfl rfl rfl rfl rfl rfl _ (y_bin rfl rfl rfl (fun _ => b_neq)) ?_
        refine Sg_ 81 rfl rfl rfl rfl rfl rfl _ (y_and rfl rfl rfl) ?_
        refine S_ 82 rfl rfl rfl _ (y_as (v' := .bool (stBadB s)) (by exact rfl) (y_or rfl rfl rfl)) ?_
        refine S_go (fun _ _ h => h) ?_
        refine T_cond rfl (fun h82 => ?_) (fun h82 => ?_)
        · skip
          refine T_seq ?_
          refine T_region ?_
          refine S_ 2 rfl rfl rfl _ (y_assign rfl rfl) ?_
          refine S_go (fun _ _ h => h) ?_
          refine T_ret (fun a w hF hM => hRb a w (post1 rfl rfl (fun w hM => ?_) a w hF hM))
          exact ⟨by rw [stNo, if_neg (by rw [h7]; simp), if_neg (by rw [h30]; simp), if_neg (by simp [hin]), if_pos h82], hM.below⟩
        · skip
          refine T_skip_go (fun _ _ h => h) ?_
          refine T_seq ?_
          refine T_region ?_
          refine S_ 2 rfl rfl rfl _ (y_assign rfl rfl) ?_
          refine S_go (fun _ _ h => h) ?_
          refine T_ret (fun a w hF hM => hRb a w (post1 rfl rfl (fun w hM => ?_) a w hF hM))
          exact ⟨by rw [stNo, if_neg (by rw [h7]; simp), if_neg (by rw [h30]; simp), if_neg (by simp [hin]), if_neg (by rw [h82]; simp)], hM.below⟩
theorem StateFault_any (s : PSt) (w : World) : Calls Tryz.prog 28 #[s.val] w fun e w' => e = .returned (.int .i64 (stNo s)) ∧ Below w.heap.size w w' := by
  refine enter_args (args := [.agg #[.int .i64 s.k, .int .i64 s.at_, str s.inn, .bool s.nx, .int .i64 s.till, .int .i64 s.more, .int .i64 s.ppl, .int .i64 s.again]]) (F := _) Tryz.func28 rfl Tryz.ntmps28 rfl rfl ?_
  intro Rb hRb hRn
  refine T_seq ?_
  refine T_region ?_
  refine S_box 1 1 rfl rfl rfl rfl rfl ?_
  intro b1
  refine S_ 2 rfl rfl rfl _ (y_assign rfl rfl) ?_
  refine S_go (fun _ _ h => h) ?_
  refine T_seq ?_
  refine T_seq ?_
  refine T_region ?_
  refine S_ 5 rfl rfl rfl _ (y_fieldAddr rfl rfl fa52_0) ?_
  refine S_ 6 rfl rfl rfl _ (y_load 1 rfl rfl rfl rfl Tryz.underlying3 rfl) ?_
  refine S_ 7 rfl rfl rfl _ (y_call rfl rfl rfl cf65 (fun _ w _ => rout_any _ _ _ w)) ?_
  refine S_go (fun _ _ h => h) ?_
  refine T_cond rfl (fun h7 => ?_) (fun h7 => ?_)
  · skip
    refine T_seq ?_
    refine T_region ?_
    refine S_ 2 rfl rfl rfl _ (y_assign rfl rfl) ?_
    refine S_go (fun _ _ h => h) ?_
    refine T_ret (fun a w hF hM => hRb a w (post1 rfl rfl (fun w hM => ?_) a w hF hM))
    exact ⟨by rw [stNo, if_pos h7], hM.below⟩
  · skip
    refine T_skip_go (fun _ _ h => h) ?_
    refine T_seq ?_
    refine T_seq ?_
    refine T_region ?_
    refine S_ 8 rfl rfl rfl _ (y_fieldAddr rfl rfl fa52_1) ?_
    refine S_ 9 rfl rfl rfl _ (y_load 1 rfl rfl rfl rfl Tryz.underlying3 rfl) ?_
    refine S_ 10 rfl rfl rfl _ (y_call rfl rfl rfl cf65 (fun _ w _ => rout_any _ _ _ w)) ?_
    refine S_ 11 rfl rfl rfl _ (y_move rfl rfl) ?_
    refine Sg_ 12 rfl rfl rfl rfl rfl rfl _ (y_fieldAddr rfl rfl fa52_4) ?_
    refine Sg_ 13 rfl rfl rfl rfl rfl rfl _ (y_load 1 rfl rfl rfl rfl Tryz.underlying3 rfl) ?_
    refine Sg_ 14 rfl rfl rfl rfl rfl rfl _ (y_call rfl rfl rfl cf65 (fun _ w _ => rout_any _ _ _ w)) ?_
    refine S_ 15 rfl rfl rfl _ (y_or rfl rfl rfl) ?_
    refine S_ 16 rfl rfl rfl _ (y_move rfl rfl) ?_
    refine Sg_ 17 rfl rfl rfl rfl rfl rfl _ (y_fieldAddr rfl rfl fa52_5) ?_
    refine Sg_ 18 rfl rfl rfl rfl rfl rfl _ (y_load 1 rfl rfl rfl rfl Tryz.underlying3 rfl) ?_
    refine Sg_ 19 rfl rfl rfl rfl rfl rfl _ (y_call rfl rfl rfl cf65 (fun _ w _ => rout_any _ _ _ w)) ?_
    refine S_ 20 rfl rfl rfl _ (y_or rfl rfl rfl) ?_
    refine S_ 21 rfl rfl rfl _ (y_move rfl rfl) ?_
    refine Sg_ 22 rfl rfl rfl rfl rfl rfl _ (y_fieldAddr rfl rfl fa52_6) ?_
    refine Sg_ 23 rfl rfl rfl rfl rfl rfl _ (y_load 1 rfl rfl rfl rfl Tryz.underlying3 rfl) ?_
    refine Sg_ 24 rfl rfl rfl rfl rfl rfl _ (y_call rfl rfl rfl cf65 (fun _ w _ => rout_any _ _ _ w)) ?_
    refine S_ 25 rfl rfl rfl _ (y_or rfl rfl rfl) ?_
    refine S_ 26 rfl rfl rfl _ (y_move rfl rfl) ?_
    refine Sg_ 27 rfl rfl rfl rfl rfl rfl _ (y_fieldAddr rfl rfl fa52_7) ?_
    refine Sg_ 28 rfl rfl rfl rfl rfl rfl _ (y_load 1 rfl rfl rfl rfl Tryz.underlying3 rfl) ?_
    refine Sg_ 29 rfl rfl rfl rfl rfl rfl _ (y_call rfl rfl rfl cf65 (fun _ w _ => rout_any _ _ _ w)) ?_
    refine S_ 30 rfl rfl rfl _ (y_as (v' := .bool (stBadA s)) (by exact rfl) (y_or rfl rfl rfl)) ?_
    refine S_go (fun _ _ h => h) ?_
    refine T_cond rfl (fun h30 => ?_) (fun h30 => ?_)
    · skip
      refine T_seq ?_
      refine T_region ?_
      refine S_ 2 rfl rfl rfl _ (y_assign rfl rfl) ?_
      refine S_go (fun _ _ h => h) ?_
      refine T_ret (fun a w hF hM => hRb a w (post1 rfl rfl (fun w hM => ?_) a w hF hM))
      exact ⟨by rw [stNo, if_neg (by rw [h7]; simp), if_pos h30], hM.below⟩
    · skip
      refine T_skip_go (fun _ _ h => h) ?_
      refine T_seq ?_
      refine T_seq ?_
      refine T_region ?_
      refine S_ 31 rfl rfl rfl _ (y_fieldAddr rfl rfl fa52_2) ?_
      refine S_ 32 rfl rfl rfl _ (y_load 1 rfl rfl rfl rfl Tryz.underlying9 rfl) ?_
      refine S_ 33 rfl rfl rfl _ (y_bin rfl rfl rfl (fun _ => b_neqs)) ?_
      refine S_go (fun _ _ h => h) ?_
      refine T_cond rfl (fun h33 => ?_) (fun h33 => ?_)
      · skip
        have hin : ¬ s.inn = [] := by simpa using h33
        refine T_seq ?_
        refine T_region ?_
        refine S_ 35 rfl rfl rfl _ (y_fieldAddr rfl rfl fa52_2) ?_
        refine S_ 36 rfl rfl rfl _ (y_load 1 rfl rfl rfl rfl Tryz.underlying9 rfl) ?_
        refine S_callOwn 37 37 rfl rfl rfl rfl rfl rfl rfl cf25 (fun A c => .tuple #[pvV (parE s.inn).1 A c, .int .i64 (parE s.inn).2]) 9 1 ((parE s.inn).1.pre.length) ((parE s.inn).1.pre.flatMap strE) (fun w hM => VersionOf_any s.inn w) ?_
        intro A37 c37
        refine S_ 34 rfl rfl rfl _ (y_move rfl rfl) ?_
        refine S_ 38 rfl rfl rfl _ (y_extract rfl rfl rfl) ?_
        refine S_ 39 rfl rfl rfl _ (y_extract rfl rfl rfl) ?_
        refine S_alloc 3 3 rfl rfl rfl rfl z42 ?_
        intro b3
        refine S_store 3 rfl rfl rfl rfl rfl rfl sz42 rfl rfl ?_
        refine S_ 4 rfl rfl rfl _ (y_assign rfl rfl) ?_
        refine S_go (fun _ _ h => h) ?_
        refine T_seq ?_
        refine T_region ?_
        refine S_ 40 rfl rfl rfl _ (y_move rfl rfl) ?_
        refine S_ 41 rfl rfl rfl _ (y_bin rfl rfl rfl (fun _ => b_neq)) ?_
        refine S_go (fun _ _ h => h) ?_
        refine T_cond rfl (fun h41 => ?_) (fun h41 => ?_)
        · skip
          have hr : relOk s.inn = false := by
            cases hq : relOk s.inn with
            | false => rfl
            | true => rw [parE, if_pos hq] at h41; simp at h41
          refine T_seq ?_
          refine T_region ?_
          refine S_ 2 rfl rfl rfl _ (y_assign rfl rfl) ?_
          refine S_go (fun _ _ h => h) ?_
          refine T_ret (fun a w hF hM => hRb a w (post1 rfl rfl (fun w hM => ?_) a w hF hM))
          exact ⟨by rw [stNo, if_neg (by rw [h7]; simp), if_neg (by rw [h30]; simp), if_pos (by simp [hin, hr])], hM.below⟩
        · skip
          have hr : relOk s.inn = true := by
            cases hq : relOk s.inn with
            | true => rfl
            | false => rw [parE, if_neg (by rw [hq]; simp)] at h41; simp at h41
          refine T_skip_go (fun _ _ h => h) ?_
          refine T_seq ?_
          refine T_seq ?_
          refine T_region ?_
          refine S_ 42 rfl rfl rfl _ (y_fieldAddr rfl rfl fa52_2) ?_
          refine S_ 43 rfl rfl rfl _ (y_load 1 rfl rfl rfl rfl Tryz.underlying9 rfl) ?_
          refine S_ 44 rfl rfl rfl _ (y_bin rfl rfl rfl (fun _ => b_neqs)) ?_
          refine S_ 45 rfl rfl rfl _ (y_move rfl rfl) ?_
          refine Sg_ 46 rfl rfl rfl rfl rfl rfl _ (y_fieldAddr rfl rfl fa52_3) ?_
          refine Sg_ 47 rfl rfl rfl rfl rfl rfl _ (y_load 1 rfl rfl rfl rfl Tryz.underlying4 rfl) ?_
          refine S_ 48 rfl rfl rfl _ (y_or rfl rfl rfl) ?_
          refine S_ 49 rfl rfl rfl _ (y_move rfl rfl) ?_
          refine Sg_ 50 rfl rfl rfl rfl rfl rfl _ (y_fieldAddr rfl rfl fa52_0) ?_
          refine Sg_ 51 rfl rfl rfl rfl rfl rfl _ (y_load 1 rfl rfl rfl rfl Tryz.underlying3 rfl) ?_
          refine Sg_ 52 rfl rfl rfl rfl rfl rfl _ (y_bin rfl rfl rfl (fun _ => b_neq)) ?_
          refine S_ 53 rfl rfl rfl _ (y_and rfl rfl rfl) ?_
          refine S_ 54 rfl rfl rfl _ (y_move rfl rfl) ?_
          refine Sg_ 55 rfl rfl rfl rfl rfl rfl _ (y_fieldAddr rfl rfl fa52_3) ?_
          refine Sg_ 56 rfl rfl rfl rfl rfl rfl _ (y_load 1 rfl rfl rfl rfl Tryz.underlying4 rfl) ?_
          refine Sg_ 57 rfl rfl rfl rfl rfl rfl _ (y_move rfl rfl) ?_
          refine Sg_ 58 rfl rfl rfl rfl rfl rfl _ (y_fieldAddr rfl rfl fa52_2) ?_
          refine Sg_ 59 rfl rfl rfl rfl rfl rfl _ (y_load 1 rfl rfl rfl rfl Tryz.underlying9 rfl) ?_
          refine Sg_ 60 rfl rfl rfl rfl rfl rfl _ (y_bin rfl rfl rfl (fun _ => b_eqls)) ?_
          refine Sg_ 61 rfl rfl rfl rfl rfl rfl _ (y_and rfl rfl rfl) ?_
          refine S_ 62 rfl rfl rfl _ (y_or rfl rfl rfl) ?_
          refine S_ 63 rfl rfl rfl _ (y_move rfl rfl) ?_
          refine Sg_ 64 rfl rfl rfl rfl rfl rfl _ (y_fieldAddr rfl rfl fa52_4) ?_
          refine Sg_ 65 rfl rfl rfl rfl rfl rfl _ (y_load 1 rfl rfl rfl rfl Tryz.underlying3 rfl) ?_
          refine Sg_ 66 rfl rfl rfl rfl rfl rfl _ (y_bin rfl rfl rfl (fun _ => b_neq)) ?_
          refine Sg_ 67 rfl rfl rfl rfl rfl rfl _ (y_move rfl rfl) ?_
          refine Sg_ 68 rfl rfl rfl rfl rfl rfl _ (y_fieldAddr rfl rfl fa52_5) ?_
          refine Sg_ 69 rfl rfl rfl rfl rfl rfl _ (y_load 1 rfl rfl rfl rfl Tryz.underlying3 rfl) ?_
          refine Sg_ 70 rfl rfl rfl rfl rfl rfl _ (y_bin rfl rfl rfl (fun _ => b_neq)) ?_
          refine Sg_ 71 rfl rfl rfl rfl rfl rfl _ (y_or rfl rfl rfl) ?_
          refine Sg_ 72 rfl rfl rfl rfl rfl rfl _ (y_move rfl rfl) ?_
          refine Sg_ 73 rfl rfl rfl rfl rfl rfl _ (y_fieldAddr rfl rfl fa52_6) ?_
          refine Sg_ 74 rfl rfl rfl rfl rfl rfl _ (y_load 1 rfl rfl rfl rfl Tryz.underlying3 rfl) ?_
          refine Sg_ 75 rfl rfl rfl rfl rfl rfl _ (y_bin rfl rfl rfl (fun _ => b_neq)) ?_
          refine Sg_ 76 rfl rfl rfl rfl rfl rfl _ (y_or rfl rfl rfl) ?_
          refine Sg_ 77 rfl rfl rfl rfl rfl rfl _ (y_move rfl rfl) ?_
          refine Sg_ 78 rfl rfl rfl rfl rfl rfl _ (y_fieldAddr rfl rfl fa52_0) ?_
          refine Sg_ 79 rfl rfl rfl rfl rfl rfl _ (y_load 1 rfl rfl rfl rfl Tryz.underlying3 rfl) ?_
          refine Sg_ 80 rfl rfl rfl rfl rfl rfl _ (y_bin rfl rfl rfl (fun _ => b_neq)) ?_
          refine Sg_ 81 rfl rfl rfl rfl rfl rfl _ (y_and rfl rfl rfl) ?_
          refine S_ 82 rfl rfl rfl _ (y_as (v' := .bool (stBadB s)) (by exact rfl) (y_or rfl rfl rfl)) ?_
          refine S_go (fun _ _ h => h) ?_
          refine T_cond rfl (fun h82 => ?_) (fun h82 => ?_)
          · skip
            refine T_seq ?_
            refine T_region ?_
            refine S_ 2 rfl rfl rfl _ (y_assign rfl rfl) ?_
            refine S_go (fun _ _ h => h) ?_
            refine T_ret (fun a w hF hM => hRb a w (post1 rfl rfl (fun w hM => ?_) a w hF hM))
            exact ⟨by rw [stNo, if_neg (by rw [h7]; simp), if_neg (by rw [h30]; simp), if_neg (by simp [hr]), if_pos h82], hM.below⟩
          · skip
            refine T_skip_go (fun _ _ h => h) ?_
            refine T_seq ?_
            refine T_region ?_
            refine S_ 2 rfl rfl rfl _ (y_assign rfl rfl) ?_
            refine S_go (fun _ _ h => h) ?_
            refine T_ret (fun a w hF hM => hRb a w (post1 rfl rfl (fun w hM => ?_) a w hF hM))
            exact ⟨by rw [stNo, if_neg (by rw [h7]; simp), if_neg (by rw [h30]; simp), if_neg (by simp [hr]), if_neg (by rw [h82]; simp)], hM.below⟩
      · skip
        have hin : s.inn = [] := by simpa using h33
        refine T_skip_go (fun _ _ h => h) ?_
        refine T_seq ?_
        refine T_seq ?_
        refine T_region ?_
        refine S_ 42 rfl rfl rfl _ (y_fieldAddr rfl rfl fa52_2) ?_
        refine S_ 43 rfl rfl rfl _ (y_load 1 rfl rfl rfl rfl Tryz.underlying9 rfl) ?_
        refine S_ 44 rfl rfl rfl _ (y_bin rfl rfl rfl (fun _ => b_neqs)) ?_
        refine S_ 45 rfl rfl rfl _ (y_move rfl rfl) ?_
        refine Sg_ 46 rfl rfl rfl rfl rfl rfl _ (y_fieldAddr rfl rfl fa52_3) ?_
        refine Sg_ 47 rfl rfl rfl rfl rfl rfl _ (y_load 1 rfl rfl rfl rfl Tryz.underlying4 rfl) ?_
        refine S_ 48 rfl rfl rfl _ (y_or rfl rfl rfl) ?_
        refine S_ 49 rfl rfl rfl _ (y_move rfl rfl) ?_
        refine Sg_ 50 rfl rfl rfl rfl rfl rfl _ (y_fieldAddr rfl rfl fa52_0) ?_
        refine Sg_ 51 rfl rfl rfl rfl rfl rfl _ (y_load 1 rfl rfl rfl rfl Tryz.underlying3 rfl) ?_
        refine Sg_ 52 rfl rfl rfl rfl rfl rfl _ (y_bin rfl rfl rfl (fun _ => b_neq)) ?_
        refine S_ 53 rfl rfl rfl _ (y_and rfl rfl rfl) ?_
        refine S_ 54 rfl rfl rfl _ (y_move rfl rfl) ?_
        refine Sg_ 55 rfl rfl rfl rfl rfl rfl _ (y_fieldAddr rfl rfl fa52_3) ?_
        refine Sg_ 56 rfl rfl rfl rfl rfl rfl _ (y_load 1 rfl rfl rfl rfl Tryz.underlying4 rfl) ?_
        refine Sg_ 57 rfl rfl rfl rfl rfl rfl _ (y_move rfl rfl) ?_
        refine Sg_ 58 rfl rfl rfl rfl rfl rfl _ (y_fieldAddr rfl rfl fa52_2) ?_
        refine Sg_ 59 rfl rfl rfl rfl rfl rfl _ (y_load 1 rfl rfl rfl rfl Tryz.underlying9 rfl) ?_
        refine Sg_ 60 rfl rfl rfl rfl rfl rfl _ (y_bin rfl rfl rfl (fun _ => b_eqls)) ?_
        refine Sg_ 61 rfl rfl rfl rfl rfl rfl _ (y_and rfl rfl rfl) ?_
        refine S_ 62 rfl rfl rfl _ (y_or rfl rfl rfl) ?_
        refine S_ 63 rfl rfl rfl _ (y_move rfl rfl) ?_
        refine Sg_ 64 rfl rfl rfl rfl rfl rfl _ (y_fieldAddr rfl rfl fa52_4) ?_
        refine Sg_ 65 rfl rfl rfl rfl rfl rfl _ (y_load 1 rfl rfl rfl rfl Tryz.underlying3 rfl) ?_
        refine Sg_ 66 rfl rfl rfl rfl rfl rfl _ (y_bin rfl rfl rfl (fun _ => b_neq)) ?_
        refine Sg_ 67 rfl rfl rfl rfl rfl rfl _ (y_move rfl rfl) ?_
        refine Sg_ 68 rfl rfl rfl rfl rfl rfl _ (y_fieldAddr rfl rfl fa52_5) ?_
        refine Sg_ 69 rfl rfl rfl rfl rfl rfl _ (y_load 1 rfl rfl rfl rfl Tryz.underlying3 rfl) ?_
        refine Sg_ 70 rfl rfl rfl rfl rfl rfl _ (y_bin rfl rfl rfl (fun _ => b_neq)) ?_
        refine Sg_ 71 rfl rfl rfl rfl rfl rfl _ (y_or rfl rfl rfl) ?_
        refine Sg_ 72 rfl rfl rfl rfl rfl rfl _ (y_move rfl rfl) ?_
        refine Sg_ 73 rfl rfl rfl rfl rfl rfl _ (y_fieldAddr rfl rfl fa52_6) ?_
        refine Sg_ 74 rfl rfl rfl rfl rfl rfl _ (y_load 1 rfl rfl rfl rfl Tryz.underlying3 rfl) ?_
        refine Sg_ 75 rfl rfl rfl rfl rfl rfl _ (y_bin rfl rfl rfl (fun _ => b_neq)) ?_
        refine Sg_ 76 rfl rfl rfl rfl rfl rfl _ (y_or rfl rfl rfl) ?_
        refine Sg_ 77 rfl rfl rfl rfl rfl rfl _ (y_move rfl rfl) ?_
        refine Sg_ 78 rfl rfl rfl rfl rfl rfl _ (y_fieldAddr rfl rfl fa52_0) ?_
        refine Sg_ 79 rfl rfl rfl rfl rfl rfl _ (y_load 1 rfl rfl rfl rfl Tryz.underlying3 rfl) ?_
        refine Sg_ 80 rfl rfl rfl rfl rfl rfl _ (y_bin rfl rfl rfl (fun _ => b_neq)) ?_
        refine Sg_ 81 rfl rfl rfl rfl rfl rfl _ (y_and rfl rfl rfl) ?_
        refine S_ 82 rfl rfl rfl _ (y_as (v' := .bool (stBadB s)) (by exact rfl) (y_or rfl rfl rfl)) ?_
        refine S_go (fun _ _ h => h) ?_
        refine T_cond rfl (fun h82 => ?_) (fun h82 => ?_)
        · skip
          refine T_seq ?_
          refine T_region ?_
          refine S_ 2 rfl rfl rfl _ (y_assign rfl rfl) ?_
          refine S_go (fun _ _ h => h) ?_
          refine T_ret (fun a w hF hM => hRb a w (post1 rfl rfl (fun w hM => ?_) a w hF hM))
          exact ⟨by rw [stNo, if_neg (by rw [h7]; simp), if_neg (by rw [h30]; simp), if_neg (by simp [hin]), if_pos h82], hM.below⟩
        · skip
          refine T_skip_go (fun _ _ h => h) ?_
          refine T_seq ?_
          refine T_region ?_
          refine S_ 2 rfl rfl rfl _ (y_assign rfl rfl) ?_
          refine S_go (fun _ _ h => h) ?_
          refine T_ret (fun a w hF hM => hRb a w (post1 rfl rfl (fun w hM => ?_) a w hF hM))
          exact ⟨by rw [stNo, if_neg (by rw [h7]; simp), if_neg (by rw [h30]; simp), if_neg (by simp [hin]), if_neg (by rw [h82]; simp)], hM.below⟩
def beyB (i v : PVer) (nx : Bool) : Bool := decide (v.p = i.p) && (decide (0 < cmpV v i) || decide (cmpV v i = 0) && !nx)
/-- a block's cells, as they stand for good -/
abbrev CellsAt (w : World) (b : Nat) (cs : List Value) : Prop := (∀ j u, cs[j]? = some u → w.cell? ((⟨b, 0, none⟩ : Addr).add j) = some u) ∧ b < w.heap.size
theorem CellsAt.one {w : World} {b j : Nat} {cs : List Value} {u : Value} (h : CellsAt w b cs) (hj : cs[j]? = some u) : w.cell? ((⟨b, 0, none⟩ : Addr).add j) = some u ∧ ((⟨b, 0, none⟩ : Addr).add j).block < w.heap.size := ⟨h.1 j u hj, by rw [block_of_add]; exact h.2⟩
theorem comesBack1_any (x i : SVer) (s : PSt) (b1 b2 : Nat) (w : World) (hx : VerOk w x) (hi : VerOk w i) (h1 : CellsAt w b1 i.enc) (h2 : CellsAt w b2 s.enc) :
    Calls Tryz.prog 244 #[x.val, .pointer (some ⟨b1, 0, none⟩), .pointer (some ⟨b2, 0, none⟩)] w fun e w' => e = .returned (.bool (beyB i.says x.says s.nx)) ∧ Below w.heap.size w w' := by
  refine enter_args (args := [.agg #[str x.p, .int .i64 x.a, .int .i64 x.b, .int .i64 x.c, .slice x.pre.A x.pre.q x.pre.c], .pointer (some ⟨b1, 0, none⟩), .pointer (some ⟨b2, 0, none⟩)]) (F := _) Tryz.func244 rfl Tryz.ntmps244 rfl rfl ?_
  intro Rb hRb hRn
  refine T_seq ?_
  refine T_region ?_
  refine S_box 3 3 rfl rfl rfl rfl rfl ?_
  intro b3
  refine S_ 4 rfl rfl rfl _ (y_assign rfl rfl) ?_
  refine S_go (fun _ _ h => h) ?_
  refine T_seq ?_
  refine T_region ?_
  refine S_ 6 rfl rfl rfl _ (y_loadA 3 rfl rfl rfl Tryz.underlying42 rfl sz42) ?_
  refine S_ 7 rfl rfl rfl _ (y_loadA_far rfl rfl h1.1 h1.2 Tryz.underlying42 rfl sz42) ?_
  refine S_ 8 rfl rfl rfl _ (y_call rfl rfl rfl cf22 (fun _ w hM => Compare_any x i w (hx.below hM.below) (hi.below hM.below))) ?_
  refine S_ 5 rfl rfl rfl _ (y_assign rfl rfl) ?_
  refine S_go (fun _ _ h => h) ?_
  refine T_seq ?_
  refine T_region ?_
  refine S_ 9 rfl rfl rfl _ (y_fieldAddr rfl rfl fa42_0) ?_
  refine S_ 10 rfl rfl rfl _ (y_load 3 rfl rfl rfl rfl Tryz.underlying9 rfl) ?_
  refine S_ 11 rfl rfl rfl _ (y_fieldAddr rfl rfl fa42_0) ?_
  refine S_ 12 rfl rfl rfl _ (y_load_far rfl rfl (h1.one (j := 0) rfl).1 (h1.one (j := 0) (cs := i.enc) rfl).2 Tryz.underlying9 rfl) ?_
  refine S_ 13 rfl rfl rfl _ (y_bin rfl rfl rfl (fun _ => b_eqls)) ?_
  refine S_ 14 rfl rfl rfl _ (y_move rfl rfl) ?_
  refine Sg_ 15 rfl rfl rfl rfl rfl rfl _ (y_move rfl rfl) ?_
  refine Sg_ 16 rfl rfl rfl rfl rfl rfl _ (y_bin rfl rfl rfl (fun _ => b_gtr)) ?_
  refine Sg_ 17 rfl rfl rfl rfl rfl rfl _ (y_move rfl rfl) ?_
  refine Sg_ 18 rfl rfl rfl rfl rfl rfl _ (y_move rfl rfl) ?_
  refine Sg_ 19 rfl rfl rfl rfl rfl rfl _ (y_bin rfl rfl rfl (fun _ => b_eql)) ?_
  refine Sg_ 20 rfl rfl rfl rfl rfl rfl _ (y_move rfl rfl) ?_
  refine Sg_ 21 rfl rfl rfl rfl rfl rfl _ (y_fieldAddr rfl rfl fa52_3) ?_
  refine Sg_ 22 rfl rfl rfl rfl rfl rfl _ (y_load_far rfl rfl (h2.one (j := 3) rfl).1 (h2.one (j := 3) (cs := s.enc) rfl).2 Tryz.underlying4 rfl) ?_
  refine Sg_ 23 rfl rfl rfl rfl rfl rfl _ (y_not rfl rfl) ?_
  refine Sg_ 24 rfl rfl rfl rfl rfl rfl _ (y_and rfl rfl rfl) ?_
  refine Sg_ 25 rfl rfl rfl rfl rfl rfl _ (y_or rfl rfl rfl) ?_
  refine S_ 26 rfl rfl rfl _ (y_and rfl rfl rfl) ?_
  refine S_ 4 rfl rfl rfl _ (y_assign rfl rfl) ?_
  refine S_go (fun _ _ h => h) ?_
  refine T_ret (fun a w hF hM => hRb a w (post1 rfl rfl (fun w hM => ?_) a w hF hM))
  exact ⟨rfl, hM.below⟩
theorem resolvedAgain1_any (x i : SVer) (s : PSt) (b1 b2 : Nat) (w : World) (hx : VerOk w x) (hi : VerOk w i) (h1 : CellsAt w b1 i.enc) (h2 : CellsAt w b2 s.enc) :
    Calls Tryz.prog 206 #[x.val, .pointer (some ⟨b1, 0, none⟩), .pointer (some ⟨b2, 0, none⟩)] w fun e w' => e = .returned (.bool (beyB i.says x.says s.nx)) ∧ Below w.heap.size w w' := by
  refine enter_args (args := [.agg #[str x.p, .int .i64 x.a, .int .i64 x.b, .int .i64 x.c, .slice x.pre.A x.pre.q x.pre.c], .pointer (some ⟨b1, 0, none⟩), .pointer (some ⟨b2, 0, none⟩)]) (F := _) Tryz.func206 rfl Tryz.ntmps206 rfl rfl ?_
  intro Rb hRb hRn
  refine T_seq ?_
  refine T_region ?_
  refine S_box 3 3 rfl rfl rfl rfl rfl ?_
  intro b3
  refine S_ 4 rfl rfl rfl _ (y_assign rfl rfl) ?_
  refine S_go (fun _ _ h => h) ?_
  refine T_seq ?_
  refine T_region ?_
  refine S_ 6 rfl rfl rfl _ (y_loadA 3 rfl rfl rfl Tryz.underlying42 rfl sz42) ?_
  refine S_ 7 rfl rfl rfl _ (y_loadA_far rfl rfl h1.1 h1.2 Tryz.underlying42 rfl sz42) ?_
  refine S_ 8 rfl rfl rfl _ (y_call rfl rfl rfl cf23 (fun _ w hM => VersionsCompare_any x i w (hx.below hM.below) (hi.below hM.below))) ?_
  refine S_ 5 rfl rfl rfl _ (y_assign rfl rfl) ?_
  refine S_go (fun _ _ h => h) ?_
  refine T_seq ?_
  refine T_region ?_
  refine S_ 9 rfl rfl rfl _ (y_fieldAddr rfl rfl fa42_0) ?_
  refine S_ 10 rfl rfl rfl _ (y_load 3 rfl rfl rfl rfl Tryz.underlying9 rfl) ?_
  refine S_ 11 rfl rfl rfl _ (y_fieldAddr rfl rfl fa42_0) ?_
  refine S_ 12 rfl rfl rfl _ (y_load_far rfl rfl (h1.one (j := 0) rfl).1 (h1.one (j := 0) (cs := i.enc) rfl).2 Tryz.underlying9 rfl) ?_
  refine S_ 13 rfl rfl rfl _ (y_bin rfl rfl rfl (fun _ => b_eqls)) ?_
  refine S_ 14 rfl rfl rfl _ (y_move rfl rfl) ?_
  refine Sg_ 15 rfl rfl rfl rfl rfl rfl _ (y_move rfl rfl) ?_
  refine Sg_ 16 rfl rfl rfl rfl rfl rfl _ (y_bin rfl rfl rfl (fun _ => b_gtr)) ?_
  refine Sg_ 17 rfl rfl rfl rfl rfl rfl _ (y_move rfl rfl) ?_
  refine Sg_ 18 rfl rfl rfl rfl rfl rfl _ (y_move rfl rfl) ?_
  refine Sg_ 19 rfl rfl rfl rfl rfl rfl _ (y_bin rfl rfl rfl (fun _ => b_eql)) ?_
  refine Sg_ 20 rfl rfl rfl rfl rfl rfl _ (y_move rfl rfl) ?_
  refine Sg_ 21 rfl rfl rfl rfl rfl rfl _ (y_fieldAddr rfl rfl fa52_3) ?_
  refine Sg_ 22 rfl rfl rfl rfl rfl rfl _ (y_load_far rfl rfl (h2.one (j := 3) rfl).1 (h2.one (j := 3) (cs := s.enc) rfl).2 Tryz.underlying4 rfl) ?_
  refine Sg_ 23 rfl rfl rfl rfl rfl rfl _ (y_not rfl rfl) ?_
  refine Sg_ 24 rfl rfl rfl rfl rfl rfl _ (y_and rfl rfl rfl) ?_
  refine Sg_ 25 rfl rfl rfl rfl rfl rfl _ (y_or rfl rfl rfl) ?_
  refine S_ 26 rfl rfl rfl _ (y_and rfl rfl rfl) ?_
  refine S_ 4 rfl rfl rfl _ (y_assign rfl rfl) ?_
  refine S_go (fun _ _ h => h) ?_
  refine T_ret (fun a w hF hM => hRb a w (post1 rfl rfl (fun w hM => ?_) a w hF hM))
  exact ⟨rfl, hM.below⟩
def comesB (s : PSt) (at_ : Int) (rel : List UInt8) (vs : List PVer) : Bool :=
  if relOk s.inn = false then decide (s.at_ < at_)
  else if (relOk rel && decide ((verV rel).p = (verV s.inn).p)) = true then decide (0 < cmpV (verV rel) (verV s.inn)) || decide (cmpV (verV rel) (verV s.inn) = 0) && !s.nx
  else decide (s.at_ < at_) && vs.any fun v => beyB (verV s.inn) v s.nx
set_option maxHeartbeats 1600000 in
theorem comesBack_any (s : PSt) (e : Evt) (vs : Sl SVer) (w : World) (hv : VersR w vs) :
    Calls Tryz.prog 205 #[s.val, e.val, .slice vs.A vs.q vs.c] w fun en w' => en = .returned (.bool (comesB s e.at_ e.rel (vs.l.map SVer.says))) ∧ Below w.heap.size w w' := by
  refine enter_args (args := [.agg #[.int .i64 s.k, .int .i64 s.at_, str s.inn, .bool s.nx, .int .i64 s.till, .int .i64 s.more, .int .i64 s.ppl, .int .i64 s.again], .agg #[str e.id, .int .i64 e.at_, .int .i64 e.lv, .slice e.fa.A e.fa.q e.fa.c, .slice e.ta.A e.ta.q e.ta.c, .slice e.cr.A e.cr.q e.cr.c, str e.rel, str e.us, .int .i64 e.wt], .slice vs.A vs.q vs.c]) (F := _) Tryz.func205 rfl Tryz.ntmps205 rfl rfl ?_
  intro Rb hRb hRn
  refine T_seq ?_
  refine T_region ?_
  refine S_box 3 3 rfl rfl rfl rfl rfl ?_
  intro b3
  refine S_box 4 4 rfl rfl rfl rfl rfl ?_
  intro b4
  refine S_ 6 rfl rfl rfl _ (y_assign rfl rfl) ?_
  refine S_go (fun _ _ h => h) ?_
  refine T_seq ?_
  refine T_region ?_
  refine S_ 13 rfl rfl rfl _ (y_fieldAddr rfl rfl fa29_1) ?_
  refine S_ 14 rfl rfl rfl _ (y_load 4 rfl rfl rfl rfl Tryz.underlying3 rfl) ?_
  refine S_ 15 rfl rfl rfl _ (y_fieldAddr rfl rfl fa52_1) ?_
  refine S_ 16 rfl rfl rfl _ (y_load 3 rfl rfl rfl rfl Tryz.underlying3 rfl) ?_
  refine S_ 17 rfl rfl rfl _ (y_bin rfl rfl rfl (fun _ => b_gtr)) ?_
  refine S_ 7 rfl rfl rfl _ (y_assign rfl rfl) ?_
  refine S_go (fun _ _ h => h) ?_
  refine T_seq ?_
  refine T_region ?_
  refine S_ 19 rfl rfl rfl _ (y_fieldAddr rfl rfl fa52_2) ?_
  refine S_ 20 rfl rfl rfl _ (y_load 3 rfl rfl rfl rfl Tryz.underlying9 rfl) ?_
  refine S_callOwn 21 21 rfl rfl rfl rfl rfl rfl rfl cf101 (fun A c => .tuple #[pvV (parseR s.inn).1 A c, .bool (parseR s.inn).2]) 9 1 ((parseR s.inn).1.pre.length) ((parseR s.inn).1.pre.flatMap strE) (fun w hM => parse_any s.inn w) ?_
  intro A21 c21
  refine S_ 18 rfl rfl rfl _ (y_move rfl rfl) ?_
  refine S_ 22 rfl rfl rfl _ (y_extract rfl rfl rfl) ?_
  refine S_ 23 rfl rfl rfl _ (y_extract rfl rfl rfl) ?_
  refine S_alloc 8 8 rfl rfl rfl rfl z42 ?_
  intro b8
  refine S_store 8 rfl rfl rfl rfl rfl rfl sz42 rfl rfl ?_
  refine S_ 9 rfl rfl rfl _ (y_assign rfl rfl) ?_
  refine S_go (fun _ _ h => h) ?_
  refine T_seq ?_
  refine T_seq ?_
  refine T_region ?_
  refine S_ 24 rfl rfl rfl _ (y_move rfl rfl) ?_
  refine S_ 25 rfl rfl rfl _ (y_not rfl rfl) ?_
  refine S_go (fun _ _ h => h) ?_
  refine T_cond rfl (fun h25 => ?_) (fun h25 => ?_)
  · skip
    have hin : relOk s.inn = false := by simpa using h25
    refine T_seq ?_
    refine T_region ?_
    refine S_ 26 rfl rfl rfl _ (y_move rfl rfl) ?_
    refine S_ 6 rfl rfl rfl _ (y_assign rfl rfl) ?_
    refine S_go (fun _ _ h => h) ?_
    refine T_ret (fun a w hF hM => hRb a w (post1 rfl rfl (fun w hM => ?_) a w hF hM))
    exact ⟨by rw [comesB, if_pos hin], hM.below⟩
  · skip
    have hin : relOk s.inn = true := by simpa using h25
    refine T_skip_go (fun _ _ h => h) ?_
    refine T_seq ?_
    refine T_seq ?_
    refine T_region ?_
    refine S_ 28 rfl rfl rfl _ (y_fieldAddr rfl rfl fa29_6) ?_
    refine S_ 29 rfl rfl rfl _ (y_load 4 rfl rfl rfl rfl Tryz.underlying9 rfl) ?_
    refine S_callOwn 30 30 rfl rfl rfl rfl rfl rfl rfl cf101 (fun A c => .tuple #[pvV (parseR e.rel).1 A c, .bool (parseR e.rel).2]) 9 1 ((parseR e.rel).1.pre.length) ((parseR e.rel).1.pre.flatMap strE) (fun w hM => parse_any e.rel w) ?_
    intro A30 c30
    refine S_ 27 rfl rfl rfl _ (y_move rfl rfl) ?_
    refine S_ 31 rfl rfl rfl _ (y_extract rfl rfl rfl) ?_
    refine S_ 32 rfl rfl rfl _ (y_extract rfl rfl rfl) ?_
    refine S_alloc 10 10 rfl rfl rfl rfl z42 ?_
    intro b10
    refine S_store 10 rfl rfl rfl rfl rfl rfl sz42 rfl rfl ?_
    refine S_ 11 rfl rfl rfl _ (y_assign rfl rfl) ?_
    refine S_go (fun _ _ h => h) ?_
    refine T_seq ?_
    refine T_region ?_
    refine S_ 33 rfl rfl rfl _ (y_move rfl rfl) ?_
    refine S_ 34 rfl rfl rfl _ (y_move rfl rfl) ?_
    refine Sg_ 35 rfl rfl rfl rfl rfl rfl _ (y_fieldAddr rfl rfl fa42_0) ?_
    refine Sg_ 36 rfl rfl rfl rfl rfl rfl _ (y_load 10 rfl rfl rfl rfl Tryz.underlying9 rfl) ?_
    refine Sg_ 37 rfl rfl rfl rfl rfl rfl _ (y_fieldAddr rfl rfl fa42_0) ?_
    refine Sg_ 38 rfl rfl rfl rfl rfl rfl _ (y_load 8 rfl rfl rfl rfl Tryz.underlying9 rfl) ?_
    refine Sg_ 39 rfl rfl rfl rfl rfl rfl _ (y_bin rfl rfl rfl (fun _ => b_eqls)) ?_
    refine S_ 40 rfl rfl rfl _ (y_as (v' := .bool (relOk e.rel && decide ((verV e.rel).p = (verV s.inn).p))) (by exact congrArg Value.bool (by
      cases hq : relOk e.rel with
      | false => simp [show (parseR e.rel).2 = false from hq]
      | true => simp [show (parseR e.rel).2 = true from hq, parse_ver hq, parse_ver hin])) (y_and rfl rfl rfl)) ?_
    refine S_go (fun _ _ h => h) ?_
    refine T_cond rfl (fun h40 => ?_) (fun h40 => ?_)
    · skip
      have hrl : relOk e.rel = true := by simp only [Bool.and_eq_true] at h40; exact h40.1
      refine T_seq ?_
      refine T_region ?_
      refine S_ 41 rfl rfl rfl _ (y_loadA 10 rfl rfl rfl Tryz.underlying42 rfl sz42) ?_
      refine S_ 42 rfl rfl rfl _ (y_loadA 8 rfl rfl rfl Tryz.underlying42 rfl sz42) ?_
      refine S_ 43 rfl rfl rfl _ (y_call rfl rfl rfl cf22 (fun _ w hM => Compare_any (svr (parseR e.rel).1 A30 c30) (svr (parseR s.inn).1 A21 c21) w (svr_ok (parseR_bound _) (owned_ok (enc := strE) hM rfl (i := 30) rfl)) (svr_ok (parseR_bound _) (owned_ok (enc := strE) hM rfl (i := 21) rfl)))) ?_
      refine S_ 12 rfl rfl rfl _ (y_assign rfl rfl) ?_
      refine S_go (fun _ _ h => h) ?_
      refine T_seq ?_
      refine T_region ?_
      refine S_ 44 rfl rfl rfl _ (y_move rfl rfl) ?_
      refine S_ 45 rfl rfl rfl _ (y_bin rfl rfl rfl (fun _ => b_gtr)) ?_
      refine S_ 46 rfl rfl rfl _ (y_move rfl rfl) ?_
      refine Sg_ 47 rfl rfl rfl rfl rfl rfl _ (y_move rfl rfl) ?_
      refine Sg_ 48 rfl rfl rfl rfl rfl rfl _ (y_bin rfl rfl rfl (fun _ => b_eql)) ?_
      refine Sg_ 49 rfl rfl rfl rfl rfl rfl _ (y_move rfl rfl) ?_
      refine Sg_ 50 rfl rfl rfl rfl rfl rfl _ (y_fieldAddr rfl rfl fa52_3) ?_
      refine Sg_ 51 rfl rfl rfl rfl rfl rfl _ (y_load 3 rfl rfl rfl rfl Tryz.underlying4 rfl) ?_
      refine Sg_ 52 rfl rfl rfl rfl rfl rfl _ (y_not rfl rfl) ?_
      refine Sg_ 53 rfl rfl rfl rfl rfl rfl _ (y_and rfl rfl rfl) ?_
      refine S_ 54 rfl rfl rfl _ (y_or rfl rfl rfl) ?_
      refine S_ 6 rfl rfl rfl _ (y_assign rfl rfl) ?_
      refine S_go (fun _ _ h => h) ?_
      refine T_ret (fun a w hF hM => hRb a w (post1 rfl rfl (fun w hM => ?_) a w hF hM))
      exact ⟨by rw [comesB, if_neg (by rw [hin]; simp), if_pos h40, svr_says, svr_says, parse_ver hrl, parse_ver hin], hM.below⟩
    · skip
      refine T_skip_go (fun _ _ h => h) ?_
      refine T_seq ?_
      refine T_region ?_
      refine S_ 55 rfl rfl rfl _ (y_move rfl rfl) ?_
      refine S_ 56 rfl rfl rfl _ (y_move rfl rfl) ?_
      refine Sg_ 57 rfl rfl rfl rfl rfl rfl _ (y_move rfl rfl) ?_
      refine Sg_ 58 rfl rfl rfl rfl rfl rfl _ (y_makeFunc rfl rfl rfl rfl rfl) ?_
      refine Sg_ 59 rfl rfl rfl rfl rfl rfl _ (y_call rfl rfl rfl cf243 (fun _ w hM => ContFV_any vs _ _ (fun x => beyB (parseR s.inn).1 x.says s.nx) w (hv.below hM.below) cf244 (fun x hx w1 hb => comesBack1_any x (svr (parseR s.inn).1 A21 c21) s b8 b3 w1 (((hv.n x hx).below hM.below).below hb) (svr_ok (parseR_bound _) ((owned_ok (enc := strE) hM rfl (i := 21) rfl).below hb)) (cells_below (hM.box_cells 8 rfl) hb) (cells_below (hM.box_cells 3 rfl) hb)))) ?_
      refine S_ 60 rfl rfl rfl _ (y_and rfl rfl rfl) ?_
      refine S_ 6 rfl rfl rfl _ (y_assign rfl rfl) ?_
      refine S_go (fun _ _ h => h) ?_
      refine T_ret (fun a w hF hM => hRb a w (post1 rfl rfl (fun w hM => ?_) a w hF hM))
      exact ⟨by rw [comesB, if_neg (by rw [hin]; simp), if_neg (by rw [h40]; simp), List.any_map, parse_ver hin]; rfl, hM.below⟩
def opened (s : PSt) (at_ : Int) : PSt := ⟨1, at_, [], false, -1, -1, -1, min (s.again + 1) 1000000⟩
def lessM (s : PSt) (wt : Int) : PSt := if s.more ≠ -1 then ⟨s.k, s.at_, s.inn, s.nx, s.till, max (s.more - wt) 0, s.ppl, s.again⟩ else s
def ignB (s : PSt) (at_ ppl : Int) : Bool := !decide (s.till = -1) && decide (s.till < at_) || decide (s.more = 0) || !decide (s.ppl = -1) && decide (s.ppl ≤ ppl)
def againB (s : PSt) (at_ : Int) (rel : List UInt8) (wt : Int) (vs : List PVer) (ppl : Int) : Bool := if s.k = 2 then comesB s at_ rel vs else if s.k = 3 then ignB (lessM s wt) at_ ppl else false
def afterS (s : PSt) (at_ : Int) (rel : List UInt8) (wt : Int) (vs : List PVer) (ppl : Int) : PSt := if againB s at_ rel wt vs ppl = true then opened s at_ else if s.k = 3 then lessM s wt else s
structure StNum (s : PSt) (wt : Int) : Prop where
  a : 0 ≤ s.again ∧ s.again ≤ 1000000
  m : -1 ≤ s.more ∧ s.more ≤ 1000000
  w : 1 ≤ wt ∧ wt ≤ 1000000
set_option maxHeartbeats 1600000 in
theorem after_any (s : PSt) (e : Evt) (vs : Sl SVer) (ppl : Int) (w : World) (hv : VersR w vs) (hn : StNum s e.wt) :
    Calls Tryz.prog 111 #[s.val, e.val, .slice vs.A vs.q vs.c, .int .i64 ppl] w fun en w' => en = .returned (afterS s e.at_ e.rel e.wt (vs.l.map SVer.says) ppl).val ∧ Below w.heap.size w w' := by
  obtain ⟨ha, hm, hw⟩ := hn
  refine enter_args (args := [.agg #[.int .i64 s.k, .int .i64 s.at_, str s.inn, .bool s.nx, .int .i64 s.till, .int .i64 s.more, .int .i64 s.ppl, .int .i64 s.again], .agg #[str e.id, .int .i64 e.at_, .int .i64 e.lv, .slice e.fa.A e.fa.q e.fa.c, .slice e.ta.A e.ta.q e.ta.c, .slice e.cr.A e.cr.q e.cr.c, str e.rel, str e.us, .int .i64 e.wt], .slice vs.A vs.q vs.c, .int .i64 ppl]) (F := _) Tryz.func111 rfl Tryz.ntmps111 rfl rfl ?_
  intro Rb hRb hRn
  refine T_seq ?_
  refine T_region ?_
  refine S_box 4 4 rfl rfl rfl rfl rfl ?_
  intro b4
  refine S_box 5 5 rfl rfl rfl rfl rfl ?_
  intro b5
  refine S_alloc 8 8 rfl rfl rfl rfl z52 ?_
  intro b8
  refine S_go (fun _ _ h => h) ?_
  refine T_seq ?_
  refine T_region ?_
  refine S_ 10 rfl rfl rfl _ (y_fieldAddr rfl rfl fa29_1) ?_
  refine S_ 11 rfl rfl rfl _ (y_load 5 rfl rfl rfl rfl Tryz.underlying3 rfl) ?_
  refine S_ 12 rfl rfl rfl _ (y_fieldAddr rfl rfl fa52_7) ?_
  refine S_ 13 rfl rfl rfl _ (y_load 4 rfl rfl rfl rfl Tryz.underlying3 rfl) ?_
  refine S_ 14 rfl rfl rfl _ (y_bin rfl rfl rfl (fun hg => b_add (by omega))) ?_
  refine S_ 15 rfl rfl rfl _ (y_as (v' := .int .i64 (min (s.again + 1) 1000000)) (by congr 1; omega) (y_min rfl rfl rfl)) ?_
  refine S_ 16 rfl rfl rfl _ (y_build (zv := .agg #[.int .i64 0, .int .i64 0, .string ⟨#[]⟩, .bool false, .int .i64 0, .int .i64 0, .int .i64 0, .int .i64 0]) (pl := [(0, 1), (1, 1), (2, 1), (3, 1), (4, 1), (5, 1), (6, 1), (7, 1)]) (out := [_, _, .string ⟨#[]⟩, .bool false, _, _, _, _]) rfl rfl Tryz.underlying52 z52 (by kernel_rfl) rfl) ?_
  refine S_alloc 9 9 rfl rfl rfl rfl z52 ?_
  intro b9
  refine S_store 9 rfl rfl rfl rfl rfl rfl sz52 rfl rfl ?_
  refine S_go (fun _ _ h => h) ?_
  refine T_seq ?_
  refine T_seq ?_
  refine T_region ?_
  refine S_ 17 rfl rfl rfl _ (y_fieldAddr rfl rfl fa52_0) ?_
  refine S_ 18 rfl rfl rfl _ (y_load 4 rfl rfl rfl rfl Tryz.underlying3 rfl) ?_
  refine S_go (fun _ _ h => h) ?_
  refine T_block ?_
  refine T_seq ?_
  refine T_region ?_
  refine S_ 20 rfl rfl rfl _ (y_bin rfl rfl rfl (fun _ => b_eql)) ?_
  refine S_ 19 rfl rfl rfl _ (y_assign rfl rfl) ?_
  refine S_go (fun _ _ h => h) ?_
  refine T_cond rfl (fun h19 => ?_) (fun h19 => ?_)
  · try simp only [decide_eq_true_eq, decide_eq_false_iff_not, Bool.or_eq_true, Bool.or_eq_false_iff, Bool.and_eq_true, Bool.and_eq_false_iff, Bool.not_eq_true', Bool.not_eq_false', Bool.not_eq_true, Bool.not_eq_false, Bool.not_true, Bool.not_false, Int.not_lt, Int.not_le, not_or, not_and, Classical.not_not] at h19
    refine T_seq ?_
    refine T_region ?_
    refine S_ 21 rfl rfl rfl _ (y_loadA 4 rfl rfl rfl Tryz.underlying52 rfl sz52) ?_
    refine S_ 22 rfl rfl rfl _ (y_loadA 5 rfl rfl rfl Tryz.underlying29 rfl sz29) ?_
    refine S_ 23 rfl rfl rfl _ (y_move rfl rfl) ?_
    refine S_ 24 rfl rfl rfl _ (y_call rfl rfl rfl cf205 (fun _ w hM => comesBack_any s e vs w (hv.below hM.below))) ?_
    refine S_go (fun _ _ h => h) ?_
    refine T_cond rfl (fun h24 => ?_) (fun h24 => ?_)
    · skip
      refine T_seq ?_
      refine T_region ?_
      refine S_ 25 rfl rfl rfl _ (y_loadA 9 rfl rfl rfl Tryz.underlying52 rfl sz52) ?_
      refine S_store 8 rfl rfl rfl rfl rfl rfl sz52 rfl rfl ?_
      refine S_go (fun _ _ h => h) ?_
      refine T_ret (fun a w hF hM => hRb a w (post_cell1 8 rfl rfl rfl Tryz.underlying52 rfl (by exact sz52) (fun w hM => ?_) a w hF hM))
      have hg : againB s e.at_ e.rel e.wt (vs.l.map SVer.says) ppl = true := by rw [againB, if_pos h19]; exact h24
      exact ⟨by rw [afterS, if_pos hg]; rfl, hM.below⟩
    · skip
      refine T_skip_go (fun _ _ h => h) ?_
      refine T_seq ?_
      refine T_region ?_
      refine S_ 65 rfl rfl rfl _ (y_loadA 4 rfl rfl rfl Tryz.underlying52 rfl sz52) ?_
      refine S_store 8 rfl rfl rfl rfl rfl rfl sz52 rfl rfl ?_
      refine S_go (fun _ _ h => h) ?_
      refine T_ret (fun a w hF hM => hRb a w (post_cell1 8 rfl rfl rfl Tryz.underlying52 rfl (by exact sz52) (fun w hM => ?_) a w hF hM))
      have hg : againB s e.at_ e.rel e.wt (vs.l.map SVer.says) ppl = false := by rw [againB, if_pos h19]; exact h24
      exact ⟨by rw [afterS, if_neg (by rw [hg]; simp), if_neg (by omega)]; rfl, hM.below⟩
  · try simp only [decide_eq_true_eq, decide_eq_false_iff_not, Bool.or_eq_true, Bool.or_eq_false_iff, Bool.and_eq_true, Bool.and_eq_false_iff, Bool.not_eq_true', Bool.not_eq_false', Bool.not_eq_true, Bool.not_eq_false, Bool.not_true, Bool.not_false, Int.not_lt, Int.not_le, not_or, not_and, Classical.not_not] at h19
    refine T_seq ?_
    refine T_region ?_
    refine S_ 27 rfl rfl rfl _ (y_bin rfl rfl rfl (fun _ => b_eql)) ?_
    refine S_ 26 rfl rfl rfl _ (y_assign rfl rfl) ?_
    refine S_go (fun _ _ h => h) ?_
    refine T_cond rfl (fun h26 => ?_) (fun h26 => ?_)
    · try simp only [decide_eq_true_eq, decide_eq_false_iff_not, Bool.or_eq_true, Bool.or_eq_false_iff, Bool.and_eq_true, Bool.and_eq_false_iff, Bool.not_eq_true', Bool.not_eq_false', Bool.not_eq_true, Bool.not_eq_false, Bool.not_true, Bool.not_false, Int.not_lt, Int.not_le, not_or, not_and, Classical.not_not] at h26
      refine T_seq ?_
      refine T_seq ?_
      refine T_region ?_
      refine S_ 28 rfl rfl rfl _ (y_fieldAddr rfl rfl fa52_5) ?_
      refine S_ 29 rfl rfl rfl _ (y_load 4 rfl rfl rfl rfl Tryz.underlying3 rfl) ?_
      refine S_ 30 rfl rfl rfl _ (y_bin rfl rfl rfl (fun _ => b_neq)) ?_
      refine S_go (fun _ _ h => h) ?_
      refine T_cond rfl (fun h30 => ?_) (fun h30 => ?_)
      · try simp only [decide_eq_true_eq, decide_eq_false_iff_not, Bool.or_eq_true, Bool.or_eq_false_iff, Bool.and_eq_true, Bool.and_eq_false_iff, Bool.not_eq_true', Bool.not_eq_false', Bool.not_eq_true, Bool.not_eq_false, Bool.not_true, Bool.not_false, Int.not_lt, Int.not_le, not_or, not_and, Classical.not_not] at h30
        refine T_region ?_
        refine S_ 31 rfl rfl rfl _ (y_fieldAddr rfl rfl fa52_5) ?_
        refine S_ 32 rfl rfl rfl _ (y_load 4 rfl rfl rfl rfl Tryz.underlying3 rfl) ?_
        refine S_ 33 rfl rfl rfl _ (y_fieldAddr rfl rfl fa29_8) ?_
        refine S_ 34 rfl rfl rfl _ (y_load 5 rfl rfl rfl rfl Tryz.underlying3 rfl) ?_
        refine S_ 35 rfl rfl rfl _ (y_bin rfl rfl rfl (fun hg => b_sub (by omega))) ?_
        refine S_ 36 rfl rfl rfl _ (y_as (v' := .int .i64 (max (s.more - e.wt) 0)) (by congr 1; omega) (y_max rfl rfl rfl)) ?_
        refine S_ 37 rfl rfl rfl _ (y_fieldAddr rfl rfl fa52_5) ?_
        refine S_store 4 rfl rfl rfl rfl rfl rfl sz3 rfl rfl ?_
        refine S_go (fun _ _ h => h) ?_
        refine T_seq ?_
        refine T_region ?_
        refine S_ 38 rfl rfl rfl _ (y_fieldAddr rfl rfl fa52_4) ?_
        refine S_ 39 rfl rfl rfl _ (y_load 4 rfl rfl rfl rfl Tryz.underlying3 rfl) ?_
        refine S_ 40 rfl rfl rfl _ (y_bin rfl rfl rfl (fun _ => b_neq)) ?_
        refine S_ 41 rfl rfl rfl _ (y_move rfl rfl) ?_
        refine Sg_ 42 rfl rfl rfl rfl rfl rfl _ (y_fieldAddr rfl rfl fa29_1) ?_
        refine Sg_ 43 rfl rfl rfl rfl rfl rfl _ (y_load 5 rfl rfl rfl rfl Tryz.underlying3 rfl) ?_
        refine Sg_ 44 rfl rfl rfl rfl rfl rfl _ (y_fieldAddr rfl rfl fa52_4) ?_
        refine Sg_ 45 rfl rfl rfl rfl rfl rfl _ (y_load 4 rfl rfl rfl rfl Tryz.underlying3 rfl) ?_
        refine Sg_ 46 rfl rfl rfl rfl rfl rfl _ (y_bin rfl rfl rfl (fun _ => b_gtr)) ?_
        refine S_ 47 rfl rfl rfl _ (y_and rfl rfl rfl) ?_
        refine S_ 48 rfl rfl rfl _ (y_move rfl rfl) ?_
        refine Sg_ 49 rfl rfl rfl rfl rfl rfl _ (y_fieldAddr rfl rfl fa52_5) ?_
        refine Sg_ 50 rfl rfl rfl rfl rfl rfl _ (y_load 4 rfl rfl rfl rfl Tryz.underlying3 rfl) ?_
        refine Sg_ 51 rfl rfl rfl rfl rfl rfl _ (y_bin rfl rfl rfl (fun _ => b_eql)) ?_
        refine S_ 52 rfl rfl rfl _ (y_or rfl rfl rfl) ?_
        refine S_ 53 rfl rfl rfl _ (y_move rfl rfl) ?_
        refine Sg_ 54 rfl rfl rfl rfl rfl rfl _ (y_fieldAddr rfl rfl fa52_6) ?_
        refine Sg_ 55 rfl rfl rfl rfl rfl rfl _ (y_load 4 rfl rfl rfl rfl Tryz.underlying3 rfl) ?_
        refine Sg_ 56 rfl rfl rfl rfl rfl rfl _ (y_bin rfl rfl rfl (fun _ => b_neq)) ?_
        refine Sg_ 57 rfl rfl rfl rfl rfl rfl _ (y_move rfl rfl) ?_
        refine Sg_ 58 rfl rfl rfl rfl rfl rfl _ (y_move rfl rfl) ?_
        refine Sg_ 59 rfl rfl rfl rfl rfl rfl _ (y_fieldAddr rfl rfl fa52_6) ?_
        refine Sg_ 60 rfl rfl rfl rfl rfl rfl _ (y_load 4 rfl rfl rfl rfl Tryz.underlying3 rfl) ?_
        refine Sg_ 61 rfl rfl rfl rfl rfl rfl _ (y_bin rfl rfl rfl (fun _ => b_geq)) ?_
        refine Sg_ 62 rfl rfl rfl rfl rfl rfl _ (y_and rfl rfl rfl) ?_
        refine S_ 63 rfl rfl rfl _ (y_or rfl rfl rfl) ?_
        refine S_go (fun _ _ h => h) ?_
        refine T_cond rfl (fun h63 => ?_) (fun h63 => ?_)
        · skip
          refine T_seq ?_
          refine T_region ?_
          refine S_ 64 rfl rfl rfl _ (y_loadA 9 rfl rfl rfl Tryz.underlying52 rfl sz52) ?_
          refine S_store 8 rfl rfl rfl rfl rfl rfl sz52 rfl rfl ?_
          refine S_go (fun _ _ h => h) ?_
          refine T_ret (fun a w hF hM => hRb a w (post_cell1 8 rfl rfl rfl Tryz.underlying52 rfl (by exact sz52) (fun w hM => ?_) a w hF hM))
          have hl : lessM s e.wt = ⟨s.k, s.at_, s.inn, s.nx, s.till, max (s.more - e.wt) 0, s.ppl, s.again⟩ := if_pos h30
          have hg : againB s e.at_ e.rel e.wt (vs.l.map SVer.says) ppl = true := by rw [againB, if_neg (by omega), if_pos h26, hl]; exact h63
          exact ⟨by rw [afterS, if_pos hg]; rfl, hM.below⟩
        · skip
          refine T_skip_go (fun _ _ h => h) ?_
          refine T_seq ?_
          refine T_region ?_
          refine S_ 65 rfl rfl rfl _ (y_loadA 4 rfl rfl rfl Tryz.underlying52 rfl sz52) ?_
          refine S_store 8 rfl rfl rfl rfl rfl rfl sz52 rfl rfl ?_
          refine S_go (fun _ _ h => h) ?_
          refine T_ret (fun a w hF hM => hRb a w (post_cell1 8 rfl rfl rfl Tryz.underlying52 rfl (by exact sz52) (fun w hM => ?_) a w hF hM))
          have hl : lessM s e.wt = ⟨s.k, s.at_, s.inn, s.nx, s.till, max (s.more - e.wt) 0, s.ppl, s.again⟩ := if_pos h30
          have hg : againB s e.at_ e.rel e.wt (vs.l.map SVer.says) ppl = false := by rw [againB, if_neg (by omega), if_pos h26, hl]; exact h63
          exact ⟨by rw [afterS, if_neg (by rw [hg]; simp), if_pos h26, hl]; rfl, hM.below⟩
      · try simp only [decide_eq_true_eq, decide_eq_false_iff_not, Bool.or_eq_true, Bool.or_eq_false_iff, Bool.and_eq_true, Bool.and_eq_false_iff, Bool.not_eq_true', Bool.not_eq_false', Bool.not_eq_true, Bool.not_eq_false, Bool.not_true, Bool.not_false, Int.not_lt, Int.not_le, not_or, not_and, Classical.not_not] at h30
        refine T_skip_go (fun _ _ h => h) ?_
        refine T_seq ?_
        refine T_region ?_
        refine S_ 38 rfl rfl rfl _ (y_fieldAddr rfl rfl fa52_4) ?_
        refine S_ 39 rfl rfl rfl _ (y_load 4 rfl rfl rfl rfl Tryz.underlying3 rfl) ?_
        refine S_ 40 rfl rfl rfl _ (y_bin rfl rfl rfl (fun _ => b_neq)) ?_
        refine S_ 41 rfl rfl rfl _ (y_move rfl rfl) ?_
        refine Sg_ 42 rfl rfl rfl rfl rfl rfl _ (y_fieldAddr rfl rfl fa29_1) ?_
        refine Sg_ 43 rfl rfl rfl rfl rfl rfl _ (y_load 5 rfl rfl rfl rfl Tryz.underlying3 rfl) ?_
        refine Sg_ 44 rfl rfl rfl rfl rfl rfl _ (y_fieldAddr rfl rfl fa52_4) ?_
        refine Sg_ 45 rfl rfl rfl rfl rfl rfl _ (y_load 4 rfl rfl rfl rfl Tryz.underlying3 rfl) ?_
        refine Sg_ 46 rfl rfl rfl rfl rfl rfl _ (y_bin rfl rfl rfl (fun _ => b_gtr)) ?_
        refine S_ 47 rfl rfl rfl _ (y_and rfl rfl rfl) ?_
        refine S_ 48 rfl rfl rfl _ (y_move rfl rfl) ?_
        refine Sg_ 49 rfl rfl rfl rfl rfl rfl _ (y_fieldAddr rfl rfl fa52_5) ?_
        refine Sg_ 50 rfl rfl rfl rfl rfl rfl _ (y_load 4 rfl rfl rfl rfl Tryz.underlying3 rfl) ?_
        refine Sg_ 51 rfl rfl rfl rfl rfl rfl _ (y_bin rfl rfl rfl (fun _ => b_eql)) ?_
        refine S_ 52 rfl rfl rfl _ (y_or rfl rfl rfl) ?_
        refine S_ 53 rfl rfl rfl _ (y_move rfl rfl) ?_
        refine Sg_ 54 rfl rfl rfl rfl rfl rfl _ (y_fieldAddr rfl rfl fa52_6) ?_
        refine Sg_ 55 rfl rfl rfl rfl rfl rfl _ (y_load 4 rfl rfl rfl rfl Tryz.underlying3 rfl) ?_
        refine Sg_ 56 rfl rfl rfl rfl rfl rfl _ (y_bin rfl rfl rfl (fun _ => b_neq)) ?_
        refine Sg_ 57 rfl rfl rfl rfl rfl rfl _ (y_move rfl rfl) ?_
        refine Sg_ 58 rfl rfl rfl rfl rfl rfl _ (y_move rfl rfl) ?_
        refine Sg_ 59 rfl rfl rfl rfl rfl rfl _ (y_fieldAddr rfl rfl fa52_6) ?_
        refine Sg_ 60 rfl rfl rfl rfl rfl rfl _ (y_load 4 rfl rfl rfl rfl Tryz.underlying3 rfl) ?_
        refine Sg_ 61 rfl rfl rfl rfl rfl rfl _ (y_bin rfl rfl rfl (fun _ => b_geq)) ?_
        refine Sg_ 62 rfl rfl rfl rfl rfl rfl _ (y_and rfl rfl rfl) ?_
        refine S_ 63 rfl rfl rfl _ (y_or rfl rfl rfl) ?_
        refine S_go (fun _ _ h => h) ?_
        refine T_cond rfl (fun h63 => ?_) (fun h63 => ?_)
        · skip
          refine T_seq ?_
          refine T_region ?_
          refine S_ 64 rfl rfl rfl _ (y_loadA 9 rfl rfl rfl Tryz.underlying52 rfl sz52) ?_
          refine S_store 8 rfl rfl rfl rfl rfl rfl sz52 rfl rfl ?_
          refine S_go (fun _ _ h => h) ?_
          refine T_ret (fun a w hF hM => hRb a w (post_cell1 8 rfl rfl rfl Tryz.underlying52 rfl (by exact sz52) (fun w hM => ?_) a w hF hM))
          have hl : lessM s e.wt = s := if_neg (by omega)
          have hg : againB s e.at_ e.rel e.wt (vs.l.map SVer.says) ppl = true := by rw [againB, if_neg (by omega), if_pos h26, hl]; exact h63
          exact ⟨by rw [afterS, if_pos hg]; rfl, hM.below⟩
        · skip
          refine T_skip_go (fun _ _ h => h) ?_
          refine T_seq ?_
          refine T_region ?_
          refine S_ 65 rfl rfl rfl _ (y_loadA 4 rfl rfl rfl Tryz.underlying52 rfl sz52) ?_
          refine S_store 8 rfl rfl rfl rfl rfl rfl sz52 rfl rfl ?_
          refine S_go (fun _ _ h => h) ?_
          refine T_ret (fun a w hF hM => hRb a w (post_cell1 8 rfl rfl rfl Tryz.underlying52 rfl (by exact sz52) (fun w hM => ?_) a w hF hM))
          have hl : lessM s e.wt = s := if_neg (by omega)
          have hg : againB s e.at_ e.rel e.wt (vs.l.map SVer.says) ppl = false := by rw [againB, if_neg (by omega), if_pos h26, hl]; exact h63
          exact ⟨by rw [afterS, if_neg (by rw [hg]; simp), if_pos h26, hl]; rfl, hM.below⟩
    · try simp only [decide_eq_true_eq, decide_eq_false_iff_not, Bool.or_eq_true, Bool.or_eq_false_iff, Bool.and_eq_true, Bool.and_eq_false_iff, Bool.not_eq_true', Bool.not_eq_false', Bool.not_eq_true, Bool.not_eq_false, Bool.not_true, Bool.not_false, Int.not_lt, Int.not_le, not_or, not_and, Classical.not_not] at h26
      refine T_skip_go (fun _ _ h => h) ?_
      refine T_seq ?_
      refine T_region ?_
      refine S_ 65 rfl rfl rfl _ (y_loadA 4 rfl rfl rfl Tryz.underlying52 rfl sz52) ?_
      refine S_store 8 rfl rfl rfl rfl rfl rfl sz52 rfl rfl ?_
      refine S_go (fun _ _ h => h) ?_
      refine T_ret (fun a w hF hM => hRb a w (post_cell1 8 rfl rfl rfl Tryz.underlying52 rfl (by exact sz52) (fun w hM => ?_) a w hF hM))
      have hg : againB s e.at_ e.rel e.wt (vs.l.map SVer.says) ppl = false := by rw [againB, if_neg (by omega), if_neg (by omega)]
      exact ⟨by rw [afterS, if_neg (by rw [hg]; simp), if_neg (by omega)]; rfl, hM.below⟩
end Go.Proofs.YtpmlgnbbkpplhaaGreatDoor
end
section
namespace Go.Proofs.YtpmlgnbbkpplhaaGreatDoor
set_option linter.unusedSimpArgs false
set_option linter.unusedVariables false
set_option maxRecDepth 20000
open Go.RowKit Go.Eng
theorem z153 : ∀ w, (zeroValue 153).run Tryz.prog w = .ok .nilFunc w := fun _ => by kernel_rfl
abbrev ra1V (b1 b2 : Nat) : Value := .func (.func 206) #[] #[.pointer (some ⟨b1, 0, none⟩), .pointer (some ⟨b2, 0, none⟩)]
theorem resolvedAgain2_any (t : List UInt8) (i : SVer) (s : PSt) (b1 b2 b3 : Nat) (w : World) (hi : VerOk w i) (h1 : CellsAt w b1 i.enc) (h2 : CellsAt w b2 s.enc) (h3 : CellsAt w b3 [ra1V b1 b2]) :
    Calls Tryz.prog 207 #[str t, .pointer (some ⟨b3, 0, none⟩)] w fun e w' => e = .returned (.bool (beyB i.says (parE t).1 s.nx)) ∧ Below w.heap.size w w' := by
  refine enter_args (args := [str t, .pointer (some ⟨b3, 0, none⟩)]) (F := _) Tryz.func207 rfl Tryz.ntmps207 rfl rfl ?_
  intro Rb hRb hRn
  refine T_seq ?_
  refine T_region ?_
  refine S_ 3 rfl rfl rfl _ (y_assign rfl rfl) ?_
  refine S_go (fun _ _ h => h) ?_
  refine T_seq ?_
  refine T_region ?_
  refine S_ 7 rfl rfl rfl _ (y_move rfl rfl) ?_
  refine S_callOwn 8 8 rfl rfl rfl rfl rfl rfl rfl cf25 (fun A c => .tuple #[pvV (parE t).1 A c, .int .i64 (parE t).2]) 9 1 ((parE t).1.pre.length) ((parE t).1.pre.flatMap strE) (fun w hM => VersionOf_any t w) ?_
  intro A8 c8
  refine S_ 6 rfl rfl rfl _ (y_move rfl rfl) ?_
  refine S_ 9 rfl rfl rfl _ (y_extract rfl rfl rfl) ?_
  refine S_ 10 rfl rfl rfl _ (y_extract rfl rfl rfl) ?_
  refine S_alloc 4 4 rfl rfl rfl rfl z42 ?_
  intro b4
  refine S_store 4 rfl rfl rfl rfl rfl rfl sz42 rfl rfl ?_
  refine S_ 5 rfl rfl rfl _ (y_assign rfl rfl) ?_
  refine S_go (fun _ _ h => h) ?_
  refine T_seq ?_
  refine T_region ?_
  refine S_ 11 rfl rfl rfl _ (y_load_far rfl rfl (show w.cell? ⟨b3, 0, none⟩ = some (ra1V b1 b2) from h3.1 0 _ rfl) h3.2 Tryz.underlying153 rfl) ?_
  refine S_ 12 rfl rfl rfl _ (y_loadA 4 rfl rfl rfl Tryz.underlying42 rfl sz42) ?_
  refine S_ 13 rfl rfl rfl _ (y_call rfl rfl rfl cf206 (fun _ w hM => resolvedAgain1_any (svr (parE t).1 A8 c8) i s b1 b2 w (svr_ok (parE_bound _) (owned_ok (enc := strE) hM rfl (i := 8) rfl)) (hi.below hM.below) (cells_below h1 hM.below) (cells_below h2 hM.below))) ?_
  refine S_ 3 rfl rfl rfl _ (y_assign rfl rfl) ?_
  refine S_go (fun _ _ h => h) ?_
  refine T_ret (fun a w hF hM => hRb a w (post1 rfl rfl (fun w hM => ?_) a w hF hM))
  exact ⟨rfl, hM.below⟩
theorem parE_good {s : List UInt8} (h : relOk s = true) : parE s = (verV s, 0) := if_pos h
theorem parE_bad {s : List UInt8} (h : relOk s = false) : parE s = (pver0, 8) := if_neg (by rw [h]; simp)
theorem any_cong {α : Type} {p q : α → Bool} : ∀ {l : List α}, (∀ x ∈ l, p x = q x) → l.any p = l.any q
  | [], _ => rfl
  | a :: r, h => by rw [List.any_cons, List.any_cons, h a (List.mem_cons_self ..), any_cong fun x hx => h x (List.mem_cons_of_mem _ hx)]
theorem rel_nil : relOk [] = false := by kernel_rfl
set_option maxHeartbeats 1600000 in
theorem resolvedAgain_any (s : PSt) (e : Evt) (A : Option Addr) (q c : Nat) (S : List (List UInt8)) (w : World) (hS : SlT strE 1 w A q S) (hq : q ≤ 2000) (hall : ∀ t ∈ S, relOk t = true) (hin : s.inn = [] ∨ relOk s.inn = true) :
    Calls Tryz.prog 112 #[s.val, e.val, .slice A q c] w fun en w' => en = .returned (.bool (comesB s e.at_ e.rel (S.map verV))) ∧ Below w.heap.size w w' := by
  refine enter_args (args := [.agg #[.int .i64 s.k, .int .i64 s.at_, str s.inn, .bool s.nx, .int .i64 s.till, .int .i64 s.more, .int .i64 s.ppl, .int .i64 s.again], .agg #[str e.id, .int .i64 e.at_, .int .i64 e.lv, .slice e.fa.A e.fa.q e.fa.c, .slice e.ta.A e.ta.q e.ta.c, .slice e.cr.A e.cr.q e.cr.c, str e.rel, str e.us, .int .i64 e.wt], .slice A q c]) (F := _) Tryz.func112 rfl Tryz.ntmps112 rfl rfl ?_
  intro Rb hRb hRn
  refine T_seq ?_
  refine T_region ?_
  refine S_box 3 3 rfl rfl rfl rfl rfl ?_
  intro b3
  refine S_box 4 4 rfl rfl rfl rfl rfl ?_
  intro b4
  refine S_ 6 rfl rfl rfl _ (y_assign rfl rfl) ?_
  refine S_go (fun _ _ h => h) ?_
  refine T_seq ?_
  refine T_region ?_
  refine S_ 13 rfl rfl rfl _ (y_fieldAddr rfl rfl fa29_1) ?_
  refine S_ 14 rfl rfl rfl _ (y_load 4 rfl rfl rfl rfl Tryz.underlying3 rfl) ?_
  refine S_ 15 rfl rfl rfl _ (y_fieldAddr rfl rfl fa52_1) ?_
  refine S_ 16 rfl rfl rfl _ (y_load 3 rfl rfl rfl rfl Tryz.underlying3 rfl) ?_
  refine S_ 17 rfl rfl rfl _ (y_bin rfl rfl rfl (fun _ => b_gtr)) ?_
  refine S_ 7 rfl rfl rfl _ (y_assign rfl rfl) ?_
  refine S_go (fun _ _ h => h) ?_
  refine T_seq ?_
  refine T_seq ?_
  refine T_region ?_
  refine S_ 18 rfl rfl rfl _ (y_fieldAddr rfl rfl fa52_2) ?_
  refine S_ 19 rfl rfl rfl _ (y_load 3 rfl rfl rfl rfl Tryz.underlying9 rfl) ?_
  refine S_ 20 rfl rfl rfl _ (y_bin rfl rfl rfl (fun _ => b_eqls)) ?_
  refine S_go (fun _ _ h => h) ?_
  refine T_cond rfl (fun h20 => ?_) (fun h20 => ?_)
  · skip
    have h20 : s.inn = [] := by simpa using h20
    refine T_seq ?_
    refine T_region ?_
    refine S_ 21 rfl rfl rfl _ (y_move rfl rfl) ?_
    refine S_ 6 rfl rfl rfl _ (y_assign rfl rfl) ?_
    refine S_go (fun _ _ h => h) ?_
    refine T_ret (fun a w hF hM => hRb a w (post1 rfl rfl (fun w hM => ?_) a w hF hM))
    exact ⟨by rw [comesB, h20, if_pos rel_nil], hM.below⟩
  · skip
    have h20 : ¬ s.inn = [] := by simpa using h20
    have hin : relOk s.inn = true := hin.resolve_left h20
    refine T_skip_go (fun _ _ h => h) ?_
    refine T_seq ?_
    refine T_region ?_
    refine S_ 23 rfl rfl rfl _ (y_fieldAddr rfl rfl fa52_2) ?_
    refine S_ 24 rfl rfl rfl _ (y_load 3 rfl rfl rfl rfl Tryz.underlying9 rfl) ?_
    refine S_callOwn 25 25 rfl rfl rfl rfl rfl rfl rfl cf25 (fun A c => .tuple #[pvV (parE s.inn).1 A c, .int .i64 (parE s.inn).2]) 9 1 ((parE s.inn).1.pre.length) ((parE s.inn).1.pre.flatMap strE) (fun w hM => VersionOf_any s.inn w) ?_
    intro A25 c25
    refine S_ 22 rfl rfl rfl _ (y_move rfl rfl) ?_
    refine S_ 26 rfl rfl rfl _ (y_extract rfl rfl rfl) ?_
    refine S_ 27 rfl rfl rfl _ (y_extract rfl rfl rfl) ?_
    refine S_alloc 8 8 rfl rfl rfl rfl z42 ?_
    intro b8
    refine S_store 8 rfl rfl rfl rfl rfl rfl sz42 rfl rfl ?_
    refine S_ 9 rfl rfl rfl _ (y_assign rfl rfl) ?_
    refine S_go (fun _ _ h => h) ?_
    refine T_seq ?_
    refine T_region ?_
    refine S_ 28 rfl rfl rfl _ (y_makeFunc rfl rfl rfl rfl rfl) ?_
    refine S_alloc 10 10 rfl rfl rfl rfl z153 ?_
    intro b10
    refine S_store 10 rfl rfl rfl rfl rfl rfl sz153 rfl rfl ?_
    refine S_go (fun _ _ h => h) ?_
    refine T_seq ?_
    refine T_seq ?_
    refine T_region ?_
    refine S_ 30 rfl rfl rfl _ (y_fieldAddr rfl rfl fa29_6) ?_
    refine S_ 31 rfl rfl rfl _ (y_load 4 rfl rfl rfl rfl Tryz.underlying9 rfl) ?_
    refine S_callOwn 32 32 rfl rfl rfl rfl rfl rfl rfl cf25 (fun A c => .tuple #[pvV (parE e.rel).1 A c, .int .i64 (parE e.rel).2]) 9 1 ((parE e.rel).1.pre.length) ((parE e.rel).1.pre.flatMap strE) (fun w hM => VersionOf_any e.rel w) ?_
    intro A32 c32
    refine S_ 29 rfl rfl rfl _ (y_move rfl rfl) ?_
    refine S_ 33 rfl rfl rfl _ (y_extract rfl rfl rfl) ?_
    refine S_ 34 rfl rfl rfl _ (y_extract rfl rfl rfl) ?_
    refine S_alloc 11 11 rfl rfl rfl rfl z42 ?_
    intro b11
    refine S_store 11 rfl rfl rfl rfl rfl rfl sz42 rfl rfl ?_
    refine S_ 12 rfl rfl rfl _ (y_assign rfl rfl) ?_
    refine S_go (fun _ _ h => h) ?_
    refine T_seq ?_
    refine T_region ?_
    refine S_ 35 rfl rfl rfl _ (y_move rfl rfl) ?_
    refine S_ 36 rfl rfl rfl _ (y_bin rfl rfl rfl (fun _ => b_eql)) ?_
    refine S_ 37 rfl rfl rfl _ (y_move rfl rfl) ?_
    refine Sg_ 38 rfl rfl rfl rfl rfl rfl _ (y_fieldAddr rfl rfl fa42_0) ?_
    refine Sg_ 39 rfl rfl rfl rfl rfl rfl _ (y_load 11 rfl rfl rfl rfl Tryz.underlying9 rfl) ?_
    refine Sg_ 40 rfl rfl rfl rfl rfl rfl _ (y_fieldAddr rfl rfl fa42_0) ?_
    refine Sg_ 41 rfl rfl rfl rfl rfl rfl _ (y_load 8 rfl rfl rfl rfl Tryz.underlying9 rfl) ?_
    refine Sg_ 42 rfl rfl rfl rfl rfl rfl _ (y_bin rfl rfl rfl (fun _ => b_eqls)) ?_
    refine S_ 43 rfl rfl rfl _ (y_as (v' := .bool (relOk e.rel && decide ((verV e.rel).p = (verV s.inn).p))) (by exact congrArg Value.bool (by
      cases hq : relOk e.rel with
      | false => simp [parE_bad hq]
      | true => simp [parE_good hq, parE_good hin])) (y_and rfl rfl rfl)) ?_
    refine S_go (fun _ _ h => h) ?_
    refine T_cond rfl (fun h43 => ?_) (fun h43 => ?_)
    · skip
      have hrl : relOk e.rel = true ∧ (verV e.rel).p = (verV s.inn).p := by simpa using h43
      refine T_seq ?_
      refine T_region ?_
      refine S_ 44 rfl rfl rfl _ (y_load 10 rfl rfl rfl rfl Tryz.underlying153 rfl) ?_
      refine S_ 45 rfl rfl rfl _ (y_loadA 11 rfl rfl rfl Tryz.underlying42 rfl sz42) ?_
      refine S_ 46 rfl rfl rfl _ (y_call rfl rfl rfl cf206 (fun _ w hM => resolvedAgain1_any (svr (parE e.rel).1 A32 c32) (svr (parE s.inn).1 A25 c25) s b8 b3 w (svr_ok (parE_bound _) (owned_ok (enc := strE) hM rfl (i := 32) rfl)) (svr_ok (parE_bound _) (owned_ok (enc := strE) hM rfl (i := 25) rfl)) (hM.box_cells 8 rfl) (hM.box_cells 3 rfl))) ?_
      refine S_ 6 rfl rfl rfl _ (y_assign rfl rfl) ?_
      refine S_go (fun _ _ h => h) ?_
      refine T_ret (fun a w hF hM => hRb a w (post1 rfl rfl (fun w hM => ?_) a w hF hM))
      exact ⟨by rw [comesB, if_neg (by rw [hin]; simp), if_pos h43, svr_says, svr_says, parE_good hrl.1, parE_good hin, beyB, decide_eq_true hrl.2, Bool.true_and], hM.below⟩
    · skip
      refine T_skip_go (fun _ _ h => h) ?_
      refine T_seq ?_
      refine T_region ?_
      refine S_ 47 rfl rfl rfl _ (y_move rfl rfl) ?_
      refine S_ 48 rfl rfl rfl _ (y_move rfl rfl) ?_
      refine Sg_ 49 rfl rfl rfl rfl rfl rfl _ (y_move rfl rfl) ?_
      refine Sg_ 50 rfl rfl rfl rfl rfl rfl _ (y_makeFunc rfl rfl rfl rfl rfl) ?_
      refine Sg_ 51 rfl rfl rfl rfl rfl rfl _ (y_call rfl rfl rfl cf38 (fun _ w hM => ContFS_any A q c S _ _ (fun t => beyB (parE s.inn).1 (parE t).1 s.nx) w (hS.below hM.below) (by omega) cf207 (fun x hx w1 hb => resolvedAgain2_any x (svr (parE s.inn).1 A25 c25) s b8 b3 b10 w1 (svr_ok (parE_bound _) ((owned_ok (enc := strE) hM rfl (i := 25) rfl).below hb)) (cells_below (hM.box_cells 8 rfl) hb) (cells_below (hM.box_cells 3 rfl) hb) (cells_below (hM.box_cells 10 rfl) hb)))) ?_
      refine S_ 52 rfl rfl rfl _ (y_and rfl rfl rfl) ?_
      refine S_ 6 rfl rfl rfl _ (y_assign rfl rfl) ?_
      refine S_go (fun _ _ h => h) ?_
      refine T_ret (fun a w hF hM => hRb a w (post1 rfl rfl (fun w hM => ?_) a w hF hM))
      exact ⟨by rw [comesB, if_neg (by rw [hin]; simp), if_neg (by rw [h43]; simp), List.any_map, parE_good hin]; exact congrArg (fun b => Ending.returned (Value.bool (decide (s.at_ < e.at_) && b))) (any_cong fun x hx => by rw [parE_good (hall x hx)]; rfl), hM.below⟩
set_option maxHeartbeats 1600000 in
theorem SeenState_any (s : PSt) (e : Evt) (A : Option Addr) (q c : Nat) (S : List (List UInt8)) (ppl : Int) (w : World) (hS : SlT strE 1 w A q S) (hq : q ≤ 2000) (hall : ∀ t ∈ S, relOk t = true) (hin : s.inn = [] ∨ relOk s.inn = true) (hn : StNum s e.wt) :
    Calls Tryz.prog 30 #[s.val, e.val, .slice A q c, .int .i64 ppl] w fun en w' => en = .returned (.tuple #[(afterS s e.at_ e.rel e.wt (S.map verV) ppl).val, .bool (againB s e.at_ e.rel e.wt (S.map verV) ppl)]) ∧ Below w.heap.size w w' := by
  obtain ⟨ha, hm, hw⟩ := hn
  refine enter_args (args := [.agg #[.int .i64 s.k, .int .i64 s.at_, str s.inn, .bool s.nx, .int .i64 s.till, .int .i64 s.more, .int .i64 s.ppl, .int .i64 s.again], .agg #[str e.id, .int .i64 e.at_, .int .i64 e.lv, .slice e.fa.A e.fa.q e.fa.c, .slice e.ta.A e.ta.q e.ta.c, .slice e.cr.A e.cr.q e.cr.c, str e.rel, str e.us, .int .i64 e.wt], .slice A q c, .int .i64 ppl]) (F := _) Tryz.func30 rfl Tryz.ntmps30 rfl rfl ?_
  intro Rb hRb hRn
  refine T_seq ?_
  refine T_region ?_
  refine S_box 4 4 rfl rfl rfl rfl rfl ?_
  intro b4
  refine S_box 5 5 rfl rfl rfl rfl rfl ?_
  intro b5
  refine S_alloc 8 8 rfl rfl rfl rfl z52 ?_
  intro b8
  refine S_ 9 rfl rfl rfl _ (y_assign rfl rfl) ?_
  refine S_go (fun _ _ h => h) ?_
  refine T_seq ?_
  refine T_region ?_
  refine S_ 10 rfl rfl rfl _ (y_assign rfl rfl) ?_
  refine S_go (fun _ _ h => h) ?_
  refine T_seq ?_
  refine T_seq ?_
  refine T_region ?_
  refine S_ 11 rfl rfl rfl _ (y_fieldAddr rfl rfl fa52_0) ?_
  refine S_ 12 rfl rfl rfl _ (y_load 4 rfl rfl rfl rfl Tryz.underlying3 rfl) ?_
  refine S_go (fun _ _ h => h) ?_
  refine T_block ?_
  refine T_seq ?_
  refine T_region ?_
  refine S_ 14 rfl rfl rfl _ (y_bin rfl rfl rfl (fun _ => b_eql)) ?_
  refine S_ 13 rfl rfl rfl _ (y_assign rfl rfl) ?_
  refine S_go (fun _ _ h => h) ?_
  refine T_cond rfl (fun h13 => ?_) (fun h13 => ?_)
  · try simp only [decide_eq_true_eq, decide_eq_false_iff_not, Bool.or_eq_true, Bool.or_eq_false_iff, Bool.and_eq_true, Bool.and_eq_false_iff, Bool.not_eq_true', Bool.not_eq_false', Bool.not_eq_true, Bool.not_eq_false, Bool.not_true, Bool.not_false, Int.not_lt, Int.not_le, not_or, not_and, Classical.not_not] at h13
    refine T_region ?_
    refine S_ 15 rfl rfl rfl _ (y_loadA 4 rfl rfl rfl Tryz.underlying52 rfl sz52) ?_
    refine S_ 16 rfl rfl rfl _ (y_loadA 5 rfl rfl rfl Tryz.underlying29 rfl sz29) ?_
    refine S_ 17 rfl rfl rfl _ (y_move rfl rfl) ?_
    refine S_ 18 rfl rfl rfl _ (y_call rfl rfl rfl cf112 (fun _ w hM => resolvedAgain_any s e A q c S w (hS.below hM.below) hq hall hin)) ?_
    refine S_ 10 rfl rfl rfl _ (y_assign rfl rfl) ?_
    refine S_go (fun _ _ h => h) ?_
    refine T_seq ?_
    refine T_seq ?_
    refine T_region ?_
    refine S_ 57 rfl rfl rfl _ (y_move rfl rfl) ?_
    refine S_go (fun _ _ h => h) ?_
    refine T_cond rfl (fun h57 => ?_) (fun h57 => ?_)
    · skip
      refine T_region ?_
      refine S_ 58 rfl rfl rfl _ (y_fieldAddr rfl rfl fa29_1) ?_
      refine S_ 59 rfl rfl rfl _ (y_load 5 rfl rfl rfl rfl Tryz.underlying3 rfl) ?_
      refine S_ 60 rfl rfl rfl _ (y_fieldAddr rfl rfl fa52_7) ?_
      refine S_ 61 rfl rfl rfl _ (y_load 4 rfl rfl rfl rfl Tryz.underlying3 rfl) ?_
      refine S_ 62 rfl rfl rfl _ (y_bin rfl rfl rfl (fun hg => b_add (by omega))) ?_
      refine S_ 63 rfl rfl rfl _ (y_as (v' := .int .i64 (min (s.again + 1) 1000000)) (by congr 1; omega) (y_min rfl rfl rfl)) ?_
      refine S_ 64 rfl rfl rfl _ (y_build (zv := .agg #[.int .i64 0, .int .i64 0, .string ⟨#[]⟩, .bool false, .int .i64 0, .int .i64 0, .int .i64 0, .int .i64 0]) (pl := [(0, 1), (1, 1), (2, 1), (3, 1), (4, 1), (5, 1), (6, 1), (7, 1)]) (out := [_, _, .string ⟨#[]⟩, .bool false, _, _, _, _]) rfl rfl Tryz.underlying52 z52 (by kernel_rfl) rfl) ?_
      refine S_store 4 rfl rfl rfl rfl rfl rfl sz52 rfl rfl ?_
      refine S_go (fun _ _ h => h) ?_
      refine T_seq ?_
      refine T_region ?_
      refine S_ 65 rfl rfl rfl _ (y_loadA 4 rfl rfl rfl Tryz.underlying52 rfl sz52) ?_
      refine S_ 66 rfl rfl rfl _ (y_move rfl rfl) ?_
      refine S_store 8 rfl rfl rfl rfl rfl rfl sz52 rfl rfl ?_
      refine S_ 9 rfl rfl rfl _ (y_assign rfl rfl) ?_
      refine S_go (fun _ _ h => h) ?_
      refine T_ret (fun a w hF hM => hRb a w (post_cell 8 rfl rfl rfl rfl Tryz.underlying52 rfl (by exact sz52) (fun w hM => ?_) a w hF hM))
      have hg : againB s e.at_ e.rel e.wt (S.map verV) ppl = true := by rw [againB, if_pos h13]; exact h57
      exact ⟨by rw [afterS, if_pos hg, hg, ← h57]; rfl, hM.below⟩
    · skip
      refine T_skip_go (fun _ _ h => h) ?_
      refine T_seq ?_
      refine T_region ?_
      refine S_ 65 rfl rfl rfl _ (y_loadA 4 rfl rfl rfl Tryz.underlying52 rfl sz52) ?_
      refine S_ 66 rfl rfl rfl _ (y_move rfl rfl) ?_
      refine S_store 8 rfl rfl rfl rfl rfl rfl sz52 rfl rfl ?_
      refine S_ 9 rfl rfl rfl _ (y_assign rfl rfl) ?_
      refine S_go (fun _ _ h => h) ?_
      refine T_ret (fun a w hF hM => hRb a w (post_cell 8 rfl rfl rfl rfl Tryz.underlying52 rfl (by exact sz52) (fun w hM => ?_) a w hF hM))
      have hg : againB s e.at_ e.rel e.wt (S.map verV) ppl = false := by rw [againB, if_pos h13]; exact h57
      exact ⟨by rw [afterS, if_neg (by rw [hg]; simp), if_neg (by omega), hg, ← h57]; rfl, hM.below⟩
  · try simp only [decide_eq_true_eq, decide_eq_false_iff_not, Bool.or_eq_true, Bool.or_eq_false_iff, Bool.and_eq_true, Bool.and_eq_false_iff, Bool.not_eq_true', Bool.not_eq_false', Bool.not_eq_true, Bool.not_eq_false, Bool.not_true, Bool.not_false, Int.not_lt, Int.not_le, not_or, not_and, Classical.not_not] at h13
    refine T_seq ?_
    refine T_region ?_
    refine S_ 20 rfl rfl rfl _ (y_bin rfl rfl rfl (fun _ => b_eql)) ?_
    refine S_ 19 rfl rfl rfl _ (y_assign rfl rfl) ?_
    refine S_go (fun _ _ h => h) ?_
    refine T_cond rfl (fun h19 => ?_) (fun h19 => ?_)
    · try simp only [decide_eq_true_eq, decide_eq_false_iff_not, Bool.or_eq_true, Bool.or_eq_false_iff, Bool.and_eq_true, Bool.and_eq_false_iff, Bool.not_eq_true', Bool.not_eq_false', Bool.not_eq_true, Bool.not_eq_false, Bool.not_true, Bool.not_false, Int.not_lt, Int.not_le, not_or, not_and, Classical.not_not] at h19
      refine T_seq ?_
      refine T_seq ?_
      refine T_region ?_
      refine S_ 21 rfl rfl rfl _ (y_fieldAddr rfl rfl fa52_5) ?_
      refine S_ 22 rfl rfl rfl _ (y_load 4 rfl rfl rfl rfl Tryz.underlying3 rfl) ?_
      refine S_ 23 rfl rfl rfl _ (y_bin rfl rfl rfl (fun _ => b_neq)) ?_
      refine S_go (fun _ _ h => h) ?_
      refine T_cond rfl (fun h23 => ?_) (fun h23 => ?_)
      · try simp only [decide_eq_true_eq, decide_eq_false_iff_not, Bool.or_eq_true, Bool.or_eq_false_iff, Bool.and_eq_true, Bool.and_eq_false_iff, Bool.not_eq_true', Bool.not_eq_false', Bool.not_eq_true, Bool.not_eq_false, Bool.not_true, Bool.not_false, Int.not_lt, Int.not_le, not_or, not_and, Classical.not_not] at h23
        refine T_region ?_
        refine S_ 24 rfl rfl rfl _ (y_fieldAddr rfl rfl fa52_5) ?_
        refine S_ 25 rfl rfl rfl _ (y_load 4 rfl rfl rfl rfl Tryz.underlying3 rfl) ?_
        refine S_ 26 rfl rfl rfl _ (y_fieldAddr rfl rfl fa29_8) ?_
        refine S_ 27 rfl rfl rfl _ (y_load 5 rfl rfl rfl rfl Tryz.underlying3 rfl) ?_
        refine S_ 28 rfl rfl rfl _ (y_bin rfl rfl rfl (fun hg => b_sub (by omega))) ?_
        refine S_ 29 rfl rfl rfl _ (y_as (v' := .int .i64 (max (s.more - e.wt) 0)) (by congr 1; omega) (y_max rfl rfl rfl)) ?_
        refine S_ 30 rfl rfl rfl _ (y_fieldAddr rfl rfl fa52_5) ?_
        refine S_store 4 rfl rfl rfl rfl rfl rfl sz3 rfl rfl ?_
        refine S_go (fun _ _ h => h) ?_
        refine T_region ?_
        refine S_ 31 rfl rfl rfl _ (y_fieldAddr rfl rfl fa52_4) ?_
        refine S_ 32 rfl rfl rfl _ (y_load 4 rfl rfl rfl rfl Tryz.underlying3 rfl) ?_
        refine S_ 33 rfl rfl rfl _ (y_bin rfl rfl rfl (fun _ => b_neq)) ?_
        refine S_ 34 rfl rfl rfl _ (y_move rfl rfl) ?_
        refine Sg_ 35 rfl rfl rfl rfl rfl rfl _ (y_fieldAddr rfl rfl fa29_1) ?_
        refine Sg_ 36 rfl rfl rfl rfl rfl rfl _ (y_load 5 rfl rfl rfl rfl Tryz.underlying3 rfl) ?_
        refine Sg_ 37 rfl rfl rfl rfl rfl rfl _ (y_fieldAddr rfl rfl fa52_4) ?_
        refine Sg_ 38 rfl rfl rfl rfl rfl rfl _ (y_load 4 rfl rfl rfl rfl Tryz.underlying3 rfl) ?_
        refine Sg_ 39 rfl rfl rfl rfl rfl rfl _ (y_bin rfl rfl rfl (fun _ => b_gtr)) ?_
        refine S_ 40 rfl rfl rfl _ (y_and rfl rfl rfl) ?_
        refine S_ 41 rfl rfl rfl _ (y_move rfl rfl) ?_
        refine Sg_ 42 rfl rfl rfl rfl rfl rfl _ (y_fieldAddr rfl rfl fa52_5) ?_
        refine Sg_ 43 rfl rfl rfl rfl rfl rfl _ (y_load 4 rfl rfl rfl rfl Tryz.underlying3 rfl) ?_
        refine Sg_ 44 rfl rfl rfl rfl rfl rfl _ (y_bin rfl rfl rfl (fun _ => b_eql)) ?_
        refine S_ 45 rfl rfl rfl _ (y_or rfl rfl rfl) ?_
        refine S_ 46 rfl rfl rfl _ (y_move rfl rfl) ?_
        refine Sg_ 47 rfl rfl rfl rfl rfl rfl _ (y_fieldAddr rfl rfl fa52_6) ?_
        refine Sg_ 48 rfl rfl rfl rfl rfl rfl _ (y_load 4 rfl rfl rfl rfl Tryz.underlying3 rfl) ?_
        refine Sg_ 49 rfl rfl rfl rfl rfl rfl _ (y_bin rfl rfl rfl (fun _ => b_neq)) ?_
        refine Sg_ 50 rfl rfl rfl rfl rfl rfl _ (y_move rfl rfl) ?_
        refine Sg_ 51 rfl rfl rfl rfl rfl rfl _ (y_move rfl rfl) ?_
        refine Sg_ 52 rfl rfl rfl rfl rfl rfl _ (y_fieldAddr rfl rfl fa52_6) ?_
        refine Sg_ 53 rfl rfl rfl rfl rfl rfl _ (y_load 4 rfl rfl rfl rfl Tryz.underlying3 rfl) ?_
        refine Sg_ 54 rfl rfl rfl rfl rfl rfl _ (y_bin rfl rfl rfl (fun _ => b_geq)) ?_
        refine Sg_ 55 rfl rfl rfl rfl rfl rfl _ (y_and rfl rfl rfl) ?_
        refine S_ 56 rfl rfl rfl _ (y_or rfl rfl rfl) ?_
        refine S_ 10 rfl rfl rfl _ (y_assign rfl rfl) ?_
        refine S_go (fun _ _ h => h) ?_
        refine T_seq ?_
        refine T_seq ?_
        refine T_region ?_
        refine S_ 57 rfl rfl rfl _ (y_move rfl rfl) ?_
        refine S_go (fun _ _ h => h) ?_
        refine T_cond rfl (fun h57 => ?_) (fun h57 => ?_)
        · skip
          refine T_region ?_
          refine S_ 58 rfl rfl rfl _ (y_fieldAddr rfl rfl fa29_1) ?_
          refine S_ 59 rfl rfl rfl _ (y_load 5 rfl rfl rfl rfl Tryz.underlying3 rfl) ?_
          refine S_ 60 rfl rfl rfl _ (y_fieldAddr rfl rfl fa52_7) ?_
          refine S_ 61 rfl rfl rfl _ (y_load 4 rfl rfl rfl rfl Tryz.underlying3 rfl) ?_
          refine S_ 62 rfl rfl rfl _ (y_bin rfl rfl rfl (fun hg => b_add (by omega))) ?_
          refine S_ 63 rfl rfl rfl _ (y_as (v' := .int .i64 (min (s.again + 1) 1000000)) (by congr 1; omega) (y_min rfl rfl rfl)) ?_
          refine S_ 64 rfl rfl rfl _ (y_build (zv := .agg #[.int .i64 0, .int .i64 0, .string ⟨#[]⟩, .bool false, .int .i64 0, .int .i64 0, .int .i64 0, .int .i64 0]) (pl := [(0, 1), (1, 1), (2, 1), (3, 1), (4, 1), (5, 1), (6, 1), (7, 1)]) (out := [_, _, .string ⟨#[]⟩, .bool false, _, _, _, _]) rfl rfl Tryz.underlying52 z52 (by kernel_rfl) rfl) ?_
          refine S_store 4 rfl rfl rfl rfl rfl rfl sz52 rfl rfl ?_
          refine S_go (fun _ _ h => h) ?_
          refine T_seq ?_
          refine T_region ?_
          refine S_ 65 rfl rfl rfl _ (y_loadA 4 rfl rfl rfl Tryz.underlying52 rfl sz52) ?_
          refine S_ 66 rfl rfl rfl _ (y_move rfl rfl) ?_
          refine S_store 8 rfl rfl rfl rfl rfl rfl sz52 rfl rfl ?_
          refine S_ 9 rfl rfl rfl _ (y_assign rfl rfl) ?_
          refine S_go (fun _ _ h => h) ?_
          refine T_ret (fun a w hF hM => hRb a w (post_cell 8 rfl rfl rfl rfl Tryz.underlying52 rfl (by exact sz52) (fun w hM => ?_) a w hF hM))
          have hl : lessM s e.wt = ⟨s.k, s.at_, s.inn, s.nx, s.till, max (s.more - e.wt) 0, s.ppl, s.again⟩ := if_pos h23
          have hg : againB s e.at_ e.rel e.wt (S.map verV) ppl = true := by rw [againB, if_neg (by omega), if_pos h19, hl]; exact h57
          exact ⟨by rw [afterS, if_pos hg, hg, ← h57]; rfl, hM.below⟩
        · skip
          refine T_skip_go (fun _ _ h => h) ?_
          refine T_seq ?_
          refine T_region ?_
          refine S_ 65 rfl rfl rfl _ (y_loadA 4 rfl rfl rfl Tryz.underlying52 rfl sz52) ?_
          refine S_ 66 rfl rfl rfl _ (y_move rfl rfl) ?_
          refine S_store 8 rfl rfl rfl rfl rfl rfl sz52 rfl rfl ?_
          refine S_ 9 rfl rfl rfl _ (y_assign rfl rfl) ?_
          refine S_go (fun _ _ h => h) ?_
          refine T_ret (fun a w hF hM => hRb a w (post_cell 8 rfl rfl rfl rfl Tryz.underlying52 rfl (by exact sz52) (fun w hM => ?_) a w hF hM))
          have hl : lessM s e.wt = ⟨s.k, s.at_, s.inn, s.nx, s.till, max (s.more - e.wt) 0, s.ppl, s.again⟩ := if_pos h23
          have hg : againB s e.at_ e.rel e.wt (S.map verV) ppl = false := by rw [againB, if_neg (by omega), if_pos h19, hl]; exact h57
          exact ⟨by rw [afterS, if_neg (by rw [hg]; simp), if_pos h19, hl, hg, ← h57]; rfl, hM.below⟩
      · try simp only [decide_eq_true_eq, decide_eq_false_iff_not, Bool.or_eq_true, Bool.or_eq_false_iff, Bool.and_eq_true, Bool.and_eq_false_iff, Bool.not_eq_true', Bool.not_eq_false', Bool.not_eq_true, Bool.not_eq_false, Bool.not_true, Bool.not_false, Int.not_lt, Int.not_le, not_or, not_and, Classical.not_not] at h23
        refine T_skip_go (fun _ _ h => h) ?_
        refine T_region ?_
        refine S_ 31 rfl rfl rfl _ (y_fieldAddr rfl rfl fa52_4) ?_
        refine S_ 32 rfl rfl rfl _ (y_load 4 rfl rfl rfl rfl Tryz.underlying3 rfl) ?_
        refine S_ 33 rfl rfl rfl _ (y_bin rfl rfl rfl (fun _ => b_neq)) ?_
        refine S_ 34 rfl rfl rfl _ (y_move rfl rfl) ?_
        refine Sg_ 35 rfl rfl rfl rfl rfl rfl _ (y_fieldAddr rfl rfl fa29_1) ?_
        refine Sg_ 36 rfl rfl rfl rfl rfl rfl _ (y_load 5 rfl rfl rfl rfl Tryz.underlying3 rfl) ?_
        refine Sg_ 37 rfl rfl rfl rfl rfl rfl _ (y_fieldAddr rfl rfl fa52_4) ?_
        refine Sg_ 38 rfl rfl rfl rfl rfl rfl _ (y_load 4 rfl rfl rfl rfl Tryz.underlying3 rfl) ?_
        refine Sg_ 39 rfl rfl rfl rfl rfl rfl _ (y_bin rfl rfl rfl (fun _ => b_gtr)) ?_
        refine S_ 40 rfl rfl rfl _ (y_and rfl rfl rfl) ?_
        refine S_ 41 rfl rfl rfl _ (y_move rfl rfl) ?_
        refine Sg_ 42 rfl rfl rfl rfl rfl rfl _ (y_fieldAddr rfl rfl fa52_5) ?_
        refine Sg_ 43 rfl rfl rfl rfl rfl rfl _ (y_load 4 rfl rfl rfl rfl Tryz.underlying3 rfl) ?_
        refine Sg_ 44 rfl rfl rfl rfl rfl rfl _ (y_bin rfl rfl rfl (fun _ => b_eql)) ?_
        refine S_ 45 rfl rfl rfl _ (y_or rfl rfl rfl) ?_
        refine S_ 46 rfl rfl rfl _ (y_move rfl rfl) ?_
        refine Sg_ 47 rfl rfl rfl rfl rfl rfl _ (y_fieldAddr rfl rfl fa52_6) ?_
        refine Sg_ 48 rfl rfl rfl rfl rfl rfl _ (y_load 4 rfl rfl rfl rfl Tryz.underlying3 rfl) ?_
        refine Sg_ 49 rfl rfl rfl rfl rfl rfl _ (y_bin rfl rfl rfl (fun _ => b_neq)) ?_
        refine Sg_ 50 rfl rfl rfl rfl rfl rfl _ (y_move rfl rfl) ?_
        refine Sg_ 51 rfl rfl rfl rfl rfl rfl _ (y_move rfl rfl) ?_
        refine Sg_ 52 rfl rfl rfl rfl rfl rfl _ (y_fieldAddr rfl rfl fa52_6) ?_
        refine Sg_ 53 rfl rfl rfl rfl rfl rfl _ (y_load 4 rfl rfl rfl rfl Tryz.underlying3 rfl) ?_
        refine Sg_ 54 rfl rfl rfl rfl rfl rfl _ (y_bin rfl rfl rfl (fun _ => b_geq)) ?_
        refine Sg_ 55 rfl rfl rfl rfl rfl rfl _ (y_and rfl rfl rfl) ?_
        refine S_ 56 rfl rfl rfl _ (y_or rfl rfl rfl) ?_
        refine S_ 10 rfl rfl rfl _ (y_assign rfl rfl) ?_
        refine S_go (fun _ _ h => h) ?_
        refine T_seq ?_
        refine T_seq ?_
        refine T_region ?_
        refine S_ 57 rfl rfl rfl _ (y_move rfl rfl) ?_
        refine S_go (fun _ _ h => h) ?_
        refine T_cond rfl (fun h57 => ?_) (fun h57 => ?_)
        · skip
          refine T_region ?_
          refine S_ 58 rfl rfl rfl _ (y_fieldAddr rfl rfl fa29_1) ?_
          refine S_ 59 rfl rfl rfl _ (y_load 5 rfl rfl rfl rfl Tryz.underlying3 rfl) ?_
          refine S_ 60 rfl rfl rfl _ (y_fieldAddr rfl rfl fa52_7) ?_
          refine S_ 61 rfl rfl rfl _ (y_load 4 rfl rfl rfl rfl Tryz.underlying3 rfl) ?_
          refine S_ 62 rfl rfl rfl _ (y_bin rfl rfl rfl (fun hg => b_add (by omega))) ?_
          refine S_ 63 rfl rfl rfl _ (y_as (v' := .int .i64 (min (s.again + 1) 1000000)) (by congr 1; omega) (y_min rfl rfl rfl)) ?_
          refine S_ 64 rfl rfl rfl _ (y_build (zv := .agg #[.int .i64 0, .int .i64 0, .string ⟨#[]⟩, .bool false, .int .i64 0, .int .i64 0, .int .i64 0, .int .i64 0]) (pl := [(0, 1), (1, 1), (2, 1), (3, 1), (4, 1), (5, 1), (6, 1), (7, 1)]) (out := [_, _, .string ⟨#[]⟩, .bool false, _, _, _, _]) rfl rfl Tryz.underlying52 z52 (by kernel_rfl) rfl) ?_
          refine S_store 4 rfl rfl rfl rfl rfl rfl sz52 rfl rfl ?_
          refine S_go (fun _ _ h => h) ?_
          refine T_seq ?_
          refine T_region ?_
          refine S_ 65 rfl rfl rfl _ (y_loadA 4 rfl rfl rfl Tryz.underlying52 rfl sz52) ?_
          refine S_ 66 rfl rfl rfl _ (y_move rfl rfl) ?_
          refine S_store 8 rfl rfl rfl rfl rfl rfl sz52 rfl rfl ?_
          refine S_ 9 rfl rfl rfl _ (y_assign rfl rfl) ?_
          refine S_go (fun _ _ h => h) ?_
          refine T_ret (fun a w hF hM => hRb a w (post_cell 8 rfl rfl rfl rfl Tryz.underlying52 rfl (by exact sz52) (fun w hM => ?_) a w hF hM))
          have hl : lessM s e.wt = s := if_neg (by omega)
          have hg : againB s e.at_ e.rel e.wt (S.map verV) ppl = true := by rw [againB, if_neg (by omega), if_pos h19, hl]; exact h57
          exact ⟨by rw [afterS, if_pos hg, hg, ← h57]; rfl, hM.below⟩
        · skip
          refine T_skip_go (fun _ _ h => h) ?_
          refine T_seq ?_
          refine T_region ?_
          refine S_ 65 rfl rfl rfl _ (y_loadA 4 rfl rfl rfl Tryz.underlying52 rfl sz52) ?_
          refine S_ 66 rfl rfl rfl _ (y_move rfl rfl) ?_
          refine S_store 8 rfl rfl rfl rfl rfl rfl sz52 rfl rfl ?_
          refine S_ 9 rfl rfl rfl _ (y_assign rfl rfl) ?_
          refine S_go (fun _ _ h => h) ?_
          refine T_ret (fun a w hF hM => hRb a w (post_cell 8 rfl rfl rfl rfl Tryz.underlying52 rfl (by exact sz52) (fun w hM => ?_) a w hF hM))
          have hl : lessM s e.wt = s := if_neg (by omega)
          have hg : againB s e.at_ e.rel e.wt (S.map verV) ppl = false := by rw [againB, if_neg (by omega), if_pos h19, hl]; exact h57
          exact ⟨by rw [afterS, if_neg (by rw [hg]; simp), if_pos h19, hl, hg, ← h57]; rfl, hM.below⟩
    · try simp only [decide_eq_true_eq, decide_eq_false_iff_not, Bool.or_eq_true, Bool.or_eq_false_iff, Bool.and_eq_true, Bool.and_eq_false_iff, Bool.not_eq_true', Bool.not_eq_false', Bool.not_eq_true, Bool.not_eq_false, Bool.not_true, Bool.not_false, Int.not_lt, Int.not_le, not_or, not_and, Classical.not_not] at h19
      refine T_skip_go (fun _ _ h => h) ?_
      refine T_seq ?_
      refine T_seq ?_
      refine T_region ?_
      refine S_ 57 rfl rfl rfl _ (y_move rfl rfl) ?_
      refine S_go (fun _ _ h => h) ?_
      refine T_cond rfl (fun h57 => ?_) (fun h57 => ?_)
      · skip
        cases h57
      · skip
        refine T_skip_go (fun _ _ h => h) ?_
        refine T_seq ?_
        refine T_region ?_
        refine S_ 65 rfl rfl rfl _ (y_loadA 4 rfl rfl rfl Tryz.underlying52 rfl sz52) ?_
        refine S_ 66 rfl rfl rfl _ (y_move rfl rfl) ?_
        refine S_store 8 rfl rfl rfl rfl rfl rfl sz52 rfl rfl ?_
        refine S_ 9 rfl rfl rfl _ (y_assign rfl rfl) ?_
        refine S_go (fun _ _ h => h) ?_
        refine T_ret (fun a w hF hM => hRb a w (post_cell 8 rfl rfl rfl rfl Tryz.underlying52 rfl (by exact sz52) (fun w hM => ?_) a w hF hM))
        have hg : againB s e.at_ e.rel e.wt (S.map verV) ppl = false := by rw [againB, if_neg (by omega), if_neg (by omega)]
        exact ⟨by rw [afterS, if_neg (by rw [hg]; simp), if_neg (by omega), hg]; rfl, hM.below⟩
def pst0 : PSt := ⟨0, 0, [], false, 0, 0, 0, 0⟩
def seenNo (s : PSt) (e : Evt) (S : List (List UInt8)) (ppl : Int) : Int := fst (stNo s) (fst (evNo e) (fst (allNo S) (if outB ppl 0 1000000 = true then 2 else 0)))
def seenS (s : PSt) (e : Evt) (S : List (List UInt8)) (ppl : Int) : PSt := if seenNo s e S ppl = 0 then afterS s e.at_ e.rel e.wt (S.map verV) ppl else pst0
def seenB (s : PSt) (e : Evt) (S : List (List UInt8)) (ppl : Int) : Bool := if seenNo s e S ppl = 0 then againB s e.at_ e.rel e.wt (S.map verV) ppl else false
theorem fst0 {a b : Int} (h : fst a b = 0) : a = 0 ∧ b = 0 := by
  unfold fst at h
  split at h
  · omega
  · exact ⟨by omega, h⟩
theorem ev_wt {e : Evt} (h : evNo e = 0) : 1 ≤ e.wt ∧ e.wt ≤ 1000000 := by
  have h := (fst0 (fst0 (fst0 (fst0 h).2).2).2).2
  split at h
  · omega
  · have h := (fst0 h).2
    split at h
    · omega
    · rename_i h1
      simp only [Bool.or_eq_true, decide_eq_true_eq, not_or] at h1
      omega
theorem st_parts {s : PSt} (h : stNo s = 0) : (s.k = 1 ∨ s.k = 2 ∨ s.k = 3) ∧ (0 ≤ s.again ∧ s.again ≤ 1000000) ∧ (-1 ≤ s.more ∧ s.more ≤ 1000000) ∧ (s.inn = [] ∨ relOk s.inn = true) ∧ stBadB s = false := by
  unfold stNo at h
  split at h
  · omega
  · rename_i h1
    split at h
    · omega
    · rename_i h2
      split at h
      · omega
      · rename_i h3
        split at h
        · omega
        · rename_i h4
          simp only [outB, Bool.or_eq_true, decide_eq_true_eq, not_or] at h1
          simp only [stBadA, outB, Bool.or_eq_true, decide_eq_true_eq, not_or] at h2
          refine ⟨by omega, by omega, by omega, ?_, by simpa using h4⟩
          by_cases hi : s.inn = []
          · exact .inl hi
          · right; simpa [hi] using h3
theorem st_num {s : PSt} {e : Evt} (h : stNo s = 0) (h2 : evNo e = 0) : StNum s e.wt := ⟨(st_parts h).2.1, (st_parts h).2.2.1, ev_wt h2⟩
theorem again_k {s : PSt} {at_ : Int} {rel : List UInt8} {wt : Int} {vs : List PVer} {ppl : Int} (h : againB s at_ rel wt vs ppl = true) : s.k = 2 ∨ s.k = 3 := by
  unfold againB at h
  split at h
  · exact .inl ‹_›
  · split at h
    · exact .inr ‹_›
    · cases h
theorem after_k {s : PSt} {at_ : Int} {rel : List UInt8} {wt : Int} {vs : List PVer} {ppl : Int} (h : againB s at_ rel wt vs ppl = false) : (afterS s at_ rel wt vs ppl).k = s.k ∧ (s.k = 1 → afterS s at_ rel wt vs ppl = s) := by
  unfold afterS
  rw [if_neg (by rw [h]; simp)]
  split
  · refine ⟨?_, fun h1 => by omega⟩
    unfold lessM; split <;> rfl
  · exact ⟨rfl, fun _ => rfl⟩
end Go.Proofs.YtpmlgnbbkpplhaaGreatDoor
end
