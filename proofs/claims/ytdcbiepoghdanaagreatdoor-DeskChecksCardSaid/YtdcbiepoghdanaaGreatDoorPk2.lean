/- Part 2, merged by a program. The reference's faults of what is cleared and of groups. Conditions: those of each theorem. Clones of faults, tags and crumbs; frames put together, and cut. Conditions: those of each theorem. Strings: one byte looked for, cut and split at it, suffixes; words in a list. Conditions: those of each theorem. Numbers and names of releases, and what is parsed of one release that is given. Conditions: those of each theorem. -/
import Derived.Test.YtdcbiepoghdanaaGreatDoorApp
import Derived.Test.YtdcbiepoghdanaaGreatDoorMany
import Derived.Test.YtdcbiepoghdanaaGreatDoorByt
import Derived.Test.YtdcbiepoghdanaaGreatDoorClr
import Derived.Test.YtdcbiepoghdanaaGreatDoorIfc
import Derived.Test.YtdcbiepoghdanaaGreatDoorPk1
section
namespace Go.Proofs.YtdcbiepoghdanaaGreatDoor
set_option linter.unusedSimpArgs false
set_option linter.unusedVariables false
set_option maxRecDepth 20000
open Go.RowKit Go.Eng
theorem bne_sw (a b : Bool) : (!decide (a = b)) = !decide (b = a) := by cases a <;> cases b <;> rfl
def rlD1 (r : SRl) : Bool := !decide ((!decide (r.nm = [])) = rlNmd r)
def rlD2 (r : SRl) : Bool := !decide (r.ls = 0) && !rlCtd r
def rlD3 (r : SRl) : Bool := !decide ((!decide (r.tx = [])) = decide (r.fd = 5))
theorem rlF2_eq (r : SRl) : rlF2 r = (rlD1 r || rlD2 r || rlD3 r) := rfl
set_option maxHeartbeats 1600000 in
theorem RuleFaults_any (l : Sl SRl) (w : World) (hl : RlsOk w l) : Calls Tryz.prog 45 #[.slice l.A l.q l.c] w fun e w' => e = .returned (.int .i64 (clearNo l)) ∧ Below w.heap.size w w' := by
  have ht := hl.ok.t
  have hq := hl.q
  refine enter_args (args := [.slice l.A l.q l.c]) (F := _) Tryz.func45 rfl Tryz.ntmps45 rfl rfl ?_
  intro Rb hRb hRn
  refine T_seq ?_
  refine T_region ?_
  refine S_ 2 rfl rfl rfl _ (y_assign rfl rfl) ?_
  refine S_go (fun _ _ h => h) ?_
  refine T_seq ?_
  refine T_seq ?_
  refine T_region ?_
  refine S_ 8 rfl rfl rfl _ (y_move rfl rfl) ?_
  refine S_ 9 rfl rfl rfl _ (y_len_slice rfl rfl Tryz.underlying43) ?_
  refine S_ 10 rfl rfl rfl _ (y_bin rfl rfl rfl (fun _ => b_gtr)) ?_
  refine S_go (fun _ _ h => h) ?_
  refine T_cond rfl (fun h10 => ?_) (fun h10 => ?_)
  · try simp only [decide_eq_true_eq, decide_eq_false_iff_not, Bool.or_eq_true, Bool.or_eq_false_iff, Bool.and_eq_true, Bool.and_eq_false_iff, Bool.not_eq_true', Bool.not_eq_false', Bool.not_eq_true, Bool.not_eq_false, Bool.not_true, Bool.not_false, Int.not_lt, Int.not_le, not_or, not_and, Classical.not_not] at h10
    refine T_seq ?_
    refine T_region ?_
    refine S_ 2 rfl rfl rfl _ (y_assign rfl rfl) ?_
    refine S_go (fun _ _ h => h) ?_
    refine T_ret (fun a w hF hM => hRb a w (post1 rfl rfl (fun w hM => ?_) a w hF hM))
    exact ⟨by rw [clearNo, if_pos (by omega)], hM.below⟩
  · try simp only [decide_eq_true_eq, decide_eq_false_iff_not, Bool.or_eq_true, Bool.or_eq_false_iff, Bool.and_eq_true, Bool.and_eq_false_iff, Bool.not_eq_true', Bool.not_eq_false', Bool.not_eq_true, Bool.not_eq_false, Bool.not_true, Bool.not_false, Int.not_lt, Int.not_le, not_or, not_and, Classical.not_not] at h10
    refine T_skip_go (fun _ _ h => h) ?_
    refine T_seq ?_
    refine T_seq ?_
    refine T_region ?_
    refine S_ 11 rfl rfl rfl _ (y_move rfl rfl) ?_
    refine S_ 12 rfl rfl rfl _ (y_len_slice rfl rfl Tryz.underlying43) ?_
    refine S_ 13 rfl rfl rfl _ (y_move rfl rfl) ?_
    refine S_go (fun _ _ h => h) ?_
    refine T_block ?_
    refine T_loopK1 (kf := [(2, 2), (4, 7), (13, 108)]) (kl := [(2, 2), (4, 7), (13, 108)]) (fun (i : Nat) => [(13, true, .int .i64 (i : Int))]) (fun (i : Nat) => []) (fun (i : Nat) => i ≤ l.q ∧ fstL rlNo l.l = fstL rlNo (l.l.drop i)) (fun (i : Nat) => l.q - i) 0 (by repeat (first | exact kf_nil | (apply kf_in; focus rfl) | (apply kf_out; focus rfl))) (by repeat (first | exact kl_nil | exact kl_rest (by assumption) rfl | (apply kl_in; focus rfl) | (apply kl_out; focus rfl))) ?_ ?_ ?_ ?_
    · exact ⟨by omega, rfl⟩
    · exact ⟨rfl, trivial⟩
    · exact trivial
    rintro i ⟨hp1, hp2⟩
    refine T_seq ?_
    refine T_region ?_
    refine S_ 14 rfl rfl rfl _ (y_bin rfl rfl rfl (fun _ => b_lss)) ?_
    refine S_go (fun _ _ h => h) ?_
    refine T_seq ?_
    refine T_cond rfl (fun h14 => ?_) (fun h14 => ?_)
    · try simp only [decide_eq_true_eq, decide_eq_false_iff_not, Bool.or_eq_true, Bool.or_eq_false_iff, Bool.and_eq_true, Bool.and_eq_false_iff, Bool.not_eq_true', Bool.not_eq_false', Bool.not_eq_true, Bool.not_eq_false, Bool.not_true, Bool.not_false, Int.not_lt, Int.not_le, not_or, not_and, Classical.not_not] at h14
      obtain ⟨r, hx1, hx2⟩ := ht.at (i := i) (by omega)
      have hrl := hl.n r (mem_at hx1)
      obtain ⟨hrn, hrt⟩ := hrl
      rw [hx2, fstL] at hp2
      refine T_skip_go (fun _ _ h => h) ?_
      refine T_seq ?_
      refine T_block ?_
      refine T_seq ?_
      refine T_region ?_
      refine S_ 15 rfl rfl rfl _ (y_indexAddr rfl rfl rfl Tryz.underlying43 sz150 (fun hg => ht.isSome (by omega)) (fun _ => by omega)) ?_
      refine S_ 16 rfl rfl rfl _ (y_loadT rfl rfl ht (fun _ => rfl) (fun _ => hx1) Tryz.underlying150 rfl sz150) ?_
      refine S_alloc 4 4 rfl rfl rfl rfl z150 ?_
      intro b4
      refine S_store 4 rfl rfl rfl rfl rfl rfl sz150 rfl rfl ?_
      refine S_go (fun _ _ h => h) ?_
      refine T_seq ?_
      refine T_region ?_
      refine S_ 17 rfl rfl rfl _ (y_fieldAddr rfl rfl fa150_0) ?_
      refine S_ 18 rfl rfl rfl _ (y_load 4 rfl rfl rfl rfl Tryz.underlying3 rfl) ?_
      refine S_ 19 rfl rfl rfl _ (y_bin rfl rfl rfl (fun _ => b_eql)) ?_
      refine S_ 20 rfl rfl rfl _ (y_move rfl rfl) ?_
      refine Sg_ 21 rfl rfl rfl rfl rfl rfl _ (y_fieldAddr rfl rfl fa150_0) ?_
      refine Sg_ 22 rfl rfl rfl rfl rfl rfl _ (y_load 4 rfl rfl rfl rfl Tryz.underlying3 rfl) ?_
      refine Sg_ 23 rfl rfl rfl rfl rfl rfl _ (y_bin rfl rfl rfl (fun _ => b_eql)) ?_
      refine S_ 24 rfl rfl rfl _ (y_as (v' := .bool (rlNmd r)) (by exact rfl) (y_or rfl rfl rfl)) ?_
      refine S_ 5 rfl rfl rfl _ (y_assign rfl rfl) ?_
      refine S_go (fun _ _ h => h) ?_
      refine T_seq ?_
      refine T_region ?_
      refine S_ 25 rfl rfl rfl _ (y_fieldAddr rfl rfl fa150_2) ?_
      refine S_ 26 rfl rfl rfl _ (y_load 4 rfl rfl rfl rfl Tryz.underlying3 rfl) ?_
      refine S_ 27 rfl rfl rfl _ (y_bin rfl rfl rfl (fun _ => b_eql)) ?_
      refine S_ 28 rfl rfl rfl _ (y_move rfl rfl) ?_
      refine Sg_ 29 rfl rfl rfl rfl rfl rfl _ (y_fieldAddr rfl rfl fa150_2) ?_
      refine Sg_ 30 rfl rfl rfl rfl rfl rfl _ (y_load 4 rfl rfl rfl rfl Tryz.underlying3 rfl) ?_
      refine Sg_ 31 rfl rfl rfl rfl rfl rfl _ (y_bin rfl rfl rfl (fun _ => b_eql)) ?_
      refine S_ 32 rfl rfl rfl _ (y_as (v' := .bool (rlCtd r)) (by exact rfl) (y_or rfl rfl rfl)) ?_
      refine S_ 6 rfl rfl rfl _ (y_assign rfl rfl) ?_
      refine S_go (fun _ _ h => h) ?_
      refine T_seq ?_
      refine T_block ?_
      refine T_seq ?_
      refine T_region ?_
      refine S_ 34 rfl rfl rfl _ (y_fieldAddr rfl rfl fa150_0) ?_
      refine S_ 35 rfl rfl rfl _ (y_load 4 rfl rfl rfl rfl Tryz.underlying3 rfl) ?_
      refine S_ 36 rfl rfl rfl _ (y_call rfl rfl rfl cf58 (fun _ w _ => out_any _ _ _ w)) ?_
      refine S_ 37 rfl rfl rfl _ (y_move rfl rfl) ?_
      refine Sg_ 38 rfl rfl rfl rfl rfl rfl _ (y_fieldAddr rfl rfl fa150_2) ?_
      refine Sg_ 39 rfl rfl rfl rfl rfl rfl _ (y_load 4 rfl rfl rfl rfl Tryz.underlying3 rfl) ?_
      refine Sg_ 40 rfl rfl rfl rfl rfl rfl _ (y_call rfl rfl rfl cf58 (fun _ w _ => out_any _ _ _ w)) ?_
      refine S_ 41 rfl rfl rfl _ (y_or rfl rfl rfl) ?_
      refine S_ 42 rfl rfl rfl _ (y_move rfl rfl) ?_
      refine Sg_ 43 rfl rfl rfl rfl rfl rfl _ (y_fieldAddr rfl rfl fa150_5) ?_
      refine Sg_ 44 rfl rfl rfl rfl rfl rfl _ (y_load 4 rfl rfl rfl rfl Tryz.underlying3 rfl) ?_
      refine Sg_ 45 rfl rfl rfl rfl rfl rfl _ (y_call rfl rfl rfl cf58 (fun _ w _ => out_any _ _ _ w)) ?_
      refine S_ 46 rfl rfl rfl _ (y_as (v' := .bool (rlF1 r)) (by exact rfl) (y_or rfl rfl rfl)) ?_
      refine S_ 33 rfl rfl rfl _ (y_assign rfl rfl) ?_
      refine S_go (fun _ _ h => h) ?_
      refine T_cond rfl (fun h33 => ?_) (fun h33 => ?_)
      · skip
        have e0 : rlNo r = 10 := if_pos h33
        refine T_seq ?_
        refine T_region ?_
        refine S_ 2 rfl rfl rfl _ (y_assign rfl rfl) ?_
        refine S_go (fun _ _ h => h) ?_
        refine T_ret (fun a w hF hM => hRb a w (post1 rfl rfl (fun w hM => ?_) a w hF hM))
        exact ⟨by rw [clearNo, if_neg (by omega), hp2, if_pos (by rw [e0]; decide), e0], hM.below⟩
      · skip
        refine T_seq ?_
        refine T_seq ?_
        refine T_region ?_
        refine S_ 48 rfl rfl rfl _ (y_move rfl rfl) ?_
        refine S_ 49 rfl rfl rfl _ (y_fieldAddr rfl rfl fa150_1) ?_
        refine S_ 50 rfl rfl rfl _ (y_load 4 rfl rfl rfl rfl Tryz.underlying9 rfl) ?_
        refine S_ 51 rfl rfl rfl _ (y_bin rfl rfl rfl (fun _ => b_neqs)) ?_
        refine S_ 52 rfl rfl rfl _ (y_as (v' := .bool (rlD1 r)) (by exact congrArg Value.bool (bne_sw _ _)) (y_bin rfl rfl rfl (fun _ => b_neqb Tryz.underlying4))) ?_
        refine S_ 47 rfl rfl rfl _ (y_assign rfl rfl) ?_
        refine S_go (fun _ _ h => h) ?_
        refine T_cond rfl (fun h47 => ?_) (fun h47 => ?_)
        · skip
          have d1 := h47
          have e0 : rlNo r = 1 := by rw [rlNo, if_f h33, if_pos (by rw [rlF2_eq, d1]; rfl)]
          refine T_skip_go (fun _ _ h => h) ?_
          refine T_cond rfl (fun h47 => ?_) (fun h47 => ?_)
          · skip
            refine T_seq ?_
            refine T_region ?_
            refine S_ 2 rfl rfl rfl _ (y_assign rfl rfl) ?_
            refine S_go (fun _ _ h => h) ?_
            refine T_ret (fun a w hF hM => hRb a w (post1 rfl rfl (fun w hM => ?_) a w hF hM))
            exact ⟨by rw [clearNo, if_neg (by omega), hp2, if_pos (by rw [e0]; decide), e0], hM.below⟩
          · skip
            exact absurd (d1.symm.trans h47) (by decide)
        · skip
          have d1 := h47
          refine T_seq ?_
          refine T_region ?_
          refine S_ 53 rfl rfl rfl _ (y_fieldAddr rfl rfl fa150_3) ?_
          refine S_ 54 rfl rfl rfl _ (y_load 4 rfl rfl rfl rfl Tryz.underlying3 rfl) ?_
          refine S_ 55 rfl rfl rfl _ (y_bin rfl rfl rfl (fun _ => b_neq)) ?_
          refine S_ 56 rfl rfl rfl _ (y_move rfl rfl) ?_
          refine Sg_ 57 rfl rfl rfl rfl rfl rfl _ (y_move rfl rfl) ?_
          refine Sg_ 58 rfl rfl rfl rfl rfl rfl _ (y_not rfl rfl) ?_
          refine S_ 59 rfl rfl rfl _ (y_as (v' := .bool (rlD2 r)) (by exact rfl) (y_and rfl rfl rfl)) ?_
          refine S_ 47 rfl rfl rfl _ (y_assign rfl rfl) ?_
          refine S_go (fun _ _ h => h) ?_
          refine T_cond rfl (fun h47 => ?_) (fun h47 => ?_)
          · skip
            have d2 := h47
            have e0 : rlNo r = 1 := by rw [rlNo, if_f h33, if_pos (by rw [rlF2_eq, d2]; simp)]
            refine T_skip_go (fun _ _ h => h) ?_
            refine T_cond rfl (fun h47 => ?_) (fun h47 => ?_)
            · skip
              refine T_seq ?_
              refine T_region ?_
              refine S_ 2 rfl rfl rfl _ (y_assign rfl rfl) ?_
              refine S_go (fun _ _ h => h) ?_
              refine T_ret (fun a w hF hM => hRb a w (post1 rfl rfl (fun w hM => ?_) a w hF hM))
              exact ⟨by rw [clearNo, if_neg (by omega), hp2, if_pos (by rw [e0]; decide), e0], hM.below⟩
            · skip
              exact absurd (d2.symm.trans h47) (by decide)
          · skip
            have d2 := h47
            refine T_region ?_
            refine S_ 60 rfl rfl rfl _ (y_fieldAddr rfl rfl fa150_2) ?_
            refine S_ 61 rfl rfl rfl _ (y_load 4 rfl rfl rfl rfl Tryz.underlying3 rfl) ?_
            refine S_ 62 rfl rfl rfl _ (y_bin rfl rfl rfl (fun _ => b_eql)) ?_
            refine S_ 63 rfl rfl rfl _ (y_fieldAddr rfl rfl fa150_4) ?_
            refine S_ 64 rfl rfl rfl _ (y_load 4 rfl rfl rfl rfl Tryz.underlying9 rfl) ?_
            refine S_ 65 rfl rfl rfl _ (y_bin rfl rfl rfl (fun _ => b_neqs)) ?_
            refine S_ 66 rfl rfl rfl _ (y_as (v' := .bool (rlD3 r)) (by exact congrArg Value.bool (bne_sw _ _)) (y_bin rfl rfl rfl (fun _ => b_neqb Tryz.underlying4))) ?_
            refine S_ 47 rfl rfl rfl _ (y_assign rfl rfl) ?_
            refine S_go (fun _ _ h => h) ?_
            refine T_cond rfl (fun h47 => ?_) (fun h47 => ?_)
            · skip
              have e0 : rlNo r = 1 := by rw [rlNo, if_f h33, if_pos (by rw [rlF2_eq, h47]; simp)]
              refine T_seq ?_
              refine T_region ?_
              refine S_ 2 rfl rfl rfl _ (y_assign rfl rfl) ?_
              refine S_go (fun _ _ h => h) ?_
              refine T_ret (fun a w hF hM => hRb a w (post1 rfl rfl (fun w hM => ?_) a w hF hM))
              exact ⟨by rw [clearNo, if_neg (by omega), hp2, if_pos (by rw [e0]; decide), e0], hM.below⟩
            · skip
              have hf2 : rlF2 r = false := by rw [rlF2_eq, d1, d2, h47]; rfl
              refine T_seq ?_
              refine T_region ?_
              refine S_ 68 rfl rfl rfl _ (y_fieldAddr rfl rfl fa150_1) ?_
              refine S_ 69 rfl rfl rfl _ (y_load 4 rfl rfl rfl rfl Tryz.underlying9 rfl) ?_
              refine S_ 70 rfl rfl rfl _ (y_len_str rfl rfl Tryz.underlying9) ?_
              refine S_ 71 rfl rfl rfl _ (y_bin rfl rfl rfl (fun _ => b_gtr)) ?_
              refine S_ 72 rfl rfl rfl _ (y_move rfl rfl) ?_
              refine Sg_ 73 rfl rfl rfl rfl rfl rfl _ (y_fieldAddr rfl rfl fa150_4) ?_
              refine Sg_ 74 rfl rfl rfl rfl rfl rfl _ (y_load 4 rfl rfl rfl rfl Tryz.underlying9 rfl) ?_
              refine Sg_ 75 rfl rfl rfl rfl rfl rfl _ (y_len_str rfl rfl Tryz.underlying9) ?_
              refine Sg_ 76 rfl rfl rfl rfl rfl rfl _ (y_bin rfl rfl rfl (fun _ => b_gtr)) ?_
              refine S_ 77 rfl rfl rfl _ (y_as (v' := .bool (rlF3 r)) (by exact rfl) (y_or rfl rfl rfl)) ?_
              refine S_ 67 rfl rfl rfl _ (y_assign rfl rfl) ?_
              refine S_go (fun _ _ h => h) ?_
              refine T_cond rfl (fun h67 => ?_) (fun h67 => ?_)
              · skip
                have e0 : rlNo r = 4 := by rw [rlNo, if_f h33, if_f hf2, if_pos h67]
                refine T_seq ?_
                refine T_region ?_
                refine S_ 2 rfl rfl rfl _ (y_assign rfl rfl) ?_
                refine S_go (fun _ _ h => h) ?_
                refine T_ret (fun a w hF hM => hRb a w (post1 rfl rfl (fun w hM => ?_) a w hF hM))
                exact ⟨by rw [clearNo, if_neg (by omega), hp2, if_pos (by rw [e0]; decide), e0], hM.below⟩
              · skip
                have h67l := rlF3_len h67
                refine T_seq ?_
                refine T_region ?_
                refine S_ 79 rfl rfl rfl _ (y_fieldAddr rfl rfl fa150_1) ?_
                refine S_ 80 rfl rfl rfl _ (y_load 4 rfl rfl rfl rfl Tryz.underlying9 rfl) ?_
                refine S_ 81 rfl rfl rfl _ (y_call rfl rfl rfl cf76 (fun _ w _ => TrimPat_any _ (by omega) w)) ?_
                refine S_ 82 rfl rfl rfl _ (y_bin rfl rfl rfl (fun _ => b_neqs)) ?_
                refine S_ 78 rfl rfl rfl _ (y_assign rfl rfl) ?_
                refine S_go (fun _ _ h => h) ?_
                refine T_cond rfl (fun h78 => ?_) (fun h78 => ?_)
                · skip
                  have h78 : ¬ Lib.trimS r.nm patBs = [] := by simpa using h78
                  have e0 : rlNo r = 9 := by rw [rlNo, if_f h33, if_f hf2, if_f h67, if_pos h78]
                  refine T_seq ?_
                  refine T_region ?_
                  refine S_ 2 rfl rfl rfl _ (y_assign rfl rfl) ?_
                  refine S_go (fun _ _ h => h) ?_
                  refine T_ret (fun a w hF hM => hRb a w (post1 rfl rfl (fun w hM => ?_) a w hF hM))
                  exact ⟨by rw [clearNo, if_neg (by omega), hp2, if_pos (by rw [e0]; decide), e0], hM.below⟩
                · skip
                  have h78 : Lib.trimS r.nm patBs = [] := by simpa using h78
                  refine T_skip_go (fun _ _ h => h) ?_
                  refine T_seq ?_
                  refine T_seq ?_
                  refine T_region ?_
                  refine S_ 83 rfl rfl rfl _ (y_fieldAddr rfl rfl fa150_4) ?_
                  refine S_ 84 rfl rfl rfl _ (y_load 4 rfl rfl rfl rfl Tryz.underlying9 rfl) ?_
                  refine S_ 85 rfl rfl rfl _ (y_len_str rfl rfl Tryz.underlying9) ?_
                  refine S_ 86 rfl rfl rfl _ (y_move rfl rfl) ?_
                  refine S_go (fun _ _ h => h) ?_
                  refine T_block ?_
                  refine T_loopK1 (kf := [(2, 2), (7, 7), (86, 101)]) (kl := [(2, 2), (7, 7), (86, 101)]) (fun (j : Nat) => [(86, true, .int .i64 (j : Int))]) (fun (j : Nat) => []) (fun (j : Nat) => j ≤ r.tx.length ∧ r.tx.any bytBad = (r.tx.drop j).any bytBad) (fun (j : Nat) => r.tx.length - j) 0 (by repeat (first | exact kf_nil | (apply kf_in; focus rfl) | (apply kf_out; focus rfl))) (by repeat (first | exact kl_nil | exact kl_rest (by assumption) rfl | (apply kl_in; focus rfl) | (apply kl_out; focus rfl))) ?_ ?_ ?_ ?_
                  · exact ⟨by omega, rfl⟩
                  · exact ⟨rfl, trivial⟩
                  · exact trivial
                  rintro j ⟨hr1, hr2⟩
                  refine T_seq ?_
                  refine T_region ?_
                  refine S_ 87 rfl rfl rfl _ (y_bin rfl rfl rfl (fun _ => b_lss)) ?_
                  refine S_go (fun _ _ h => h) ?_
                  refine T_seq ?_
                  refine T_cond rfl (fun h87 => ?_) (fun h87 => ?_)
                  · try simp only [decide_eq_true_eq, decide_eq_false_iff_not, Bool.or_eq_true, Bool.or_eq_false_iff, Bool.and_eq_true, Bool.and_eq_false_iff, Bool.not_eq_true', Bool.not_eq_false', Bool.not_eq_true, Bool.not_eq_false, Bool.not_true, Bool.not_false, Int.not_lt, Int.not_le, not_or, not_and, Classical.not_not] at h87
                    refine T_skip_go (fun _ _ h => h) ?_
                    refine T_seq ?_
                    refine T_block ?_
                    refine T_seq ?_
                    refine T_region ?_
                    refine S_ 88 rfl rfl rfl _ (y_move rfl rfl) ?_
                    refine S_ 7 rfl rfl rfl _ (y_assign rfl rfl) ?_
                    refine S_go (fun _ _ h => h) ?_
                    refine T_seq ?_
                    refine T_region ?_
                    refine S_ 89 rfl rfl rfl _ (y_fieldAddr rfl rfl fa150_4) ?_
                    refine S_ 90 rfl rfl rfl _ (y_load 4 rfl rfl rfl rfl Tryz.underlying9 rfl) ?_
                    refine S_ 91 rfl rfl rfl _ (y_move rfl rfl) ?_
                    refine S_ 92 rfl rfl rfl _ (y_index_str rfl rfl rfl Tryz.underlying9 (fun _ => by omega)) ?_
                    refine S_ 93 rfl rfl rfl _ (y_bin rfl rfl rfl (fun _ => b_lss)) ?_
                    refine S_ 94 rfl rfl rfl _ (y_move rfl rfl) ?_
                    refine Sg_ 95 rfl rfl rfl rfl rfl rfl _ (y_fieldAddr rfl rfl fa150_4) ?_
                    refine Sg_ 96 rfl rfl rfl rfl rfl rfl _ (y_load 4 rfl rfl rfl rfl Tryz.underlying9 rfl) ?_
                    refine Sg_ 97 rfl rfl rfl rfl rfl rfl _ (y_move rfl rfl) ?_
                    refine Sg_ 98 rfl rfl rfl rfl rfl rfl _ (y_index_str rfl rfl rfl Tryz.underlying9 (fun hg => by simp only [Bool.true_and, Bool.and_eq_true, beq_iff_eq, decide_eq_true_eq, decide_eq_false_iff_not, Int.not_lt, Int.not_le] at hg; omega)) ?_
                    refine Sg_ 99 rfl rfl rfl rfl rfl rfl _ (y_bin rfl rfl rfl (fun _ => b_gtr)) ?_
                    refine S_ 100 rfl rfl rfl _ (y_as (v' := .bool (bytBad (r.tx.getD j 0))) (by exact rfl) (y_or rfl rfl rfl)) ?_
                    refine S_go (fun _ _ h => h) ?_
                    refine T_cond rfl (fun h100 => ?_) (fun h100 => ?_)
                    · skip
                      have e0 : rlNo r = 9 := by rw [rlNo, if_f h33, if_f hf2, if_f h67, if_neg (by simpa using h78), if_pos (by rw [hr2, drop_str (by omega), any_t h100])]
                      refine T_seq ?_
                      refine T_region ?_
                      refine S_ 2 rfl rfl rfl _ (y_assign rfl rfl) ?_
                      refine S_go (fun _ _ h => h) ?_
                      refine T_ret (fun a w hF hM => hRb a w (post1 rfl rfl (fun w hM => ?_) a w hF hM))
                      exact ⟨by rw [clearNo, if_neg (by omega), hp2, if_pos (by rw [e0]; decide), e0], hM.below⟩
                    · skip
                      refine T_skip_go (fun _ _ h => h) ?_
                      refine T_region ?_
                      refine S_ 101 rfl rfl rfl _ (y_bin rfl rfl rfl (fun hg => b_add (by omega))) ?_
                      refine S_ 86 rfl rfl rfl _ (y_move rfl rfl) ?_
                      refine S_nil (nextK1 (kf := [(2, 2), (7, 7), (86, 101)]) (kl := [(2, 2), (7, 7), (86, 101)]) (j + 1) (by repeat (first | exact kf_nil | (apply kf_in; focus rfl) | (apply kf_out; focus rfl))) (by repeat (first | exact kl_nil | exact kl_rest (by assumption) rfl | (apply kl_in; focus rfl) | (apply kl_out; focus rfl))) ?_ ?_ ?_ ?_)
                      · omega
                      · exact ⟨by omega, by rw [hr2, drop_str (by omega), any_f h100]⟩
                      · exact ⟨rfl, trivial⟩
                      · exact trivial
                  · try simp only [decide_eq_true_eq, decide_eq_false_iff_not, Bool.or_eq_true, Bool.or_eq_false_iff, Bool.and_eq_true, Bool.and_eq_false_iff, Bool.not_eq_true', Bool.not_eq_false', Bool.not_eq_true, Bool.not_eq_false, Bool.not_true, Bool.not_false, Int.not_lt, Int.not_le, not_or, not_and, Classical.not_not] at h87
                    have hb0 : r.tx.any bytBad = false := by rw [hr2, List.drop_eq_nil_of_le (by omega)]; rfl
                    refine T_exit_go (fun _ _ h => h) ?_
                    refine T_seq ?_
                    refine T_region ?_
                    refine S_ 102 rfl rfl rfl _ (y_move rfl rfl) ?_
                    refine S_ 103 rfl rfl rfl _ (y_move rfl rfl) ?_
                    refine Sg_ 104 rfl rfl rfl rfl rfl rfl _ (y_fieldAddr rfl rfl fa150_3) ?_
                    refine Sg_ 105 rfl rfl rfl rfl rfl rfl _ (y_load 4 rfl rfl rfl rfl Tryz.underlying3 rfl) ?_
                    refine Sg_ 106 rfl rfl rfl rfl rfl rfl _ (y_call rfl rfl rfl cf58 (fun _ w _ => out_any _ _ _ w)) ?_
                    refine S_ 107 rfl rfl rfl _ (y_as (v' := .bool (rlCtd r && outI r.ls 1 100)) (by exact rfl) (y_and rfl rfl rfl)) ?_
                    refine S_go (fun _ _ h => h) ?_
                    refine T_cond rfl (fun h107 => ?_) (fun h107 => ?_)
                    · skip
                      have e0 : rlNo r = 2 := by rw [rlNo, if_f h33, if_f hf2, if_f h67, if_neg (by simpa using h78), if_f hb0, if_pos h107]
                      refine T_seq ?_
                      refine T_region ?_
                      refine S_ 2 rfl rfl rfl _ (y_assign rfl rfl) ?_
                      refine S_go (fun _ _ h => h) ?_
                      refine T_ret (fun a w hF hM => hRb a w (post1 rfl rfl (fun w hM => ?_) a w hF hM))
                      exact ⟨by rw [clearNo, if_neg (by omega), hp2, if_pos (by rw [e0]; decide), e0], hM.below⟩
                    · skip
                      have e0 : rlNo r = 0 := by rw [rlNo, if_f h33, if_f hf2, if_f h67, if_neg (by simpa using h78), if_f hb0, if_f h107]
                      rw [if_neg (by rw [e0]; simp)] at hp2
                      refine T_skip_go (fun _ _ h => h) ?_
                      refine T_region ?_
                      refine S_ 108 rfl rfl rfl _ (y_bin rfl rfl rfl (fun hg => b_add (by omega))) ?_
                      refine S_ 13 rfl rfl rfl _ (y_move rfl rfl) ?_
                      refine S_nil (nextK1 (kf := [(2, 2), (4, 7), (13, 108)]) (kl := [(2, 2), (4, 7), (13, 108)]) (i + 1) (by repeat (first | exact kf_nil | (apply kf_in; focus rfl) | (apply kf_out; focus rfl))) (by repeat (first | exact kl_nil | exact kl_rest (by assumption) rfl | (apply kl_in; focus rfl) | (apply kl_out; focus rfl))) ?_ ?_ ?_ ?_)
                      · omega
                      · exact ⟨by omega, hp2⟩
                      · exact ⟨rfl, trivial⟩
                      · exact trivial
    · try simp only [decide_eq_true_eq, decide_eq_false_iff_not, Bool.or_eq_true, Bool.or_eq_false_iff, Bool.and_eq_true, Bool.and_eq_false_iff, Bool.not_eq_true', Bool.not_eq_false', Bool.not_eq_true, Bool.not_eq_false, Bool.not_true, Bool.not_false, Int.not_lt, Int.not_le, not_or, not_and, Classical.not_not] at h14
      rw [ht.end (by omega), fstL] at hp2
      refine T_exit_go (fun _ _ h => h) ?_
      refine T_seq ?_
      refine T_region ?_
      refine S_ 2 rfl rfl rfl _ (y_assign rfl rfl) ?_
      refine S_go (fun _ _ h => h) ?_
      refine T_ret (fun a w hF hM => hRb a w (post1 rfl rfl (fun w hM => ?_) a w hF hM))
      exact ⟨by rw [clearNo, if_neg (by omega), hp2], hM.below⟩
theorem grNo_if {r : SGr} {k : Int} (h1 : grF r = false) (h2 : ¬ r.ths.q = 0) (h3 : fstL mtNo r.ifs.l = k) (hk : k ≠ 0) : grNo r = k := by
  rw [grNo, if_f h1, if_neg h2, h3, if_pos hk]
theorem grNo_th {r : SGr} {k : Int} (h1 : grF r = false) (h2 : ¬ r.ths.q = 0) (h3 : fstL mtNo r.ifs.l = 0) (h4 : fstL acNo r.ths.l = k) : grNo r = k := by
  rw [grNo, if_f h1, if_neg h2, h3, if_neg (by simp), h4]
set_option maxHeartbeats 3200000 in
theorem RulesError_any (l : Sl SGr) (w : World) (hl : GrsOk w l) : Calls Tryz.prog 47 #[.slice l.A l.q l.c] w fun e w' => e = .returned (.int .i64 (groupsNo l)) ∧ Below w.heap.size w w' := by
  have ht := hl.ok.t
  have hq := hl.q
  refine enter_args (args := [.slice l.A l.q l.c]) (F := _) Tryz.func47 rfl Tryz.ntmps47 rfl rfl ?_
  intro Rb hRb hRn
  refine T_seq ?_
  refine T_region ?_
  refine S_ 2 rfl rfl rfl _ (y_assign rfl rfl) ?_
  refine S_go (fun _ _ h => h) ?_
  refine T_seq ?_
  refine T_seq ?_
  refine T_region ?_
  refine S_ 9 rfl rfl rfl _ (y_move rfl rfl) ?_
  refine S_ 10 rfl rfl rfl _ (y_len_slice rfl rfl Tryz.underlying44) ?_
  refine S_ 11 rfl rfl rfl _ (y_bin rfl rfl rfl (fun _ => b_gtr)) ?_
  refine S_go (fun _ _ h => h) ?_
  refine T_cond rfl (fun h11 => ?_) (fun h11 => ?_)
  · try simp only [decide_eq_true_eq, decide_eq_false_iff_not, Bool.or_eq_true, Bool.or_eq_false_iff, Bool.and_eq_true, Bool.and_eq_false_iff, Bool.not_eq_true', Bool.not_eq_false', Bool.not_eq_true, Bool.not_eq_false, Bool.not_true, Bool.not_false, Int.not_lt, Int.not_le, not_or, not_and, Classical.not_not] at h11
    refine T_seq ?_
    refine T_region ?_
    refine S_ 2 rfl rfl rfl _ (y_assign rfl rfl) ?_
    refine S_go (fun _ _ h => h) ?_
    refine T_ret (fun a w hF hM => hRb a w (post1 rfl rfl (fun w hM => ?_) a w hF hM))
    exact ⟨by rw [groupsNo, if_pos (by omega)], hM.below⟩
  · try simp only [decide_eq_true_eq, decide_eq_false_iff_not, Bool.or_eq_true, Bool.or_eq_false_iff, Bool.and_eq_true, Bool.and_eq_false_iff, Bool.not_eq_true', Bool.not_eq_false', Bool.not_eq_true, Bool.not_eq_false, Bool.not_true, Bool.not_false, Int.not_lt, Int.not_le, not_or, not_and, Classical.not_not] at h11
    refine T_skip_go (fun _ _ h => h) ?_
    refine T_seq ?_
    refine T_seq ?_
    refine T_region ?_
    refine S_ 12 rfl rfl rfl _ (y_move rfl rfl) ?_
    refine S_ 13 rfl rfl rfl _ (y_len_slice rfl rfl Tryz.underlying44) ?_
    refine S_ 14 rfl rfl rfl _ (y_move rfl rfl) ?_
    refine S_go (fun _ _ h => h) ?_
    refine T_block ?_
    refine T_loopK1 (kf := [(2, 2), (4, 4), (6, 6), (8, 8), (14, 125)]) (kl := [(2, 2), (4, 4), (6, 6), (8, 8), (14, 125)]) (fun (i : Nat) => [(14, true, .int .i64 (i : Int))]) (fun (i : Nat) => []) (fun (i : Nat) => i ≤ l.q ∧ fstL grNo l.l = fstL grNo (l.l.drop i)) (fun (i : Nat) => l.q - i) 0 (by repeat (first | exact kf_nil | (apply kf_in; focus rfl) | (apply kf_out; focus rfl))) (by repeat (first | exact kl_nil | exact kl_rest (by assumption) rfl | (apply kl_in; focus rfl) | (apply kl_out; focus rfl))) ?_ ?_ ?_ ?_
    · exact ⟨by omega, rfl⟩
    · exact ⟨rfl, trivial⟩
    · exact trivial
    rintro i ⟨hp1, hp2⟩
    refine T_seq ?_
    refine T_region ?_
    refine S_ 15 rfl rfl rfl _ (y_bin rfl rfl rfl (fun _ => b_lss)) ?_
    refine S_go (fun _ _ h => h) ?_
    refine T_seq ?_
    refine T_cond rfl (fun h15 => ?_) (fun h15 => ?_)
    · try simp only [decide_eq_true_eq, decide_eq_false_iff_not, Bool.or_eq_true, Bool.or_eq_false_iff, Bool.and_eq_true, Bool.and_eq_false_iff, Bool.not_eq_true', Bool.not_eq_false', Bool.not_eq_true, Bool.not_eq_false, Bool.not_true, Bool.not_false, Int.not_lt, Int.not_le, not_or, not_and, Classical.not_not] at h15
      obtain ⟨r, hx1, hx2⟩ := ht.at (i := i) (by omega)
      have hr := hl.n r (mem_at hx1)
      have hi := hr.iok.t
      have hth := hr.tok.t
      have hiq := hr.iq
      have htq := hr.tq
      rw [hx2, fstL] at hp2
      refine T_skip_go (fun _ _ h => h) ?_
      refine T_seq ?_
      refine T_block ?_
      refine T_seq ?_
      refine T_region ?_
      refine S_ 16 rfl rfl rfl _ (y_indexAddr rfl rfl rfl Tryz.underlying44 sz154 (fun hg => ht.isSome (by omega)) (fun _ => by omega)) ?_
      refine S_ 17 rfl rfl rfl _ (y_loadT rfl rfl ht (fun _ => rfl) (fun _ => hx1) Tryz.underlying154 rfl sz154) ?_
      refine S_alloc 4 4 rfl rfl rfl rfl z154 ?_
      intro b4
      refine S_store 4 rfl rfl rfl rfl rfl rfl sz154 rfl rfl ?_
      refine S_go (fun _ _ h => h) ?_
      refine T_seq ?_
      refine T_seq ?_
      refine T_region ?_
      refine S_ 18 rfl rfl rfl _ (y_fieldAddr rfl rfl fa154_0) ?_
      refine S_ 19 rfl rfl rfl _ (y_load 4 rfl rfl rfl rfl Tryz.underlying151 rfl) ?_
      refine S_ 20 rfl rfl rfl _ (y_len_slice rfl rfl Tryz.underlying151) ?_
      refine S_ 21 rfl rfl rfl _ (y_bin rfl rfl rfl (fun _ => b_gtr)) ?_
      refine S_ 22 rfl rfl rfl _ (y_move rfl rfl) ?_
      refine Sg_ 23 rfl rfl rfl rfl rfl rfl _ (y_fieldAddr rfl rfl fa154_1) ?_
      refine Sg_ 24 rfl rfl rfl rfl rfl rfl _ (y_load 4 rfl rfl rfl rfl Tryz.underlying152 rfl) ?_
      refine Sg_ 25 rfl rfl rfl rfl rfl rfl _ (y_len_slice rfl rfl Tryz.underlying152) ?_
      refine Sg_ 26 rfl rfl rfl rfl rfl rfl _ (y_bin rfl rfl rfl (fun _ => b_gtr)) ?_
      refine S_ 27 rfl rfl rfl _ (y_as (v' := .bool (grF r)) (by exact rfl) (y_or rfl rfl rfl)) ?_
      refine S_go (fun _ _ h => h) ?_
      refine T_cond rfl (fun h27 => ?_) (fun h27 => ?_)
      · skip
        have e0 : grNo r = 4 := if_pos h27
        refine T_seq ?_
        refine T_region ?_
        refine S_ 2 rfl rfl rfl _ (y_assign rfl rfl) ?_
        refine S_go (fun _ _ h => h) ?_
        refine T_ret (fun a w hF hM => hRb a w (post1 rfl rfl (fun w hM => ?_) a w hF hM))
        exact ⟨by rw [groupsNo, if_neg (by omega), hp2, if_pos (by rw [e0]; decide), e0], hM.below⟩
      · skip
        refine T_skip_go (fun _ _ h => h) ?_
        refine T_seq ?_
        refine T_seq ?_
        refine T_region ?_
        refine S_ 28 rfl rfl rfl _ (y_fieldAddr rfl rfl fa154_1) ?_
        refine S_ 29 rfl rfl rfl _ (y_load 4 rfl rfl rfl rfl Tryz.underlying152 rfl) ?_
        refine S_ 30 rfl rfl rfl _ (y_len_slice rfl rfl Tryz.underlying152) ?_
        refine S_ 31 rfl rfl rfl _ (y_bin rfl rfl rfl (fun _ => b_eql)) ?_
        refine S_go (fun _ _ h => h) ?_
        refine T_cond rfl (fun h31 => ?_) (fun h31 => ?_)
        · skip
          have h31 : r.ths.q = 0 := by have := of_decide_eq_true h31; omega
          have e0 : grNo r = 7 := by rw [grNo, if_f h27, if_pos h31]
          refine T_seq ?_
          refine T_region ?_
          refine S_ 2 rfl rfl rfl _ (y_assign rfl rfl) ?_
          refine S_go (fun _ _ h => h) ?_
          refine T_ret (fun a w hF hM => hRb a w (post1 rfl rfl (fun w hM => ?_) a w hF hM))
          exact ⟨by rw [groupsNo, if_neg (by omega), hp2, if_pos (by rw [e0]; decide), e0], hM.below⟩
        · skip
          have h31 : ¬ r.ths.q = 0 := by have := of_decide_eq_false h31; omega
          refine T_skip_go (fun _ _ h => h) ?_
          refine T_seq ?_
          refine T_seq ?_
          refine T_region ?_
          refine S_ 32 rfl rfl rfl _ (y_fieldAddr rfl rfl fa154_0) ?_
          refine S_ 33 rfl rfl rfl _ (y_load 4 rfl rfl rfl rfl Tryz.underlying151 rfl) ?_
          refine S_ 34 rfl rfl rfl _ (y_len_slice rfl rfl Tryz.underlying151) ?_
          refine S_ 35 rfl rfl rfl _ (y_move rfl rfl) ?_
          refine S_go (fun _ _ h => h) ?_
          refine T_block ?_
          refine T_loopK1 (kf := [(2, 2), (6, 6), (35, 63)]) (kl := [(2, 2), (6, 6), (35, 63)]) (fun (j : Nat) => [(35, true, .int .i64 (j : Int))]) (fun (j : Nat) => []) (fun (j : Nat) => j ≤ r.ifs.q ∧ fstL mtNo r.ifs.l = fstL mtNo (r.ifs.l.drop j)) (fun (j : Nat) => r.ifs.q - j) 0 (by repeat (first | exact kf_nil | (apply kf_in; focus rfl) | (apply kf_out; focus rfl))) (by repeat (first | exact kl_nil | exact kl_rest (by assumption) rfl | (apply kl_in; focus rfl) | (apply kl_out; focus rfl))) ?_ ?_ ?_ ?_
          · exact ⟨by omega, rfl⟩
          · exact ⟨rfl, trivial⟩
          · exact trivial
          rintro j ⟨hq1, hq2⟩
          refine T_seq ?_
          refine T_region ?_
          refine S_ 36 rfl rfl rfl _ (y_bin rfl rfl rfl (fun _ => b_lss)) ?_
          refine S_go (fun _ _ h => h) ?_
          refine T_seq ?_
          refine T_cond rfl (fun h36 => ?_) (fun h36 => ?_)
          · try simp only [decide_eq_true_eq, decide_eq_false_iff_not, Bool.or_eq_true, Bool.or_eq_false_iff, Bool.and_eq_true, Bool.and_eq_false_iff, Bool.not_eq_true', Bool.not_eq_false', Bool.not_eq_true, Bool.not_eq_false, Bool.not_true, Bool.not_false, Int.not_lt, Int.not_le, not_or, not_and, Classical.not_not] at h36
            obtain ⟨m, hm1, hm2⟩ := hi.at (i := j) (by omega)
            have hml := hr.il m (mem_at hm1)
            rw [hm2, fstL] at hq2
            refine T_skip_go (fun _ _ h => h) ?_
            refine T_seq ?_
            refine T_block ?_
            refine T_seq ?_
            refine T_region ?_
            refine S_ 37 rfl rfl rfl _ (y_indexAddr rfl rfl rfl Tryz.underlying151 sz156 (fun hg => hi.isSome (by omega)) (fun _ => by omega)) ?_
            refine S_ 38 rfl rfl rfl _ (y_loadT rfl rfl hi (fun _ => rfl) (fun _ => hm1) Tryz.underlying156 rfl sz156) ?_
            refine S_alloc 6 6 rfl rfl rfl rfl z156 ?_
            intro b6
            refine S_store 6 rfl rfl rfl rfl rfl rfl sz156 rfl rfl ?_
            refine S_go (fun _ _ h => h) ?_
            refine T_block ?_
            refine T_seq ?_
            refine T_region ?_
            refine S_ 40 rfl rfl rfl _ (y_fieldAddr rfl rfl fa156_0) ?_
            refine S_ 41 rfl rfl rfl _ (y_load 6 rfl rfl rfl rfl Tryz.underlying3 rfl) ?_
            refine S_ 42 rfl rfl rfl _ (y_call rfl rfl rfl cf110 (fun _ w _ => rin_any _ _ _ w)) ?_
            refine S_ 43 rfl rfl rfl _ (y_as (v' := .bool (outI m.on 1 6)) (by rw [Bool.not_not]) (y_not rfl rfl)) ?_
            refine S_ 39 rfl rfl rfl _ (y_assign rfl rfl) ?_
            refine S_go (fun _ _ h => h) ?_
            refine T_cond rfl (fun h39 => ?_) (fun h39 => ?_)
            · skip
              have em : mtNo m = 10 := if_pos h39
              have e0 := grNo_if h27 h31 (by rw [hq2, em, if_pos (by decide)]) (by decide)
              refine T_seq ?_
              refine T_region ?_
              refine S_ 2 rfl rfl rfl _ (y_assign rfl rfl) ?_
              refine S_go (fun _ _ h => h) ?_
              refine T_ret (fun a w hF hM => hRb a w (post1 rfl rfl (fun w hM => ?_) a w hF hM))
              exact ⟨by rw [groupsNo, if_neg (by omega), hp2, if_pos (by rw [e0]; decide), e0], hM.below⟩
            · skip
              refine T_seq ?_
              refine T_region ?_
              refine S_ 45 rfl rfl rfl _ (y_fieldAddr rfl rfl fa156_0) ?_
              refine S_ 46 rfl rfl rfl _ (y_load 6 rfl rfl rfl rfl Tryz.underlying3 rfl) ?_
              refine S_ 47 rfl rfl rfl _ (y_bin rfl rfl rfl (fun _ => b_eql)) ?_
              refine S_ 48 rfl rfl rfl _ (y_move rfl rfl) ?_
              refine Sg_ 49 rfl rfl rfl rfl rfl rfl _ (y_fieldAddr rfl rfl fa156_2) ?_
              refine Sg_ 50 rfl rfl rfl rfl rfl rfl _ (y_load 6 rfl rfl rfl rfl Tryz.underlying9 rfl) ?_
              refine Sg_ 51 rfl rfl rfl rfl rfl rfl _ (y_bin rfl rfl rfl (fun _ => b_neqs)) ?_
              refine S_ 52 rfl rfl rfl _ (y_and rfl rfl rfl) ?_
              refine S_ 44 rfl rfl rfl _ (y_assign rfl rfl) ?_
              refine S_go (fun _ _ h => h) ?_
              refine T_cond rfl (fun h44 => ?_) (fun h44 => ?_)
              · skip
                have em : mtNo m = 1 := by rw [mtNo, if_f h39, if_pos h44]
                have e0 := grNo_if h27 h31 (by rw [hq2, em, if_pos (by decide)]) (by decide)
                refine T_seq ?_
                refine T_region ?_
                refine S_ 2 rfl rfl rfl _ (y_assign rfl rfl) ?_
                refine S_go (fun _ _ h => h) ?_
                refine T_ret (fun a w hF hM => hRb a w (post1 rfl rfl (fun w hM => ?_) a w hF hM))
                exact ⟨by rw [groupsNo, if_neg (by omega), hp2, if_pos (by rw [e0]; decide), e0], hM.below⟩
              · skip
                refine T_seq ?_
                refine T_region ?_
                refine S_ 54 rfl rfl rfl _ (y_fieldAddr rfl rfl fa156_2) ?_
                refine S_ 55 rfl rfl rfl _ (y_load 6 rfl rfl rfl rfl Tryz.underlying9 rfl) ?_
                refine S_ 56 rfl rfl rfl _ (y_len_str rfl rfl Tryz.underlying9) ?_
                refine S_ 57 rfl rfl rfl _ (y_bin rfl rfl rfl (fun _ => b_gtr)) ?_
                refine S_ 53 rfl rfl rfl _ (y_assign rfl rfl) ?_
                refine S_go (fun _ _ h => h) ?_
                refine T_cond rfl (fun h53 => ?_) (fun h53 => ?_)
                · skip
                  have h53 : (100 : Int) < m.gl.length := by simpa using h53
                  have em : mtNo m = 4 := by rw [mtNo, if_f h39, if_f h44, if_pos h53]
                  have e0 := grNo_if h27 h31 (by rw [hq2, em, if_pos (by decide)]) (by decide)
                  refine T_seq ?_
                  refine T_region ?_
                  refine S_ 2 rfl rfl rfl _ (y_assign rfl rfl) ?_
                  refine S_go (fun _ _ h => h) ?_
                  refine T_ret (fun a w hF hM => hRb a w (post1 rfl rfl (fun w hM => ?_) a w hF hM))
                  exact ⟨by rw [groupsNo, if_neg (by omega), hp2, if_pos (by rw [e0]; decide), e0], hM.below⟩
                · skip
                  have h53 : ¬ (100 : Int) < m.gl.length := by simpa using h53
                  refine T_seq ?_
                  refine T_region ?_
                  refine S_ 59 rfl rfl rfl _ (y_fieldAddr rfl rfl fa156_2) ?_
                  refine S_ 60 rfl rfl rfl _ (y_load 6 rfl rfl rfl rfl Tryz.underlying9 rfl) ?_
                  refine S_ 61 rfl rfl rfl _ (y_call rfl rfl rfl cf111 (fun _ w _ => plainB_any _ (hr.il m (mem_at hm1)) w)) ?_
                  refine S_ 62 rfl rfl rfl _ (y_as (v' := .bool (m.gl.any valBad)) (by rw [Bool.not_not]) (y_not rfl rfl)) ?_
                  refine S_ 58 rfl rfl rfl _ (y_assign rfl rfl) ?_
                  refine S_go (fun _ _ h => h) ?_
                  refine T_cond rfl (fun h58 => ?_) (fun h58 => ?_)
                  · skip
                    have em : mtNo m = 9 := by rw [mtNo, if_f h39, if_f h44, if_neg h53, if_pos h58]
                    have e0 := grNo_if h27 h31 (by rw [hq2, em, if_pos (by decide)]) (by decide)
                    refine T_seq ?_
                    refine T_region ?_
                    refine S_ 2 rfl rfl rfl _ (y_assign rfl rfl) ?_
                    refine S_go (fun _ _ h => h) ?_
                    refine T_ret (fun a w hF hM => hRb a w (post1 rfl rfl (fun w hM => ?_) a w hF hM))
                    exact ⟨by rw [groupsNo, if_neg (by omega), hp2, if_pos (by rw [e0]; decide), e0], hM.below⟩
                  · skip
                    have em : mtNo m = 0 := by rw [mtNo, if_f h39, if_f h44, if_neg h53, if_f h58]
                    rw [if_neg (by rw [em]; simp)] at hq2
                    refine T_skip_go (fun _ _ h => h) ?_
                    refine T_region ?_
                    refine S_ 63 rfl rfl rfl _ (y_bin rfl rfl rfl (fun hg => b_add (by omega))) ?_
                    refine S_ 35 rfl rfl rfl _ (y_move rfl rfl) ?_
                    refine S_nil (nextK1 (kf := [(2, 2), (6, 6), (35, 63)]) (kl := [(2, 2), (6, 6), (35, 63)]) (j + 1) (by repeat (first | exact kf_nil | (apply kf_in; focus rfl) | (apply kf_out; focus rfl))) (by repeat (first | exact kl_nil | exact kl_rest (by assumption) rfl | (apply kl_in; focus rfl) | (apply kl_out; focus rfl))) ?_ ?_ ?_ ?_)
                    · omega
                    · exact ⟨by omega, hq2⟩
                    · exact ⟨rfl, trivial⟩
                    · exact trivial
          · try simp only [decide_eq_true_eq, decide_eq_false_iff_not, Bool.or_eq_true, Bool.or_eq_false_iff, Bool.and_eq_true, Bool.and_eq_false_iff, Bool.not_eq_true', Bool.not_eq_false', Bool.not_eq_true, Bool.not_eq_false, Bool.not_true, Bool.not_false, Int.not_lt, Int.not_le, not_or, not_and, Classical.not_not] at h36
            rw [hi.end (by omega), fstL] at hq2
            refine T_exit_go (fun _ _ h => h) ?_
            refine T_seq ?_
            refine T_region ?_
            refine S_ 64 rfl rfl rfl _ (y_fieldAddr rfl rfl fa154_1) ?_
            refine S_ 65 rfl rfl rfl _ (y_load 4 rfl rfl rfl rfl Tryz.underlying152 rfl) ?_
            refine S_ 66 rfl rfl rfl _ (y_len_slice rfl rfl Tryz.underlying152) ?_
            refine S_ 67 rfl rfl rfl _ (y_move rfl rfl) ?_
            refine S_go (fun _ _ h => h) ?_
            refine T_block ?_
            refine T_loopK1 (kf := [(2, 2), (8, 8), (67, 124)]) (kl := [(2, 2), (8, 8), (67, 124)]) (fun (k : Nat) => [(67, true, .int .i64 (k : Int))]) (fun (k : Nat) => []) (fun (k : Nat) => k ≤ r.ths.q ∧ fstL acNo r.ths.l = fstL acNo (r.ths.l.drop k)) (fun (k : Nat) => r.ths.q - k) 0 (by repeat (first | exact kf_nil | (apply kf_in; focus rfl) | (apply kf_out; focus rfl))) (by repeat (first | exact kl_nil | exact kl_rest (by assumption) rfl | (apply kl_in; focus rfl) | (apply kl_out; focus rfl))) ?_ ?_ ?_ ?_
            · exact ⟨by omega, rfl⟩
            · exact ⟨rfl, trivial⟩
            · exact trivial
            rintro k ⟨hs1, hs2⟩
            refine T_seq ?_
            refine T_region ?_
            refine S_ 68 rfl rfl rfl _ (y_bin rfl rfl rfl (fun _ => b_lss)) ?_
            refine S_go (fun _ _ h => h) ?_
            refine T_seq ?_
            refine T_cond rfl (fun h68 => ?_) (fun h68 => ?_)
            · try simp only [decide_eq_true_eq, decide_eq_false_iff_not, Bool.or_eq_true, Bool.or_eq_false_iff, Bool.and_eq_true, Bool.and_eq_false_iff, Bool.not_eq_true', Bool.not_eq_false', Bool.not_eq_true, Bool.not_eq_false, Bool.not_true, Bool.not_false, Int.not_lt, Int.not_le, not_or, not_and, Classical.not_not] at h68
              obtain ⟨a, ha1, ha2⟩ := hth.at (i := k) (by omega)
              have hal := hr.tl a (mem_at ha1)
              rw [ha2, fstL] at hs2
              refine T_skip_go (fun _ _ h => h) ?_
              refine T_seq ?_
              refine T_block ?_
              refine T_seq ?_
              refine T_region ?_
              refine S_ 69 rfl rfl rfl _ (y_indexAddr rfl rfl rfl Tryz.underlying152 sz158 (fun hg => hth.isSome (by omega)) (fun _ => by omega)) ?_
              refine S_ 70 rfl rfl rfl _ (y_loadT rfl rfl hth (fun _ => rfl) (fun _ => ha1) Tryz.underlying158 rfl sz158) ?_
              refine S_alloc 8 8 rfl rfl rfl rfl z158 ?_
              intro b8
              refine S_store 8 rfl rfl rfl rfl rfl rfl sz158 rfl rfl ?_
              refine S_go (fun _ _ h => h) ?_
              refine T_block ?_
              refine T_seq ?_
              refine T_region ?_
              refine S_ 72 rfl rfl rfl _ (y_fieldAddr rfl rfl fa158_0) ?_
              refine S_ 73 rfl rfl rfl _ (y_load 8 rfl rfl rfl rfl Tryz.underlying3 rfl) ?_
              refine S_ 74 rfl rfl rfl _ (y_call rfl rfl rfl cf110 (fun _ w _ => rin_any _ _ _ w)) ?_
              refine S_ 75 rfl rfl rfl _ (y_as (v' := .bool (outI a.dd 1 6)) (by rw [Bool.not_not]) (y_not rfl rfl)) ?_
              refine S_ 71 rfl rfl rfl _ (y_assign rfl rfl) ?_
              refine S_go (fun _ _ h => h) ?_
              refine T_cond rfl (fun h71 => ?_) (fun h71 => ?_)
              · skip
                have em : acNo a = 10 := if_pos h71
                have e0 := grNo_th h27 h31 hq2 (by rw [hs2, em, if_pos (by decide)])
                refine T_seq ?_
                refine T_region ?_
                refine S_ 2 rfl rfl rfl _ (y_assign rfl rfl) ?_
                refine S_go (fun _ _ h => h) ?_
                refine T_ret (fun a w hF hM => hRb a w (post1 rfl rfl (fun w hM => ?_) a w hF hM))
                exact ⟨by rw [groupsNo, if_neg (by omega), hp2, if_pos (by rw [e0]; decide), e0], hM.below⟩
              · skip
                refine T_seq ?_
                refine T_region ?_
                refine S_ 77 rfl rfl rfl _ (y_fieldAddr rfl rfl fa158_1) ?_
                refine S_ 78 rfl rfl rfl _ (y_load 8 rfl rfl rfl rfl Tryz.underlying3 rfl) ?_
                refine S_ 79 rfl rfl rfl _ (y_bin rfl rfl rfl (fun _ => b_neq)) ?_
                refine S_ 80 rfl rfl rfl _ (y_move rfl rfl) ?_
                refine Sg_ 81 rfl rfl rfl rfl rfl rfl _ (y_fieldAddr rfl rfl fa158_0) ?_
                refine Sg_ 82 rfl rfl rfl rfl rfl rfl _ (y_load 8 rfl rfl rfl rfl Tryz.underlying3 rfl) ?_
                refine Sg_ 83 rfl rfl rfl rfl rfl rfl _ (y_bin rfl rfl rfl (fun _ => b_neq)) ?_
                refine S_ 84 rfl rfl rfl _ (y_and rfl rfl rfl) ?_
                refine S_ 85 rfl rfl rfl _ (y_move rfl rfl) ?_
                refine Sg_ 86 rfl rfl rfl rfl rfl rfl _ (y_fieldAddr rfl rfl fa158_2) ?_
                refine Sg_ 87 rfl rfl rfl rfl rfl rfl _ (y_load 8 rfl rfl rfl rfl Tryz.underlying9 rfl) ?_
                refine Sg_ 88 rfl rfl rfl rfl rfl rfl _ (y_bin rfl rfl rfl (fun _ => b_neqs)) ?_
                refine Sg_ 89 rfl rfl rfl rfl rfl rfl _ (y_move rfl rfl) ?_
                refine Sg_ 90 rfl rfl rfl rfl rfl rfl _ (y_fieldAddr rfl rfl fa158_0) ?_
                refine Sg_ 91 rfl rfl rfl rfl rfl rfl _ (y_load 8 rfl rfl rfl rfl Tryz.underlying3 rfl) ?_
                refine Sg_ 92 rfl rfl rfl rfl rfl rfl _ (y_bin rfl rfl rfl (fun _ => b_neq)) ?_
                refine Sg_ 93 rfl rfl rfl rfl rfl rfl _ (y_and rfl rfl rfl) ?_
                refine S_ 94 rfl rfl rfl _ (y_as (v' := .bool (acF a)) (by exact rfl) (y_or rfl rfl rfl)) ?_
                refine S_ 76 rfl rfl rfl _ (y_assign rfl rfl) ?_
                refine S_go (fun _ _ h => h) ?_
                refine T_cond rfl (fun h76 => ?_) (fun h76 => ?_)
                · skip
                  have em : acNo a = 1 := by rw [acNo, if_f h71, if_pos h76]
                  have e0 := grNo_th h27 h31 hq2 (by rw [hs2, em, if_pos (by decide)])
                  refine T_seq ?_
                  refine T_region ?_
                  refine S_ 2 rfl rfl rfl _ (y_assign rfl rfl) ?_
                  refine S_go (fun _ _ h => h) ?_
                  refine T_ret (fun a w hF hM => hRb a w (post1 rfl rfl (fun w hM => ?_) a w hF hM))
                  exact ⟨by rw [groupsNo, if_neg (by omega), hp2, if_pos (by rw [e0]; decide), e0], hM.below⟩
                · skip
                  refine T_seq ?_
                  refine T_region ?_
                  refine S_ 96 rfl rfl rfl _ (y_fieldAddr rfl rfl fa158_0) ?_
                  refine S_ 97 rfl rfl rfl _ (y_load 8 rfl rfl rfl rfl Tryz.underlying3 rfl) ?_
                  refine S_ 98 rfl rfl rfl _ (y_bin rfl rfl rfl (fun _ => b_eql)) ?_
                  refine S_ 99 rfl rfl rfl _ (y_move rfl rfl) ?_
                  refine Sg_ 100 rfl rfl rfl rfl rfl rfl _ (y_fieldAddr rfl rfl fa158_1) ?_
                  refine Sg_ 101 rfl rfl rfl rfl rfl rfl _ (y_load 8 rfl rfl rfl rfl Tryz.underlying3 rfl) ?_
                  refine Sg_ 102 rfl rfl rfl rfl rfl rfl _ (y_call rfl rfl rfl cf110 (fun _ w _ => rin_any _ _ _ w)) ?_
                  refine Sg_ 103 rfl rfl rfl rfl rfl rfl _ (y_not rfl rfl) ?_
                  refine S_ 104 rfl rfl rfl _ (y_as (v' := .bool (decide (a.dd = 5) && outI a.n 1 200)) (by rw [Bool.not_not]) (y_and rfl rfl rfl)) ?_
                  refine S_ 95 rfl rfl rfl _ (y_assign rfl rfl) ?_
                  refine S_go (fun _ _ h => h) ?_
                  refine T_cond rfl (fun h95 => ?_) (fun h95 => ?_)
                  · skip
                    have em : acNo a = 2 := by rw [acNo, if_f h71, if_f h76, if_pos h95]
                    have e0 := grNo_th h27 h31 hq2 (by rw [hs2, em, if_pos (by decide)])
                    refine T_seq ?_
                    refine T_region ?_
                    refine S_ 2 rfl rfl rfl _ (y_assign rfl rfl) ?_
                    refine S_go (fun _ _ h => h) ?_
                    refine T_ret (fun a w hF hM => hRb a w (post1 rfl rfl (fun w hM => ?_) a w hF hM))
                    exact ⟨by rw [groupsNo, if_neg (by omega), hp2, if_pos (by rw [e0]; decide), e0], hM.below⟩
                  · skip
                    refine T_seq ?_
                    refine T_region ?_
                    refine S_ 106 rfl rfl rfl _ (y_fieldAddr rfl rfl fa158_0) ?_
                    refine S_ 107 rfl rfl rfl _ (y_load 8 rfl rfl rfl rfl Tryz.underlying3 rfl) ?_
                    refine S_ 108 rfl rfl rfl _ (y_bin rfl rfl rfl (fun _ => b_eql)) ?_
                    refine S_ 109 rfl rfl rfl _ (y_move rfl rfl) ?_
                    refine Sg_ 110 rfl rfl rfl rfl rfl rfl _ (y_fieldAddr rfl rfl fa158_2) ?_
                    refine Sg_ 111 rfl rfl rfl rfl rfl rfl _ (y_load 8 rfl rfl rfl rfl Tryz.underlying9 rfl) ?_
                    refine Sg_ 112 rfl rfl rfl rfl rfl rfl _ (y_bin rfl rfl rfl (fun _ => b_eqls)) ?_
                    refine S_ 113 rfl rfl rfl _ (y_and rfl rfl rfl) ?_
                    refine S_ 105 rfl rfl rfl _ (y_assign rfl rfl) ?_
                    refine S_go (fun _ _ h => h) ?_
                    refine T_cond rfl (fun h105 => ?_) (fun h105 => ?_)
                    · skip
                      have em : acNo a = 1 := by rw [acNo, if_f h71, if_f h76, if_f h95, if_pos h105]
                      have e0 := grNo_th h27 h31 hq2 (by rw [hs2, em, if_pos (by decide)])
                      refine T_seq ?_
                      refine T_region ?_
                      refine S_ 2 rfl rfl rfl _ (y_assign rfl rfl) ?_
                      refine S_go (fun _ _ h => h) ?_
                      refine T_ret (fun a w hF hM => hRb a w (post1 rfl rfl (fun w hM => ?_) a w hF hM))
                      exact ⟨by rw [groupsNo, if_neg (by omega), hp2, if_pos (by rw [e0]; decide), e0], hM.below⟩
                    · skip
                      refine T_seq ?_
                      refine T_region ?_
                      refine S_ 115 rfl rfl rfl _ (y_fieldAddr rfl rfl fa158_2) ?_
                      refine S_ 116 rfl rfl rfl _ (y_load 8 rfl rfl rfl rfl Tryz.underlying9 rfl) ?_
                      refine S_ 117 rfl rfl rfl _ (y_len_str rfl rfl Tryz.underlying9) ?_
                      refine S_ 118 rfl rfl rfl _ (y_bin rfl rfl rfl (fun _ => b_gtr)) ?_
                      refine S_ 114 rfl rfl rfl _ (y_assign rfl rfl) ?_
                      refine S_go (fun _ _ h => h) ?_
                      refine T_cond rfl (fun h114 => ?_) (fun h114 => ?_)
                      · skip
                        have h114 : (100 : Int) < a.tx.length := by simpa using h114
                        have em : acNo a = 4 := by rw [acNo, if_f h71, if_f h76, if_f h95, if_f h105, if_pos h114]
                        have e0 := grNo_th h27 h31 hq2 (by rw [hs2, em, if_pos (by decide)])
                        refine T_seq ?_
                        refine T_region ?_
                        refine S_ 2 rfl rfl rfl _ (y_assign rfl rfl) ?_
                        refine S_go (fun _ _ h => h) ?_
                        refine T_ret (fun a w hF hM => hRb a w (post1 rfl rfl (fun w hM => ?_) a w hF hM))
                        exact ⟨by rw [groupsNo, if_neg (by omega), hp2, if_pos (by rw [e0]; decide), e0], hM.below⟩
                      · skip
                        have h114 : ¬ (100 : Int) < a.tx.length := by simpa using h114
                        refine T_seq ?_
                        refine T_region ?_
                        refine S_ 120 rfl rfl rfl _ (y_fieldAddr rfl rfl fa158_2) ?_
                        refine S_ 121 rfl rfl rfl _ (y_load 8 rfl rfl rfl rfl Tryz.underlying9 rfl) ?_
                        refine S_ 122 rfl rfl rfl _ (y_call rfl rfl rfl cf111 (fun _ w _ => plainB_any _ (hr.tl a (mem_at ha1)) w)) ?_
                        refine S_ 123 rfl rfl rfl _ (y_as (v' := .bool (a.tx.any valBad)) (by rw [Bool.not_not]) (y_not rfl rfl)) ?_
                        refine S_ 119 rfl rfl rfl _ (y_assign rfl rfl) ?_
                        refine S_go (fun _ _ h => h) ?_
                        refine T_cond rfl (fun h119 => ?_) (fun h119 => ?_)
                        · skip
                          have em : acNo a = 9 := by rw [acNo, if_f h71, if_f h76, if_f h95, if_f h105, if_neg h114, if_pos h119]
                          have e0 := grNo_th h27 h31 hq2 (by rw [hs2, em, if_pos (by decide)])
                          refine T_seq ?_
                          refine T_region ?_
                          refine S_ 2 rfl rfl rfl _ (y_assign rfl rfl) ?_
                          refine S_go (fun _ _ h => h) ?_
                          refine T_ret (fun a w hF hM => hRb a w (post1 rfl rfl (fun w hM => ?_) a w hF hM))
                          exact ⟨by rw [groupsNo, if_neg (by omega), hp2, if_pos (by rw [e0]; decide), e0], hM.below⟩
                        · skip
                          have em : acNo a = 0 := by rw [acNo, if_f h71, if_f h76, if_f h95, if_f h105, if_neg h114, if_f h119]
                          rw [if_neg (by rw [em]; simp)] at hs2
                          refine T_skip_go (fun _ _ h => h) ?_
                          refine T_region ?_
                          refine S_ 124 rfl rfl rfl _ (y_bin rfl rfl rfl (fun hg => b_add (by omega))) ?_
                          refine S_ 67 rfl rfl rfl _ (y_move rfl rfl) ?_
                          refine S_nil (nextK1 (kf := [(2, 2), (8, 8), (67, 124)]) (kl := [(2, 2), (8, 8), (67, 124)]) (k + 1) (by repeat (first | exact kf_nil | (apply kf_in; focus rfl) | (apply kf_out; focus rfl))) (by repeat (first | exact kl_nil | exact kl_rest (by assumption) rfl | (apply kl_in; focus rfl) | (apply kl_out; focus rfl))) ?_ ?_ ?_ ?_)
                          · omega
                          · exact ⟨by omega, hs2⟩
                          · exact ⟨rfl, trivial⟩
                          · exact trivial
            · try simp only [decide_eq_true_eq, decide_eq_false_iff_not, Bool.or_eq_true, Bool.or_eq_false_iff, Bool.and_eq_true, Bool.and_eq_false_iff, Bool.not_eq_true', Bool.not_eq_false', Bool.not_eq_true, Bool.not_eq_false, Bool.not_true, Bool.not_false, Int.not_lt, Int.not_le, not_or, not_and, Classical.not_not] at h68
              rw [hth.end (by omega), fstL] at hs2
              have e0 := grNo_th h27 h31 hq2 hs2
              rw [if_neg (by rw [e0]; simp)] at hp2
              refine T_exit_go (fun _ _ h => h) ?_
              refine T_region ?_
              refine S_ 125 rfl rfl rfl _ (y_bin rfl rfl rfl (fun hg => b_add (by omega))) ?_
              refine S_ 14 rfl rfl rfl _ (y_move rfl rfl) ?_
              refine S_nil (nextK1 (kf := [(2, 2), (4, 4), (6, 6), (8, 8), (14, 125)]) (kl := [(2, 2), (4, 4), (6, 6), (8, 8), (14, 125)]) (i + 1) (by repeat (first | exact kf_nil | (apply kf_in; focus rfl) | (apply kf_out; focus rfl))) (by repeat (first | exact kl_nil | exact kl_rest (by assumption) rfl | (apply kl_in; focus rfl) | (apply kl_out; focus rfl))) ?_ ?_ ?_ ?_)
              · omega
              · exact ⟨by omega, hp2⟩
              · exact ⟨rfl, trivial⟩
              · exact trivial
    · try simp only [decide_eq_true_eq, decide_eq_false_iff_not, Bool.or_eq_true, Bool.or_eq_false_iff, Bool.and_eq_true, Bool.and_eq_false_iff, Bool.not_eq_true', Bool.not_eq_false', Bool.not_eq_true, Bool.not_eq_false, Bool.not_true, Bool.not_false, Int.not_lt, Int.not_le, not_or, not_and, Classical.not_not] at h15
      rw [ht.end (by omega), fstL] at hp2
      refine T_exit_go (fun _ _ h => h) ?_
      refine T_seq ?_
      refine T_region ?_
      refine S_ 2 rfl rfl rfl _ (y_assign rfl rfl) ?_
      refine S_go (fun _ _ h => h) ?_
      refine T_ret (fun a w hF hM => hRb a w (post1 rfl rfl (fun w hM => ?_) a w hF hM))
      exact ⟨by rw [groupsNo, if_neg (by omega), hp2], hM.below⟩
end Go.Proofs.YtdcbiepoghdanaaGreatDoor
end
section
namespace Go.Proofs.YtdcbiepoghdanaaGreatDoor
set_option linter.unusedSimpArgs false
set_option linter.unusedVariables false
set_option maxRecDepth 20000
open Go.RowKit Go.Eng
end Go.Proofs.YtdcbiepoghdanaaGreatDoor
end
section
namespace Go.Proofs.YtdcbiepoghdanaaGreatDoor
set_option linter.unusedSimpArgs false
set_option linter.unusedVariables false
set_option maxRecDepth 20000
open Go.RowKit Go.Eng
/-! ### Split -/
/-! ### Cut -/
/-! ### Words in a list -/
theorem IndexStr_any (A : Option Addr) (q c : Nat) (l : List (List UInt8)) (s : List UInt8) (w : World) (hl : SlT strE 1 w A q l) (hq : q ≤ 4611686018427387904) :
    Calls Tryz.prog 122 #[.slice A q c, str s] w fun e w' => e = .returned (.bool (decide (s ∈ l))) ∧ Below w.heap.size w w' := by
  have hI : ∀ w1, Below w.heap.size w w1 → Calls Tryz.prog 162 #[.slice A q c, str s] w1 fun e w' => ∃ n : Int, e = .returned (.int .i64 n) ∧ (decide (0 ≤ n) = decide (s ∈ l)) ∧ Below w1.heap.size w1 w' := by
    intro w1 hb1
    have hl1 := hl.below hb1
    refine enter_args (args := [.slice A q c, str s]) (F := _) Tryz.func162 rfl Tryz.ntmps162 rfl rfl ?_
    intro Rb hRb hRn
    refine T_seq ?_
    refine T_region ?_
    refine S_ 4 rfl rfl rfl _ (y_assign rfl rfl) ?_
    refine S_go (fun _ _ h => h) ?_
    refine T_seq ?_
    refine T_seq ?_
    refine T_region ?_
    refine S_ 6 rfl rfl rfl _ (y_move rfl rfl) ?_
    refine S_ 7 rfl rfl rfl _ (y_len_slice rfl rfl Tryz.underlying41) ?_
    refine S_ 8 rfl rfl rfl _ (y_move rfl rfl) ?_
    refine S_go (fun _ _ h => h) ?_
    refine T_block ?_
    refine T_loopK1 (kf := [(4, 5), (8, 18)]) (kl := [(4, 5), (8, 18)]) (fun (i : Nat) => [(8, true, .int .i64 (i : Int))]) (fun (i : Nat) => []) (fun (i : Nat) => i ≤ q ∧ (s ∈ l ↔ s ∈ l.drop i)) (fun (i : Nat) => q - i) 0 (by repeat (first | exact kf_nil | (apply kf_in; focus rfl) | (apply kf_out; focus rfl))) (by repeat (first | exact kl_nil | exact kl_rest (by assumption) rfl | (apply kl_in; focus rfl) | (apply kl_out; focus rfl))) ?_ ?_ ?_ ?_
    · exact ⟨by omega, Iff.rfl⟩
    · exact ⟨rfl, trivial⟩
    · exact trivial
    rintro i ⟨hp1, hp2⟩
    refine T_seq ?_
    refine T_region ?_
    refine S_ 9 rfl rfl rfl _ (y_bin rfl rfl rfl (fun _ => b_lss)) ?_
    refine S_go (fun _ _ h => h) ?_
    refine T_seq ?_
    refine T_cond rfl (fun h9 => ?_) (fun h9 => ?_)
    · try simp only [decide_eq_true_eq, decide_eq_false_iff_not, Bool.or_eq_true, Bool.or_eq_false_iff, Bool.and_eq_true, Bool.and_eq_false_iff, Bool.not_eq_true', Bool.not_eq_false', Bool.not_eq_true, Bool.not_eq_false, Bool.not_true, Bool.not_false, Int.not_lt, Int.not_le, not_or, not_and, Classical.not_not] at h9
      obtain ⟨x, hx1, hx2⟩ := hl1.at (i := i) (by omega)
      refine T_skip_go (fun _ _ h => h) ?_
      refine T_seq ?_
      refine T_block ?_
      refine T_seq ?_
      refine T_region ?_
      refine S_ 10 rfl rfl rfl _ (y_move rfl rfl) ?_
      refine S_ 5 rfl rfl rfl _ (y_assign rfl rfl) ?_
      refine S_go (fun _ _ h => h) ?_
      refine T_seq ?_
      refine T_region ?_
      refine S_ 11 rfl rfl rfl _ (y_move rfl rfl) ?_
      refine S_ 12 rfl rfl rfl _ (y_move rfl rfl) ?_
      refine S_ 13 rfl rfl rfl _ (y_move rfl rfl) ?_
      refine S_ 14 rfl rfl rfl _ (y_indexAddr rfl rfl rfl Tryz.underlying41 sz9 (fun hg => hl1.isSome (by omega)) (fun _ => by omega)) ?_
      refine S_ 15 rfl rfl rfl _ (y_loadT1 (val := (fun l : List UInt8 => str l)) rfl rfl hl1 (fun _ => hx1) Tryz.underlying9 rfl) ?_
      refine S_ 16 rfl rfl rfl _ (y_bin rfl rfl rfl (fun _ => b_eqls)) ?_
      refine S_go (fun _ _ h => h) ?_
      refine T_cond rfl (fun h16 => ?_) (fun h16 => ?_)
      · skip
        refine T_seq ?_
        refine T_region ?_
        refine S_ 17 rfl rfl rfl _ (y_move rfl rfl) ?_
        refine S_ 4 rfl rfl rfl _ (y_assign rfl rfl) ?_
        refine S_go (fun _ _ h => h) ?_
        refine T_ret (fun a w hF hM => hRb a w (post1 rfl rfl (fun w hM => ?_) a w hF hM))
        exact ⟨(i : Int), rfl, by rw [decide_eq_true (hp2.2 (by rw [hx2]; exact List.mem_cons.2 (.inl (by simpa using h16))))]; simp, hM.below⟩
      · skip
        refine T_skip_go (fun _ _ h => h) ?_
        refine T_region ?_
        refine S_ 18 rfl rfl rfl _ (y_bin rfl rfl rfl (fun hg => b_add (by omega))) ?_
        refine S_ 8 rfl rfl rfl _ (y_move rfl rfl) ?_
        refine S_nil (nextK1 (kf := [(4, 5), (8, 18)]) (kl := [(4, 5), (8, 18)]) (i + 1) (by repeat (first | exact kf_nil | (apply kf_in; focus rfl) | (apply kf_out; focus rfl))) (by repeat (first | exact kl_nil | exact kl_rest (by assumption) rfl | (apply kl_in; focus rfl) | (apply kl_out; focus rfl))) ?_ ?_ ?_ ?_)
        · omega
        · exact ⟨by omega, by rw [hp2, hx2, List.mem_cons, or_iff_right (by simpa using h16)]⟩
        · exact ⟨rfl, trivial⟩
        · exact trivial
    · try simp only [decide_eq_true_eq, decide_eq_false_iff_not, Bool.or_eq_true, Bool.or_eq_false_iff, Bool.and_eq_true, Bool.and_eq_false_iff, Bool.not_eq_true', Bool.not_eq_false', Bool.not_eq_true, Bool.not_eq_false, Bool.not_true, Bool.not_false, Int.not_lt, Int.not_le, not_or, not_and, Classical.not_not] at h9
      refine T_exit_go (fun _ _ h => h) ?_
      refine T_seq ?_
      refine T_region ?_
      refine S_ 4 rfl rfl rfl _ (y_assign rfl rfl) ?_
      refine S_go (fun _ _ h => h) ?_
      refine T_ret (fun a w hF hM => hRb a w (post1 rfl rfl (fun w hM => ?_) a w hF hM))
      exact ⟨-1, rfl, by rw [decide_eq_false (show ¬ s ∈ l from fun h => by have := hp2.1 h; rw [hl1.end (by omega)] at this; cases this)]; rfl, hM.below⟩
  refine enter_args (args := [.slice A q c, str s]) (F := _) Tryz.func122 rfl Tryz.ntmps122 rfl rfl ?_
  intro Rb hRb hRn
  refine T_seq ?_
  refine T_region ?_
  refine S_ 4 rfl rfl rfl _ (y_assign rfl rfl) ?_
  refine S_go (fun _ _ h => h) ?_
  refine T_seq ?_
  refine T_region ?_
  refine S_ 5 rfl rfl rfl _ (y_move rfl rfl) ?_
  refine S_ 6 rfl rfl rfl _ (y_move rfl rfl) ?_
  refine S_call 7 (X := Int) rfl rfl rfl rfl rfl rfl rfl cf162 (fun n => .int .i64 n) (fun n => decide (0 ≤ n) = decide (s ∈ l)) (fun _ => _) (fun w1 hM => (hI w1 hM.below).mono fun e w2 ⟨n, h1, h2, h3⟩ => ⟨n, h1, h2, hM.call h3⟩) ?_
  rintro n hn
  refine S_ 8 rfl rfl rfl _ (y_bin rfl rfl rfl (fun _ => b_geq)) ?_
  refine S_ 4 rfl rfl rfl _ (y_assign rfl rfl) ?_
  refine S_go (fun _ _ h => h) ?_
  refine T_ret (fun a w hF hM => hRb a w (post1 rfl rfl (fun w hM => ?_) a w hF hM))
  exact ⟨by rw [← hn], hM.below⟩
end Go.Proofs.YtdcbiepoghdanaaGreatDoor
end
section
namespace Go.Proofs.YtdcbiepoghdanaaGreatDoor
set_option linter.unusedSimpArgs false
set_option linter.unusedVariables false
set_option maxRecDepth 20000
open Go.RowKit Go.Eng
theorem dropWhile_nil {p : UInt8 → Bool} : ∀ {l : List UInt8}, l.dropWhile p = [] → ∀ c ∈ l, p c = true
  | [], _ => fun c h => by cases h
  | a :: r, h => fun c hc => by
    rw [List.dropWhile_cons] at h
    split at h
    · rcases List.mem_cons.1 hc with rfl | hc
      · assumption
      · exact dropWhile_nil h c hc
    · cases h
theorem dropWhile_head {p : UInt8 → Bool} : ∀ {l : List UInt8} {y : UInt8} {t : List UInt8}, l.dropWhile p = y :: t → p y = false
  | [], y, t, h => by simp at h
  | a :: r, y, t, h => by
    rw [List.dropWhile_cons] at h
    split at h
    · exact dropWhile_head h
    · rename_i hp
      obtain ⟨rfl, _⟩ := List.cons.inj h
      simpa using hp
theorem trimS_nil {s cs : List UInt8} (h : Lib.trimS s cs = []) : ∀ c ∈ s, cs.contains c = true := by
  have h1 := dropWhile_nil (l := Lib.trimRightS s cs) h
  have h2 : s.reverse.dropWhile (cs.contains ·) = [] := by
    cases hq : s.reverse.dropWhile (cs.contains ·) with
    | nil => rfl
    | cons y t =>
      have h3 := dropWhile_head hq
      have h4 := h1 y (by unfold Lib.trimRightS; rw [hq]; simp)
      rw [h3] at h4; cases h4
  intro c hc
  exact dropWhile_nil h2 c (List.mem_reverse.2 hc)
end Go.Proofs.YtdcbiepoghdanaaGreatDoor
end
