/- Part 7, merged by a program. The reference's fault of a condition. Conditions: those of each theorem. The reference's CondHolds. Conditions: the condition is right, the event is small. FindHolds answers true, for all conditions, events, patterns and texts of the sizes that are named. Conditions: those sizes. A world in which the listed tables of Go's hold what their text says, at a seat of conditions; what a row's condition says of the greatest length that is searched. No condition. -/
import Derived.Test.YtfmbgaaonfgenaaGreatDoorCards
import Derived.Test.YtfmbgaaonfgenaaGreatDoorTie
import Derived.Deep.DeepHandedRow
import Derived.Lib.LaidTab
import Derived.Stop.LaidErr
import Derived.ProofKit
import Derived.OpenShut
import Derived.Test.YtfmbgaaonfgenaaGreatDoorPk6
section
namespace Go.Proofs.YtfmbgaaonfgenaaGreatDoor
set_option linter.unusedSimpArgs false
set_option linter.unusedVariables false
set_option maxRecDepth 20000
open Go.RowKit Go.Eng
theorem txt_val {s : List UInt8} (h : ¬ s = []) : txtNo s = valNo s := by rw [txtNo, if_neg h]; rfl
def OneAtR (x : SC) : Prop := ∀ w : World, x.Ok w → Calls Tryz.prog 48 #[x.val] w fun e w' => e = .returned (.int .i64 (chX x)) ∧ Below w.heap.size w w'
theorem out_in (n lo hi : Int) : (decide (n < lo) || decide (hi < n)) = !inB n lo hi := by rw [inB, Bool.not_not]
def outQ (n op : Int) : Bool := decide (n < (if rngB op = true then loR op else 0)) || decide ((if rngB op = true then hiR op else 0) < n)
set_option maxHeartbeats 3200000 in
theorem rone_step (x : SC) (ih : ∀ k ∈ x.kids, OneAtR k) : OneAtR x := fun w hok => by
  obtain ⟨hs, hq, hb, hn, ht, hk⟩ := hok.parts
  have hl : SlT SC.enc 6 w x.ad x.q x.kids := hs.t
  have hlen := hl.len
  refine enter_args (args := [.agg #[.int .i64 x.op, .slice x.ad x.q x.c, .int .i64 x.lo, .int .i64 x.hi, str x.nm, str x.tx]]) (F := _) Tryz.func48 rfl Tryz.ntmps48 rfl rfl ?_
  intro Rb hRb hRn
  refine T_seq ?_
  refine T_region ?_
  refine S_box 1 1 rfl rfl rfl rfl rfl ?_
  intro b1
  refine S_ 2 rfl rfl rfl _ (y_assign rfl rfl) ?_
  refine S_go (fun _ _ h => h) ?_
  refine T_seq ?_
  refine T_seq ?_
  refine T_region ?_
  refine S_ 13 rfl rfl rfl _ (y_fieldAddr rfl rfl fa24_0) ?_
  refine S_ 14 rfl rfl rfl _ (y_load 1 rfl rfl rfl rfl Tryz.underlying3 rfl) ?_
  refine S_ 15 rfl rfl rfl _ (y_as (v' := .bool (!inB x.op 1 14)) (by rw [out_in]) (y_call rfl rfl rfl cf53 (fun _ w _ => out_any _ _ _ w))) ?_
  refine S_go (fun _ _ h => h) ?_
  refine T_cond rfl (fun h15 => ?_) (fun h15 => ?_)
  · skip
    have hi1 : inB x.op 1 14 = false := by simpa using h15
    have e1 : chX x = 10 := chX_hd (by rw [hd_def, if_pos hi1]) (by decide)
    refine T_seq ?_
    refine T_region ?_
    refine S_ 2 rfl rfl rfl _ (y_assign rfl rfl) ?_
    refine S_go (fun _ _ h => h) ?_
    refine T_ret (fun a w hF hM => hRb a w (post1 rfl rfl (fun w hM => ?_) a w hF hM))
    first | exact ⟨by rw [e1], hM.below⟩ | exact ⟨by rw [hch, ← hp2, hl.end (by omega)]; rfl, hM.below⟩
  · skip
    have hi1 : inB x.op 1 14 = true := by simpa using h15
    refine T_skip_go (fun _ _ h => h) ?_
    refine T_seq ?_
    refine T_region ?_
    refine S_ 16 rfl rfl rfl _ (y_fieldAddr rfl rfl fa24_0) ?_
    refine S_ 17 rfl rfl rfl _ (y_load 1 rfl rfl rfl rfl Tryz.underlying3 rfl) ?_
    refine S_ 18 rfl rfl rfl _ (y_as (v' := .bool (grpB x.op)) (by exact rfl) (y_bin rfl rfl rfl (fun _ => b_leq))) ?_
    refine S_ 3 rfl rfl rfl _ (y_assign rfl rfl) ?_
    refine S_go (fun _ _ h => h) ?_
    refine T_seq ?_
    refine T_region ?_
    refine S_ 20 rfl rfl rfl _ (y_fieldAddr rfl rfl fa24_0) ?_
    refine S_ 21 rfl rfl rfl _ (y_load 1 rfl rfl rfl rfl Tryz.underlying3 rfl) ?_
    refine S_ 22 rfl rfl rfl _ (y_call rfl rfl rfl cf144 (fun _ w _ => ranged_any _ w)) ?_
    refine S_ 19 rfl rfl rfl _ (y_move rfl rfl) ?_
    refine S_ 23 rfl rfl rfl _ (y_extract rfl rfl rfl) ?_
    refine S_ 24 rfl rfl rfl _ (y_extract rfl rfl rfl) ?_
    refine S_ 25 rfl rfl rfl _ (y_extract rfl rfl rfl) ?_
    refine S_ 4 rfl rfl rfl _ (y_assign rfl rfl) ?_
    refine S_ 5 rfl rfl rfl _ (y_assign rfl rfl) ?_
    refine S_ 6 rfl rfl rfl _ (y_assign rfl rfl) ?_
    refine S_go (fun _ _ h => h) ?_
    refine T_seq ?_
    refine T_region ?_
    refine S_ 26 rfl rfl rfl _ (y_fieldAddr rfl rfl fa24_0) ?_
    refine S_ 27 rfl rfl rfl _ (y_load 1 rfl rfl rfl rfl Tryz.underlying3 rfl) ?_
    refine S_ 28 rfl rfl rfl _ (y_bin rfl rfl rfl (fun _ => b_eql)) ?_
    refine S_ 29 rfl rfl rfl _ (y_move rfl rfl) ?_
    refine Sg_ 30 rfl rfl rfl rfl rfl rfl _ (y_fieldAddr rfl rfl fa24_0) ?_
    refine Sg_ 31 rfl rfl rfl rfl rfl rfl _ (y_load 1 rfl rfl rfl rfl Tryz.underlying3 rfl) ?_
    refine Sg_ 32 rfl rfl rfl rfl rfl rfl _ (y_bin rfl rfl rfl (fun _ => b_eql)) ?_
    refine S_ 33 rfl rfl rfl _ (y_as (v' := .bool (nmdB x.op)) (by exact rfl) (y_or rfl rfl rfl)) ?_
    refine S_ 7 rfl rfl rfl _ (y_assign rfl rfl) ?_
    refine S_go (fun _ _ h => h) ?_
    refine T_seq ?_
    refine T_region ?_
    refine S_ 34 rfl rfl rfl _ (y_fieldAddr rfl rfl fa24_0) ?_
    refine S_ 35 rfl rfl rfl _ (y_load 1 rfl rfl rfl rfl Tryz.underlying3 rfl) ?_
    refine S_ 36 rfl rfl rfl _ (y_bin rfl rfl rfl (fun _ => b_geq)) ?_
    refine S_ 37 rfl rfl rfl _ (y_move rfl rfl) ?_
    refine Sg_ 38 rfl rfl rfl rfl rfl rfl _ (y_fieldAddr rfl rfl fa24_0) ?_
    refine Sg_ 39 rfl rfl rfl rfl rfl rfl _ (y_load 1 rfl rfl rfl rfl Tryz.underlying3 rfl) ?_
    refine Sg_ 40 rfl rfl rfl rfl rfl rfl _ (y_bin rfl rfl rfl (fun _ => b_neq)) ?_
    refine S_ 41 rfl rfl rfl _ (y_as (v' := .bool (wrdB x.op)) (by exact congrArg Value.bool (by rw [wrdB, Bool.eq_iff_iff]; simp only [Bool.and_eq_true, Bool.or_eq_true, decide_eq_true_eq, Bool.not_eq_true', decide_eq_false_iff_not]; omega)) (y_and rfl rfl rfl)) ?_
    refine S_ 8 rfl rfl rfl _ (y_assign rfl rfl) ?_
    refine S_go (fun _ _ h => h) ?_
    refine T_seq ?_
    refine T_block ?_
    refine T_seq ?_
    refine T_seq ?_
    refine T_region ?_
    refine S_ 43 rfl rfl rfl _ (y_fieldAddr rfl rfl fa24_1) ?_
    refine S_ 44 rfl rfl rfl _ (y_load 1 rfl rfl rfl rfl Tryz.underlying22 rfl) ?_
    refine S_ 45 rfl rfl rfl _ (y_len_slice rfl rfl Tryz.underlying22) ?_
    refine S_ 46 rfl rfl rfl _ (y_bin rfl rfl rfl (fun _ => b_gtr)) ?_
    refine S_ 47 rfl rfl rfl _ (y_move rfl rfl) ?_
    refine Sg_ 48 rfl rfl rfl rfl rfl rfl _ (y_move rfl rfl) ?_
    refine Sg_ 49 rfl rfl rfl rfl rfl rfl _ (y_not rfl rfl) ?_
    refine S_ 50 rfl rfl rfl _ (y_as (v' := .bool (decide (0 < x.kids.length) && !grpB x.op)) (by simp only [hlen, Int.natCast_pos]) (y_and rfl rfl rfl)) ?_
    refine S_ 42 rfl rfl rfl _ (y_assign rfl rfl) ?_
    refine S_go (fun _ _ h => h) ?_
    refine T_cond rfl (fun h42 => ?_) (fun h42 => ?_)
    · skip
      have c1 := h42
      have e1 : chX x = 1 := chX_hd (by rw [hd_def, if_neg (by rw [hi1]; simp), if_pos (by unfold f1B; rw [c1]; simp)]) (by decide)
      refine T_skip_go (fun _ _ h => h) ?_
      refine T_cond rfl (fun h42 => ?_) (fun h42 => ?_)
      · skip
        refine T_seq ?_
        refine T_region ?_
        refine S_ 2 rfl rfl rfl _ (y_assign rfl rfl) ?_
        refine S_go (fun _ _ h => h) ?_
        refine T_ret (fun a w hF hM => hRb a w (post1 rfl rfl (fun w hM => ?_) a w hF hM))
        first | exact ⟨by rw [e1], hM.below⟩ | exact ⟨by rw [hch, ← hp2, hl.end (by omega)]; rfl, hM.below⟩
      · skip
        exact absurd (c1.symm.trans h42) (by decide)
    · skip
      have c1 := h42
      refine T_seq ?_
      refine T_region ?_
      refine S_ 51 rfl rfl rfl _ (y_fieldAddr rfl rfl fa24_2) ?_
      refine S_ 52 rfl rfl rfl _ (y_load 1 rfl rfl rfl rfl Tryz.underlying3 rfl) ?_
      refine S_ 53 rfl rfl rfl _ (y_bin rfl rfl rfl (fun _ => b_neq)) ?_
      refine S_ 54 rfl rfl rfl _ (y_move rfl rfl) ?_
      refine Sg_ 55 rfl rfl rfl rfl rfl rfl _ (y_fieldAddr rfl rfl fa24_3) ?_
      refine Sg_ 56 rfl rfl rfl rfl rfl rfl _ (y_load 1 rfl rfl rfl rfl Tryz.underlying3 rfl) ?_
      refine Sg_ 57 rfl rfl rfl rfl rfl rfl _ (y_bin rfl rfl rfl (fun _ => b_neq)) ?_
      refine S_ 58 rfl rfl rfl _ (y_or rfl rfl rfl) ?_
      refine S_ 59 rfl rfl rfl _ (y_move rfl rfl) ?_
      refine Sg_ 60 rfl rfl rfl rfl rfl rfl _ (y_move rfl rfl) ?_
      refine Sg_ 61 rfl rfl rfl rfl rfl rfl _ (y_not rfl rfl) ?_
      refine S_ 62 rfl rfl rfl _ (y_as (v' := .bool ((!decide (x.lo = 0) || !decide (x.hi = 0)) && !rngB x.op)) (by exact rfl) (y_and rfl rfl rfl)) ?_
      refine S_ 42 rfl rfl rfl _ (y_assign rfl rfl) ?_
      refine S_go (fun _ _ h => h) ?_
      refine T_cond rfl (fun h42 => ?_) (fun h42 => ?_)
      · skip
        have c2 := h42
        have e1 : chX x = 1 := chX_hd (by rw [hd_def, if_neg (by rw [hi1]; simp), if_pos (by unfold f1B; rw [c2]; simp)]) (by decide)
        refine T_skip_go (fun _ _ h => h) ?_
        refine T_cond rfl (fun h42 => ?_) (fun h42 => ?_)
        · skip
          refine T_seq ?_
          refine T_region ?_
          refine S_ 2 rfl rfl rfl _ (y_assign rfl rfl) ?_
          refine S_go (fun _ _ h => h) ?_
          refine T_ret (fun a w hF hM => hRb a w (post1 rfl rfl (fun w hM => ?_) a w hF hM))
          first | exact ⟨by rw [e1], hM.below⟩ | exact ⟨by rw [hch, ← hp2, hl.end (by omega)]; rfl, hM.below⟩
        · skip
          exact absurd (c2.symm.trans h42) (by decide)
      · skip
        have c2 := h42
        refine T_seq ?_
        refine T_region ?_
        refine S_ 63 rfl rfl rfl _ (y_fieldAddr rfl rfl fa24_4) ?_
        refine S_ 64 rfl rfl rfl _ (y_load 1 rfl rfl rfl rfl Tryz.underlying9 rfl) ?_
        refine S_ 65 rfl rfl rfl _ (y_bin rfl rfl rfl (fun _ => b_neqs)) ?_
        refine S_ 66 rfl rfl rfl _ (y_move rfl rfl) ?_
        refine Sg_ 67 rfl rfl rfl rfl rfl rfl _ (y_move rfl rfl) ?_
        refine Sg_ 68 rfl rfl rfl rfl rfl rfl _ (y_not rfl rfl) ?_
        refine S_ 69 rfl rfl rfl _ (y_as (v' := .bool (!decide (x.nm = []) && !nmdB x.op)) (by simp only []) (y_and rfl rfl rfl)) ?_
        refine S_ 42 rfl rfl rfl _ (y_assign rfl rfl) ?_
        refine S_go (fun _ _ h => h) ?_
        refine T_cond rfl (fun h42 => ?_) (fun h42 => ?_)
        · skip
          have c3 := h42
          have e1 : chX x = 1 := chX_hd (by rw [hd_def, if_neg (by rw [hi1]; simp), if_pos (by unfold f1B; rw [c3]; simp)]) (by decide)
          refine T_skip_go (fun _ _ h => h) ?_
          refine T_cond rfl (fun h42 => ?_) (fun h42 => ?_)
          · skip
            refine T_seq ?_
            refine T_region ?_
            refine S_ 2 rfl rfl rfl _ (y_assign rfl rfl) ?_
            refine S_go (fun _ _ h => h) ?_
            refine T_ret (fun a w hF hM => hRb a w (post1 rfl rfl (fun w hM => ?_) a w hF hM))
            first | exact ⟨by rw [e1], hM.below⟩ | exact ⟨by rw [hch, ← hp2, hl.end (by omega)]; rfl, hM.below⟩
          · skip
            exact absurd (c3.symm.trans h42) (by decide)
        · skip
          have c3 := h42
          refine T_region ?_
          refine S_ 70 rfl rfl rfl _ (y_fieldAddr rfl rfl fa24_5) ?_
          refine S_ 71 rfl rfl rfl _ (y_load 1 rfl rfl rfl rfl Tryz.underlying9 rfl) ?_
          refine S_ 72 rfl rfl rfl _ (y_bin rfl rfl rfl (fun _ => b_neqs)) ?_
          refine S_ 73 rfl rfl rfl _ (y_move rfl rfl) ?_
          refine Sg_ 74 rfl rfl rfl rfl rfl rfl _ (y_move rfl rfl) ?_
          refine Sg_ 75 rfl rfl rfl rfl rfl rfl _ (y_not rfl rfl) ?_
          refine S_ 76 rfl rfl rfl _ (y_as (v' := .bool (!decide (x.tx = []) && !wrdB x.op)) (by simp only []) (y_and rfl rfl rfl)) ?_
          refine S_ 42 rfl rfl rfl _ (y_assign rfl rfl) ?_
          refine S_go (fun _ _ h => h) ?_
          refine T_cond rfl (fun h42 => ?_) (fun h42 => ?_)
          · skip
            have c4 := h42
            have e1 : chX x = 1 := chX_hd (by rw [hd_def, if_neg (by rw [hi1]; simp), if_pos (by unfold f1B; rw [c4]; simp)]) (by decide)
            refine T_seq ?_
            refine T_region ?_
            refine S_ 2 rfl rfl rfl _ (y_assign rfl rfl) ?_
            refine S_go (fun _ _ h => h) ?_
            refine T_ret (fun a w hF hM => hRb a w (post1 rfl rfl (fun w hM => ?_) a w hF hM))
            first | exact ⟨by rw [e1], hM.below⟩ | exact ⟨by rw [hch, ← hp2, hl.end (by omega)]; rfl, hM.below⟩
          · skip
            have hf1 : f1B x = false := by unfold f1B; rw [c1, c2, c3, h42]; rfl
            refine T_seq ?_
            refine T_seq ?_
            refine T_region ?_
            refine S_ 78 rfl rfl rfl _ (y_fieldAddr rfl rfl fa24_0) ?_
            refine S_ 79 rfl rfl rfl _ (y_load 1 rfl rfl rfl rfl Tryz.underlying3 rfl) ?_
            refine S_ 80 rfl rfl rfl _ (y_bin rfl rfl rfl (fun _ => b_eql)) ?_
            refine S_ 81 rfl rfl rfl _ (y_move rfl rfl) ?_
            refine Sg_ 82 rfl rfl rfl rfl rfl rfl _ (y_fieldAddr rfl rfl fa24_0) ?_
            refine Sg_ 83 rfl rfl rfl rfl rfl rfl _ (y_load 1 rfl rfl rfl rfl Tryz.underlying3 rfl) ?_
            refine Sg_ 84 rfl rfl rfl rfl rfl rfl _ (y_bin rfl rfl rfl (fun _ => b_eql)) ?_
            refine S_ 85 rfl rfl rfl _ (y_or rfl rfl rfl) ?_
            refine S_ 86 rfl rfl rfl _ (y_move rfl rfl) ?_
            refine Sg_ 87 rfl rfl rfl rfl rfl rfl _ (y_fieldAddr rfl rfl fa24_1) ?_
            refine Sg_ 88 rfl rfl rfl rfl rfl rfl _ (y_load 1 rfl rfl rfl rfl Tryz.underlying22 rfl) ?_
            refine Sg_ 89 rfl rfl rfl rfl rfl rfl _ (y_len_slice rfl rfl Tryz.underlying22) ?_
            refine Sg_ 90 rfl rfl rfl rfl rfl rfl _ (y_bin rfl rfl rfl (fun _ => b_lss)) ?_
            refine S_ 91 rfl rfl rfl _ (y_as (v' := .bool ((decide (x.op = 1) || decide (x.op = 2)) && decide (x.kids.length < 2))) (by rw [hlen, show decide (((x.q : Nat) : Int) < 2) = decide (x.q < 2) from decide_eq_decide.2 (by omega)]) (y_and rfl rfl rfl)) ?_
            refine S_ 77 rfl rfl rfl _ (y_assign rfl rfl) ?_
            refine S_go (fun _ _ h => h) ?_
            refine T_cond rfl (fun h77 => ?_) (fun h77 => ?_)
            · skip
              have c5 := h77
              have e1 : chX x = 1 := chX_hd (by rw [hd_def, if_neg (by rw [hi1]; simp), if_neg (by rw [hf1]; simp), if_pos (by unfold f2B; rw [c5]; simp)]) (by decide)
              refine T_skip_go (fun _ _ h => h) ?_
              refine T_cond rfl (fun h77 => ?_) (fun h77 => ?_)
              · skip
                refine T_seq ?_
                refine T_region ?_
                refine S_ 2 rfl rfl rfl _ (y_assign rfl rfl) ?_
                refine S_go (fun _ _ h => h) ?_
                refine T_ret (fun a w hF hM => hRb a w (post1 rfl rfl (fun w hM => ?_) a w hF hM))
                first | exact ⟨by rw [e1], hM.below⟩ | exact ⟨by rw [hch, ← hp2, hl.end (by omega)]; rfl, hM.below⟩
              · skip
                exact absurd (c5.symm.trans h77) (by decide)
            · skip
              have c5 := h77
              refine T_region ?_
              refine S_ 92 rfl rfl rfl _ (y_fieldAddr rfl rfl fa24_0) ?_
              refine S_ 93 rfl rfl rfl _ (y_load 1 rfl rfl rfl rfl Tryz.underlying3 rfl) ?_
              refine S_ 94 rfl rfl rfl _ (y_bin rfl rfl rfl (fun _ => b_eql)) ?_
              refine S_ 95 rfl rfl rfl _ (y_move rfl rfl) ?_
              refine Sg_ 96 rfl rfl rfl rfl rfl rfl _ (y_fieldAddr rfl rfl fa24_1) ?_
              refine Sg_ 97 rfl rfl rfl rfl rfl rfl _ (y_load 1 rfl rfl rfl rfl Tryz.underlying22 rfl) ?_
              refine Sg_ 98 rfl rfl rfl rfl rfl rfl _ (y_len_slice rfl rfl Tryz.underlying22) ?_
              refine Sg_ 99 rfl rfl rfl rfl rfl rfl _ (y_bin rfl rfl rfl (fun _ => b_neq)) ?_
              refine S_ 100 rfl rfl rfl _ (y_as (v' := .bool (decide (x.op = 3) && !decide (x.kids.length = 1))) (by rw [hlen, show decide (((x.q : Nat) : Int) = 1) = decide (x.q = 1) from decide_eq_decide.2 (by omega)]) (y_and rfl rfl rfl)) ?_
              refine S_ 77 rfl rfl rfl _ (y_assign rfl rfl) ?_
              refine S_go (fun _ _ h => h) ?_
              refine T_cond rfl (fun h77 => ?_) (fun h77 => ?_)
              · skip
                have c6 := h77
                have e1 : chX x = 1 := chX_hd (by rw [hd_def, if_neg (by rw [hi1]; simp), if_neg (by rw [hf1]; simp), if_pos (by unfold f2B; rw [c6]; simp)]) (by decide)
                refine T_seq ?_
                refine T_region ?_
                refine S_ 2 rfl rfl rfl _ (y_assign rfl rfl) ?_
                refine S_go (fun _ _ h => h) ?_
                refine T_ret (fun a w hF hM => hRb a w (post1 rfl rfl (fun w hM => ?_) a w hF hM))
                first | exact ⟨by rw [e1], hM.below⟩ | exact ⟨by rw [hch, ← hp2, hl.end (by omega)]; rfl, hM.below⟩
              · skip
                have hre := hd_rest hi1 hf1 (by unfold f2B; rw [c5, h77]; rfl)
                refine T_seq ?_
                refine T_region ?_
                refine S_ 102 rfl rfl rfl _ (y_move rfl rfl) ?_
                refine S_ 103 rfl rfl rfl _ (y_move rfl rfl) ?_
                refine Sg_ 104 rfl rfl rfl rfl rfl rfl _ (y_fieldAddr rfl rfl fa24_2) ?_
                refine Sg_ 105 rfl rfl rfl rfl rfl rfl _ (y_load 1 rfl rfl rfl rfl Tryz.underlying3 rfl) ?_
                refine Sg_ 106 rfl rfl rfl rfl rfl rfl _ (y_move rfl rfl) ?_
                refine Sg_ 107 rfl rfl rfl rfl rfl rfl _ (y_move rfl rfl) ?_
                refine Sg_ 108 rfl rfl rfl rfl rfl rfl _ (y_as (v' := .bool (outQ x.lo x.op)) (by exact rfl) (y_call rfl rfl rfl cf53 (fun _ w _ => out_any _ _ _ w))) ?_
                refine Sg_ 109 rfl rfl rfl rfl rfl rfl _ (y_move rfl rfl) ?_
                refine Sg_ 110 rfl rfl rfl rfl rfl rfl _ (y_fieldAddr rfl rfl fa24_3) ?_
                refine Sg_ 111 rfl rfl rfl rfl rfl rfl _ (y_load 1 rfl rfl rfl rfl Tryz.underlying3 rfl) ?_
                refine Sg_ 112 rfl rfl rfl rfl rfl rfl _ (y_move rfl rfl) ?_
                refine Sg_ 113 rfl rfl rfl rfl rfl rfl _ (y_move rfl rfl) ?_
                refine Sg_ 114 rfl rfl rfl rfl rfl rfl _ (y_as (v' := .bool (outQ x.hi x.op)) (by exact rfl) (y_call rfl rfl rfl cf53 (fun _ w _ => out_any _ _ _ w))) ?_
                refine Sg_ 115 rfl rfl rfl rfl rfl rfl _ (y_or rfl rfl rfl) ?_
                refine S_ 116 rfl rfl rfl _ (y_as (v' := .bool (rngB x.op && r1B x)) (by exact congrArg Value.bool (by
                  by_cases hr : rngB x.op = true
                  · rw [r1B, outQ, outQ, if_pos hr, if_pos hr, out_in, out_in]
                  · rw [Bool.not_eq_true] at hr; rw [hr]; rfl)) (y_and rfl rfl rfl)) ?_
                refine S_ 101 rfl rfl rfl _ (y_assign rfl rfl) ?_
                refine S_go (fun _ _ h => h) ?_
                refine T_cond rfl (fun h101 => ?_) (fun h101 => ?_)
                · skip
                  have e1 : chX x = 2 := chX_hd (by rw [hre, if_pos h101]) (by decide)
                  refine T_seq ?_
                  refine T_region ?_
                  refine S_ 2 rfl rfl rfl _ (y_assign rfl rfl) ?_
                  refine S_go (fun _ _ h => h) ?_
                  refine T_ret (fun a w hF hM => hRb a w (post1 rfl rfl (fun w hM => ?_) a w hF hM))
                  first | exact ⟨by rw [e1], hM.below⟩ | exact ⟨by rw [hch, ← hp2, hl.end (by omega)]; rfl, hM.below⟩
                · skip
                  rw [if_neg (by rw [h101]; simp)] at hre
                  refine T_seq ?_
                  refine T_region ?_
                  refine S_ 118 rfl rfl rfl _ (y_move rfl rfl) ?_
                  refine S_ 119 rfl rfl rfl _ (y_move rfl rfl) ?_
                  refine Sg_ 120 rfl rfl rfl rfl rfl rfl _ (y_fieldAddr rfl rfl fa24_3) ?_
                  refine Sg_ 121 rfl rfl rfl rfl rfl rfl _ (y_load 1 rfl rfl rfl rfl Tryz.underlying3 rfl) ?_
                  refine Sg_ 122 rfl rfl rfl rfl rfl rfl _ (y_fieldAddr rfl rfl fa24_2) ?_
                  refine Sg_ 123 rfl rfl rfl rfl rfl rfl _ (y_load 1 rfl rfl rfl rfl Tryz.underlying3 rfl) ?_
                  refine Sg_ 124 rfl rfl rfl rfl rfl rfl _ (y_bin rfl rfl rfl (fun _ => b_lss)) ?_
                  refine S_ 125 rfl rfl rfl _ (y_as (v' := .bool (rngB x.op && decide (x.hi < x.lo))) (by exact rfl) (y_and rfl rfl rfl)) ?_
                  refine S_ 117 rfl rfl rfl _ (y_assign rfl rfl) ?_
                  refine S_go (fun _ _ h => h) ?_
                  refine T_cond rfl (fun h117 => ?_) (fun h117 => ?_)
                  · skip
                    have e1 : chX x = 5 := chX_hd (by rw [hre, if_pos h117]) (by decide)
                    refine T_seq ?_
                    refine T_region ?_
                    refine S_ 2 rfl rfl rfl _ (y_assign rfl rfl) ?_
                    refine S_go (fun _ _ h => h) ?_
                    refine T_ret (fun a w hF hM => hRb a w (post1 rfl rfl (fun w hM => ?_) a w hF hM))
                    first | exact ⟨by rw [e1], hM.below⟩ | exact ⟨by rw [hch, ← hp2, hl.end (by omega)]; rfl, hM.below⟩
                  · skip
                    rw [if_neg (by rw [h117]; simp)] at hre
                    refine T_seq ?_
                    refine T_region ?_
                    refine S_ 127 rfl rfl rfl _ (y_move rfl rfl) ?_
                    refine S_ 128 rfl rfl rfl _ (y_move rfl rfl) ?_
                    refine Sg_ 129 rfl rfl rfl rfl rfl rfl _ (y_fieldAddr rfl rfl fa24_4) ?_
                    refine Sg_ 130 rfl rfl rfl rfl rfl rfl _ (y_load 1 rfl rfl rfl rfl Tryz.underlying9 rfl) ?_
                    refine Sg_ 131 rfl rfl rfl rfl rfl rfl _ (y_call rfl rfl rfl cf51 (fun _ w _ => NameOk_any _ w)) ?_
                    refine Sg_ 132 rfl rfl rfl rfl rfl rfl _ (y_not rfl rfl) ?_
                    refine S_ 133 rfl rfl rfl _ (y_as (v' := .bool (nmdB x.op && !nameOk x.nm)) (by exact rfl) (y_and rfl rfl rfl)) ?_
                    refine S_ 126 rfl rfl rfl _ (y_assign rfl rfl) ?_
                    refine S_go (fun _ _ h => h) ?_
                    refine T_cond rfl (fun h126 => ?_) (fun h126 => ?_)
                    · skip
                      have e1 : chX x = 3 := chX_hd (by rw [hre, if_pos h126]) (by decide)
                      refine T_seq ?_
                      refine T_region ?_
                      refine S_ 2 rfl rfl rfl _ (y_assign rfl rfl) ?_
                      refine S_go (fun _ _ h => h) ?_
                      refine T_ret (fun a w hF hM => hRb a w (post1 rfl rfl (fun w hM => ?_) a w hF hM))
                      first | exact ⟨by rw [e1], hM.below⟩ | exact ⟨by rw [hch, ← hp2, hl.end (by omega)]; rfl, hM.below⟩
                    · skip
                      rw [if_neg (by rw [h126]; simp)] at hre
                      refine T_seq ?_
                      refine T_region ?_
                      refine S_ 135 rfl rfl rfl _ (y_move rfl rfl) ?_
                      refine S_ 136 rfl rfl rfl _ (y_move rfl rfl) ?_
                      refine Sg_ 137 rfl rfl rfl rfl rfl rfl _ (y_fieldAddr rfl rfl fa24_5) ?_
                      refine Sg_ 138 rfl rfl rfl rfl rfl rfl _ (y_load 1 rfl rfl rfl rfl Tryz.underlying9 rfl) ?_
                      refine Sg_ 139 rfl rfl rfl rfl rfl rfl _ (y_bin rfl rfl rfl (fun _ => b_eqls)) ?_
                      refine S_ 140 rfl rfl rfl _ (y_as (v' := .bool (wrdB x.op && decide (x.tx = []))) (by simp only []) (y_and rfl rfl rfl)) ?_
                      refine S_ 134 rfl rfl rfl _ (y_assign rfl rfl) ?_
                      refine S_go (fun _ _ h => h) ?_
                      refine T_cond rfl (fun h134 => ?_) (fun h134 => ?_)
                      · skip
                        have hw2 := h134
                        simp only [Bool.and_eq_true, decide_eq_true_eq] at hw2
                        have e1 : chX x = 1 := chX_hd (by rw [hre, if_pos hw2.1, txtNo, if_pos hw2.2]) (by decide)
                        refine T_seq ?_
                        refine T_region ?_
                        refine S_ 2 rfl rfl rfl _ (y_assign rfl rfl) ?_
                        refine S_go (fun _ _ h => h) ?_
                        refine T_ret (fun a w hF hM => hRb a w (post1 rfl rfl (fun w hM => ?_) a w hF hM))
                        first | exact ⟨by rw [e1], hM.below⟩ | exact ⟨by rw [hch, ← hp2, hl.end (by omega)]; rfl, hM.below⟩
                      · skip
                        refine T_skip_go (fun _ _ h => h) ?_
                        refine T_seq ?_
                        refine T_seq ?_
                        refine T_region ?_
                        refine S_ 141 rfl rfl rfl _ (y_move rfl rfl) ?_
                        refine S_go (fun _ _ h => h) ?_
                        refine T_cond rfl (fun h141 => ?_) (fun h141 => ?_)
                        · skip
                          have hte : ¬ x.tx = [] := by rw [h141, Bool.true_and, decide_eq_false_iff_not] at h134; exact h134
                          rw [if_pos h141, txt_val hte] at hre
                          refine T_seq ?_
                          refine T_region ?_
                          refine S_ 142 rfl rfl rfl _ (y_fieldAddr rfl rfl fa24_5) ?_
                          refine S_ 143 rfl rfl rfl _ (y_load 1 rfl rfl rfl rfl Tryz.underlying9 rfl) ?_
                          refine S_ 144 rfl rfl rfl _ (y_call rfl rfl rfl cf52 (fun _ w _ => wordFault_any _ (by omega) w)) ?_
                          refine S_ 9 rfl rfl rfl _ (y_assign rfl rfl) ?_
                          refine S_go (fun _ _ h => h) ?_
                          refine T_seq ?_
                          refine T_region ?_
                          refine S_ 145 rfl rfl rfl _ (y_move rfl rfl) ?_
                          refine S_ 146 rfl rfl rfl _ (y_bin rfl rfl rfl (fun _ => b_neq)) ?_
                          refine S_go (fun _ _ h => h) ?_
                          refine T_cond rfl (fun h146 => ?_) (fun h146 => ?_)
                          · skip
                            have hn0 : valNo x.tx ≠ 0 := by simpa using h146
                            have e1 : chX x = valNo x.tx := chX_hd hre hn0
                            refine T_seq ?_
                            refine T_region ?_
                            refine S_ 147 rfl rfl rfl _ (y_move rfl rfl) ?_
                            refine S_ 2 rfl rfl rfl _ (y_assign rfl rfl) ?_
                            refine S_go (fun _ _ h => h) ?_
                            refine T_ret (fun a w hF hM => hRb a w (post1 rfl rfl (fun w hM => ?_) a w hF hM))
                            first | exact ⟨by rw [e1], hM.below⟩ | exact ⟨by rw [hch, ← hp2, hl.end (by omega)]; rfl, hM.below⟩
                          · skip
                            have hn0 : valNo x.tx = 0 := by simpa using h146
                            have hch := chX_kids (hre.trans hn0)
                            refine T_skip_go (fun _ _ h => h) ?_
                            refine T_seq ?_
                            refine T_seq ?_
                            refine T_region ?_
                            refine S_ 148 rfl rfl rfl _ (y_fieldAddr rfl rfl fa24_1) ?_
                            refine S_ 149 rfl rfl rfl _ (y_load 1 rfl rfl rfl rfl Tryz.underlying22 rfl) ?_
                            refine S_ 150 rfl rfl rfl _ (y_len_slice rfl rfl Tryz.underlying22) ?_
                            refine S_ 151 rfl rfl rfl _ (y_move rfl rfl) ?_
                            refine S_go (fun _ _ h => h) ?_
                            refine T_block ?_
                            refine T_loopK1 (kf := [(2, 2), (11, 12), (151, 160)]) (kl := [(2, 2), (11, 12), (151, 160)]) (fun (i : Nat) => [(151, true, .int .i64 (i : Int))]) (fun (i : Nat) => []) (fun (i : Nat) => i ≤ x.q ∧ chkL (chdNo txtNo nameOk) ((x.kids.drop i).map SC.says) = chkL (chdNo txtNo nameOk) (x.kids.map SC.says)) (fun (i : Nat) => x.q - i) 0 (by repeat (first | exact kf_nil | (apply kf_in; focus rfl) | (apply kf_out; focus rfl))) (by repeat (first | exact kl_nil | exact kl_rest (by assumption) rfl | (apply kl_in; focus rfl) | (apply kl_out; focus rfl))) ?_ ?_ ?_ ?_
                            · exact ⟨by omega, rfl⟩
                            · exact ⟨rfl, trivial⟩
                            · exact trivial
                            rintro i ⟨hp1, hp2⟩
                            refine T_seq ?_
                            refine T_region ?_
                            refine S_ 152 rfl rfl rfl _ (y_bin rfl rfl rfl (fun _ => b_lss)) ?_
                            refine S_go (fun _ _ h => h) ?_
                            refine T_seq ?_
                            refine T_cond rfl (fun h152 => ?_) (fun h152 => ?_)
                            · try simp only [decide_eq_true_eq, decide_eq_false_iff_not, Bool.or_eq_true, Bool.or_eq_false_iff, Bool.and_eq_true, Bool.and_eq_false_iff, Bool.not_eq_true', Bool.not_eq_false', Bool.not_eq_true, Bool.not_eq_false, Bool.not_true, Bool.not_false, Int.not_lt, Int.not_le, not_or, not_and, Classical.not_not] at h152
                              obtain ⟨k, hx1, hx2⟩ := hl.at (i := i) (by omega)
                              rw [hx2, List.map_cons, chkL] at hp2
                              refine T_skip_go (fun _ _ h => h) ?_
                              refine T_seq ?_
                              refine T_block ?_
                              refine T_seq ?_
                              refine T_region ?_
                              refine S_ 153 rfl rfl rfl _ (y_indexAddr rfl rfl rfl Tryz.underlying22 sz24 (fun hg => hl.isSome (by omega)) (fun _ => by omega)) ?_
                              refine S_ 154 rfl rfl rfl _ (y_loadT rfl rfl hl (fun _ => rfl) (fun _ => hx1) Tryz.underlying24 rfl sz24) ?_
                              refine S_alloc 11 11 rfl rfl rfl rfl z24 ?_
                              intro b11
                              refine S_store 11 rfl rfl rfl rfl rfl rfl sz24 rfl rfl ?_
                              refine S_go (fun _ _ h => h) ?_
                              refine T_seq ?_
                              refine T_region ?_
                              refine S_ 155 rfl rfl rfl _ (y_loadA 11 rfl rfl rfl Tryz.underlying24 rfl sz24) ?_
                              refine S_ 156 rfl rfl rfl _ (y_call rfl rfl rfl cf48 (fun _ w1 hM => ih k (mem_at hx1) w1 ((hk k (mem_at hx1)).lift hM.below))) ?_
                              refine S_ 12 rfl rfl rfl _ (y_assign rfl rfl) ?_
                              refine S_go (fun _ _ h => h) ?_
                              refine T_seq ?_
                              refine T_region ?_
                              refine S_ 157 rfl rfl rfl _ (y_move rfl rfl) ?_
                              refine S_ 158 rfl rfl rfl _ (y_bin rfl rfl rfl (fun _ => b_neq)) ?_
                              refine S_go (fun _ _ h => h) ?_
                              refine T_cond rfl (fun h158 => ?_) (fun h158 => ?_)
                              · skip
                                have hn1 : chX k ≠ 0 := by simpa using h158
                                rw [if_pos hn1] at hp2
                                have e1 : chX x = chX k := by rw [hch, ← hp2]
                                refine T_seq ?_
                                refine T_region ?_
                                refine S_ 159 rfl rfl rfl _ (y_move rfl rfl) ?_
                                refine S_ 2 rfl rfl rfl _ (y_assign rfl rfl) ?_
                                refine S_go (fun _ _ h => h) ?_
                                refine T_ret (fun a w hF hM => hRb a w (post1 rfl rfl (fun w hM => ?_) a w hF hM))
                                first | exact ⟨by rw [e1], hM.below⟩ | exact ⟨by rw [hch, ← hp2, hl.end (by omega)]; rfl, hM.below⟩
                              · skip
                                have hn1 : chX k = 0 := by simpa using h158
                                rw [if_neg (by rw [show chkP (chdNo txtNo nameOk) k.says = chX k from rfl, hn1]; simp)] at hp2
                                refine T_skip_go (fun _ _ h => h) ?_
                                refine T_region ?_
                                refine S_ 160 rfl rfl rfl _ (y_bin rfl rfl rfl (fun hg => b_add (by omega))) ?_
                                refine S_ 151 rfl rfl rfl _ (y_move rfl rfl) ?_
                                refine S_nil (nextK1 (kf := [(2, 2), (11, 12), (151, 160)]) (kl := [(2, 2), (11, 12), (151, 160)]) (i + 1) (by repeat (first | exact kf_nil | (apply kf_in; focus rfl) | (apply kf_out; focus rfl))) (by repeat (first | exact kl_nil | exact kl_rest (by assumption) rfl | (apply kl_in; focus rfl) | (apply kl_out; focus rfl))) ?_ ?_ ?_ ?_)
                                · omega
                                · exact ⟨by omega, hp2⟩
                                · exact ⟨rfl, trivial⟩
                                · exact trivial
                            · try simp only [decide_eq_true_eq, decide_eq_false_iff_not, Bool.or_eq_true, Bool.or_eq_false_iff, Bool.and_eq_true, Bool.and_eq_false_iff, Bool.not_eq_true', Bool.not_eq_false', Bool.not_eq_true, Bool.not_eq_false, Bool.not_true, Bool.not_false, Int.not_lt, Int.not_le, not_or, not_and, Classical.not_not] at h152
                              refine T_exit_go (fun _ _ h => h) ?_
                              refine T_seq ?_
                              refine T_region ?_
                              refine S_ 2 rfl rfl rfl _ (y_assign rfl rfl) ?_
                              refine S_go (fun _ _ h => h) ?_
                              refine T_ret (fun a w hF hM => hRb a w (post1 rfl rfl (fun w hM => ?_) a w hF hM))
                              first | exact ⟨by rw [e1], hM.below⟩ | exact ⟨by rw [hch, ← hp2, hl.end (by omega)]; rfl, hM.below⟩
                        · skip
                          rw [if_neg (by rw [h141]; simp)] at hre
                          have hch := chX_kids hre
                          refine T_skip_go (fun _ _ h => h) ?_
                          refine T_seq ?_
                          refine T_seq ?_
                          refine T_region ?_
                          refine S_ 148 rfl rfl rfl _ (y_fieldAddr rfl rfl fa24_1) ?_
                          refine S_ 149 rfl rfl rfl _ (y_load 1 rfl rfl rfl rfl Tryz.underlying22 rfl) ?_
                          refine S_ 150 rfl rfl rfl _ (y_len_slice rfl rfl Tryz.underlying22) ?_
                          refine S_ 151 rfl rfl rfl _ (y_move rfl rfl) ?_
                          refine S_go (fun _ _ h => h) ?_
                          refine T_block ?_
                          refine T_loopK1 (kf := [(2, 2), (11, 12), (151, 160)]) (kl := [(2, 2), (11, 12), (151, 160)]) (fun (i : Nat) => [(151, true, .int .i64 (i : Int))]) (fun (i : Nat) => []) (fun (i : Nat) => i ≤ x.q ∧ chkL (chdNo txtNo nameOk) ((x.kids.drop i).map SC.says) = chkL (chdNo txtNo nameOk) (x.kids.map SC.says)) (fun (i : Nat) => x.q - i) 0 (by repeat (first | exact kf_nil | (apply kf_in; focus rfl) | (apply kf_out; focus rfl))) (by repeat (first | exact kl_nil | exact kl_rest (by assumption) rfl | (apply kl_in; focus rfl) | (apply kl_out; focus rfl))) ?_ ?_ ?_ ?_
                          · exact ⟨by omega, rfl⟩
                          · exact ⟨rfl, trivial⟩
                          · exact trivial
                          rintro i ⟨hp1, hp2⟩
                          refine T_seq ?_
                          refine T_region ?_
                          refine S_ 152 rfl rfl rfl _ (y_bin rfl rfl rfl (fun _ => b_lss)) ?_
                          refine S_go (fun _ _ h => h) ?_
                          refine T_seq ?_
                          refine T_cond rfl (fun h152 => ?_) (fun h152 => ?_)
                          · try simp only [decide_eq_true_eq, decide_eq_false_iff_not, Bool.or_eq_true, Bool.or_eq_false_iff, Bool.and_eq_true, Bool.and_eq_false_iff, Bool.not_eq_true', Bool.not_eq_false', Bool.not_eq_true, Bool.not_eq_false, Bool.not_true, Bool.not_false, Int.not_lt, Int.not_le, not_or, not_and, Classical.not_not] at h152
                            obtain ⟨k, hx1, hx2⟩ := hl.at (i := i) (by omega)
                            rw [hx2, List.map_cons, chkL] at hp2
                            refine T_skip_go (fun _ _ h => h) ?_
                            refine T_seq ?_
                            refine T_block ?_
                            refine T_seq ?_
                            refine T_region ?_
                            refine S_ 153 rfl rfl rfl _ (y_indexAddr rfl rfl rfl Tryz.underlying22 sz24 (fun hg => hl.isSome (by omega)) (fun _ => by omega)) ?_
                            refine S_ 154 rfl rfl rfl _ (y_loadT rfl rfl hl (fun _ => rfl) (fun _ => hx1) Tryz.underlying24 rfl sz24) ?_
                            refine S_alloc 11 11 rfl rfl rfl rfl z24 ?_
                            intro b11
                            refine S_store 11 rfl rfl rfl rfl rfl rfl sz24 rfl rfl ?_
                            refine S_go (fun _ _ h => h) ?_
                            refine T_seq ?_
                            refine T_region ?_
                            refine S_ 155 rfl rfl rfl _ (y_loadA 11 rfl rfl rfl Tryz.underlying24 rfl sz24) ?_
                            refine S_ 156 rfl rfl rfl _ (y_call rfl rfl rfl cf48 (fun _ w1 hM => ih k (mem_at hx1) w1 ((hk k (mem_at hx1)).lift hM.below))) ?_
                            refine S_ 12 rfl rfl rfl _ (y_assign rfl rfl) ?_
                            refine S_go (fun _ _ h => h) ?_
                            refine T_seq ?_
                            refine T_region ?_
                            refine S_ 157 rfl rfl rfl _ (y_move rfl rfl) ?_
                            refine S_ 158 rfl rfl rfl _ (y_bin rfl rfl rfl (fun _ => b_neq)) ?_
                            refine S_go (fun _ _ h => h) ?_
                            refine T_cond rfl (fun h158 => ?_) (fun h158 => ?_)
                            · skip
                              have hn1 : chX k ≠ 0 := by simpa using h158
                              rw [if_pos hn1] at hp2
                              have e1 : chX x = chX k := by rw [hch, ← hp2]
                              refine T_seq ?_
                              refine T_region ?_
                              refine S_ 159 rfl rfl rfl _ (y_move rfl rfl) ?_
                              refine S_ 2 rfl rfl rfl _ (y_assign rfl rfl) ?_
                              refine S_go (fun _ _ h => h) ?_
                              refine T_ret (fun a w hF hM => hRb a w (post1 rfl rfl (fun w hM => ?_) a w hF hM))
                              first | exact ⟨by rw [e1], hM.below⟩ | exact ⟨by rw [hch, ← hp2, hl.end (by omega)]; rfl, hM.below⟩
                            · skip
                              have hn1 : chX k = 0 := by simpa using h158
                              rw [if_neg (by rw [show chkP (chdNo txtNo nameOk) k.says = chX k from rfl, hn1]; simp)] at hp2
                              refine T_skip_go (fun _ _ h => h) ?_
                              refine T_region ?_
                              refine S_ 160 rfl rfl rfl _ (y_bin rfl rfl rfl (fun hg => b_add (by omega))) ?_
                              refine S_ 151 rfl rfl rfl _ (y_move rfl rfl) ?_
                              refine S_nil (nextK1 (kf := [(2, 2), (11, 12), (151, 160)]) (kl := [(2, 2), (11, 12), (151, 160)]) (i + 1) (by repeat (first | exact kf_nil | (apply kf_in; focus rfl) | (apply kf_out; focus rfl))) (by repeat (first | exact kl_nil | exact kl_rest (by assumption) rfl | (apply kl_in; focus rfl) | (apply kl_out; focus rfl))) ?_ ?_ ?_ ?_)
                              · omega
                              · exact ⟨by omega, hp2⟩
                              · exact ⟨rfl, trivial⟩
                              · exact trivial
                          · try simp only [decide_eq_true_eq, decide_eq_false_iff_not, Bool.or_eq_true, Bool.or_eq_false_iff, Bool.and_eq_true, Bool.and_eq_false_iff, Bool.not_eq_true', Bool.not_eq_false', Bool.not_eq_true, Bool.not_eq_false, Bool.not_true, Bool.not_false, Int.not_lt, Int.not_le, not_or, not_and, Classical.not_not] at h152
                            refine T_exit_go (fun _ _ h => h) ?_
                            refine T_seq ?_
                            refine T_region ?_
                            refine S_ 2 rfl rfl rfl _ (y_assign rfl rfl) ?_
                            refine S_go (fun _ _ h => h) ?_
                            refine T_ret (fun a w hF hM => hRb a w (post1 rfl rfl (fun w hM => ?_) a w hF hM))
                            first | exact ⟨by rw [e1], hM.below⟩ | exact ⟨by rw [hch, ← hp2, hl.end (by omega)]; rfl, hM.below⟩
theorem condFault_any (x : SC) : OneAtR x := SC.ind (Q := OneAtR) rone_step x
theorem sizeP_gt (c : PC) : (100 : Int) < sizeP c 100 ↔ 100 < cntP c := by
  rw [sizeP_eq c 100 (by decide)]; omega
theorem CondFault_any (x : SC) (w : World) (hok : x.Ok w) (hc : cntP x.says ≤ 1000000000000) :
    Calls Tryz.prog 8 #[x.val] w fun e w' => e = .returned (.int .i64 (condNo x)) ∧ Below w.heap.size w w' := by
  have hsz := sizeP_gt x.says
  refine enter_args (args := [.agg #[.int .i64 x.op, .slice x.ad x.q x.c, .int .i64 x.lo, .int .i64 x.hi, str x.nm, str x.tx]]) (F := _) Tryz.func8 rfl Tryz.ntmps8 rfl rfl ?_
  intro Rb hRb hRn
  refine T_seq ?_
  refine T_region ?_
  refine S_box 1 1 rfl rfl rfl rfl rfl ?_
  intro b1
  refine S_ 2 rfl rfl rfl _ (y_assign rfl rfl) ?_
  refine S_go (fun _ _ h => h) ?_
  refine T_seq ?_
  refine T_seq ?_
  refine T_region ?_
  refine S_ 3 rfl rfl rfl _ (y_loadA 1 rfl rfl rfl Tryz.underlying24 rfl sz24) ?_
  refine S_ 4 rfl rfl rfl _ (y_call rfl rfl rfl cf46 (fun _ w1 hM => deeper_any 20 (by decide) x w1 (hok.lift hM.below))) ?_
  refine S_go (fun _ _ h => h) ?_
  refine T_cond rfl (fun h4 => ?_) (fun h4 => ?_)
  · skip
    refine T_seq ?_
    refine T_region ?_
    refine S_ 2 rfl rfl rfl _ (y_assign rfl rfl) ?_
    refine S_go (fun _ _ h => h) ?_
    refine T_ret (fun a w hF hM => hRb a w (post1 rfl rfl (fun w hM => ?_) a w hF hM))
    exact ⟨by rw [condNo, if_pos h4], hM.below⟩
  · skip
    refine T_skip_go (fun _ _ h => h) ?_
    refine T_seq ?_
    refine T_seq ?_
    refine T_region ?_
    refine S_ 5 rfl rfl rfl _ (y_loadA 1 rfl rfl rfl Tryz.underlying24 rfl sz24) ?_
    refine S_ 6 rfl rfl rfl _ (y_call rfl rfl rfl cf47 (fun _ w1 hM => count_any x w1 (hok.lift hM.below) hc)) ?_
    refine S_ 7 rfl rfl rfl _ (y_bin rfl rfl rfl (fun _ => b_gtr)) ?_
    refine S_go (fun _ _ h => h) ?_
    refine T_cond rfl (fun h7 => ?_) (fun h7 => ?_)
    · skip
      have h7 : 100 < cntP x.says := by
        have : (100 : Int) < ((cntP x.says : Nat) : Int) := by simpa using h7
        omega
      refine T_seq ?_
      refine T_region ?_
      refine S_ 2 rfl rfl rfl _ (y_assign rfl rfl) ?_
      refine S_go (fun _ _ h => h) ?_
      refine T_ret (fun a w hF hM => hRb a w (post1 rfl rfl (fun w hM => ?_) a w hF hM))
      exact ⟨by rw [condNo, if_neg (by rw [h4]; simp), if_pos (hsz.2 h7)], hM.below⟩
    · skip
      have h7 : ¬ 100 < cntP x.says := by
        have : ¬ (100 : Int) < ((cntP x.says : Nat) : Int) := by simpa using h7
        omega
      refine T_skip_go (fun _ _ h => h) ?_
      refine T_seq ?_
      refine T_region ?_
      refine S_ 8 rfl rfl rfl _ (y_loadA 1 rfl rfl rfl Tryz.underlying24 rfl sz24) ?_
      refine S_ 9 rfl rfl rfl _ (y_call rfl rfl rfl cf48 (fun _ w1 hM => condFault_any x w1 (hok.lift hM.below))) ?_
      refine S_ 2 rfl rfl rfl _ (y_assign rfl rfl) ?_
      refine S_go (fun _ _ h => h) ?_
      refine T_ret (fun a w hF hM => hRb a w (post1 rfl rfl (fun w hM => ?_) a w hF hM))
      exact ⟨by rw [condNo, if_neg (by rw [h4]; simp), if_neg (fun h => h7 (hsz.1 h))], hM.below⟩
end Go.Proofs.YtfmbgaaonfgenaaGreatDoor
end
section
namespace Go.Proofs.YtfmbgaaonfgenaaGreatDoor
set_option linter.unusedSimpArgs false
set_option linter.unusedVariables false
set_option maxRecDepth 20000
open Go.RowKit Go.Eng
theorem in_two (n lo hi : Int) : (decide (lo ≤ n) && decide (n ≤ hi)) = inB n lo hi := by
  rw [inB, Bool.eq_iff_iff]; simp only [Bool.and_eq_true, decide_eq_true_eq, Bool.not_eq_true', Bool.or_eq_false_iff, decide_eq_false_iff_not]; omega
theorem rwithin_any (x : SC) (b : Nat) (n : Int) (w : World) (h : CellsAt w b x.enc) :
    Calls Tryz.prog 55 #[.int .i64 n, ptF b] w fun e w' => e = .returned (.bool (inB n x.lo x.hi)) ∧ Below w.heap.size w w' := by
  refine enter_args (args := [.int .i64 n, ptF b]) (F := _) Tryz.func55 rfl Tryz.ntmps55 rfl rfl ?_
  intro Rb hRb hRn
  refine T_seq ?_
  refine T_region ?_
  refine S_ 3 rfl rfl rfl _ (y_assign rfl rfl) ?_
  refine S_go (fun _ _ h => h) ?_
  refine T_seq ?_
  refine T_region ?_
  refine S_ 4 rfl rfl rfl _ (y_move rfl rfl) ?_
  refine S_ 5 rfl rfl rfl _ (y_fieldAddr rfl rfl fa24_2) ?_
  refine S_ 6 rfl rfl rfl _ (y_load_far rfl rfl (h.one (j := 2) rfl).1 (h.one (j := 2) (cs := x.enc) rfl).2 Tryz.underlying3 rfl) ?_
  refine S_ 7 rfl rfl rfl _ (y_bin rfl rfl rfl (fun _ => b_geq)) ?_
  refine S_ 8 rfl rfl rfl _ (y_move rfl rfl) ?_
  refine Sg_ 9 rfl rfl rfl rfl rfl rfl _ (y_move rfl rfl) ?_
  refine Sg_ 10 rfl rfl rfl rfl rfl rfl _ (y_fieldAddr rfl rfl fa24_3) ?_
  refine Sg_ 11 rfl rfl rfl rfl rfl rfl _ (y_load_far rfl rfl (h.one (j := 3) rfl).1 (h.one (j := 3) (cs := x.enc) rfl).2 Tryz.underlying3 rfl) ?_
  refine Sg_ 12 rfl rfl rfl rfl rfl rfl _ (y_bin rfl rfl rfl (fun _ => b_leq)) ?_
  refine S_ 13 rfl rfl rfl _ (y_and rfl rfl rfl) ?_
  refine S_ 3 rfl rfl rfl _ (y_assign rfl rfl) ?_
  refine S_go (fun _ _ h => h) ?_
  refine T_ret (fun a w hF hM => hRb a w (post1 rfl rfl (fun w hM => ?_) a w hF hM))
  exact ⟨by rw [← in_two], hM.below⟩
theorem rfault_any (f : Fn) (p : Flt → Bool) (b : Nat) (e : Evt) (w : World) (he : EvR w e) (h : CellsAt w b e.enc) (hv : AskF Flt.val FltR f p w) :
    Calls Tryz.prog 56 #[.func (.func f.g) #[] f.cap, ptF b] w fun en w' => en = .returned (.bool (e.fa.l.any p)) ∧ Below w.heap.size w w' := by
  refine enter_args (args := [.func (.func f.g) #[] f.cap, ptF b]) (F := _) Tryz.func56 rfl Tryz.ntmps56 rfl rfl ?_
  intro Rb hRb hRn
  refine T_seq ?_
  refine T_region ?_
  refine S_ 3 rfl rfl rfl _ (y_assign rfl rfl) ?_
  refine S_go (fun _ _ h => h) ?_
  refine T_seq ?_
  refine T_region ?_
  refine S_ 4 rfl rfl rfl _ (y_fieldAddr rfl rfl fa29_3) ?_
  refine S_ 5 rfl rfl rfl _ (y_load_far rfl rfl (h.one (j := 3) rfl).1 (h.one (j := 3) (cs := e.enc) rfl).2 Tryz.underlying25 rfl) ?_
  refine S_ 6 rfl rfl rfl _ (y_move rfl rfl) ?_
  refine S_ 7 rfl rfl rfl _ (y_call rfl rfl rfl cf57 (fun _ w hM => ContFF_ask (he.1.fa.below hM.below) he.2.fa (hv.below hM.below))) ?_
  refine S_ 3 rfl rfl rfl _ (y_assign rfl rfl) ?_
  refine S_go (fun _ _ h => h) ?_
  refine T_ret (fun a w hF hM => hRb a w (post1 rfl rfl (fun w hM => ?_) a w hF hM))
  exact ⟨rfl, hM.below⟩
theorem rframe_any (v : Fn) (p : Frm → Bool) (b : Nat) (f : Flt) (w : World) (hf : FltOk w f) (hs : FltS f) (h : Cell1 w b v.v) (hv : AskF Frm.val FrmR v p w) :
    Calls Tryz.prog 59 #[f.val, ptF b] w fun en w' => en = .returned (.bool (f.fr.l.any p)) ∧ Below w.heap.size w w' := by
  refine enter_args (args := [.agg #[str f.k, str f.t, .slice f.fr.A f.fr.q f.fr.c], ptF b]) (F := _) Tryz.func59 rfl Tryz.ntmps59 rfl rfl ?_
  intro Rb hRb hRn
  refine T_seq ?_
  refine T_region ?_
  refine S_box 2 2 rfl rfl rfl rfl rfl ?_
  intro b2
  refine S_ 3 rfl rfl rfl _ (y_assign rfl rfl) ?_
  refine S_go (fun _ _ h => h) ?_
  refine T_seq ?_
  refine T_region ?_
  refine S_ 4 rfl rfl rfl _ (y_fieldAddr rfl rfl fa50_2) ?_
  refine S_ 5 rfl rfl rfl _ (y_load 2 rfl rfl rfl rfl Tryz.underlying48 rfl) ?_
  refine S_ 6 rfl rfl rfl _ (y_load_far rfl rfl h.1 h.2 Tryz.underlying113 rfl) ?_
  refine S_ 7 rfl rfl rfl _ (y_call rfl rfl rfl cf60 (fun _ w hM => ContFR_ask (hf.fr.below hM.below) hs.fr (hv.below hM.below))) ?_
  refine S_ 3 rfl rfl rfl _ (y_assign rfl rfl) ?_
  refine S_go (fun _ _ h => h) ?_
  refine T_ret (fun a w hF hM => hRb a w (post1 rfl rfl (fun w hM => ?_) a w hF hM))
  exact ⟨rfl, hM.below⟩
theorem askFrameR {v : Fn} {p : Frm → Bool} {b : Nat} {w : World} (h : Cell1 w b v.v) (hv : AskF Frm.val FrmR v p w) : AskF Flt.val FltR ⟨59, #[ptF b]⟩ (fun f => f.fr.l.any p) w :=
  ⟨cf59, fun w' hb f hf => rframe_any v p b f w' hf.1 hf.2 (cellK h hb) (hv.below hb)⟩
theorem ranyF_any (f : Fn) (p : Frm → Bool) (b6 b : Nat) (e : Evt) (w : World) (he : EvR w e) (h6 : Cell1 w b6 (.func (.func 56) #[] #[ptF b])) (h : CellsAt w b e.enc) (hv : AskF Frm.val FrmR f p w) :
    Calls Tryz.prog 58 #[.func (.func f.g) #[] f.cap, ptF b6] w fun en w' => en = .returned (.bool (e.fa.l.any fun y => y.fr.l.any p)) ∧ Below w.heap.size w w' := by
  refine enter_args (args := [.func (.func f.g) #[] f.cap, ptF b6]) (F := _) Tryz.func58 rfl Tryz.ntmps58 rfl rfl ?_
  intro Rb hRb hRn
  refine T_seq ?_
  refine T_region ?_
  refine S_box 2 2 rfl rfl rfl rfl rfl ?_
  intro b2
  refine S_ 3 rfl rfl rfl _ (y_assign rfl rfl) ?_
  refine S_go (fun _ _ h => h) ?_
  refine T_seq ?_
  refine T_region ?_
  refine S_ 4 rfl rfl rfl _ (y_load_far rfl rfl h6.1 h6.2 Tryz.underlying112 rfl) ?_
  refine S_ 5 rfl rfl rfl _ (y_makeFunc rfl rfl rfl rfl rfl) ?_
  refine S_ 6 rfl rfl rfl _ (y_call rfl rfl rfl cf56 (fun _ w hM => rfault_any ⟨59, #[ptF b2]⟩ (fun y => y.fr.l.any p) b e w (he.below hM.below) (cells_to h hM.below) (askFrameR (hM.box_cell (i := 2) rfl rfl) (hv.below hM.below)))) ?_
  refine S_ 3 rfl rfl rfl _ (y_assign rfl rfl) ?_
  refine S_go (fun _ _ h => h) ?_
  refine T_ret (fun a w hF hM => hRb a w (post1 rfl rfl (fun w hM => ?_) a w hF hM))
  exact ⟨rfl, hM.below⟩
theorem rkind_any (x : SC) (b : Nat) (f : Flt) (w : World) (hs : FltS f) (ht : x.tx.length ≤ 200) (h : CellsAt w b x.enc) :
    Calls Tryz.prog 65 #[f.val, ptF b] w fun en w' => en = .returned (.bool (gm eqL x.tx f.k)) ∧ Below w.heap.size w w' := by
  have hl := hs.k
  refine enter_args (args := [.agg #[str f.k, str f.t, .slice f.fr.A f.fr.q f.fr.c], ptF b]) (F := _) Tryz.func65 rfl Tryz.ntmps65 rfl rfl ?_
  intro Rb hRb hRn
  refine T_seq ?_
  refine T_region ?_
  refine S_box 2 2 rfl rfl rfl rfl rfl ?_
  intro b2
  refine S_ 3 rfl rfl rfl _ (y_assign rfl rfl) ?_
  refine S_go (fun _ _ h => h) ?_
  refine T_seq ?_
  refine T_region ?_
  refine S_ 4 rfl rfl rfl _ (y_fieldAddr rfl rfl fa24_5) ?_
  refine S_ 5 rfl rfl rfl _ (y_load_far rfl rfl (h.one (j := 5) rfl).1 (h.one (j := 5) (cs := x.enc) rfl).2 Tryz.underlying9 rfl) ?_
  refine S_ 6 rfl rfl rfl _ (y_fieldAddr rfl rfl fa50_0) ?_
  refine S_ 7 rfl rfl rfl _ (y_load 2 rfl rfl rfl rfl Tryz.underlying9 rfl) ?_
  refine S_ 8 rfl rfl rfl _ (y_call rfl rfl rfl cf13 (fun _ w _ => FitsText_any _ _ (by omega) (by omega) w)) ?_
  refine S_ 3 rfl rfl rfl _ (y_assign rfl rfl) ?_
  refine S_go (fun _ _ h => h) ?_
  refine T_ret (fun a w hF hM => hRb a w (post1 rfl rfl (fun w hM => ?_) a w hF hM))
  exact ⟨rfl, hM.below⟩
theorem raskKind {x : SC} {b : Nat} {w : World} (ht : x.tx.length ≤ 200) (h : CellsAt w b x.enc) : AskF Flt.val FltR ⟨65, #[ptF b]⟩ (fun f => gm eqL x.tx f.k) w :=
  ⟨cf65, fun w' hb f hf => rkind_any x b f w' hf.2 ht (cells_to h hb)⟩
theorem rsays_any (x : SC) (b : Nat) (f : Flt) (w : World) (hs : FltS f) (hm : MLen w) (ht : x.tx.length ≤ 200) (h : CellsAt w b x.enc) :
    Calls Tryz.prog 66 #[f.val, ptF b] w fun en w' => en = .returned (.bool (Lib.contains (f.t.map lowB) (x.tx.map lowB))) ∧ Below w.heap.size w w' := by
  have hl := hs.t
  refine enter_args (args := [.agg #[str f.k, str f.t, .slice f.fr.A f.fr.q f.fr.c], ptF b]) (F := _) Tryz.func66 rfl Tryz.ntmps66 rfl rfl ?_
  intro Rb hRb hRn
  refine T_seq ?_
  refine T_region ?_
  refine S_box 2 2 rfl rfl rfl rfl rfl ?_
  intro b2
  refine S_ 3 rfl rfl rfl _ (y_assign rfl rfl) ?_
  refine S_go (fun _ _ h => h) ?_
  refine T_seq ?_
  refine T_draws (by kernel_rfl) (by kernel_rfl) ?_
  refine D_ 4 rfl rfl rfl _ (y_fieldAddr rfl rfl fa50_1) ?_
  refine D_ 5 rfl rfl rfl _ (y_load 2 rfl rfl rfl rfl Tryz.underlying9 rfl) ?_
  refine D_ 6 rfl rfl rfl _ (y_call rfl rfl rfl cf68 (fun _ w _ => rlower_any _ (by omega) w)) ?_
  refine D_ 7 rfl rfl rfl _ (y_fieldAddr rfl rfl fa24_5) ?_
  refine D_ 8 rfl rfl rfl _ (y_load_far rfl rfl (h.one (j := 5) rfl).1 (h.one (j := 5) (cs := x.enc) rfl).2 Tryz.underlying9 rfl) ?_
  refine D_ 9 rfl rfl rfl _ (y_call rfl rfl rfl cf68 (fun _ w _ => rlower_any _ (by omega) w)) ?_
  refine D_ 10 rfl rfl rfl _ (y_call rfl rfl rfl cf67 (fun _ w hM => Contains2_any _ _ (by rw [List.length_map]; omega) w (hm.below hM.below))) ?_
  refine D_ 3 rfl rfl rfl _ (y_assign rfl rfl) ?_
  refine D_go (fun _ _ h => h) ?_
  refine T_ret (fun a w hF hM => hRb a w (post1 rfl rfl (fun w hM => ?_) a w hF hM))
  exact ⟨rfl, hM.below⟩
theorem raskSays {x : SC} {b : Nat} {w : World} (hm : MLen w) (ht : x.tx.length ≤ 200) (h : CellsAt w b x.enc) : AskF Flt.val FltR ⟨66, #[ptF b]⟩ (fun f => Lib.contains (f.t.map lowB) (x.tx.map lowB)) w :=
  ⟨cf66, fun w' hb f hf => rsays_any x b f w' hf.2 (hm.below hb) ht (cells_to h hb)⟩
theorem rFunc_any (x : SC) (b : Nat) (y : Frm) (w : World) (hs : y.f.length ≤ 2000 ∧ y.fi.length ≤ 2000) (ht : x.tx.length ≤ 200) (h : CellsAt w b x.enc) :
    Calls Tryz.prog 69 #[y.val, ptF b] w fun en w' => en = .returned (.bool (gm eqL x.tx y.f)) ∧ Below w.heap.size w w' := by
  refine enter_args (args := [.agg #[str y.m, str y.f, str y.fi, .int .i64 y.ln, .int .i64 y.ad, .bool y.own], ptF b]) (F := _) Tryz.func69 rfl Tryz.ntmps69 rfl rfl ?_
  intro Rb hRb hRn
  refine T_seq ?_
  refine T_region ?_
  refine S_box 2 2 rfl rfl rfl rfl rfl ?_
  intro b2
  refine S_ 3 rfl rfl rfl _ (y_assign rfl rfl) ?_
  refine S_go (fun _ _ h => h) ?_
  refine T_seq ?_
  refine T_region ?_
  refine S_ 4 rfl rfl rfl _ (y_fieldAddr rfl rfl fa24_5) ?_
  refine S_ 5 rfl rfl rfl _ (y_load_far rfl rfl (h.one (j := 5) rfl).1 (h.one (j := 5) (cs := x.enc) rfl).2 Tryz.underlying9 rfl) ?_
  refine S_ 6 rfl rfl rfl _ (y_fieldAddr rfl rfl fa116_1) ?_
  refine S_ 7 rfl rfl rfl _ (y_load 2 rfl rfl rfl rfl Tryz.underlying9 rfl) ?_
  refine S_ 8 rfl rfl rfl _ (y_call rfl rfl rfl cf13 (fun _ w _ => FitsText_any _ _ (by omega) (by omega) w)) ?_
  refine S_ 3 rfl rfl rfl _ (y_assign rfl rfl) ?_
  refine S_go (fun _ _ h => h) ?_
  refine T_ret (fun a w hF hM => hRb a w (post1 rfl rfl (fun w hM => ?_) a w hF hM))
  exact ⟨rfl, hM.below⟩
theorem raskFunc {x : SC} {b : Nat} {w : World} (ht : x.tx.length ≤ 200) (h : CellsAt w b x.enc) : AskF Frm.val FrmR ⟨69, #[ptF b]⟩ (fun y => gm eqL x.tx y.f) w :=
  ⟨cf69, fun w' hb y hy => rFunc_any x b y w' hy ht (cells_to h hb)⟩
theorem rFile_any (x : SC) (b : Nat) (y : Frm) (w : World) (hs : y.f.length ≤ 2000 ∧ y.fi.length ≤ 2000) (ht : x.tx.length ≤ 200) (h : CellsAt w b x.enc) :
    Calls Tryz.prog 70 #[y.val, ptF b] w fun en w' => en = .returned (.bool (gm eqL x.tx y.fi)) ∧ Below w.heap.size w w' := by
  refine enter_args (args := [.agg #[str y.m, str y.f, str y.fi, .int .i64 y.ln, .int .i64 y.ad, .bool y.own], ptF b]) (F := _) Tryz.func70 rfl Tryz.ntmps70 rfl rfl ?_
  intro Rb hRb hRn
  refine T_seq ?_
  refine T_region ?_
  refine S_box 2 2 rfl rfl rfl rfl rfl ?_
  intro b2
  refine S_ 3 rfl rfl rfl _ (y_assign rfl rfl) ?_
  refine S_go (fun _ _ h => h) ?_
  refine T_seq ?_
  refine T_region ?_
  refine S_ 4 rfl rfl rfl _ (y_fieldAddr rfl rfl fa24_5) ?_
  refine S_ 5 rfl rfl rfl _ (y_load_far rfl rfl (h.one (j := 5) rfl).1 (h.one (j := 5) (cs := x.enc) rfl).2 Tryz.underlying9 rfl) ?_
  refine S_ 6 rfl rfl rfl _ (y_fieldAddr rfl rfl fa116_2) ?_
  refine S_ 7 rfl rfl rfl _ (y_load 2 rfl rfl rfl rfl Tryz.underlying9 rfl) ?_
  refine S_ 8 rfl rfl rfl _ (y_call rfl rfl rfl cf13 (fun _ w _ => FitsText_any _ _ (by omega) (by omega) w)) ?_
  refine S_ 3 rfl rfl rfl _ (y_assign rfl rfl) ?_
  refine S_go (fun _ _ h => h) ?_
  refine T_ret (fun a w hF hM => hRb a w (post1 rfl rfl (fun w hM => ?_) a w hF hM))
  exact ⟨rfl, hM.below⟩
theorem raskFile {x : SC} {b : Nat} {w : World} (ht : x.tx.length ≤ 200) (h : CellsAt w b x.enc) : AskF Frm.val FrmR ⟨70, #[ptF b]⟩ (fun y => gm eqL x.tx y.fi) w :=
  ⟨cf70, fun w' hb y hy => rFile_any x b y w' hy ht (cells_to h hb)⟩
def CHAt (x : SC) : Prop := ∀ (e : Evt) (w : World), x.Ok w → chX x = 0 → EvR w e → MLen w → Calls Tryz.prog 10 #[x.val, e.val] w fun en w' => en = .returned (.bool (hoX e x)) ∧ Below w.heap.size w w'
theorem rno_any (e : Evt) (k : SC) (b : Nat) (w : World) (ih : CHAt k) (hk : k.Ok w) (h0 : chX k = 0) (he : EvR w e) (hm : MLen w) (h : CellsAt w b e.enc) :
    Calls Tryz.prog 62 #[k.val, ptF b] w fun en w' => en = .returned (.bool (!hoX e k)) ∧ Below w.heap.size w w' := by
  refine enter_args (args := [.agg #[.int .i64 k.op, .slice k.ad k.q k.c, .int .i64 k.lo, .int .i64 k.hi, str k.nm, str k.tx], ptF b]) (F := _) Tryz.func62 rfl Tryz.ntmps62 rfl rfl ?_
  intro Rb hRb hRn
  refine T_seq ?_
  refine T_region ?_
  refine S_box 2 2 rfl rfl rfl rfl rfl ?_
  intro b2
  refine S_ 3 rfl rfl rfl _ (y_assign rfl rfl) ?_
  refine S_go (fun _ _ h => h) ?_
  refine T_seq ?_
  refine T_region ?_
  refine S_ 4 rfl rfl rfl _ (y_loadA 2 rfl rfl rfl Tryz.underlying24 rfl sz24) ?_
  refine S_ 5 rfl rfl rfl _ (y_loadA_far rfl rfl h.1 h.2 Tryz.underlying29 rfl sz29) ?_
  refine S_ 6 rfl rfl rfl _ (y_call rfl rfl rfl cf10 (fun _ w1 hM => ih e w1 (hk.lift hM.below) h0 (he.below hM.below) (hm.below hM.below))) ?_
  refine S_ 7 rfl rfl rfl _ (y_not rfl rfl) ?_
  refine S_ 3 rfl rfl rfl _ (y_assign rfl rfl) ?_
  refine S_go (fun _ _ h => h) ?_
  refine T_ret (fun a w hF hM => hRb a w (post1 rfl rfl (fun w hM => ?_) a w hF hM))
  exact ⟨rfl, hM.below⟩
theorem ris_any (e : Evt) (k : SC) (b : Nat) (w : World) (ih : CHAt k) (hk : k.Ok w) (h0 : chX k = 0) (he : EvR w e) (hm : MLen w) (h : CellsAt w b e.enc) :
    Calls Tryz.prog 63 #[k.val, ptF b] w fun en w' => en = .returned (.bool (hoX e k)) ∧ Below w.heap.size w w' := by
  refine enter_args (args := [.agg #[.int .i64 k.op, .slice k.ad k.q k.c, .int .i64 k.lo, .int .i64 k.hi, str k.nm, str k.tx], ptF b]) (F := _) Tryz.func63 rfl Tryz.ntmps63 rfl rfl ?_
  intro Rb hRb hRn
  refine T_seq ?_
  refine T_region ?_
  refine S_box 2 2 rfl rfl rfl rfl rfl ?_
  intro b2
  refine S_ 3 rfl rfl rfl _ (y_assign rfl rfl) ?_
  refine S_go (fun _ _ h => h) ?_
  refine T_seq ?_
  refine T_region ?_
  refine S_ 4 rfl rfl rfl _ (y_loadA 2 rfl rfl rfl Tryz.underlying24 rfl sz24) ?_
  refine S_ 5 rfl rfl rfl _ (y_loadA_far rfl rfl h.1 h.2 Tryz.underlying29 rfl sz29) ?_
  refine S_ 6 rfl rfl rfl _ (y_call rfl rfl rfl cf10 (fun _ w1 hM => ih e w1 (hk.lift hM.below) h0 (he.below hM.below) (hm.below hM.below))) ?_
  refine S_ 3 rfl rfl rfl _ (y_assign rfl rfl) ?_
  refine S_go (fun _ _ h => h) ?_
  refine T_ret (fun a w hF hM => hRb a w (post1 rfl rfl (fun w hM => ?_) a w hF hM))
  exact ⟨rfl, hM.below⟩
theorem z112 : ∀ w, (zeroValue 112).run Tryz.prog w = .ok .nilFunc w := fun _ => by kernel_rfl
set_option maxHeartbeats 3200000 in
theorem ch_step (x : SC) (ih : ∀ k ∈ x.kids, CHAt k) : CHAt x := fun e w hok h0 he hm => by
  obtain ⟨hs, hq, hb80, hn, htl, hk⟩ := hok.parts
  have hl : SlT SC.enc 6 w x.ad x.q x.kids := hs.t
  have htx := ch_text h0
  obtain ⟨ar1, ar2, ar3, ar4⟩ := ch_ar h0
  have her := he.2.rel
  have heu := he.2.us
  have hta := tagV_small (n := x.nm) he.2.ta
  have he1 := he.1
  refine enter_args (args := [.agg #[.int .i64 x.op, .slice x.ad x.q x.c, .int .i64 x.lo, .int .i64 x.hi, str x.nm, str x.tx], .agg #[str e.id, .int .i64 e.at_, .int .i64 e.lv, .slice e.fa.A e.fa.q e.fa.c, .slice e.ta.A e.ta.q e.ta.c, .slice e.cr.A e.cr.q e.cr.c, str e.rel, str e.us, .int .i64 e.wt]]) (F := _) Tryz.func10 rfl Tryz.ntmps10 rfl rfl ?_
  intro Rb hRb hRn
  refine T_seq ?_
  refine T_region ?_
  refine S_box 2 2 rfl rfl rfl rfl rfl ?_
  intro b2
  refine S_box 3 3 rfl rfl rfl rfl rfl ?_
  intro b3
  refine S_ 4 rfl rfl rfl _ (y_assign rfl rfl) ?_
  refine S_go (fun _ _ h => h) ?_
  refine T_seq ?_
  refine T_region ?_
  refine S_ 10 rfl rfl rfl _ (y_makeFunc rfl rfl rfl rfl rfl) ?_
  refine S_ 5 rfl rfl rfl _ (y_assign rfl rfl) ?_
  refine S_go (fun _ _ h => h) ?_
  refine T_seq ?_
  refine T_region ?_
  refine S_ 11 rfl rfl rfl _ (y_makeFunc rfl rfl rfl rfl rfl) ?_
  refine S_alloc 6 6 rfl rfl rfl rfl z112 ?_
  intro b6
  refine S_store 6 rfl rfl rfl rfl rfl rfl sz112 rfl rfl ?_
  refine S_go (fun _ _ h => h) ?_
  refine T_seq ?_
  refine T_region ?_
  refine S_ 12 rfl rfl rfl _ (y_makeFunc rfl rfl rfl rfl rfl) ?_
  refine S_ 7 rfl rfl rfl _ (y_assign rfl rfl) ?_
  refine S_go (fun _ _ h => h) ?_
  refine T_seq ?_
  refine T_seq ?_
  refine T_region ?_
  refine S_ 13 rfl rfl rfl _ (y_fieldAddr rfl rfl fa24_0) ?_
  refine S_ 14 rfl rfl rfl _ (y_load 2 rfl rfl rfl rfl Tryz.underlying3 rfl) ?_
  refine S_go (fun _ _ h => h) ?_
  refine T_block ?_
  refine T_seq ?_
  refine T_region ?_
  refine S_ 16 rfl rfl rfl _ (y_bin rfl rfl rfl (fun _ => b_eql)) ?_
  refine S_ 15 rfl rfl rfl _ (y_assign rfl rfl) ?_
  refine S_go (fun _ _ h => h) ?_
  refine T_cond rfl (fun h15 => ?_) (fun h15 => ?_)
  · skip
    have hop : x.op = 1 := by simpa using h15
    refine T_seq ?_
    refine T_region ?_
    refine S_ 17 rfl rfl rfl _ (y_fieldAddr rfl rfl fa24_1) ?_
    refine S_ 18 rfl rfl rfl _ (y_load 2 rfl rfl rfl rfl Tryz.underlying22 rfl) ?_
    refine S_ 19 rfl rfl rfl _ (y_makeFunc rfl rfl rfl rfl rfl) ?_
    refine S_ 20 rfl rfl rfl _ (y_call rfl rfl rfl cf61 (fun _ w1 hM => ContFC_any x.ad x.q x.c x.kids 62 _ (fun k => !hoX e k) w1 (hs.t.below hM.below) hq cf62 (fun k hkm w2 hb2 => rno_any e k b3 w2 (ih k hkm) ((hk k hkm).lift (hM.below.trans (hb2.mono hM.below.size))) (ch_kids h0 hkm) (he.below (hM.below.trans (hb2.mono hM.below.size))) (hm.below (hM.below.trans (hb2.mono hM.below.size))) (cells_below (hM.box_cells 3 rfl) hb2)))) ?_
    refine S_ 21 rfl rfl rfl _ (y_not rfl rfl) ?_
    refine S_ 4 rfl rfl rfl _ (y_assign rfl rfl) ?_
    refine S_go (fun _ _ h => h) ?_
    refine T_ret (fun a w hF hM => hRb a w (post1 rfl rfl (fun w hM => ?_) a w hF hM))
    exact ⟨by rw [ho1 hop, List.not_any_eq_all_not]; simp, hM.below⟩
  · skip
    have n1 : ¬ x.op = 1 := by simpa using h15
    refine T_seq ?_
    refine T_region ?_
    refine S_ 23 rfl rfl rfl _ (y_bin rfl rfl rfl (fun _ => b_eql)) ?_
    refine S_ 22 rfl rfl rfl _ (y_assign rfl rfl) ?_
    refine S_go (fun _ _ h => h) ?_
    refine T_cond rfl (fun h22 => ?_) (fun h22 => ?_)
    · skip
      have hop : x.op = 2 := by simpa using h22
      refine T_seq ?_
      refine T_region ?_
      refine S_ 24 rfl rfl rfl _ (y_fieldAddr rfl rfl fa24_1) ?_
      refine S_ 25 rfl rfl rfl _ (y_load 2 rfl rfl rfl rfl Tryz.underlying22 rfl) ?_
      refine S_ 26 rfl rfl rfl _ (y_makeFunc rfl rfl rfl rfl rfl) ?_
      refine S_ 27 rfl rfl rfl _ (y_call rfl rfl rfl cf61 (fun _ w1 hM => ContFC_any x.ad x.q x.c x.kids 63 _ (fun k => hoX e k) w1 (hs.t.below hM.below) hq cf63 (fun k hkm w2 hb2 => ris_any e k b3 w2 (ih k hkm) ((hk k hkm).lift (hM.below.trans (hb2.mono hM.below.size))) (ch_kids h0 hkm) (he.below (hM.below.trans (hb2.mono hM.below.size))) (hm.below (hM.below.trans (hb2.mono hM.below.size))) (cells_below (hM.box_cells 3 rfl) hb2)))) ?_
      refine S_ 4 rfl rfl rfl _ (y_assign rfl rfl) ?_
      refine S_go (fun _ _ h => h) ?_
      refine T_ret (fun a w hF hM => hRb a w (post1 rfl rfl (fun w hM => ?_) a w hF hM))
      exact ⟨by rw [ho2 hop], hM.below⟩
    · skip
      have n2 : ¬ x.op = 2 := by simpa using h22
      refine T_seq ?_
      refine T_region ?_
      refine S_ 29 rfl rfl rfl _ (y_bin rfl rfl rfl (fun _ => b_eql)) ?_
      refine S_ 28 rfl rfl rfl _ (y_assign rfl rfl) ?_
      refine S_go (fun _ _ h => h) ?_
      refine T_cond rfl (fun h28 => ?_) (fun h28 => ?_)
      · skip
        have hop : x.op = 3 := by simpa using h28
        obtain ⟨k, hk1⟩ : ∃ k, x.kids = [k] := by
          match h : x.kids, ar4 hop with
          | [k], _ => exact ⟨k, rfl⟩
        have hkm : k ∈ x.kids := by rw [hk1]; exact List.mem_singleton.2 rfl
        have hx1q : x.q = 1 := by have := hs.t.len; rw [hk1] at this; exact this.symm
        refine T_seq ?_
        refine T_draws (by kernel_rfl) (by kernel_rfl) ?_
        refine D_ 30 rfl rfl rfl _ (y_fieldAddr rfl rfl fa24_1) ?_
        refine D_ 31 rfl rfl rfl _ (y_load 2 rfl rfl rfl rfl Tryz.underlying22 rfl) ?_
        refine D_ 32 rfl rfl rfl _ (y_indexAddrI (j := 0) rfl rfl rfl (fun _ => rfl) Tryz.underlying22 sz24 (fun hg => hl.isSome (by omega)) (fun _ => by omega)) ?_
        refine D_ 33 rfl rfl rfl _ (y_loadT rfl rfl hl (fun _ => rfl) (fun _ => by rw [hk1]; rfl) Tryz.underlying24 rfl sz24) ?_
        refine D_ 34 rfl rfl rfl _ (y_loadA 3 rfl rfl rfl Tryz.underlying29 rfl sz29) ?_
        refine D_ 35 rfl rfl rfl _ (y_call rfl rfl rfl cf10 (fun _ w1 hM => ih k hkm e w1 ((hk k hkm).lift hM.below) (ch_kids h0 hkm) (he.below hM.below) (hm.below hM.below))) ?_
        refine D_ 36 rfl rfl rfl _ (y_not rfl rfl) ?_
        refine D_ 4 rfl rfl rfl _ (y_assign rfl rfl) ?_
        refine D_go (fun _ _ h => h) ?_
        refine T_ret (fun a w hF hM => hRb a w (post1 rfl rfl (fun w hM => ?_) a w hF hM))
        exact ⟨by rw [ho3 hop hk1], hM.below⟩
      · skip
        have n3 : ¬ x.op = 3 := by simpa using h28
        refine T_seq ?_
        refine T_region ?_
        refine S_ 38 rfl rfl rfl _ (y_bin rfl rfl rfl (fun _ => b_eql)) ?_
        refine S_ 37 rfl rfl rfl _ (y_assign rfl rfl) ?_
        refine S_go (fun _ _ h => h) ?_
        refine T_cond rfl (fun h37 => ?_) (fun h37 => ?_)
        · skip
          have hop : x.op = 4 := by simpa using h37
          refine T_seq ?_
          refine T_region ?_
          refine S_ 39 rfl rfl rfl _ (y_move rfl rfl) ?_
          refine S_ 40 rfl rfl rfl _ (y_fieldAddr rfl rfl fa29_2) ?_
          refine S_ 41 rfl rfl rfl _ (y_load 3 rfl rfl rfl rfl Tryz.underlying3 rfl) ?_
          refine S_ 42 rfl rfl rfl _ (y_call rfl rfl rfl cf55 (fun _ w1 hM => rwithin_any x b2 e.lv w1 (hM.box_cells 2 rfl))) ?_
          refine S_ 4 rfl rfl rfl _ (y_assign rfl rfl) ?_
          refine S_go (fun _ _ h => h) ?_
          refine T_ret (fun a w hF hM => hRb a w (post1 rfl rfl (fun w hM => ?_) a w hF hM))
          exact ⟨by rw [ho4 hop], hM.below⟩
        · skip
          have n4 : ¬ x.op = 4 := by simpa using h37
          refine T_seq ?_
          refine T_region ?_
          refine S_ 44 rfl rfl rfl _ (y_bin rfl rfl rfl (fun _ => b_eql)) ?_
          refine S_ 43 rfl rfl rfl _ (y_assign rfl rfl) ?_
          refine S_go (fun _ _ h => h) ?_
          refine T_cond rfl (fun h43 => ?_) (fun h43 => ?_)
          · skip
            have hop : x.op = 5 := by simpa using h43
            refine T_seq ?_
            refine T_region ?_
            refine S_ 45 rfl rfl rfl _ (y_move rfl rfl) ?_
            refine S_ 46 rfl rfl rfl _ (y_fieldAddr rfl rfl fa29_1) ?_
            refine S_ 47 rfl rfl rfl _ (y_load 3 rfl rfl rfl rfl Tryz.underlying3 rfl) ?_
            refine S_ 48 rfl rfl rfl _ (y_call rfl rfl rfl cf55 (fun _ w1 hM => rwithin_any x b2 e.at_ w1 (hM.box_cells 2 rfl))) ?_
            refine S_ 4 rfl rfl rfl _ (y_assign rfl rfl) ?_
            refine S_go (fun _ _ h => h) ?_
            refine T_ret (fun a w hF hM => hRb a w (post1 rfl rfl (fun w hM => ?_) a w hF hM))
            exact ⟨by rw [ho5 hop], hM.below⟩
          · skip
            have n5 : ¬ x.op = 5 := by simpa using h43
            refine T_seq ?_
            refine T_region ?_
            refine S_ 50 rfl rfl rfl _ (y_bin rfl rfl rfl (fun _ => b_eql)) ?_
            refine S_ 49 rfl rfl rfl _ (y_assign rfl rfl) ?_
            refine S_go (fun _ _ h => h) ?_
            refine T_cond rfl (fun h49 => ?_) (fun h49 => ?_)
            · skip
              have hop : x.op = 6 := by simpa using h49
              refine T_seq ?_
              refine T_region ?_
              refine S_ 51 rfl rfl rfl _ (y_move rfl rfl) ?_
              refine S_ 52 rfl rfl rfl _ (y_fieldAddr rfl rfl fa29_8) ?_
              refine S_ 53 rfl rfl rfl _ (y_load 3 rfl rfl rfl rfl Tryz.underlying3 rfl) ?_
              refine S_ 54 rfl rfl rfl _ (y_call rfl rfl rfl cf55 (fun _ w1 hM => rwithin_any x b2 e.wt w1 (hM.box_cells 2 rfl))) ?_
              refine S_ 4 rfl rfl rfl _ (y_assign rfl rfl) ?_
              refine S_go (fun _ _ h => h) ?_
              refine T_ret (fun a w hF hM => hRb a w (post1 rfl rfl (fun w hM => ?_) a w hF hM))
              exact ⟨by rw [ho6 hop], hM.below⟩
            · skip
              have n6 : ¬ x.op = 6 := by simpa using h49
              refine T_seq ?_
              refine T_seq ?_
              refine T_region ?_
              refine S_ 56 rfl rfl rfl _ (y_bin rfl rfl rfl (fun _ => b_eql)) ?_
              refine S_ 55 rfl rfl rfl _ (y_assign rfl rfl) ?_
              refine S_go (fun _ _ h => h) ?_
              refine T_cond rfl (fun h55 => ?_) (fun h55 => ?_)
              · skip
                have hop7 := h55
                have hop : x.op = 7 ∨ x.op = 8 := .inl (by simpa using h55)
                refine T_skip_go (fun _ _ h => h) ?_
                refine T_cond rfl (fun h55 => ?_) (fun h55 => ?_)
                · skip
                  refine T_seq ?_
                  refine T_region ?_
                  refine S_ 59 rfl rfl rfl _ (y_loadA 3 rfl rfl rfl Tryz.underlying29 rfl sz29) ?_
                  refine S_ 60 rfl rfl rfl _ (y_fieldAddr rfl rfl fa24_4) ?_
                  refine S_ 61 rfl rfl rfl _ (y_load 2 rfl rfl rfl rfl Tryz.underlying9 rfl) ?_
                  refine S_ 62 rfl rfl rfl _ (y_call rfl rfl rfl cf64 (fun _ w1 hM => Tagged_any e _ w1 (he1.below hM.below))) ?_
                  refine S_ 58 rfl rfl rfl _ (y_move rfl rfl) ?_
                  refine S_ 63 rfl rfl rfl _ (y_extract rfl rfl rfl) ?_
                  refine S_ 64 rfl rfl rfl _ (y_extract rfl rfl rfl) ?_
                  refine S_ 8 rfl rfl rfl _ (y_assign rfl rfl) ?_
                  refine S_ 9 rfl rfl rfl _ (y_assign rfl rfl) ?_
                  refine S_go (fun _ _ h => h) ?_
                  refine T_seq ?_
                  refine T_region ?_
                  refine S_ 65 rfl rfl rfl _ (y_move rfl rfl) ?_
                  refine S_ 66 rfl rfl rfl _ (y_move rfl rfl) ?_
                  refine Sg_ 67 rfl rfl rfl rfl rfl rfl _ (y_fieldAddr rfl rfl fa24_0) ?_
                  refine Sg_ 68 rfl rfl rfl rfl rfl rfl _ (y_load 2 rfl rfl rfl rfl Tryz.underlying3 rfl) ?_
                  refine Sg_ 69 rfl rfl rfl rfl rfl rfl _ (y_bin rfl rfl rfl (fun _ => b_eql)) ?_
                  refine Sg_ 70 rfl rfl rfl rfl rfl rfl _ (y_move rfl rfl) ?_
                  refine Sg_ 71 rfl rfl rfl rfl rfl rfl _ (y_fieldAddr rfl rfl fa24_5) ?_
                  refine Sg_ 72 rfl rfl rfl rfl rfl rfl _ (y_load 2 rfl rfl rfl rfl Tryz.underlying9 rfl) ?_
                  refine Sg_ 73 rfl rfl rfl rfl rfl rfl _ (y_move rfl rfl) ?_
                  refine Sg_ 74 rfl rfl rfl rfl rfl rfl _ (y_call rfl rfl rfl cf13 (fun _ w1 _ => FitsText_any x.tx (tagV x.nm e.ta.l).1 (by omega) (by omega) w1)) ?_
                  refine Sg_ 75 rfl rfl rfl rfl rfl rfl _ (y_or rfl rfl rfl) ?_
                  refine S_ 76 rfl rfl rfl _ (y_and rfl rfl rfl) ?_
                  refine S_ 4 rfl rfl rfl _ (y_assign rfl rfl) ?_
                  refine S_go (fun _ _ h => h) ?_
                  refine T_ret (fun a w hF hM => hRb a w (post1 rfl rfl (fun w hM => ?_) a w hF hM))
                  exact ⟨by rw [ho7 hop], hM.below⟩
                · skip
                  exact absurd (hop7.symm.trans h55) (by decide)
              · skip
                have n7 : ¬ x.op = 7 := by simpa using h55
                refine T_region ?_
                refine S_ 57 rfl rfl rfl _ (y_bin rfl rfl rfl (fun _ => b_eql)) ?_
                refine S_ 55 rfl rfl rfl _ (y_assign rfl rfl) ?_
                refine S_go (fun _ _ h => h) ?_
                refine T_cond rfl (fun h55 => ?_) (fun h55 => ?_)
                · skip
                  have hop : x.op = 7 ∨ x.op = 8 := .inr (by simpa using h55)
                  refine T_seq ?_
                  refine T_region ?_
                  refine S_ 59 rfl rfl rfl _ (y_loadA 3 rfl rfl rfl Tryz.underlying29 rfl sz29) ?_
                  refine S_ 60 rfl rfl rfl _ (y_fieldAddr rfl rfl fa24_4) ?_
                  refine S_ 61 rfl rfl rfl _ (y_load 2 rfl rfl rfl rfl Tryz.underlying9 rfl) ?_
                  refine S_ 62 rfl rfl rfl _ (y_call rfl rfl rfl cf64 (fun _ w1 hM => Tagged_any e _ w1 (he1.below hM.below))) ?_
                  refine S_ 58 rfl rfl rfl _ (y_move rfl rfl) ?_
                  refine S_ 63 rfl rfl rfl _ (y_extract rfl rfl rfl) ?_
                  refine S_ 64 rfl rfl rfl _ (y_extract rfl rfl rfl) ?_
                  refine S_ 8 rfl rfl rfl _ (y_assign rfl rfl) ?_
                  refine S_ 9 rfl rfl rfl _ (y_assign rfl rfl) ?_
                  refine S_go (fun _ _ h => h) ?_
                  refine T_seq ?_
                  refine T_region ?_
                  refine S_ 65 rfl rfl rfl _ (y_move rfl rfl) ?_
                  refine S_ 66 rfl rfl rfl _ (y_move rfl rfl) ?_
                  refine Sg_ 67 rfl rfl rfl rfl rfl rfl _ (y_fieldAddr rfl rfl fa24_0) ?_
                  refine Sg_ 68 rfl rfl rfl rfl rfl rfl _ (y_load 2 rfl rfl rfl rfl Tryz.underlying3 rfl) ?_
                  refine Sg_ 69 rfl rfl rfl rfl rfl rfl _ (y_bin rfl rfl rfl (fun _ => b_eql)) ?_
                  refine Sg_ 70 rfl rfl rfl rfl rfl rfl _ (y_move rfl rfl) ?_
                  refine Sg_ 71 rfl rfl rfl rfl rfl rfl _ (y_fieldAddr rfl rfl fa24_5) ?_
                  refine Sg_ 72 rfl rfl rfl rfl rfl rfl _ (y_load 2 rfl rfl rfl rfl Tryz.underlying9 rfl) ?_
                  refine Sg_ 73 rfl rfl rfl rfl rfl rfl _ (y_move rfl rfl) ?_
                  refine Sg_ 74 rfl rfl rfl rfl rfl rfl _ (y_call rfl rfl rfl cf13 (fun _ w1 _ => FitsText_any x.tx (tagV x.nm e.ta.l).1 (by omega) (by omega) w1)) ?_
                  refine Sg_ 75 rfl rfl rfl rfl rfl rfl _ (y_or rfl rfl rfl) ?_
                  refine S_ 76 rfl rfl rfl _ (y_and rfl rfl rfl) ?_
                  refine S_ 4 rfl rfl rfl _ (y_assign rfl rfl) ?_
                  refine S_go (fun _ _ h => h) ?_
                  refine T_ret (fun a w hF hM => hRb a w (post1 rfl rfl (fun w hM => ?_) a w hF hM))
                  exact ⟨by rw [ho7 hop], hM.below⟩
                · skip
                  have n8 : ¬ x.op = 8 := by simpa using h55
                  refine T_seq ?_
                  refine T_region ?_
                  refine S_ 78 rfl rfl rfl _ (y_bin rfl rfl rfl (fun _ => b_eql)) ?_
                  refine S_ 77 rfl rfl rfl _ (y_assign rfl rfl) ?_
                  refine S_go (fun _ _ h => h) ?_
                  refine T_cond rfl (fun h77 => ?_) (fun h77 => ?_)
                  · skip
                    have hop : x.op = 9 := by simpa using h77
                    refine T_seq ?_
                    refine T_region ?_
                    refine S_ 79 rfl rfl rfl _ (y_fieldAddr rfl rfl fa29_6) ?_
                    refine S_ 80 rfl rfl rfl _ (y_load 3 rfl rfl rfl rfl Tryz.underlying9 rfl) ?_
                    refine S_ 81 rfl rfl rfl _ (y_bin rfl rfl rfl (fun _ => b_neqs)) ?_
                    refine S_ 82 rfl rfl rfl _ (y_move rfl rfl) ?_
                    refine Sg_ 83 rfl rfl rfl rfl rfl rfl _ (y_fieldAddr rfl rfl fa24_5) ?_
                    refine Sg_ 84 rfl rfl rfl rfl rfl rfl _ (y_load 2 rfl rfl rfl rfl Tryz.underlying9 rfl) ?_
                    refine Sg_ 85 rfl rfl rfl rfl rfl rfl _ (y_fieldAddr rfl rfl fa29_6) ?_
                    refine Sg_ 86 rfl rfl rfl rfl rfl rfl _ (y_load 3 rfl rfl rfl rfl Tryz.underlying9 rfl) ?_
                    refine Sg_ 87 rfl rfl rfl rfl rfl rfl _ (y_call rfl rfl rfl cf13 (fun _ w1 _ => FitsText_any x.tx e.rel (by omega) (by omega) w1)) ?_
                    refine S_ 88 rfl rfl rfl _ (y_and rfl rfl rfl) ?_
                    refine S_ 4 rfl rfl rfl _ (y_assign rfl rfl) ?_
                    refine S_go (fun _ _ h => h) ?_
                    refine T_ret (fun a w hF hM => hRb a w (post1 rfl rfl (fun w hM => ?_) a w hF hM))
                    exact ⟨by rw [ho9 hop], hM.below⟩
                  · skip
                    have n9 : ¬ x.op = 9 := by simpa using h77
                    refine T_seq ?_
                    refine T_region ?_
                    refine S_ 90 rfl rfl rfl _ (y_bin rfl rfl rfl (fun _ => b_eql)) ?_
                    refine S_ 89 rfl rfl rfl _ (y_assign rfl rfl) ?_
                    refine S_go (fun _ _ h => h) ?_
                    refine T_cond rfl (fun h89 => ?_) (fun h89 => ?_)
                    · skip
                      have hop : x.op = 10 := by simpa using h89
                      refine T_seq ?_
                      refine T_region ?_
                      refine S_ 91 rfl rfl rfl _ (y_fieldAddr rfl rfl fa29_7) ?_
                      refine S_ 92 rfl rfl rfl _ (y_load 3 rfl rfl rfl rfl Tryz.underlying9 rfl) ?_
                      refine S_ 93 rfl rfl rfl _ (y_bin rfl rfl rfl (fun _ => b_neqs)) ?_
                      refine S_ 94 rfl rfl rfl _ (y_move rfl rfl) ?_
                      refine Sg_ 95 rfl rfl rfl rfl rfl rfl _ (y_fieldAddr rfl rfl fa24_5) ?_
                      refine Sg_ 96 rfl rfl rfl rfl rfl rfl _ (y_load 2 rfl rfl rfl rfl Tryz.underlying9 rfl) ?_
                      refine Sg_ 97 rfl rfl rfl rfl rfl rfl _ (y_fieldAddr rfl rfl fa29_7) ?_
                      refine Sg_ 98 rfl rfl rfl rfl rfl rfl _ (y_load 3 rfl rfl rfl rfl Tryz.underlying9 rfl) ?_
                      refine Sg_ 99 rfl rfl rfl rfl rfl rfl _ (y_call rfl rfl rfl cf13 (fun _ w1 _ => FitsText_any x.tx e.us (by omega) (by omega) w1)) ?_
                      refine S_ 100 rfl rfl rfl _ (y_and rfl rfl rfl) ?_
                      refine S_ 4 rfl rfl rfl _ (y_assign rfl rfl) ?_
                      refine S_go (fun _ _ h => h) ?_
                      refine T_ret (fun a w hF hM => hRb a w (post1 rfl rfl (fun w hM => ?_) a w hF hM))
                      exact ⟨by rw [ho10 hop], hM.below⟩
                    · skip
                      have n10 : ¬ x.op = 10 := by simpa using h89
                      refine T_seq ?_
                      refine T_region ?_
                      refine S_ 102 rfl rfl rfl _ (y_bin rfl rfl rfl (fun _ => b_eql)) ?_
                      refine S_ 101 rfl rfl rfl _ (y_assign rfl rfl) ?_
                      refine S_go (fun _ _ h => h) ?_
                      refine T_cond rfl (fun h101 => ?_) (fun h101 => ?_)
                      · skip
                        have hop : x.op = 11 := by simpa using h101
                        refine T_seq ?_
                        refine T_region ?_
                        refine S_ 103 rfl rfl rfl _ (y_load 6 rfl rfl rfl rfl Tryz.underlying112 rfl) ?_
                        refine S_ 104 rfl rfl rfl _ (y_makeFunc rfl rfl rfl rfl rfl) ?_
                        refine S_ 105 rfl rfl rfl _ (y_call rfl rfl rfl cf56 (fun _ w1 hM => rfault_any ⟨65, #[ptF b2]⟩ (fun f => gm eqL x.tx f.k) b3 e w1 (he.below hM.below) (hM.box_cells 3 rfl) (raskKind htx (hM.box_cells 2 rfl)))) ?_
                        refine S_ 4 rfl rfl rfl _ (y_assign rfl rfl) ?_
                        refine S_go (fun _ _ h => h) ?_
                        refine T_ret (fun a w hF hM => hRb a w (post1 rfl rfl (fun w hM => ?_) a w hF hM))
                        exact ⟨by rw [ho11 hop], hM.below⟩
                      · skip
                        have n11 : ¬ x.op = 11 := by simpa using h101
                        refine T_seq ?_
                        refine T_region ?_
                        refine S_ 107 rfl rfl rfl _ (y_bin rfl rfl rfl (fun _ => b_eql)) ?_
                        refine S_ 106 rfl rfl rfl _ (y_assign rfl rfl) ?_
                        refine S_go (fun _ _ h => h) ?_
                        refine T_cond rfl (fun h106 => ?_) (fun h106 => ?_)
                        · skip
                          have hop : x.op = 12 := by simpa using h106
                          refine T_seq ?_
                          refine T_region ?_
                          refine S_ 108 rfl rfl rfl _ (y_load 6 rfl rfl rfl rfl Tryz.underlying112 rfl) ?_
                          refine S_ 109 rfl rfl rfl _ (y_makeFunc rfl rfl rfl rfl rfl) ?_
                          refine S_ 110 rfl rfl rfl _ (y_call rfl rfl rfl cf56 (fun _ w1 hM => rfault_any ⟨66, #[ptF b2]⟩ (fun f => Lib.contains (f.t.map lowB) (x.tx.map lowB)) b3 e w1 (he.below hM.below) (hM.box_cells 3 rfl) (raskSays (hm.below hM.below) htx (hM.box_cells 2 rfl)))) ?_
                          refine S_ 4 rfl rfl rfl _ (y_assign rfl rfl) ?_
                          refine S_go (fun _ _ h => h) ?_
                          refine T_ret (fun a w hF hM => hRb a w (post1 rfl rfl (fun w hM => ?_) a w hF hM))
                          exact ⟨by rw [ho12 hop], hM.below⟩
                        · skip
                          have n12 : ¬ x.op = 12 := by simpa using h106
                          refine T_seq ?_
                          refine T_region ?_
                          refine S_ 112 rfl rfl rfl _ (y_bin rfl rfl rfl (fun _ => b_eql)) ?_
                          refine S_ 111 rfl rfl rfl _ (y_assign rfl rfl) ?_
                          refine S_go (fun _ _ h => h) ?_
                          refine T_cond rfl (fun h111 => ?_) (fun h111 => ?_)
                          · skip
                            have hop : x.op = 13 := by simpa using h111
                            refine T_seq ?_
                            refine T_region ?_
                            refine S_ 113 rfl rfl rfl _ (y_move rfl rfl) ?_
                            refine S_ 114 rfl rfl rfl _ (y_makeFunc rfl rfl rfl rfl rfl) ?_
                            refine S_ 115 rfl rfl rfl _ (y_call rfl rfl rfl cf58 (fun _ w1 hM => ranyF_any ⟨69, #[ptF b2]⟩ (fun y => gm eqL x.tx y.f) b6 b3 e w1 (he.below hM.below) (hM.box_cell (i := 6) rfl rfl) (hM.box_cells 3 rfl) (raskFunc htx (hM.box_cells 2 rfl)))) ?_
                            refine S_ 4 rfl rfl rfl _ (y_assign rfl rfl) ?_
                            refine S_go (fun _ _ h => h) ?_
                            refine T_ret (fun a w hF hM => hRb a w (post1 rfl rfl (fun w hM => ?_) a w hF hM))
                            exact ⟨by rw [ho13 hop], hM.below⟩
                          · skip
                            have n13 : ¬ x.op = 13 := by simpa using h111
                            have hop : x.op = 14 := by omega
                            refine T_skip_go (fun _ _ h => h) ?_
                            refine T_seq ?_
                            refine T_region ?_
                            refine S_ 116 rfl rfl rfl _ (y_move rfl rfl) ?_
                            refine S_ 117 rfl rfl rfl _ (y_makeFunc rfl rfl rfl rfl rfl) ?_
                            refine S_ 118 rfl rfl rfl _ (y_call rfl rfl rfl cf58 (fun _ w1 hM => ranyF_any ⟨70, #[ptF b2]⟩ (fun y => gm eqL x.tx y.fi) b6 b3 e w1 (he.below hM.below) (hM.box_cell (i := 6) rfl rfl) (hM.box_cells 3 rfl) (raskFile htx (hM.box_cells 2 rfl)))) ?_
                            refine S_ 4 rfl rfl rfl _ (y_assign rfl rfl) ?_
                            refine S_go (fun _ _ h => h) ?_
                            refine T_ret (fun a w hF hM => hRb a w (post1 rfl rfl (fun w hM => ?_) a w hF hM))
                            exact ⟨by rw [ho14 hop], hM.below⟩
theorem CondHolds_any (x : SC) : CHAt x := SC.ind (Q := CHAt) ch_step x
end Go.Proofs.YtfmbgaaonfgenaaGreatDoor
end
section
namespace Go.Proofs.YtfmbgaaonfgenaaGreatDoor
set_option linter.unusedSimpArgs false
set_option linter.unusedVariables false
set_option maxRecDepth 20000
open Go.RowKit Go.Eng
def intF (n : Int) : List Value := [.int .i64 n]
theorem firstF_any (A : Option Addr) (c : Nat) (m k : Int) (w : World) (hl : SlT intF 1 w A 2 [m, k]) : Calls Tryz.prog 7 #[.slice A 2 c] w fun e w' => e = .returned (.int .i64 (fst m k)) ∧ Below w.heap.size w w' := by
  refine enter_args (args := [.slice A 2 c]) (F := _) Tryz.func7 rfl Tryz.ntmps7 rfl rfl ?_
  intro Rb hRb hRn
  refine T_seq ?_
  refine T_region ?_
  refine S_ 2 rfl rfl rfl _ (y_assign rfl rfl) ?_
  refine S_go (fun _ _ h => h) ?_
  refine T_seq ?_
  refine T_seq ?_
  refine T_region ?_
  refine S_ 5 rfl rfl rfl _ (y_move rfl rfl) ?_
  refine S_ 6 rfl rfl rfl _ (y_len_slice rfl rfl Tryz.underlying99) ?_
  refine S_ 7 rfl rfl rfl _ (y_move rfl rfl) ?_
  refine S_go (fun _ _ h => h) ?_
  refine T_block ?_
  refine T_loopK1 (kf := [(2, 2), (4, 4), (7, 14)]) (kl := [(2, 2), (4, 4), (7, 14)]) (fun (i : Nat) => [(7, true, .int .i64 (i : Int))]) (fun (i : Nat) => []) (fun (i : Nat) => i ≤ 2 ∧ fst m k = (([m, k].drop i).find? (fun x => decide (x ≠ 0))).getD 0) (fun (i : Nat) => 2 - i) 0 (by repeat (first | exact kf_nil | (apply kf_in; focus rfl) | (apply kf_out; focus rfl))) (by repeat (first | exact kl_nil | exact kl_rest (by assumption) rfl | (apply kl_in; focus rfl) | (apply kl_out; focus rfl))) ?_ ?_ ?_ ?_
  · exact ⟨by omega, by unfold fst; by_cases hm : m = 0 <;> by_cases hk : k = 0 <;> simp [hm, hk]⟩
  · exact ⟨rfl, trivial⟩
  · exact trivial
  rintro i ⟨hp1, hp2⟩
  refine T_seq ?_
  refine T_region ?_
  refine S_ 8 rfl rfl rfl _ (y_bin rfl rfl rfl (fun _ => b_lss)) ?_
  refine S_go (fun _ _ h => h) ?_
  refine T_seq ?_
  refine T_cond rfl (fun h8 => ?_) (fun h8 => ?_)
  · try simp only [decide_eq_true_eq, decide_eq_false_iff_not, Bool.or_eq_true, Bool.or_eq_false_iff, Bool.and_eq_true, Bool.and_eq_false_iff, Bool.not_eq_true', Bool.not_eq_false', Bool.not_eq_true, Bool.not_eq_false, Bool.not_true, Bool.not_false, Int.not_lt, Int.not_le, not_or, not_and, Classical.not_not] at h8
    obtain ⟨x, hx1, hx2⟩ := hl.at (i := i) (by omega)
    refine T_skip_go (fun _ _ h => h) ?_
    refine T_seq ?_
    refine T_block ?_
    refine T_seq ?_
    refine T_region ?_
    refine S_ 9 rfl rfl rfl _ (y_indexAddr rfl rfl rfl Tryz.underlying99 sz30 (fun hg => hl.isSome (by omega)) (fun _ => by omega)) ?_
    refine S_ 10 rfl rfl rfl _ (y_loadT1 (val := (fun n : Int => Value.int .i64 n)) rfl rfl hl (fun _ => hx1) Tryz.underlying30 rfl) ?_
    refine S_ 4 rfl rfl rfl _ (y_assign rfl rfl) ?_
    refine S_go (fun _ _ h => h) ?_
    refine T_seq ?_
    refine T_region ?_
    refine S_ 11 rfl rfl rfl _ (y_move rfl rfl) ?_
    refine S_ 12 rfl rfl rfl _ (y_bin rfl rfl rfl (fun _ => b_neq)) ?_
    refine S_go (fun _ _ h => h) ?_
    refine T_cond rfl (fun h12 => ?_) (fun h12 => ?_)
    · try simp only [decide_eq_true_eq, decide_eq_false_iff_not, Bool.or_eq_true, Bool.or_eq_false_iff, Bool.and_eq_true, Bool.and_eq_false_iff, Bool.not_eq_true', Bool.not_eq_false', Bool.not_eq_true, Bool.not_eq_false, Bool.not_true, Bool.not_false, Int.not_lt, Int.not_le, not_or, not_and, Classical.not_not] at h12
      refine T_seq ?_
      refine T_region ?_
      refine S_ 13 rfl rfl rfl _ (y_move rfl rfl) ?_
      refine S_ 2 rfl rfl rfl _ (y_assign rfl rfl) ?_
      refine S_go (fun _ _ h => h) ?_
      refine T_ret (fun a w hF hM => hRb a w (post1 rfl rfl (fun w hM => ?_) a w hF hM))
      exact ⟨by rw [hp2, hx2, List.find?_cons_of_pos (by simpa using h12)]; rfl, hM.below⟩
    · try simp only [decide_eq_true_eq, decide_eq_false_iff_not, Bool.or_eq_true, Bool.or_eq_false_iff, Bool.and_eq_true, Bool.and_eq_false_iff, Bool.not_eq_true', Bool.not_eq_false', Bool.not_eq_true, Bool.not_eq_false, Bool.not_true, Bool.not_false, Int.not_lt, Int.not_le, not_or, not_and, Classical.not_not] at h12
      refine T_skip_go (fun _ _ h => h) ?_
      refine T_region ?_
      refine S_ 14 rfl rfl rfl _ (y_bin rfl rfl rfl (fun hg => b_add (by omega))) ?_
      refine S_ 7 rfl rfl rfl _ (y_move rfl rfl) ?_
      refine S_nil (nextK1 (kf := [(2, 2), (4, 4), (7, 14)]) (kl := [(2, 2), (4, 4), (7, 14)]) (i + 1) (by repeat (first | exact kf_nil | (apply kf_in; focus rfl) | (apply kf_out; focus rfl))) (by repeat (first | exact kl_nil | exact kl_rest (by assumption) rfl | (apply kl_in; focus rfl) | (apply kl_out; focus rfl))) ?_ ?_ ?_ ?_)
      · omega
      · exact ⟨by omega, by rw [hp2, hx2, List.find?_cons_of_neg (by simpa using h12)]⟩
      · exact ⟨rfl, trivial⟩
      · exact trivial
  · try simp only [decide_eq_true_eq, decide_eq_false_iff_not, Bool.or_eq_true, Bool.or_eq_false_iff, Bool.and_eq_true, Bool.and_eq_false_iff, Bool.not_eq_true', Bool.not_eq_false', Bool.not_eq_true, Bool.not_eq_false, Bool.not_true, Bool.not_false, Int.not_lt, Int.not_le, not_or, not_and, Classical.not_not] at h8
    refine T_exit_go (fun _ _ h => h) ?_
    refine T_seq ?_
    refine T_region ?_
    refine S_ 2 rfl rfl rfl _ (y_assign rfl rfl) ?_
    refine S_go (fun _ _ h => h) ?_
    refine T_ret (fun a w hF hM => hRb a w (post1 rfl rfl (fun w hM => ?_) a w hF hM))
    exact ⟨by rw [hp2, hl.end (by omega)]; rfl, hM.below⟩
theorem toldB_any (a b : Bool) (x y : Int) (w : World) :
    Calls Tryz.prog 11 #[.bool a, .int .i64 x, .bool b, .int .i64 y] w fun e w' => e = .returned (.bool (decide (a = (if y = 0 then b else false)) && decide (x = y))) ∧ Below w.heap.size w w' := by
  refine enter_args (args := [.bool a, .int .i64 x, .bool b, .int .i64 y]) (F := _) Tryz.func11 rfl Tryz.ntmps11 rfl rfl ?_
  intro Rb hRb hRn
  refine T_seq ?_
  refine T_region ?_
  refine S_ 8 rfl rfl rfl _ (y_assign rfl rfl) ?_
  refine S_go (fun _ _ h => h) ?_
  refine T_seq ?_
  refine T_region ?_
  refine S_ 9 rfl rfl rfl _ (y_assign rfl rfl) ?_
  refine S_go (fun _ _ h => h) ?_
  refine T_seq ?_
  refine T_seq ?_
  refine T_region ?_
  refine S_ 10 rfl rfl rfl _ (y_move rfl rfl) ?_
  refine S_ 11 rfl rfl rfl _ (y_bin rfl rfl rfl (fun _ => b_neq)) ?_
  refine S_go (fun _ _ h => h) ?_
  refine T_cond rfl (fun h11 => ?_) (fun h11 => ?_)
  · skip
    have h11 : ¬ y = 0 := by simpa using h11
    refine T_region ?_
    refine S_ 12 rfl rfl rfl _ (y_move rfl rfl) ?_
    refine S_ 2 rfl rfl rfl _ (y_assign rfl rfl) ?_
    refine S_go (fun _ _ h => h) ?_
    refine T_seq ?_
    refine T_region ?_
    refine S_ 13 rfl rfl rfl _ (y_move rfl rfl) ?_
    refine S_ 14 rfl rfl rfl _ (y_move rfl rfl) ?_
    refine S_ 15 rfl rfl rfl _ (y_as (v' := .bool (decide (a = (if y = 0 then b else false)))) (by first | (rw [if_neg h11]; cases a <;> rfl) | (rw [if_pos h11]; cases a <;> cases b <;> rfl)) (y_bin rfl rfl rfl (fun _ => b_eqlb Tryz.underlying4))) ?_
    refine S_ 16 rfl rfl rfl _ (y_move rfl rfl) ?_
    refine Sg_ 17 rfl rfl rfl rfl rfl rfl _ (y_move rfl rfl) ?_
    refine Sg_ 18 rfl rfl rfl rfl rfl rfl _ (y_move rfl rfl) ?_
    refine Sg_ 19 rfl rfl rfl rfl rfl rfl _ (y_bin rfl rfl rfl (fun _ => b_eql)) ?_
    refine S_ 20 rfl rfl rfl _ (y_and rfl rfl rfl) ?_
    refine S_ 8 rfl rfl rfl _ (y_assign rfl rfl) ?_
    refine S_go (fun _ _ h => h) ?_
    refine T_ret (fun a w hF hM => hRb a w (post1 rfl rfl (fun w hM => ?_) a w hF hM))
    exact ⟨rfl, hM.below⟩
  · skip
    have h11 : y = 0 := by simpa using h11
    refine T_skip_go (fun _ _ h => h) ?_
    refine T_seq ?_
    refine T_region ?_
    refine S_ 13 rfl rfl rfl _ (y_move rfl rfl) ?_
    refine S_ 14 rfl rfl rfl _ (y_move rfl rfl) ?_
    refine S_ 15 rfl rfl rfl _ (y_as (v' := .bool (decide (a = (if y = 0 then b else false)))) (by first | (rw [if_neg h11]; cases a <;> rfl) | (rw [if_pos h11]; cases a <;> cases b <;> rfl)) (y_bin rfl rfl rfl (fun _ => b_eqlb Tryz.underlying4))) ?_
    refine S_ 16 rfl rfl rfl _ (y_move rfl rfl) ?_
    refine Sg_ 17 rfl rfl rfl rfl rfl rfl _ (y_move rfl rfl) ?_
    refine Sg_ 18 rfl rfl rfl rfl rfl rfl _ (y_move rfl rfl) ?_
    refine Sg_ 19 rfl rfl rfl rfl rfl rfl _ (y_bin rfl rfl rfl (fun _ => b_eql)) ?_
    refine S_ 20 rfl rfl rfl _ (y_and rfl rfl rfl) ?_
    refine S_ 8 rfl rfl rfl _ (y_assign rfl rfl) ?_
    refine S_go (fun _ _ h => h) ?_
    refine T_ret (fun a w hF hM => hRb a w (post1 rfl rfl (fun w hM => ?_) a w hF hM))
    exact ⟨rfl, hM.below⟩
theorem fst_zero {a b : Int} (h : fst a b = 0) : a = 0 ∧ b = 0 := fst_0F h
theorem FindHolds_any (x : SC) (e : Evt) (p s : List UInt8) (w : World) (hok : x.Ok w) (he : e.Ok w) (hp : p.length ≤ 1000000000) (hs : s.length ≤ 1000000000) (hc : cntP x.says ≤ 1000000000) (hm : MLen w) :
    Calls Tryz.prog 3 #[x.val, e.val, str p, str s] w fun en w' => en = .returned (.bool true) ∧ Below w.heap.size w w' := by
  refine enter_args (args := [.agg #[.int .i64 x.op, .slice x.ad x.q x.c, .int .i64 x.lo, .int .i64 x.hi, str x.nm, str x.tx], .agg #[str e.id, .int .i64 e.at_, .int .i64 e.lv, .slice e.fa.A e.fa.q e.fa.c, .slice e.ta.A e.ta.q e.ta.c, .slice e.cr.A e.cr.q e.cr.c, str e.rel, str e.us, .int .i64 e.wt], str p, str s]) (F := _) Tryz.func3 rfl Tryz.ntmps3 rfl rfl ?_
  intro Rb hRb hRn
  refine T_seq ?_
  refine T_region ?_
  refine S_box 4 4 rfl rfl rfl rfl rfl ?_
  intro b4
  refine S_box 5 5 rfl rfl rfl rfl rfl ?_
  intro b5
  refine S_ 8 rfl rfl rfl _ (y_assign rfl rfl) ?_
  refine S_go (fun _ _ h => h) ?_
  refine T_seq ?_
  refine T_region ?_
  refine S_ 14 rfl rfl rfl _ (y_loadA 4 rfl rfl rfl Tryz.underlying24 rfl sz24) ?_
  refine S_ 15 rfl rfl rfl _ (y_loadA 5 rfl rfl rfl Tryz.underlying29 rfl sz29) ?_
  refine S_ 16 rfl rfl rfl _ (y_call rfl rfl rfl cf6 (fun _ w1 hM => Holds_any x e w1 (hok.lift hM.below) (he.below hM.below) (hm.below hM.below))) ?_
  refine S_ 13 rfl rfl rfl _ (y_move rfl rfl) ?_
  refine S_ 17 rfl rfl rfl _ (y_extract rfl rfl rfl) ?_
  refine S_ 18 rfl rfl rfl _ (y_extract rfl rfl rfl) ?_
  refine S_ 9 rfl rfl rfl _ (y_assign rfl rfl) ?_
  refine S_ 10 rfl rfl rfl _ (y_assign rfl rfl) ?_
  refine S_go (fun _ _ h => h) ?_
  refine T_seq ?_
  refine T_drawsTail 4 (by kernel_rfl) (by kernel_rfl) ?_
  refine D_ 19 rfl rfl rfl _ (y_loadA 4 rfl rfl rfl Tryz.underlying24 rfl sz24) ?_
  refine D_ 20 rfl rfl rfl _ (y_call rfl rfl rfl cf8 (fun _ w1 hM => CondFault_any x w1 (hok.lift hM.below) (by omega))) ?_
  refine D_ 21 rfl rfl rfl _ (y_loadA 5 rfl rfl rfl Tryz.underlying29 rfl sz29) ?_
  refine D_ 22 rfl rfl rfl _ (y_call rfl rfl rfl cf9 (fun _ w1 hM => EventFault_any e w1 (he.below hM.below))) ?_
  refine D_tail ?_
  refine S_buildSlice 23 23 rfl rfl rfl rfl rfl Tryz.underlying99 inf30 rfl (by decide) (by decide) rfl rfl (by decide) rfl (_) rfl ?_
  intro b23
  refine S_ 24 rfl rfl rfl _ (y_as (v' := .int .i64 (hoNo x e)) (by exact rfl) (y_call rfl rfl rfl cf7 (fun _ w1 hM => firstF_any _ _ (condNo x) (evNo e) w1 ⟨own_reads hM (i := 23) rfl, rfl⟩))) ?_
  refine S_ 11 rfl rfl rfl _ (y_assign rfl rfl) ?_
  refine S_go (fun _ _ h => h) ?_
  refine T_seq ?_
  refine T_region ?_
  refine S_ 25 rfl rfl rfl _ (y_move rfl rfl) ?_
  refine S_ 26 rfl rfl rfl _ (y_bin rfl rfl rfl (fun _ => b_eql)) ?_
  refine S_ 27 rfl rfl rfl _ (y_move rfl rfl) ?_
  refine Sg_ 28 rfl rfl rfl rfl rfl rfl _ (y_loadA 4 rfl rfl rfl Tryz.underlying24 rfl sz24) ?_
  refine Sg_ 29 rfl rfl rfl rfl rfl rfl _ (y_loadA 5 rfl rfl rfl Tryz.underlying29 rfl sz29) ?_
  refine Sg_ 30 rfl rfl rfl rfl rfl rfl _ (y_call rfl rfl rfl cf10 (fun hg w1 hM => (fun (h0 : hoNo x e = 0) => CondHolds_any x e w1 (hok.lift hM.below) (cond_ch (fst_zero h0).1) ⟨he.below hM.below, ev_small (fst_zero h0).2⟩ (hm.below hM.below)) (by simpa using hg))) ?_
  refine S_ 31 rfl rfl rfl _ (y_as (v' := .bool (hoB x e)) (by exact rfl) (y_and rfl rfl rfl)) ?_
  refine S_ 12 rfl rfl rfl _ (y_assign rfl rfl) ?_
  refine S_go (fun _ _ h => h) ?_
  refine T_seq ?_
  refine T_region ?_
  refine S_ 32 rfl rfl rfl _ (y_move rfl rfl) ?_
  refine S_ 33 rfl rfl rfl _ (y_move rfl rfl) ?_
  refine S_ 34 rfl rfl rfl _ (y_move rfl rfl) ?_
  refine S_ 35 rfl rfl rfl _ (y_move rfl rfl) ?_
  refine S_ 36 rfl rfl rfl _ (y_call rfl rfl rfl cf11 (fun _ w1 _ => toldB_any _ _ _ _ w1)) ?_
  refine S_ 37 rfl rfl rfl _ (y_move rfl rfl) ?_
  refine Sg_ 38 rfl rfl rfl rfl rfl rfl _ (y_move rfl rfl) ?_
  refine Sg_ 39 rfl rfl rfl rfl rfl rfl _ (y_move rfl rfl) ?_
  refine Sg_ 40 rfl rfl rfl rfl rfl rfl _ (y_call rfl rfl rfl cf12 (fun _ w1 _ => Fits_any p s w1 hp (by omega))) ?_
  refine Sg_ 41 rfl rfl rfl rfl rfl rfl _ (y_move rfl rfl) ?_
  refine Sg_ 42 rfl rfl rfl rfl rfl rfl _ (y_move rfl rfl) ?_
  refine Sg_ 43 rfl rfl rfl rfl rfl rfl _ (y_call rfl rfl rfl cf13 (fun _ w1 _ => FitsText_any p s hp (by omega) w1)) ?_
  refine Sg_ 44 rfl rfl rfl rfl rfl rfl _ (y_bin rfl rfl rfl (fun _ => b_eqlb Tryz.underlying4)) ?_
  refine S_ 45 rfl rfl rfl _ (y_and rfl rfl rfl) ?_
  refine S_ 8 rfl rfl rfl _ (y_assign rfl rfl) ?_
  refine S_go (fun _ _ h => h) ?_
  refine T_ret (fun a w hF hM => hRb a w (post1 rfl rfl (fun w hM => ?_) a w hF hM))
  have h1 : (if hoNo x e = 0 then hoB x e else false) = hoB x e := by unfold hoB; split <;> simp_all
  exact ⟨by rw [h1]; simp, hM.below⟩
end Go.Proofs.YtfmbgaaonfgenaaGreatDoor
end
section
namespace Go.Proofs.YtfmbgaaonfgenaaGreatDoor
set_option linter.unusedSimpArgs false
set_option linter.unusedVariables false
set_option maxRecDepth 20000
open Go.ChangeShapes Go.WideShapes Go.RowKit
theorem ownNone : ownKnob Tryz.prog.godebug = none := by kernel_rfl
theorem laidOut : laidOutB Tryz.prog = true := by kernel_rfl
def firstCells : Array Value := (Go.Pinned.utf8FirstZ.map fun n : Nat => Value.int .u8 (n : Int)).toArray
def tabCells (k : IntKind) (zs : List Int) : Array Value := (zs.map fun n => Value.int k n).toArray
def rangeZ : List Int := [128, 191, 160, 191, 128, 159, 144, 191, 128, 143, 0, 0, 0, 0, 0, 0, 0, 0, 0, 0, 0, 0, 0, 0, 0, 0, 0, 0, 0, 0, 0, 0]
def layCells (cs : Array Value) : Obj → Obj
  | .cells _ t frozen => .cells cs t frozen
  | o => o
noncomputable def laidWorld (os : Os) (args : Array Value) : World :=
  { World.holding Tryz.prog os ⟨#[], args, []⟩ with heap := ((World.holding Tryz.prog os ⟨#[], args, []⟩).heap.modify 1 (layCells firstCells)).modify 2 (layCells (tabCells .u8 rangeZ)) }
theorem mlen_of {W : World} (h : W.ShapedOpen Tryz.prog) : MLen W := by
  obtain ⟨m, hm⟩ := Tryz.laysM144.s1_3 W h
  refine ⟨m, hm, ?_⟩
  unfold World.cell? at hm
  cases hg : W.heap[0]? with
  | none =>
    have hg' : W.heap[Tryz.laysM144_ren.g 1]? = none := hg
    rw [hg'] at hm; cases hm
  | some o => exact (Array.getElem?_eq_some_iff.1 hg).1
end Go.Proofs.YtfmbgaaonfgenaaGreatDoor
end
