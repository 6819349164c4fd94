/- Part 3, merged by a program. Conditions: whether each is right, and CheckCond. Conditions: those of each theorem. Patterns with stars: what they match, the search that goes back to the last star, and the table of all beginnings. Plain lists; no program in sight. find.Fits: the greedy search. Condition: the lengths are bounded. The reference's Star: a table of what fits. Condition: the lengths are bounded. Lower letters: fitting without regard to letters is fitting of the lowered. Plain lists; no program in sight. -/
import Derived.Test.YtfmbgaaonfgenaaDoorOpen
import Derived.Test.YtfmbgaaonfgenaaDoorCopy
import Derived.Test.YtfmbgaaonfgenaaDoorMov
import Derived.Test.YtfmbgaaonfgenaaDoorSwp
import Derived.Test.YtfmbgaaonfgenaaDoorPk2
section
namespace Go.Proofs.YtfmbgaaonfgenaaDoor
set_option linter.unusedSimpArgs false
set_option linter.unusedVariables false
set_option maxRecDepth 20000
open Go.RowKit Go.Eng
abbrev hdX (x : SC) : Int := chdNo txtNo nameOk x.op x.kids.length x.lo x.hi x.nm x.tx
def f1B (x : SC) : Bool := (decide (0 < x.kids.length) && !grpB x.op || ((!decide (x.lo = 0) || !decide (x.hi = 0)) && !rngB x.op) || (!decide (x.nm = []) && !nmdB x.op) || (!decide (x.tx = []) && !wrdB x.op))
def f2B (x : SC) : Bool := ((decide (x.op = 1) || decide (x.op = 2)) && decide (x.kids.length < 2) || decide (x.op = 3) && !decide (x.kids.length = 1))
def r1B (x : SC) : Bool := !inB x.lo (loR x.op) (hiR x.op) || !inB x.hi (loR x.op) (hiR x.op)
theorem hd_def (x : SC) : hdX x = if inB x.op 1 14 = false then 10 else if f1B x = true then 1 else if f2B x = true then 1 else if (rngB x.op && r1B x) = true then 2 else if (rngB x.op && decide (x.hi < x.lo)) = true then 5 else if (nmdB x.op && !nameOk x.nm) = true then 3 else if wrdB x.op = true then txtNo x.tx else 0 := rfl
abbrev chX (x : SC) : Int := chkP (chdNo txtNo nameOk) x.says
theorem chX_def (x : SC) : chX x = if hdX x ≠ 0 then hdX x else chkL (chdNo txtNo nameOk) (x.kids.map SC.says) := by
  show chkP _ x.says = _
  rw [SC.says_form, chkP, List.length_map]
theorem chX_hd {x : SC} {n : Int} (h : hdX x = n) (hn : n ≠ 0) : chX x = n := by rw [chX_def, h, if_pos hn]
theorem chX_kids {x : SC} (h : hdX x = 0) : chX x = chkL (chdNo txtNo nameOk) (x.kids.map SC.says) := by rw [chX_def, h, if_neg (by simp)]
def OneAt (x : SC) : Prop := ∀ w : World, x.Ok w → Calls Tryd.prog 18 #[x.val] w fun e w' => e = .returned (.int .i64 (chX x)) ∧ Below w.heap.size w w'
theorem hd_rest {x : SC} (h1 : inB x.op 1 14 = true) (h2 : f1B x = false) (h3 : f2B x = false) : hdX x = if (rngB x.op && r1B x) = true then 2 else if (rngB x.op && decide (x.hi < x.lo)) = true then 5 else if (nmdB x.op && !nameOk x.nm) = true then 3 else if wrdB x.op = true then txtNo x.tx else 0 := by
  rw [hd_def, if_neg (by rw [h1]; simp), if_neg (by rw [h2]; simp), if_neg (by rw [h3]; simp)]
theorem hd_late {x : SC} (h : hdX x = if (rngB x.op && r1B x) = true then 2 else if (rngB x.op && decide (x.hi < x.lo)) = true then 5 else if (nmdB x.op && !nameOk x.nm) = true then 3 else if wrdB x.op = true then txtNo x.tx else 0) (h1 : (rngB x.op && r1B x) = false) (h2 : (rngB x.op && decide (x.hi < x.lo)) = false) : hdX x = if (nmdB x.op && !nameOk x.nm) = true then 3 else if wrdB x.op = true then txtNo x.tx else 0 := by
  rw [h, if_neg (by rw [h1]; simp), if_neg (by rw [h2]; simp)]
set_option maxHeartbeats 3200000 in
theorem one_step (x : SC) (ih : ∀ k ∈ x.kids, OneAt k) : OneAt x := fun w hok => by
  obtain ⟨hs, hq, hb, hn, ht, hk⟩ := hok.parts
  have hl : SlT SC.enc 6 w x.ad x.q x.kids := hs.t
  have hlen := hl.len
  refine enter_args (args := [.agg #[.int .i64 x.op, .slice x.ad x.q x.c, .int .i64 x.lo, .int .i64 x.hi, str x.nm, str x.tx]]) (F := _) Tryd.func18 rfl Tryd.ntmps18 rfl rfl ?_
  intro Rb hRb hRn
  refine T_seq ?_
  refine T_region ?_
  refine S_box 1 1 rfl rfl rfl rfl rfl ?_
  intro b1
  refine S_ 2 rfl rfl rfl _ (y_assign rfl rfl) ?_
  refine S_go (fun _ _ h => h) ?_
  refine T_seq ?_
  refine T_seq ?_
  refine T_region ?_
  refine S_ 9 rfl rfl rfl _ (y_fieldAddr rfl rfl fa24_0) ?_
  refine S_ 10 rfl rfl rfl _ (y_load 1 rfl rfl rfl rfl Tryd.underlying3 rfl) ?_
  refine S_ 11 rfl rfl rfl _ (y_call rfl rfl rfl cf34 (fun _ w _ => fout_any _ _ _ w)) ?_
  refine S_go (fun _ _ h => h) ?_
  refine T_cond rfl (fun h11 => ?_) (fun h11 => ?_)
  · skip
    have hi1 : inB x.op 1 14 = false := by simpa using h11
    have e1 : chX x = 10 := chX_hd (by rw [hd_def, if_pos hi1]) (by decide)
    refine T_seq ?_
    refine T_region ?_
    refine S_ 2 rfl rfl rfl _ (y_assign rfl rfl) ?_
    refine S_go (fun _ _ h => h) ?_
    refine T_ret (fun a w hF hM => hRb a w (post1 rfl rfl (fun w hM => ?_) a w hF hM))
    first | exact ⟨by rw [e1], hM.below⟩ | exact ⟨by rw [hch, ← hp2, hl.end (by omega)]; rfl, hM.below⟩
  · skip
    have hi1 : inB x.op 1 14 = true := by simpa using h11
    refine T_skip_go (fun _ _ h => h) ?_
    refine T_seq ?_
    refine T_seq ?_
    refine T_region ?_
    refine S_ 12 rfl rfl rfl _ (y_fieldAddr rfl rfl fa24_1) ?_
    refine S_ 13 rfl rfl rfl _ (y_load 1 rfl rfl rfl rfl Tryd.underlying22 rfl) ?_
    refine S_ 14 rfl rfl rfl _ (y_len_slice rfl rfl Tryd.underlying22) ?_
    refine S_ 15 rfl rfl rfl _ (y_bin rfl rfl rfl (fun _ => b_gtr)) ?_
    refine S_ 16 rfl rfl rfl _ (y_move rfl rfl) ?_
    refine Sg_ 17 rfl rfl rfl rfl rfl rfl _ (y_fieldAddr rfl rfl fa24_0) ?_
    refine Sg_ 18 rfl rfl rfl rfl rfl rfl _ (y_load 1 rfl rfl rfl rfl Tryd.underlying3 rfl) ?_
    refine Sg_ 19 rfl rfl rfl rfl rfl rfl _ (y_call rfl rfl rfl cf63 (fun _ w _ => groups_any _ w)) ?_
    refine Sg_ 20 rfl rfl rfl rfl rfl rfl _ (y_not rfl rfl) ?_
    refine S_ 21 rfl rfl rfl _ (y_and rfl rfl rfl) ?_
    refine S_ 22 rfl rfl rfl _ (y_move rfl rfl) ?_
    refine Sg_ 23 rfl rfl rfl rfl rfl rfl _ (y_fieldAddr rfl rfl fa24_2) ?_
    refine Sg_ 24 rfl rfl rfl rfl rfl rfl _ (y_load 1 rfl rfl rfl rfl Tryd.underlying3 rfl) ?_
    refine Sg_ 25 rfl rfl rfl rfl rfl rfl _ (y_bin rfl rfl rfl (fun _ => b_neq)) ?_
    refine Sg_ 26 rfl rfl rfl rfl rfl rfl _ (y_move rfl rfl) ?_
    refine Sg_ 27 rfl rfl rfl rfl rfl rfl _ (y_fieldAddr rfl rfl fa24_3) ?_
    refine Sg_ 28 rfl rfl rfl rfl rfl rfl _ (y_load 1 rfl rfl rfl rfl Tryd.underlying3 rfl) ?_
    refine Sg_ 29 rfl rfl rfl rfl rfl rfl _ (y_bin rfl rfl rfl (fun _ => b_neq)) ?_
    refine Sg_ 30 rfl rfl rfl rfl rfl rfl _ (y_or rfl rfl rfl) ?_
    refine Sg_ 31 rfl rfl rfl rfl rfl rfl _ (y_move rfl rfl) ?_
    refine Sg_ 32 rfl rfl rfl rfl rfl rfl _ (y_fieldAddr rfl rfl fa24_0) ?_
    refine Sg_ 33 rfl rfl rfl rfl rfl rfl _ (y_load 1 rfl rfl rfl rfl Tryd.underlying3 rfl) ?_
    refine Sg_ 34 rfl rfl rfl rfl rfl rfl _ (y_call rfl rfl rfl cf64 (fun _ w _ => ranges_any _ w)) ?_
    refine Sg_ 35 rfl rfl rfl rfl rfl rfl _ (y_not rfl rfl) ?_
    refine Sg_ 36 rfl rfl rfl rfl rfl rfl _ (y_and rfl rfl rfl) ?_
    refine S_ 37 rfl rfl rfl _ (y_or rfl rfl rfl) ?_
    refine S_ 38 rfl rfl rfl _ (y_move rfl rfl) ?_
    refine Sg_ 39 rfl rfl rfl rfl rfl rfl _ (y_fieldAddr rfl rfl fa24_4) ?_
    refine Sg_ 40 rfl rfl rfl rfl rfl rfl _ (y_load 1 rfl rfl rfl rfl Tryd.underlying9 rfl) ?_
    refine Sg_ 41 rfl rfl rfl rfl rfl rfl _ (y_bin rfl rfl rfl (fun _ => b_neqs)) ?_
    refine Sg_ 42 rfl rfl rfl rfl rfl rfl _ (y_move rfl rfl) ?_
    refine Sg_ 43 rfl rfl rfl rfl rfl rfl _ (y_fieldAddr rfl rfl fa24_0) ?_
    refine Sg_ 44 rfl rfl rfl rfl rfl rfl _ (y_load 1 rfl rfl rfl rfl Tryd.underlying3 rfl) ?_
    refine Sg_ 45 rfl rfl rfl rfl rfl rfl _ (y_call rfl rfl rfl cf65 (fun _ w _ => named_any _ w)) ?_
    refine Sg_ 46 rfl rfl rfl rfl rfl rfl _ (y_not rfl rfl) ?_
    refine Sg_ 47 rfl rfl rfl rfl rfl rfl _ (y_and rfl rfl rfl) ?_
    refine S_ 48 rfl rfl rfl _ (y_or rfl rfl rfl) ?_
    refine S_ 49 rfl rfl rfl _ (y_move rfl rfl) ?_
    refine Sg_ 50 rfl rfl rfl rfl rfl rfl _ (y_fieldAddr rfl rfl fa24_5) ?_
    refine Sg_ 51 rfl rfl rfl rfl rfl rfl _ (y_load 1 rfl rfl rfl rfl Tryd.underlying9 rfl) ?_
    refine Sg_ 52 rfl rfl rfl rfl rfl rfl _ (y_bin rfl rfl rfl (fun _ => b_neqs)) ?_
    refine Sg_ 53 rfl rfl rfl rfl rfl rfl _ (y_move rfl rfl) ?_
    refine Sg_ 54 rfl rfl rfl rfl rfl rfl _ (y_fieldAddr rfl rfl fa24_0) ?_
    refine Sg_ 55 rfl rfl rfl rfl rfl rfl _ (y_load 1 rfl rfl rfl rfl Tryd.underlying3 rfl) ?_
    refine Sg_ 56 rfl rfl rfl rfl rfl rfl _ (y_call rfl rfl rfl cf66 (fun _ w _ => worded_any _ w)) ?_
    refine Sg_ 57 rfl rfl rfl rfl rfl rfl _ (y_not rfl rfl) ?_
    refine Sg_ 58 rfl rfl rfl rfl rfl rfl _ (y_and rfl rfl rfl) ?_
    refine S_ 59 rfl rfl rfl _ (y_as (v' := .bool (f1B x)) (by simp only [f1B, hlen, Int.natCast_pos]) (y_or rfl rfl rfl)) ?_
    refine S_go (fun _ _ h => h) ?_
    refine T_cond rfl (fun h59 => ?_) (fun h59 => ?_)
    · skip
      have e1 : chX x = 1 := chX_hd (by rw [hd_def, if_neg (by rw [hi1]; simp), if_pos h59]) (by decide)
      refine T_seq ?_
      refine T_region ?_
      refine S_ 2 rfl rfl rfl _ (y_assign rfl rfl) ?_
      refine S_go (fun _ _ h => h) ?_
      refine T_ret (fun a w hF hM => hRb a w (post1 rfl rfl (fun w hM => ?_) a w hF hM))
      first | exact ⟨by rw [e1], hM.below⟩ | exact ⟨by rw [hch, ← hp2, hl.end (by omega)]; rfl, hM.below⟩
    · skip
      refine T_skip_go (fun _ _ h => h) ?_
      refine T_seq ?_
      refine T_seq ?_
      refine T_region ?_
      refine S_ 60 rfl rfl rfl _ (y_fieldAddr rfl rfl fa24_0) ?_
      refine S_ 61 rfl rfl rfl _ (y_load 1 rfl rfl rfl rfl Tryd.underlying3 rfl) ?_
      refine S_ 62 rfl rfl rfl _ (y_bin rfl rfl rfl (fun _ => b_eql)) ?_
      refine S_ 63 rfl rfl rfl _ (y_move rfl rfl) ?_
      refine Sg_ 64 rfl rfl rfl rfl rfl rfl _ (y_fieldAddr rfl rfl fa24_0) ?_
      refine Sg_ 65 rfl rfl rfl rfl rfl rfl _ (y_load 1 rfl rfl rfl rfl Tryd.underlying3 rfl) ?_
      refine Sg_ 66 rfl rfl rfl rfl rfl rfl _ (y_bin rfl rfl rfl (fun _ => b_eql)) ?_
      refine S_ 67 rfl rfl rfl _ (y_or rfl rfl rfl) ?_
      refine S_ 68 rfl rfl rfl _ (y_move rfl rfl) ?_
      refine Sg_ 69 rfl rfl rfl rfl rfl rfl _ (y_fieldAddr rfl rfl fa24_1) ?_
      refine Sg_ 70 rfl rfl rfl rfl rfl rfl _ (y_load 1 rfl rfl rfl rfl Tryd.underlying22 rfl) ?_
      refine Sg_ 71 rfl rfl rfl rfl rfl rfl _ (y_len_slice rfl rfl Tryd.underlying22) ?_
      refine Sg_ 72 rfl rfl rfl rfl rfl rfl _ (y_bin rfl rfl rfl (fun _ => b_lss)) ?_
      refine S_ 73 rfl rfl rfl _ (y_and rfl rfl rfl) ?_
      refine S_ 74 rfl rfl rfl _ (y_move rfl rfl) ?_
      refine Sg_ 75 rfl rfl rfl rfl rfl rfl _ (y_fieldAddr rfl rfl fa24_0) ?_
      refine Sg_ 76 rfl rfl rfl rfl rfl rfl _ (y_load 1 rfl rfl rfl rfl Tryd.underlying3 rfl) ?_
      refine Sg_ 77 rfl rfl rfl rfl rfl rfl _ (y_bin rfl rfl rfl (fun _ => b_eql)) ?_
      refine Sg_ 78 rfl rfl rfl rfl rfl rfl _ (y_move rfl rfl) ?_
      refine Sg_ 79 rfl rfl rfl rfl rfl rfl _ (y_fieldAddr rfl rfl fa24_1) ?_
      refine Sg_ 80 rfl rfl rfl rfl rfl rfl _ (y_load 1 rfl rfl rfl rfl Tryd.underlying22 rfl) ?_
      refine Sg_ 81 rfl rfl rfl rfl rfl rfl _ (y_len_slice rfl rfl Tryd.underlying22) ?_
      refine Sg_ 82 rfl rfl rfl rfl rfl rfl _ (y_bin rfl rfl rfl (fun _ => b_neq)) ?_
      refine Sg_ 83 rfl rfl rfl rfl rfl rfl _ (y_and rfl rfl rfl) ?_
      refine S_ 84 rfl rfl rfl _ (y_as (v' := .bool (f2B x)) (by rw [f2B, hlen, show decide (((x.q : Nat) : Int) < 2) = decide (x.q < 2) from decide_eq_decide.2 (by omega), show decide (((x.q : Nat) : Int) = 1) = decide (x.q = 1) from decide_eq_decide.2 (by omega)]) (y_or rfl rfl rfl)) ?_
      refine S_go (fun _ _ h => h) ?_
      refine T_cond rfl (fun h84 => ?_) (fun h84 => ?_)
      · skip
        have e1 : chX x = 1 := chX_hd (by rw [hd_def, if_neg (by rw [hi1]; simp), if_neg (by rw [h59]; simp), if_pos h84]) (by decide)
        refine T_seq ?_
        refine T_region ?_
        refine S_ 2 rfl rfl rfl _ (y_assign rfl rfl) ?_
        refine S_go (fun _ _ h => h) ?_
        refine T_ret (fun a w hF hM => hRb a w (post1 rfl rfl (fun w hM => ?_) a w hF hM))
        first | exact ⟨by rw [e1], hM.below⟩ | exact ⟨by rw [hch, ← hp2, hl.end (by omega)]; rfl, hM.below⟩
      · skip
        have hre := hd_rest hi1 h59 h84
        refine T_skip_go (fun _ _ h => h) ?_
        refine T_seq ?_
        refine T_seq ?_
        refine T_region ?_
        refine S_ 85 rfl rfl rfl _ (y_fieldAddr rfl rfl fa24_0) ?_
        refine S_ 86 rfl rfl rfl _ (y_load 1 rfl rfl rfl rfl Tryd.underlying3 rfl) ?_
        refine S_ 87 rfl rfl rfl _ (y_call rfl rfl rfl cf64 (fun _ w _ => ranges_any _ w)) ?_
        refine S_go (fun _ _ h => h) ?_
        refine T_cond rfl (fun h87 => ?_) (fun h87 => ?_)
        · skip
          have hr : rngB x.op = true := h87
          refine T_seq ?_
          refine T_region ?_
          refine S_ 3 rfl rfl rfl _ (y_assign rfl rfl) ?_
          refine S_ 4 rfl rfl rfl _ (y_assign rfl rfl) ?_
          refine S_go (fun _ _ h => h) ?_
          refine T_seq ?_
          refine T_seq ?_
          refine T_region ?_
          refine S_ 88 rfl rfl rfl _ (y_fieldAddr rfl rfl fa24_0) ?_
          refine S_ 89 rfl rfl rfl _ (y_load 1 rfl rfl rfl rfl Tryd.underlying3 rfl) ?_
          refine S_go (fun _ _ h => h) ?_
          refine T_block ?_
          refine T_seq ?_
          refine T_region ?_
          refine S_ 91 rfl rfl rfl _ (y_bin rfl rfl rfl (fun _ => b_eql)) ?_
          refine S_ 90 rfl rfl rfl _ (y_assign rfl rfl) ?_
          refine S_go (fun _ _ h => h) ?_
          refine T_cond rfl (fun h90 => ?_) (fun h90 => ?_)
          · skip
            have hk5 : x.op = 5 := by simpa using h90
            refine T_region ?_
            refine S_ 3 rfl rfl rfl _ (y_assign rfl rfl) ?_
            refine S_ 4 rfl rfl rfl _ (y_assign rfl rfl) ?_
            refine S_go (fun _ _ h => h) ?_
            refine T_seq ?_
            refine T_seq ?_
            refine T_region ?_
            refine S_ 94 rfl rfl rfl _ (y_fieldAddr rfl rfl fa24_2) ?_
            refine S_ 95 rfl rfl rfl _ (y_load 1 rfl rfl rfl rfl Tryd.underlying3 rfl) ?_
            refine S_ 96 rfl rfl rfl _ (y_move rfl rfl) ?_
            refine S_ 97 rfl rfl rfl _ (y_move rfl rfl) ?_
            refine S_ 98 rfl rfl rfl _ (y_call rfl rfl rfl cf34 (fun _ w _ => fout_any _ _ _ w)) ?_
            refine S_ 99 rfl rfl rfl _ (y_move rfl rfl) ?_
            refine Sg_ 100 rfl rfl rfl rfl rfl rfl _ (y_fieldAddr rfl rfl fa24_3) ?_
            refine Sg_ 101 rfl rfl rfl rfl rfl rfl _ (y_load 1 rfl rfl rfl rfl Tryd.underlying3 rfl) ?_
            refine Sg_ 102 rfl rfl rfl rfl rfl rfl _ (y_move rfl rfl) ?_
            refine Sg_ 103 rfl rfl rfl rfl rfl rfl _ (y_move rfl rfl) ?_
            refine Sg_ 104 rfl rfl rfl rfl rfl rfl _ (y_call rfl rfl rfl cf34 (fun _ w _ => fout_any _ _ _ w)) ?_
            refine S_ 105 rfl rfl rfl _ (y_as (v' := .bool (r1B x)) (by rw [r1B, loR, hiR, if_pos hk5, if_pos hk5]) (y_or rfl rfl rfl)) ?_
            refine S_go (fun _ _ h => h) ?_
            refine T_cond rfl (fun h105 => ?_) (fun h105 => ?_)
            · skip
              have e1 : chX x = 2 := chX_hd (by rw [hre, if_pos (by rw [hr, h105]; rfl)]) (by decide)
              refine T_seq ?_
              refine T_region ?_
              refine S_ 2 rfl rfl rfl _ (y_assign rfl rfl) ?_
              refine S_go (fun _ _ h => h) ?_
              refine T_ret (fun a w hF hM => hRb a w (post1 rfl rfl (fun w hM => ?_) a w hF hM))
              first | exact ⟨by rw [e1], hM.below⟩ | exact ⟨by rw [hch, ← hp2, hl.end (by omega)]; rfl, hM.below⟩
            · skip
              refine T_skip_go (fun _ _ h => h) ?_
              refine T_seq ?_
              refine T_region ?_
              refine S_ 106 rfl rfl rfl _ (y_fieldAddr rfl rfl fa24_3) ?_
              refine S_ 107 rfl rfl rfl _ (y_load 1 rfl rfl rfl rfl Tryd.underlying3 rfl) ?_
              refine S_ 108 rfl rfl rfl _ (y_fieldAddr rfl rfl fa24_2) ?_
              refine S_ 109 rfl rfl rfl _ (y_load 1 rfl rfl rfl rfl Tryd.underlying3 rfl) ?_
              refine S_ 110 rfl rfl rfl _ (y_bin rfl rfl rfl (fun _ => b_lss)) ?_
              refine S_go (fun _ _ h => h) ?_
              refine T_cond rfl (fun h110 => ?_) (fun h110 => ?_)
              · skip
                have e1 : chX x = 5 := chX_hd (by rw [hre, if_neg (by rw [hr, h105]; simp), if_pos (by rw [hr, h110]; rfl)]) (by decide)
                refine T_seq ?_
                refine T_region ?_
                refine S_ 2 rfl rfl rfl _ (y_assign rfl rfl) ?_
                refine S_go (fun _ _ h => h) ?_
                refine T_ret (fun a w hF hM => hRb a w (post1 rfl rfl (fun w hM => ?_) a w hF hM))
                first | exact ⟨by rw [e1], hM.below⟩ | exact ⟨by rw [hch, ← hp2, hl.end (by omega)]; rfl, hM.below⟩
              · skip
                have hla := hd_late hre (by rw [hr, h105]; rfl) (by rw [hr, h110]; rfl)
                refine T_skip_go (fun _ _ h => h) ?_
                refine T_seq ?_
                refine T_seq ?_
                refine T_region ?_
                refine S_ 111 rfl rfl rfl _ (y_fieldAddr rfl rfl fa24_0) ?_
                refine S_ 112 rfl rfl rfl _ (y_load 1 rfl rfl rfl rfl Tryd.underlying3 rfl) ?_
                refine S_ 113 rfl rfl rfl _ (y_call rfl rfl rfl cf65 (fun _ w _ => named_any _ w)) ?_
                refine S_ 114 rfl rfl rfl _ (y_move rfl rfl) ?_
                refine Sg_ 115 rfl rfl rfl rfl rfl rfl _ (y_fieldAddr rfl rfl fa24_4) ?_
                refine Sg_ 116 rfl rfl rfl rfl rfl rfl _ (y_load 1 rfl rfl rfl rfl Tryd.underlying9 rfl) ?_
                refine Sg_ 117 rfl rfl rfl rfl rfl rfl _ (y_call rfl rfl rfl cf23 (fun _ w _ => IsName_any _ w)) ?_
                refine Sg_ 118 rfl rfl rfl rfl rfl rfl _ (y_not rfl rfl) ?_
                refine S_ 119 rfl rfl rfl _ (y_and rfl rfl rfl) ?_
                refine S_go (fun _ _ h => h) ?_
                refine T_cond rfl (fun h119 => ?_) (fun h119 => ?_)
                · skip
                  have e1 : chX x = 3 := chX_hd (by rw [hla, if_pos h119]) (by decide)
                  refine T_seq ?_
                  refine T_region ?_
                  refine S_ 2 rfl rfl rfl _ (y_assign rfl rfl) ?_
                  refine S_go (fun _ _ h => h) ?_
                  refine T_ret (fun a w hF hM => hRb a w (post1 rfl rfl (fun w hM => ?_) a w hF hM))
                  first | exact ⟨by rw [e1], hM.below⟩ | exact ⟨by rw [hch, ← hp2, hl.end (by omega)]; rfl, hM.below⟩
                · skip
                  rw [if_neg (by rw [h119]; simp)] at hla
                  refine T_skip_go (fun _ _ h => h) ?_
                  refine T_seq ?_
                  refine T_seq ?_
                  refine T_region ?_
                  refine S_ 120 rfl rfl rfl _ (y_fieldAddr rfl rfl fa24_0) ?_
                  refine S_ 121 rfl rfl rfl _ (y_load 1 rfl rfl rfl rfl Tryd.underlying3 rfl) ?_
                  refine S_ 122 rfl rfl rfl _ (y_call rfl rfl rfl cf66 (fun _ w _ => worded_any _ w)) ?_
                  refine S_go (fun _ _ h => h) ?_
                  refine T_cond rfl (fun h122 => ?_) (fun h122 => ?_)
                  · skip
                    have hw : wrdB x.op = true := h122
                    rw [if_pos hw] at hla
                    refine T_seq ?_
                    refine T_region ?_
                    refine S_ 123 rfl rfl rfl _ (y_fieldAddr rfl rfl fa24_5) ?_
                    refine S_ 124 rfl rfl rfl _ (y_load 1 rfl rfl rfl rfl Tryd.underlying9 rfl) ?_
                    refine S_ 125 rfl rfl rfl _ (y_call rfl rfl rfl cf67 (fun _ w _ => checkText_any _ w)) ?_
                    refine S_ 5 rfl rfl rfl _ (y_assign rfl rfl) ?_
                    refine S_go (fun _ _ h => h) ?_
                    refine T_seq ?_
                    refine T_region ?_
                    refine S_ 126 rfl rfl rfl _ (y_move rfl rfl) ?_
                    refine S_ 127 rfl rfl rfl _ (y_bin rfl rfl rfl (fun _ => b_neq)) ?_
                    refine S_go (fun _ _ h => h) ?_
                    refine T_cond rfl (fun h127 => ?_) (fun h127 => ?_)
                    · skip
                      have hn0 : txtNo x.tx ≠ 0 := by simpa using h127
                      have e1 : chX x = txtNo x.tx := chX_hd hla hn0
                      refine T_seq ?_
                      refine T_region ?_
                      refine S_ 128 rfl rfl rfl _ (y_move rfl rfl) ?_
                      refine S_ 2 rfl rfl rfl _ (y_assign rfl rfl) ?_
                      refine S_go (fun _ _ h => h) ?_
                      refine T_ret (fun a w hF hM => hRb a w (post1 rfl rfl (fun w hM => ?_) a w hF hM))
                      first | exact ⟨by rw [e1], hM.below⟩ | exact ⟨by rw [hch, ← hp2, hl.end (by omega)]; rfl, hM.below⟩
                    · skip
                      have hn0 : txtNo x.tx = 0 := by simpa using h127
                      have hch := chX_kids (hla.trans hn0)
                      refine T_skip_go (fun _ _ h => h) ?_
                      refine T_seq ?_
                      refine T_seq ?_
                      refine T_region ?_
                      refine S_ 129 rfl rfl rfl _ (y_fieldAddr rfl rfl fa24_1) ?_
                      refine S_ 130 rfl rfl rfl _ (y_load 1 rfl rfl rfl rfl Tryd.underlying22 rfl) ?_
                      refine S_ 131 rfl rfl rfl _ (y_len_slice rfl rfl Tryd.underlying22) ?_
                      refine S_ 132 rfl rfl rfl _ (y_move rfl rfl) ?_
                      refine S_go (fun _ _ h => h) ?_
                      refine T_block ?_
                      refine T_loopK1 (kf := [(2, 2), (7, 8), (132, 141)]) (kl := [(2, 2), (7, 8), (132, 141)]) (fun (i : Nat) => [(132, true, .int .i64 (i : Int))]) (fun (i : Nat) => []) (fun (i : Nat) => i ≤ x.q ∧ chkL (chdNo txtNo nameOk) ((x.kids.drop i).map SC.says) = chkL (chdNo txtNo nameOk) (x.kids.map SC.says)) (fun (i : Nat) => x.q - i) 0 (by repeat (first | exact kf_nil | (apply kf_in; focus rfl) | (apply kf_out; focus rfl))) (by repeat (first | exact kl_nil | exact kl_rest (by assumption) rfl | (apply kl_in; focus rfl) | (apply kl_out; focus rfl))) ?_ ?_ ?_ ?_
                      · exact ⟨by omega, rfl⟩
                      · exact ⟨rfl, trivial⟩
                      · exact trivial
                      rintro i ⟨hp1, hp2⟩
                      refine T_seq ?_
                      refine T_region ?_
                      refine S_ 133 rfl rfl rfl _ (y_bin rfl rfl rfl (fun _ => b_lss)) ?_
                      refine S_go (fun _ _ h => h) ?_
                      refine T_seq ?_
                      refine T_cond rfl (fun h133 => ?_) (fun h133 => ?_)
                      · try simp only [decide_eq_true_eq, decide_eq_false_iff_not, Bool.or_eq_true, Bool.or_eq_false_iff, Bool.and_eq_true, Bool.and_eq_false_iff, Bool.not_eq_true', Bool.not_eq_false', Bool.not_eq_true, Bool.not_eq_false, Bool.not_true, Bool.not_false, Int.not_lt, Int.not_le, not_or, not_and, Classical.not_not] at h133
                        obtain ⟨k, hx1, hx2⟩ := hl.at (i := i) (by omega)
                        rw [hx2, List.map_cons, chkL] at hp2
                        refine T_skip_go (fun _ _ h => h) ?_
                        refine T_seq ?_
                        refine T_block ?_
                        refine T_seq ?_
                        refine T_region ?_
                        refine S_ 134 rfl rfl rfl _ (y_indexAddr rfl rfl rfl Tryd.underlying22 sz24 (fun hg => hl.isSome (by omega)) (fun _ => by omega)) ?_
                        refine S_ 135 rfl rfl rfl _ (y_loadT rfl rfl hl (fun _ => rfl) (fun _ => hx1) Tryd.underlying24 rfl sz24) ?_
                        refine S_alloc 7 7 rfl rfl rfl rfl z24 ?_
                        intro b7
                        refine S_store 7 rfl rfl rfl rfl rfl rfl sz24 rfl rfl ?_
                        refine S_go (fun _ _ h => h) ?_
                        refine T_seq ?_
                        refine T_region ?_
                        refine S_ 136 rfl rfl rfl _ (y_loadA 7 rfl rfl rfl Tryd.underlying24 rfl sz24) ?_
                        refine S_ 137 rfl rfl rfl _ (y_call rfl rfl rfl cf18 (fun _ w1 hM => ih k (mem_at hx1) w1 ((hk k (mem_at hx1)).lift hM.below))) ?_
                        refine S_ 8 rfl rfl rfl _ (y_assign rfl rfl) ?_
                        refine S_go (fun _ _ h => h) ?_
                        refine T_seq ?_
                        refine T_region ?_
                        refine S_ 138 rfl rfl rfl _ (y_move rfl rfl) ?_
                        refine S_ 139 rfl rfl rfl _ (y_bin rfl rfl rfl (fun _ => b_neq)) ?_
                        refine S_go (fun _ _ h => h) ?_
                        refine T_cond rfl (fun h139 => ?_) (fun h139 => ?_)
                        · skip
                          have hn1 : chX k ≠ 0 := by simpa using h139
                          rw [if_pos hn1] at hp2
                          have e1 : chX x = chX k := by rw [hch, ← hp2]
                          refine T_seq ?_
                          refine T_region ?_
                          refine S_ 140 rfl rfl rfl _ (y_move rfl rfl) ?_
                          refine S_ 2 rfl rfl rfl _ (y_assign rfl rfl) ?_
                          refine S_go (fun _ _ h => h) ?_
                          refine T_ret (fun a w hF hM => hRb a w (post1 rfl rfl (fun w hM => ?_) a w hF hM))
                          first | exact ⟨by rw [e1], hM.below⟩ | exact ⟨by rw [hch, ← hp2, hl.end (by omega)]; rfl, hM.below⟩
                        · skip
                          have hn1 : chX k = 0 := by simpa using h139
                          rw [if_neg (by rw [show chkP (chdNo txtNo nameOk) k.says = chX k from rfl, hn1]; simp)] at hp2
                          refine T_skip_go (fun _ _ h => h) ?_
                          refine T_region ?_
                          refine S_ 141 rfl rfl rfl _ (y_bin rfl rfl rfl (fun hg => b_add (by omega))) ?_
                          refine S_ 132 rfl rfl rfl _ (y_move rfl rfl) ?_
                          refine S_nil (nextK1 (kf := [(2, 2), (7, 8), (132, 141)]) (kl := [(2, 2), (7, 8), (132, 141)]) (i + 1) (by repeat (first | exact kf_nil | (apply kf_in; focus rfl) | (apply kf_out; focus rfl))) (by repeat (first | exact kl_nil | exact kl_rest (by assumption) rfl | (apply kl_in; focus rfl) | (apply kl_out; focus rfl))) ?_ ?_ ?_ ?_)
                          · omega
                          · exact ⟨by omega, hp2⟩
                          · exact ⟨rfl, trivial⟩
                          · exact trivial
                      · try simp only [decide_eq_true_eq, decide_eq_false_iff_not, Bool.or_eq_true, Bool.or_eq_false_iff, Bool.and_eq_true, Bool.and_eq_false_iff, Bool.not_eq_true', Bool.not_eq_false', Bool.not_eq_true, Bool.not_eq_false, Bool.not_true, Bool.not_false, Int.not_lt, Int.not_le, not_or, not_and, Classical.not_not] at h133
                        refine T_exit_go (fun _ _ h => h) ?_
                        refine T_seq ?_
                        refine T_region ?_
                        refine S_ 2 rfl rfl rfl _ (y_assign rfl rfl) ?_
                        refine S_go (fun _ _ h => h) ?_
                        refine T_ret (fun a w hF hM => hRb a w (post1 rfl rfl (fun w hM => ?_) a w hF hM))
                        first | exact ⟨by rw [e1], hM.below⟩ | exact ⟨by rw [hch, ← hp2, hl.end (by omega)]; rfl, hM.below⟩
                  · skip
                    have hw : wrdB x.op = false := h122
                    rw [if_neg (by rw [hw]; simp)] at hla
                    have hch := chX_kids hla
                    refine T_skip_go (fun _ _ h => h) ?_
                    refine T_seq ?_
                    refine T_seq ?_
                    refine T_region ?_
                    refine S_ 129 rfl rfl rfl _ (y_fieldAddr rfl rfl fa24_1) ?_
                    refine S_ 130 rfl rfl rfl _ (y_load 1 rfl rfl rfl rfl Tryd.underlying22 rfl) ?_
                    refine S_ 131 rfl rfl rfl _ (y_len_slice rfl rfl Tryd.underlying22) ?_
                    refine S_ 132 rfl rfl rfl _ (y_move rfl rfl) ?_
                    refine S_go (fun _ _ h => h) ?_
                    refine T_block ?_
                    refine T_loopK1 (kf := [(2, 2), (7, 8), (132, 141)]) (kl := [(2, 2), (7, 8), (132, 141)]) (fun (i : Nat) => [(132, true, .int .i64 (i : Int))]) (fun (i : Nat) => []) (fun (i : Nat) => i ≤ x.q ∧ chkL (chdNo txtNo nameOk) ((x.kids.drop i).map SC.says) = chkL (chdNo txtNo nameOk) (x.kids.map SC.says)) (fun (i : Nat) => x.q - i) 0 (by repeat (first | exact kf_nil | (apply kf_in; focus rfl) | (apply kf_out; focus rfl))) (by repeat (first | exact kl_nil | exact kl_rest (by assumption) rfl | (apply kl_in; focus rfl) | (apply kl_out; focus rfl))) ?_ ?_ ?_ ?_
                    · exact ⟨by omega, rfl⟩
                    · exact ⟨rfl, trivial⟩
                    · exact trivial
                    rintro i ⟨hp1, hp2⟩
                    refine T_seq ?_
                    refine T_region ?_
                    refine S_ 133 rfl rfl rfl _ (y_bin rfl rfl rfl (fun _ => b_lss)) ?_
                    refine S_go (fun _ _ h => h) ?_
                    refine T_seq ?_
                    refine T_cond rfl (fun h133 => ?_) (fun h133 => ?_)
                    · try simp only [decide_eq_true_eq, decide_eq_false_iff_not, Bool.or_eq_true, Bool.or_eq_false_iff, Bool.and_eq_true, Bool.and_eq_false_iff, Bool.not_eq_true', Bool.not_eq_false', Bool.not_eq_true, Bool.not_eq_false, Bool.not_true, Bool.not_false, Int.not_lt, Int.not_le, not_or, not_and, Classical.not_not] at h133
                      obtain ⟨k, hx1, hx2⟩ := hl.at (i := i) (by omega)
                      rw [hx2, List.map_cons, chkL] at hp2
                      refine T_skip_go (fun _ _ h => h) ?_
                      refine T_seq ?_
                      refine T_block ?_
                      refine T_seq ?_
                      refine T_region ?_
                      refine S_ 134 rfl rfl rfl _ (y_indexAddr rfl rfl rfl Tryd.underlying22 sz24 (fun hg => hl.isSome (by omega)) (fun _ => by omega)) ?_
                      refine S_ 135 rfl rfl rfl _ (y_loadT rfl rfl hl (fun _ => rfl) (fun _ => hx1) Tryd.underlying24 rfl sz24) ?_
                      refine S_alloc 7 7 rfl rfl rfl rfl z24 ?_
                      intro b7
                      refine S_store 7 rfl rfl rfl rfl rfl rfl sz24 rfl rfl ?_
                      refine S_go (fun _ _ h => h) ?_
                      refine T_seq ?_
                      refine T_region ?_
                      refine S_ 136 rfl rfl rfl _ (y_loadA 7 rfl rfl rfl Tryd.underlying24 rfl sz24) ?_
                      refine S_ 137 rfl rfl rfl _ (y_call rfl rfl rfl cf18 (fun _ w1 hM => ih k (mem_at hx1) w1 ((hk k (mem_at hx1)).lift hM.below))) ?_
                      refine S_ 8 rfl rfl rfl _ (y_assign rfl rfl) ?_
                      refine S_go (fun _ _ h => h) ?_
                      refine T_seq ?_
                      refine T_region ?_
                      refine S_ 138 rfl rfl rfl _ (y_move rfl rfl) ?_
                      refine S_ 139 rfl rfl rfl _ (y_bin rfl rfl rfl (fun _ => b_neq)) ?_
                      refine S_go (fun _ _ h => h) ?_
                      refine T_cond rfl (fun h139 => ?_) (fun h139 => ?_)
                      · skip
                        have hn1 : chX k ≠ 0 := by simpa using h139
                        rw [if_pos hn1] at hp2
                        have e1 : chX x = chX k := by rw [hch, ← hp2]
                        refine T_seq ?_
                        refine T_region ?_
                        refine S_ 140 rfl rfl rfl _ (y_move rfl rfl) ?_
                        refine S_ 2 rfl rfl rfl _ (y_assign rfl rfl) ?_
                        refine S_go (fun _ _ h => h) ?_
                        refine T_ret (fun a w hF hM => hRb a w (post1 rfl rfl (fun w hM => ?_) a w hF hM))
                        first | exact ⟨by rw [e1], hM.below⟩ | exact ⟨by rw [hch, ← hp2, hl.end (by omega)]; rfl, hM.below⟩
                      · skip
                        have hn1 : chX k = 0 := by simpa using h139
                        rw [if_neg (by rw [show chkP (chdNo txtNo nameOk) k.says = chX k from rfl, hn1]; simp)] at hp2
                        refine T_skip_go (fun _ _ h => h) ?_
                        refine T_region ?_
                        refine S_ 141 rfl rfl rfl _ (y_bin rfl rfl rfl (fun hg => b_add (by omega))) ?_
                        refine S_ 132 rfl rfl rfl _ (y_move rfl rfl) ?_
                        refine S_nil (nextK1 (kf := [(2, 2), (7, 8), (132, 141)]) (kl := [(2, 2), (7, 8), (132, 141)]) (i + 1) (by repeat (first | exact kf_nil | (apply kf_in; focus rfl) | (apply kf_out; focus rfl))) (by repeat (first | exact kl_nil | exact kl_rest (by assumption) rfl | (apply kl_in; focus rfl) | (apply kl_out; focus rfl))) ?_ ?_ ?_ ?_)
                        · omega
                        · exact ⟨by omega, hp2⟩
                        · exact ⟨rfl, trivial⟩
                        · exact trivial
                    · try simp only [decide_eq_true_eq, decide_eq_false_iff_not, Bool.or_eq_true, Bool.or_eq_false_iff, Bool.and_eq_true, Bool.and_eq_false_iff, Bool.not_eq_true', Bool.not_eq_false', Bool.not_eq_true, Bool.not_eq_false, Bool.not_true, Bool.not_false, Int.not_lt, Int.not_le, not_or, not_and, Classical.not_not] at h133
                      refine T_exit_go (fun _ _ h => h) ?_
                      refine T_seq ?_
                      refine T_region ?_
                      refine S_ 2 rfl rfl rfl _ (y_assign rfl rfl) ?_
                      refine S_go (fun _ _ h => h) ?_
                      refine T_ret (fun a w hF hM => hRb a w (post1 rfl rfl (fun w hM => ?_) a w hF hM))
                      first | exact ⟨by rw [e1], hM.below⟩ | exact ⟨by rw [hch, ← hp2, hl.end (by omega)]; rfl, hM.below⟩
          · skip
            have hk5 : ¬ x.op = 5 := by simpa using h90
            refine T_seq ?_
            refine T_region ?_
            refine S_ 93 rfl rfl rfl _ (y_bin rfl rfl rfl (fun _ => b_eql)) ?_
            refine S_ 92 rfl rfl rfl _ (y_assign rfl rfl) ?_
            refine S_go (fun _ _ h => h) ?_
            refine T_cond rfl (fun h92 => ?_) (fun h92 => ?_)
            · skip
              have hk6 : x.op = 6 := by simpa using h92
              refine T_region ?_
              refine S_ 4 rfl rfl rfl _ (y_assign rfl rfl) ?_
              refine S_go (fun _ _ h => h) ?_
              refine T_seq ?_
              refine T_seq ?_
              refine T_region ?_
              refine S_ 94 rfl rfl rfl _ (y_fieldAddr rfl rfl fa24_2) ?_
              refine S_ 95 rfl rfl rfl _ (y_load 1 rfl rfl rfl rfl Tryd.underlying3 rfl) ?_
              refine S_ 96 rfl rfl rfl _ (y_move rfl rfl) ?_
              refine S_ 97 rfl rfl rfl _ (y_move rfl rfl) ?_
              refine S_ 98 rfl rfl rfl _ (y_call rfl rfl rfl cf34 (fun _ w _ => fout_any _ _ _ w)) ?_
              refine S_ 99 rfl rfl rfl _ (y_move rfl rfl) ?_
              refine Sg_ 100 rfl rfl rfl rfl rfl rfl _ (y_fieldAddr rfl rfl fa24_3) ?_
              refine Sg_ 101 rfl rfl rfl rfl rfl rfl _ (y_load 1 rfl rfl rfl rfl Tryd.underlying3 rfl) ?_
              refine Sg_ 102 rfl rfl rfl rfl rfl rfl _ (y_move rfl rfl) ?_
              refine Sg_ 103 rfl rfl rfl rfl rfl rfl _ (y_move rfl rfl) ?_
              refine Sg_ 104 rfl rfl rfl rfl rfl rfl _ (y_call rfl rfl rfl cf34 (fun _ w _ => fout_any _ _ _ w)) ?_
              refine S_ 105 rfl rfl rfl _ (y_as (v' := .bool (r1B x)) (by rw [r1B, loR, hiR, if_neg hk5, if_neg hk5, if_pos hk6]) (y_or rfl rfl rfl)) ?_
              refine S_go (fun _ _ h => h) ?_
              refine T_cond rfl (fun h105 => ?_) (fun h105 => ?_)
              · skip
                have e1 : chX x = 2 := chX_hd (by rw [hre, if_pos (by rw [hr, h105]; rfl)]) (by decide)
                refine T_seq ?_
                refine T_region ?_
                refine S_ 2 rfl rfl rfl _ (y_assign rfl rfl) ?_
                refine S_go (fun _ _ h => h) ?_
                refine T_ret (fun a w hF hM => hRb a w (post1 rfl rfl (fun w hM => ?_) a w hF hM))
                first | exact ⟨by rw [e1], hM.below⟩ | exact ⟨by rw [hch, ← hp2, hl.end (by omega)]; rfl, hM.below⟩
              · skip
                refine T_skip_go (fun _ _ h => h) ?_
                refine T_seq ?_
                refine T_region ?_
                refine S_ 106 rfl rfl rfl _ (y_fieldAddr rfl rfl fa24_3) ?_
                refine S_ 107 rfl rfl rfl _ (y_load 1 rfl rfl rfl rfl Tryd.underlying3 rfl) ?_
                refine S_ 108 rfl rfl rfl _ (y_fieldAddr rfl rfl fa24_2) ?_
                refine S_ 109 rfl rfl rfl _ (y_load 1 rfl rfl rfl rfl Tryd.underlying3 rfl) ?_
                refine S_ 110 rfl rfl rfl _ (y_bin rfl rfl rfl (fun _ => b_lss)) ?_
                refine S_go (fun _ _ h => h) ?_
                refine T_cond rfl (fun h110 => ?_) (fun h110 => ?_)
                · skip
                  have e1 : chX x = 5 := chX_hd (by rw [hre, if_neg (by rw [hr, h105]; simp), if_pos (by rw [hr, h110]; rfl)]) (by decide)
                  refine T_seq ?_
                  refine T_region ?_
                  refine S_ 2 rfl rfl rfl _ (y_assign rfl rfl) ?_
                  refine S_go (fun _ _ h => h) ?_
                  refine T_ret (fun a w hF hM => hRb a w (post1 rfl rfl (fun w hM => ?_) a w hF hM))
                  first | exact ⟨by rw [e1], hM.below⟩ | exact ⟨by rw [hch, ← hp2, hl.end (by omega)]; rfl, hM.below⟩
                · skip
                  have hla := hd_late hre (by rw [hr, h105]; rfl) (by rw [hr, h110]; rfl)
                  refine T_skip_go (fun _ _ h => h) ?_
                  refine T_seq ?_
                  refine T_seq ?_
                  refine T_region ?_
                  refine S_ 111 rfl rfl rfl _ (y_fieldAddr rfl rfl fa24_0) ?_
                  refine S_ 112 rfl rfl rfl _ (y_load 1 rfl rfl rfl rfl Tryd.underlying3 rfl) ?_
                  refine S_ 113 rfl rfl rfl _ (y_call rfl rfl rfl cf65 (fun _ w _ => named_any _ w)) ?_
                  refine S_ 114 rfl rfl rfl _ (y_move rfl rfl) ?_
                  refine Sg_ 115 rfl rfl rfl rfl rfl rfl _ (y_fieldAddr rfl rfl fa24_4) ?_
                  refine Sg_ 116 rfl rfl rfl rfl rfl rfl _ (y_load 1 rfl rfl rfl rfl Tryd.underlying9 rfl) ?_
                  refine Sg_ 117 rfl rfl rfl rfl rfl rfl _ (y_call rfl rfl rfl cf23 (fun _ w _ => IsName_any _ w)) ?_
                  refine Sg_ 118 rfl rfl rfl rfl rfl rfl _ (y_not rfl rfl) ?_
                  refine S_ 119 rfl rfl rfl _ (y_and rfl rfl rfl) ?_
                  refine S_go (fun _ _ h => h) ?_
                  refine T_cond rfl (fun h119 => ?_) (fun h119 => ?_)
                  · skip
                    have e1 : chX x = 3 := chX_hd (by rw [hla, if_pos h119]) (by decide)
                    refine T_seq ?_
                    refine T_region ?_
                    refine S_ 2 rfl rfl rfl _ (y_assign rfl rfl) ?_
                    refine S_go (fun _ _ h => h) ?_
                    refine T_ret (fun a w hF hM => hRb a w (post1 rfl rfl (fun w hM => ?_) a w hF hM))
                    first | exact ⟨by rw [e1], hM.below⟩ | exact ⟨by rw [hch, ← hp2, hl.end (by omega)]; rfl, hM.below⟩
                  · skip
                    rw [if_neg (by rw [h119]; simp)] at hla
                    refine T_skip_go (fun _ _ h => h) ?_
                    refine T_seq ?_
                    refine T_seq ?_
                    refine T_region ?_
                    refine S_ 120 rfl rfl rfl _ (y_fieldAddr rfl rfl fa24_0) ?_
                    refine S_ 121 rfl rfl rfl _ (y_load 1 rfl rfl rfl rfl Tryd.underlying3 rfl) ?_
                    refine S_ 122 rfl rfl rfl _ (y_call rfl rfl rfl cf66 (fun _ w _ => worded_any _ w)) ?_
                    refine S_go (fun _ _ h => h) ?_
                    refine T_cond rfl (fun h122 => ?_) (fun h122 => ?_)
                    · skip
                      have hw : wrdB x.op = true := h122
                      rw [if_pos hw] at hla
                      refine T_seq ?_
                      refine T_region ?_
                      refine S_ 123 rfl rfl rfl _ (y_fieldAddr rfl rfl fa24_5) ?_
                      refine S_ 124 rfl rfl rfl _ (y_load 1 rfl rfl rfl rfl Tryd.underlying9 rfl) ?_
                      refine S_ 125 rfl rfl rfl _ (y_call rfl rfl rfl cf67 (fun _ w _ => checkText_any _ w)) ?_
                      refine S_ 5 rfl rfl rfl _ (y_assign rfl rfl) ?_
                      refine S_go (fun _ _ h => h) ?_
                      refine T_seq ?_
                      refine T_region ?_
                      refine S_ 126 rfl rfl rfl _ (y_move rfl rfl) ?_
                      refine S_ 127 rfl rfl rfl _ (y_bin rfl rfl rfl (fun _ => b_neq)) ?_
                      refine S_go (fun _ _ h => h) ?_
                      refine T_cond rfl (fun h127 => ?_) (fun h127 => ?_)
                      · skip
                        have hn0 : txtNo x.tx ≠ 0 := by simpa using h127
                        have e1 : chX x = txtNo x.tx := chX_hd hla hn0
                        refine T_seq ?_
                        refine T_region ?_
                        refine S_ 128 rfl rfl rfl _ (y_move rfl rfl) ?_
                        refine S_ 2 rfl rfl rfl _ (y_assign rfl rfl) ?_
                        refine S_go (fun _ _ h => h) ?_
                        refine T_ret (fun a w hF hM => hRb a w (post1 rfl rfl (fun w hM => ?_) a w hF hM))
                        first | exact ⟨by rw [e1], hM.below⟩ | exact ⟨by rw [hch, ← hp2, hl.end (by omega)]; rfl, hM.below⟩
                      · skip
                        have hn0 : txtNo x.tx = 0 := by simpa using h127
                        have hch := chX_kids (hla.trans hn0)
                        refine T_skip_go (fun _ _ h => h) ?_
                        refine T_seq ?_
                        refine T_seq ?_
                        refine T_region ?_
                        refine S_ 129 rfl rfl rfl _ (y_fieldAddr rfl rfl fa24_1) ?_
                        refine S_ 130 rfl rfl rfl _ (y_load 1 rfl rfl rfl rfl Tryd.underlying22 rfl) ?_
                        refine S_ 131 rfl rfl rfl _ (y_len_slice rfl rfl Tryd.underlying22) ?_
                        refine S_ 132 rfl rfl rfl _ (y_move rfl rfl) ?_
                        refine S_go (fun _ _ h => h) ?_
                        refine T_block ?_
                        refine T_loopK1 (kf := [(2, 2), (7, 8), (132, 141)]) (kl := [(2, 2), (7, 8), (132, 141)]) (fun (i : Nat) => [(132, true, .int .i64 (i : Int))]) (fun (i : Nat) => []) (fun (i : Nat) => i ≤ x.q ∧ chkL (chdNo txtNo nameOk) ((x.kids.drop i).map SC.says) = chkL (chdNo txtNo nameOk) (x.kids.map SC.says)) (fun (i : Nat) => x.q - i) 0 (by repeat (first | exact kf_nil | (apply kf_in; focus rfl) | (apply kf_out; focus rfl))) (by repeat (first | exact kl_nil | exact kl_rest (by assumption) rfl | (apply kl_in; focus rfl) | (apply kl_out; focus rfl))) ?_ ?_ ?_ ?_
                        · exact ⟨by omega, rfl⟩
                        · exact ⟨rfl, trivial⟩
                        · exact trivial
                        rintro i ⟨hp1, hp2⟩
                        refine T_seq ?_
                        refine T_region ?_
                        refine S_ 133 rfl rfl rfl _ (y_bin rfl rfl rfl (fun _ => b_lss)) ?_
                        refine S_go (fun _ _ h => h) ?_
                        refine T_seq ?_
                        refine T_cond rfl (fun h133 => ?_) (fun h133 => ?_)
                        · try simp only [decide_eq_true_eq, decide_eq_false_iff_not, Bool.or_eq_true, Bool.or_eq_false_iff, Bool.and_eq_true, Bool.and_eq_false_iff, Bool.not_eq_true', Bool.not_eq_false', Bool.not_eq_true, Bool.not_eq_false, Bool.not_true, Bool.not_false, Int.not_lt, Int.not_le, not_or, not_and, Classical.not_not] at h133
                          obtain ⟨k, hx1, hx2⟩ := hl.at (i := i) (by omega)
                          rw [hx2, List.map_cons, chkL] at hp2
                          refine T_skip_go (fun _ _ h => h) ?_
                          refine T_seq ?_
                          refine T_block ?_
                          refine T_seq ?_
                          refine T_region ?_
                          refine S_ 134 rfl rfl rfl _ (y_indexAddr rfl rfl rfl Tryd.underlying22 sz24 (fun hg => hl.isSome (by omega)) (fun _ => by omega)) ?_
                          refine S_ 135 rfl rfl rfl _ (y_loadT rfl rfl hl (fun _ => rfl) (fun _ => hx1) Tryd.underlying24 rfl sz24) ?_
                          refine S_alloc 7 7 rfl rfl rfl rfl z24 ?_
                          intro b7
                          refine S_store 7 rfl rfl rfl rfl rfl rfl sz24 rfl rfl ?_
                          refine S_go (fun _ _ h => h) ?_
                          refine T_seq ?_
                          refine T_region ?_
                          refine S_ 136 rfl rfl rfl _ (y_loadA 7 rfl rfl rfl Tryd.underlying24 rfl sz24) ?_
                          refine S_ 137 rfl rfl rfl _ (y_call rfl rfl rfl cf18 (fun _ w1 hM => ih k (mem_at hx1) w1 ((hk k (mem_at hx1)).lift hM.below))) ?_
                          refine S_ 8 rfl rfl rfl _ (y_assign rfl rfl) ?_
                          refine S_go (fun _ _ h => h) ?_
                          refine T_seq ?_
                          refine T_region ?_
                          refine S_ 138 rfl rfl rfl _ (y_move rfl rfl) ?_
                          refine S_ 139 rfl rfl rfl _ (y_bin rfl rfl rfl (fun _ => b_neq)) ?_
                          refine S_go (fun _ _ h => h) ?_
                          refine T_cond rfl (fun h139 => ?_) (fun h139 => ?_)
                          · skip
                            have hn1 : chX k ≠ 0 := by simpa using h139
                            rw [if_pos hn1] at hp2
                            have e1 : chX x = chX k := by rw [hch, ← hp2]
                            refine T_seq ?_
                            refine T_region ?_
                            refine S_ 140 rfl rfl rfl _ (y_move rfl rfl) ?_
                            refine S_ 2 rfl rfl rfl _ (y_assign rfl rfl) ?_
                            refine S_go (fun _ _ h => h) ?_
                            refine T_ret (fun a w hF hM => hRb a w (post1 rfl rfl (fun w hM => ?_) a w hF hM))
                            first | exact ⟨by rw [e1], hM.below⟩ | exact ⟨by rw [hch, ← hp2, hl.end (by omega)]; rfl, hM.below⟩
                          · skip
                            have hn1 : chX k = 0 := by simpa using h139
                            rw [if_neg (by rw [show chkP (chdNo txtNo nameOk) k.says = chX k from rfl, hn1]; simp)] at hp2
                            refine T_skip_go (fun _ _ h => h) ?_
                            refine T_region ?_
                            refine S_ 141 rfl rfl rfl _ (y_bin rfl rfl rfl (fun hg => b_add (by omega))) ?_
                            refine S_ 132 rfl rfl rfl _ (y_move rfl rfl) ?_
                            refine S_nil (nextK1 (kf := [(2, 2), (7, 8), (132, 141)]) (kl := [(2, 2), (7, 8), (132, 141)]) (i + 1) (by repeat (first | exact kf_nil | (apply kf_in; focus rfl) | (apply kf_out; focus rfl))) (by repeat (first | exact kl_nil | exact kl_rest (by assumption) rfl | (apply kl_in; focus rfl) | (apply kl_out; focus rfl))) ?_ ?_ ?_ ?_)
                            · omega
                            · exact ⟨by omega, hp2⟩
                            · exact ⟨rfl, trivial⟩
                            · exact trivial
                        · try simp only [decide_eq_true_eq, decide_eq_false_iff_not, Bool.or_eq_true, Bool.or_eq_false_iff, Bool.and_eq_true, Bool.and_eq_false_iff, Bool.not_eq_true', Bool.not_eq_false', Bool.not_eq_true, Bool.not_eq_false, Bool.not_true, Bool.not_false, Int.not_lt, Int.not_le, not_or, not_and, Classical.not_not] at h133
                          refine T_exit_go (fun _ _ h => h) ?_
                          refine T_seq ?_
                          refine T_region ?_
                          refine S_ 2 rfl rfl rfl _ (y_assign rfl rfl) ?_
                          refine S_go (fun _ _ h => h) ?_
                          refine T_ret (fun a w hF hM => hRb a w (post1 rfl rfl (fun w hM => ?_) a w hF hM))
                          first | exact ⟨by rw [e1], hM.below⟩ | exact ⟨by rw [hch, ← hp2, hl.end (by omega)]; rfl, hM.below⟩
                    · skip
                      have hw : wrdB x.op = false := h122
                      rw [if_neg (by rw [hw]; simp)] at hla
                      have hch := chX_kids hla
                      refine T_skip_go (fun _ _ h => h) ?_
                      refine T_seq ?_
                      refine T_seq ?_
                      refine T_region ?_
                      refine S_ 129 rfl rfl rfl _ (y_fieldAddr rfl rfl fa24_1) ?_
                      refine S_ 130 rfl rfl rfl _ (y_load 1 rfl rfl rfl rfl Tryd.underlying22 rfl) ?_
                      refine S_ 131 rfl rfl rfl _ (y_len_slice rfl rfl Tryd.underlying22) ?_
                      refine S_ 132 rfl rfl rfl _ (y_move rfl rfl) ?_
                      refine S_go (fun _ _ h => h) ?_
                      refine T_block ?_
                      refine T_loopK1 (kf := [(2, 2), (7, 8), (132, 141)]) (kl := [(2, 2), (7, 8), (132, 141)]) (fun (i : Nat) => [(132, true, .int .i64 (i : Int))]) (fun (i : Nat) => []) (fun (i : Nat) => i ≤ x.q ∧ chkL (chdNo txtNo nameOk) ((x.kids.drop i).map SC.says) = chkL (chdNo txtNo nameOk) (x.kids.map SC.says)) (fun (i : Nat) => x.q - i) 0 (by repeat (first | exact kf_nil | (apply kf_in; focus rfl) | (apply kf_out; focus rfl))) (by repeat (first | exact kl_nil | exact kl_rest (by assumption) rfl | (apply kl_in; focus rfl) | (apply kl_out; focus rfl))) ?_ ?_ ?_ ?_
                      · exact ⟨by omega, rfl⟩
                      · exact ⟨rfl, trivial⟩
                      · exact trivial
                      rintro i ⟨hp1, hp2⟩
                      refine T_seq ?_
                      refine T_region ?_
                      refine S_ 133 rfl rfl rfl _ (y_bin rfl rfl rfl (fun _ => b_lss)) ?_
                      refine S_go (fun _ _ h => h) ?_
                      refine T_seq ?_
                      refine T_cond rfl (fun h133 => ?_) (fun h133 => ?_)
                      · try simp only [decide_eq_true_eq, decide_eq_false_iff_not, Bool.or_eq_true, Bool.or_eq_false_iff, Bool.and_eq_true, Bool.and_eq_false_iff, Bool.not_eq_true', Bool.not_eq_false', Bool.not_eq_true, Bool.not_eq_false, Bool.not_true, Bool.not_false, Int.not_lt, Int.not_le, not_or, not_and, Classical.not_not] at h133
                        obtain ⟨k, hx1, hx2⟩ := hl.at (i := i) (by omega)
                        rw [hx2, List.map_cons, chkL] at hp2
                        refine T_skip_go (fun _ _ h => h) ?_
                        refine T_seq ?_
                        refine T_block ?_
                        refine T_seq ?_
                        refine T_region ?_
                        refine S_ 134 rfl rfl rfl _ (y_indexAddr rfl rfl rfl Tryd.underlying22 sz24 (fun hg => hl.isSome (by omega)) (fun _ => by omega)) ?_
                        refine S_ 135 rfl rfl rfl _ (y_loadT rfl rfl hl (fun _ => rfl) (fun _ => hx1) Tryd.underlying24 rfl sz24) ?_
                        refine S_alloc 7 7 rfl rfl rfl rfl z24 ?_
                        intro b7
                        refine S_store 7 rfl rfl rfl rfl rfl rfl sz24 rfl rfl ?_
                        refine S_go (fun _ _ h => h) ?_
                        refine T_seq ?_
                        refine T_region ?_
                        refine S_ 136 rfl rfl rfl _ (y_loadA 7 rfl rfl rfl Tryd.underlying24 rfl sz24) ?_
                        refine S_ 137 rfl rfl rfl _ (y_call rfl rfl rfl cf18 (fun _ w1 hM => ih k (mem_at hx1) w1 ((hk k (mem_at hx1)).lift hM.below))) ?_
                        refine S_ 8 rfl rfl rfl _ (y_assign rfl rfl) ?_
                        refine S_go (fun _ _ h => h) ?_
                        refine T_seq ?_
                        refine T_region ?_
                        refine S_ 138 rfl rfl rfl _ (y_move rfl rfl) ?_
                        refine S_ 139 rfl rfl rfl _ (y_bin rfl rfl rfl (fun _ => b_neq)) ?_
                        refine S_go (fun _ _ h => h) ?_
                        refine T_cond rfl (fun h139 => ?_) (fun h139 => ?_)
                        · skip
                          have hn1 : chX k ≠ 0 := by simpa using h139
                          rw [if_pos hn1] at hp2
                          have e1 : chX x = chX k := by rw [hch, ← hp2]
                          refine T_seq ?_
                          refine T_region ?_
                          refine S_ 140 rfl rfl rfl _ (y_move rfl rfl) ?_
                          refine S_ 2 rfl rfl rfl _ (y_assign rfl rfl) ?_
                          refine S_go (fun _ _ h => h) ?_
                          refine T_ret (fun a w hF hM => hRb a w (post1 rfl rfl (fun w hM => ?_) a w hF hM))
                          first | exact ⟨by rw [e1], hM.below⟩ | exact ⟨by rw [hch, ← hp2, hl.end (by omega)]; rfl, hM.below⟩
                        · skip
                          have hn1 : chX k = 0 := by simpa using h139
                          rw [if_neg (by rw [show chkP (chdNo txtNo nameOk) k.says = chX k from rfl, hn1]; simp)] at hp2
                          refine T_skip_go (fun _ _ h => h) ?_
                          refine T_region ?_
                          refine S_ 141 rfl rfl rfl _ (y_bin rfl rfl rfl (fun hg => b_add (by omega))) ?_
                          refine S_ 132 rfl rfl rfl _ (y_move rfl rfl) ?_
                          refine S_nil (nextK1 (kf := [(2, 2), (7, 8), (132, 141)]) (kl := [(2, 2), (7, 8), (132, 141)]) (i + 1) (by repeat (first | exact kf_nil | (apply kf_in; focus rfl) | (apply kf_out; focus rfl))) (by repeat (first | exact kl_nil | exact kl_rest (by assumption) rfl | (apply kl_in; focus rfl) | (apply kl_out; focus rfl))) ?_ ?_ ?_ ?_)
                          · omega
                          · exact ⟨by omega, hp2⟩
                          · exact ⟨rfl, trivial⟩
                          · exact trivial
                      · try simp only [decide_eq_true_eq, decide_eq_false_iff_not, Bool.or_eq_true, Bool.or_eq_false_iff, Bool.and_eq_true, Bool.and_eq_false_iff, Bool.not_eq_true', Bool.not_eq_false', Bool.not_eq_true, Bool.not_eq_false, Bool.not_true, Bool.not_false, Int.not_lt, Int.not_le, not_or, not_and, Classical.not_not] at h133
                        refine T_exit_go (fun _ _ h => h) ?_
                        refine T_seq ?_
                        refine T_region ?_
                        refine S_ 2 rfl rfl rfl _ (y_assign rfl rfl) ?_
                        refine S_go (fun _ _ h => h) ?_
                        refine T_ret (fun a w hF hM => hRb a w (post1 rfl rfl (fun w hM => ?_) a w hF hM))
                        first | exact ⟨by rw [e1], hM.below⟩ | exact ⟨by rw [hch, ← hp2, hl.end (by omega)]; rfl, hM.below⟩
            · skip
              have hk6 : ¬ x.op = 6 := by simpa using h92
              refine T_skip_go (fun _ _ h => h) ?_
              refine T_seq ?_
              refine T_seq ?_
              refine T_region ?_
              refine S_ 94 rfl rfl rfl _ (y_fieldAddr rfl rfl fa24_2) ?_
              refine S_ 95 rfl rfl rfl _ (y_load 1 rfl rfl rfl rfl Tryd.underlying3 rfl) ?_
              refine S_ 96 rfl rfl rfl _ (y_move rfl rfl) ?_
              refine S_ 97 rfl rfl rfl _ (y_move rfl rfl) ?_
              refine S_ 98 rfl rfl rfl _ (y_call rfl rfl rfl cf34 (fun _ w _ => fout_any _ _ _ w)) ?_
              refine S_ 99 rfl rfl rfl _ (y_move rfl rfl) ?_
              refine Sg_ 100 rfl rfl rfl rfl rfl rfl _ (y_fieldAddr rfl rfl fa24_3) ?_
              refine Sg_ 101 rfl rfl rfl rfl rfl rfl _ (y_load 1 rfl rfl rfl rfl Tryd.underlying3 rfl) ?_
              refine Sg_ 102 rfl rfl rfl rfl rfl rfl _ (y_move rfl rfl) ?_
              refine Sg_ 103 rfl rfl rfl rfl rfl rfl _ (y_move rfl rfl) ?_
              refine Sg_ 104 rfl rfl rfl rfl rfl rfl _ (y_call rfl rfl rfl cf34 (fun _ w _ => fout_any _ _ _ w)) ?_
              refine S_ 105 rfl rfl rfl _ (y_as (v' := .bool (r1B x)) (by rw [r1B, loR, hiR, if_neg hk5, if_neg hk5, if_neg hk6]) (y_or rfl rfl rfl)) ?_
              refine S_go (fun _ _ h => h) ?_
              refine T_cond rfl (fun h105 => ?_) (fun h105 => ?_)
              · skip
                have e1 : chX x = 2 := chX_hd (by rw [hre, if_pos (by rw [hr, h105]; rfl)]) (by decide)
                refine T_seq ?_
                refine T_region ?_
                refine S_ 2 rfl rfl rfl _ (y_assign rfl rfl) ?_
                refine S_go (fun _ _ h => h) ?_
                refine T_ret (fun a w hF hM => hRb a w (post1 rfl rfl (fun w hM => ?_) a w hF hM))
                first | exact ⟨by rw [e1], hM.below⟩ | exact ⟨by rw [hch, ← hp2, hl.end (by omega)]; rfl, hM.below⟩
              · skip
                refine T_skip_go (fun _ _ h => h) ?_
                refine T_seq ?_
                refine T_region ?_
                refine S_ 106 rfl rfl rfl _ (y_fieldAddr rfl rfl fa24_3) ?_
                refine S_ 107 rfl rfl rfl _ (y_load 1 rfl rfl rfl rfl Tryd.underlying3 rfl) ?_
                refine S_ 108 rfl rfl rfl _ (y_fieldAddr rfl rfl fa24_2) ?_
                refine S_ 109 rfl rfl rfl _ (y_load 1 rfl rfl rfl rfl Tryd.underlying3 rfl) ?_
                refine S_ 110 rfl rfl rfl _ (y_bin rfl rfl rfl (fun _ => b_lss)) ?_
                refine S_go (fun _ _ h => h) ?_
                refine T_cond rfl (fun h110 => ?_) (fun h110 => ?_)
                · skip
                  have e1 : chX x = 5 := chX_hd (by rw [hre, if_neg (by rw [hr, h105]; simp), if_pos (by rw [hr, h110]; rfl)]) (by decide)
                  refine T_seq ?_
                  refine T_region ?_
                  refine S_ 2 rfl rfl rfl _ (y_assign rfl rfl) ?_
                  refine S_go (fun _ _ h => h) ?_
                  refine T_ret (fun a w hF hM => hRb a w (post1 rfl rfl (fun w hM => ?_) a w hF hM))
                  first | exact ⟨by rw [e1], hM.below⟩ | exact ⟨by rw [hch, ← hp2, hl.end (by omega)]; rfl, hM.below⟩
                · skip
                  have hla := hd_late hre (by rw [hr, h105]; rfl) (by rw [hr, h110]; rfl)
                  refine T_skip_go (fun _ _ h => h) ?_
                  refine T_seq ?_
                  refine T_seq ?_
                  refine T_region ?_
                  refine S_ 111 rfl rfl rfl _ (y_fieldAddr rfl rfl fa24_0) ?_
                  refine S_ 112 rfl rfl rfl _ (y_load 1 rfl rfl rfl rfl Tryd.underlying3 rfl) ?_
                  refine S_ 113 rfl rfl rfl _ (y_call rfl rfl rfl cf65 (fun _ w _ => named_any _ w)) ?_
                  refine S_ 114 rfl rfl rfl _ (y_move rfl rfl) ?_
                  refine Sg_ 115 rfl rfl rfl rfl rfl rfl _ (y_fieldAddr rfl rfl fa24_4) ?_
                  refine Sg_ 116 rfl rfl rfl rfl rfl rfl _ (y_load 1 rfl rfl rfl rfl Tryd.underlying9 rfl) ?_
                  refine Sg_ 117 rfl rfl rfl rfl rfl rfl _ (y_call rfl rfl rfl cf23 (fun _ w _ => IsName_any _ w)) ?_
                  refine Sg_ 118 rfl rfl rfl rfl rfl rfl _ (y_not rfl rfl) ?_
                  refine S_ 119 rfl rfl rfl _ (y_and rfl rfl rfl) ?_
                  refine S_go (fun _ _ h => h) ?_
                  refine T_cond rfl (fun h119 => ?_) (fun h119 => ?_)
                  · skip
                    have e1 : chX x = 3 := chX_hd (by rw [hla, if_pos h119]) (by decide)
                    refine T_seq ?_
                    refine T_region ?_
                    refine S_ 2 rfl rfl rfl _ (y_assign rfl rfl) ?_
                    refine S_go (fun _ _ h => h) ?_
                    refine T_ret (fun a w hF hM => hRb a w (post1 rfl rfl (fun w hM => ?_) a w hF hM))
                    first | exact ⟨by rw [e1], hM.below⟩ | exact ⟨by rw [hch, ← hp2, hl.end (by omega)]; rfl, hM.below⟩
                  · skip
                    rw [if_neg (by rw [h119]; simp)] at hla
                    refine T_skip_go (fun _ _ h => h) ?_
                    refine T_seq ?_
                    refine T_seq ?_
                    refine T_region ?_
                    refine S_ 120 rfl rfl rfl _ (y_fieldAddr rfl rfl fa24_0) ?_
                    refine S_ 121 rfl rfl rfl _ (y_load 1 rfl rfl rfl rfl Tryd.underlying3 rfl) ?_
                    refine S_ 122 rfl rfl rfl _ (y_call rfl rfl rfl cf66 (fun _ w _ => worded_any _ w)) ?_
                    refine S_go (fun _ _ h => h) ?_
                    refine T_cond rfl (fun h122 => ?_) (fun h122 => ?_)
                    · skip
                      have hw : wrdB x.op = true := h122
                      rw [if_pos hw] at hla
                      refine T_seq ?_
                      refine T_region ?_
                      refine S_ 123 rfl rfl rfl _ (y_fieldAddr rfl rfl fa24_5) ?_
                      refine S_ 124 rfl rfl rfl _ (y_load 1 rfl rfl rfl rfl Tryd.underlying9 rfl) ?_
                      refine S_ 125 rfl rfl rfl _ (y_call rfl rfl rfl cf67 (fun _ w _ => checkText_any _ w)) ?_
                      refine S_ 5 rfl rfl rfl _ (y_assign rfl rfl) ?_
                      refine S_go (fun _ _ h => h) ?_
                      refine T_seq ?_
                      refine T_region ?_
                      refine S_ 126 rfl rfl rfl _ (y_move rfl rfl) ?_
                      refine S_ 127 rfl rfl rfl _ (y_bin rfl rfl rfl (fun _ => b_neq)) ?_
                      refine S_go (fun _ _ h => h) ?_
                      refine T_cond rfl (fun h127 => ?_) (fun h127 => ?_)
                      · skip
                        have hn0 : txtNo x.tx ≠ 0 := by simpa using h127
                        have e1 : chX x = txtNo x.tx := chX_hd hla hn0
                        refine T_seq ?_
                        refine T_region ?_
                        refine S_ 128 rfl rfl rfl _ (y_move rfl rfl) ?_
                        refine S_ 2 rfl rfl rfl _ (y_assign rfl rfl) ?_
                        refine S_go (fun _ _ h => h) ?_
                        refine T_ret (fun a w hF hM => hRb a w (post1 rfl rfl (fun w hM => ?_) a w hF hM))
                        first | exact ⟨by rw [e1], hM.below⟩ | exact ⟨by rw [hch, ← hp2, hl.end (by omega)]; rfl, hM.below⟩
                      · skip
                        have hn0 : txtNo x.tx = 0 := by simpa using h127
                        have hch := chX_kids (hla.trans hn0)
                        refine T_skip_go (fun _ _ h => h) ?_
                        refine T_seq ?_
                        refine T_seq ?_
                        refine T_region ?_
                        refine S_ 129 rfl rfl rfl _ (y_fieldAddr rfl rfl fa24_1) ?_
                        refine S_ 130 rfl rfl rfl _ (y_load 1 rfl rfl rfl rfl Tryd.underlying22 rfl) ?_
                        refine S_ 131 rfl rfl rfl _ (y_len_slice rfl rfl Tryd.underlying22) ?_
                        refine S_ 132 rfl rfl rfl _ (y_move rfl rfl) ?_
                        refine S_go (fun _ _ h => h) ?_
                        refine T_block ?_
                        refine T_loopK1 (kf := [(2, 2), (7, 8), (132, 141)]) (kl := [(2, 2), (7, 8), (132, 141)]) (fun (i : Nat) => [(132, true, .int .i64 (i : Int))]) (fun (i : Nat) => []) (fun (i : Nat) => i ≤ x.q ∧ chkL (chdNo txtNo nameOk) ((x.kids.drop i).map SC.says) = chkL (chdNo txtNo nameOk) (x.kids.map SC.says)) (fun (i : Nat) => x.q - i) 0 (by repeat (first | exact kf_nil | (apply kf_in; focus rfl) | (apply kf_out; focus rfl))) (by repeat (first | exact kl_nil | exact kl_rest (by assumption) rfl | (apply kl_in; focus rfl) | (apply kl_out; focus rfl))) ?_ ?_ ?_ ?_
                        · exact ⟨by omega, rfl⟩
                        · exact ⟨rfl, trivial⟩
                        · exact trivial
                        rintro i ⟨hp1, hp2⟩
                        refine T_seq ?_
                        refine T_region ?_
                        refine S_ 133 rfl rfl rfl _ (y_bin rfl rfl rfl (fun _ => b_lss)) ?_
                        refine S_go (fun _ _ h => h) ?_
                        refine T_seq ?_
                        refine T_cond rfl (fun h133 => ?_) (fun h133 => ?_)
                        · try simp only [decide_eq_true_eq, decide_eq_false_iff_not, Bool.or_eq_true, Bool.or_eq_false_iff, Bool.and_eq_true, Bool.and_eq_false_iff, Bool.not_eq_true', Bool.not_eq_false', Bool.not_eq_true, Bool.not_eq_false, Bool.not_true, Bool.not_false, Int.not_lt, Int.not_le, not_or, not_and, Classical.not_not] at h133
                          obtain ⟨k, hx1, hx2⟩ := hl.at (i := i) (by omega)
                          rw [hx2, List.map_cons, chkL] at hp2
                          refine T_skip_go (fun _ _ h => h) ?_
                          refine T_seq ?_
                          refine T_block ?_
                          refine T_seq ?_
                          refine T_region ?_
                          refine S_ 134 rfl rfl rfl _ (y_indexAddr rfl rfl rfl Tryd.underlying22 sz24 (fun hg => hl.isSome (by omega)) (fun _ => by omega)) ?_
                          refine S_ 135 rfl rfl rfl _ (y_loadT rfl rfl hl (fun _ => rfl) (fun _ => hx1) Tryd.underlying24 rfl sz24) ?_
                          refine S_alloc 7 7 rfl rfl rfl rfl z24 ?_
                          intro b7
                          refine S_store 7 rfl rfl rfl rfl rfl rfl sz24 rfl rfl ?_
                          refine S_go (fun _ _ h => h) ?_
                          refine T_seq ?_
                          refine T_region ?_
                          refine S_ 136 rfl rfl rfl _ (y_loadA 7 rfl rfl rfl Tryd.underlying24 rfl sz24) ?_
                          refine S_ 137 rfl rfl rfl _ (y_call rfl rfl rfl cf18 (fun _ w1 hM => ih k (mem_at hx1) w1 ((hk k (mem_at hx1)).lift hM.below))) ?_
                          refine S_ 8 rfl rfl rfl _ (y_assign rfl rfl) ?_
                          refine S_go (fun _ _ h => h) ?_
                          refine T_seq ?_
                          refine T_region ?_
                          refine S_ 138 rfl rfl rfl _ (y_move rfl rfl) ?_
                          refine S_ 139 rfl rfl rfl _ (y_bin rfl rfl rfl (fun _ => b_neq)) ?_
                          refine S_go (fun _ _ h => h) ?_
                          refine T_cond rfl (fun h139 => ?_) (fun h139 => ?_)
                          · skip
                            have hn1 : chX k ≠ 0 := by simpa using h139
                            rw [if_pos hn1] at hp2
                            have e1 : chX x = chX k := by rw [hch, ← hp2]
                            refine T_seq ?_
                            refine T_region ?_
                            refine S_ 140 rfl rfl rfl _ (y_move rfl rfl) ?_
                            refine S_ 2 rfl rfl rfl _ (y_assign rfl rfl) ?_
                            refine S_go (fun _ _ h => h) ?_
                            refine T_ret (fun a w hF hM => hRb a w (post1 rfl rfl (fun w hM => ?_) a w hF hM))
                            first | exact ⟨by rw [e1], hM.below⟩ | exact ⟨by rw [hch, ← hp2, hl.end (by omega)]; rfl, hM.below⟩
                          · skip
                            have hn1 : chX k = 0 := by simpa using h139
                            rw [if_neg (by rw [show chkP (chdNo txtNo nameOk) k.says = chX k from rfl, hn1]; simp)] at hp2
                            refine T_skip_go (fun _ _ h => h) ?_
                            refine T_region ?_
                            refine S_ 141 rfl rfl rfl _ (y_bin rfl rfl rfl (fun hg => b_add (by omega))) ?_
                            refine S_ 132 rfl rfl rfl _ (y_move rfl rfl) ?_
                            refine S_nil (nextK1 (kf := [(2, 2), (7, 8), (132, 141)]) (kl := [(2, 2), (7, 8), (132, 141)]) (i + 1) (by repeat (first | exact kf_nil | (apply kf_in; focus rfl) | (apply kf_out; focus rfl))) (by repeat (first | exact kl_nil | exact kl_rest (by assumption) rfl | (apply kl_in; focus rfl) | (apply kl_out; focus rfl))) ?_ ?_ ?_ ?_)
                            · omega
                            · exact ⟨by omega, hp2⟩
                            · exact ⟨rfl, trivial⟩
                            · exact trivial
                        · try simp only [decide_eq_true_eq, decide_eq_false_iff_not, Bool.or_eq_true, Bool.or_eq_false_iff, Bool.and_eq_true, Bool.and_eq_false_iff, Bool.not_eq_true', Bool.not_eq_false', Bool.not_eq_true, Bool.not_eq_false, Bool.not_true, Bool.not_false, Int.not_lt, Int.not_le, not_or, not_and, Classical.not_not] at h133
                          refine T_exit_go (fun _ _ h => h) ?_
                          refine T_seq ?_
                          refine T_region ?_
                          refine S_ 2 rfl rfl rfl _ (y_assign rfl rfl) ?_
                          refine S_go (fun _ _ h => h) ?_
                          refine T_ret (fun a w hF hM => hRb a w (post1 rfl rfl (fun w hM => ?_) a w hF hM))
                          first | exact ⟨by rw [e1], hM.below⟩ | exact ⟨by rw [hch, ← hp2, hl.end (by omega)]; rfl, hM.below⟩
                    · skip
                      have hw : wrdB x.op = false := h122
                      rw [if_neg (by rw [hw]; simp)] at hla
                      have hch := chX_kids hla
                      refine T_skip_go (fun _ _ h => h) ?_
                      refine T_seq ?_
                      refine T_seq ?_
                      refine T_region ?_
                      refine S_ 129 rfl rfl rfl _ (y_fieldAddr rfl rfl fa24_1) ?_
                      refine S_ 130 rfl rfl rfl _ (y_load 1 rfl rfl rfl rfl Tryd.underlying22 rfl) ?_
                      refine S_ 131 rfl rfl rfl _ (y_len_slice rfl rfl Tryd.underlying22) ?_
                      refine S_ 132 rfl rfl rfl _ (y_move rfl rfl) ?_
                      refine S_go (fun _ _ h => h) ?_
                      refine T_block ?_
                      refine T_loopK1 (kf := [(2, 2), (7, 8), (132, 141)]) (kl := [(2, 2), (7, 8), (132, 141)]) (fun (i : Nat) => [(132, true, .int .i64 (i : Int))]) (fun (i : Nat) => []) (fun (i : Nat) => i ≤ x.q ∧ chkL (chdNo txtNo nameOk) ((x.kids.drop i).map SC.says) = chkL (chdNo txtNo nameOk) (x.kids.map SC.says)) (fun (i : Nat) => x.q - i) 0 (by repeat (first | exact kf_nil | (apply kf_in; focus rfl) | (apply kf_out; focus rfl))) (by repeat (first | exact kl_nil | exact kl_rest (by assumption) rfl | (apply kl_in; focus rfl) | (apply kl_out; focus rfl))) ?_ ?_ ?_ ?_
                      · exact ⟨by omega, rfl⟩
                      · exact ⟨rfl, trivial⟩
                      · exact trivial
                      rintro i ⟨hp1, hp2⟩
                      refine T_seq ?_
                      refine T_region ?_
                      refine S_ 133 rfl rfl rfl _ (y_bin rfl rfl rfl (fun _ => b_lss)) ?_
                      refine S_go (fun _ _ h => h) ?_
                      refine T_seq ?_
                      refine T_cond rfl (fun h133 => ?_) (fun h133 => ?_)
                      · try simp only [decide_eq_true_eq, decide_eq_false_iff_not, Bool.or_eq_true, Bool.or_eq_false_iff, Bool.and_eq_true, Bool.and_eq_false_iff, Bool.not_eq_true', Bool.not_eq_false', Bool.not_eq_true, Bool.not_eq_false, Bool.not_true, Bool.not_false, Int.not_lt, Int.not_le, not_or, not_and, Classical.not_not] at h133
                        obtain ⟨k, hx1, hx2⟩ := hl.at (i := i) (by omega)
                        rw [hx2, List.map_cons, chkL] at hp2
                        refine T_skip_go (fun _ _ h => h) ?_
                        refine T_seq ?_
                        refine T_block ?_
                        refine T_seq ?_
                        refine T_region ?_
                        refine S_ 134 rfl rfl rfl _ (y_indexAddr rfl rfl rfl Tryd.underlying22 sz24 (fun hg => hl.isSome (by omega)) (fun _ => by omega)) ?_
                        refine S_ 135 rfl rfl rfl _ (y_loadT rfl rfl hl (fun _ => rfl) (fun _ => hx1) Tryd.underlying24 rfl sz24) ?_
                        refine S_alloc 7 7 rfl rfl rfl rfl z24 ?_
                        intro b7
                        refine S_store 7 rfl rfl rfl rfl rfl rfl sz24 rfl rfl ?_
                        refine S_go (fun _ _ h => h) ?_
                        refine T_seq ?_
                        refine T_region ?_
                        refine S_ 136 rfl rfl rfl _ (y_loadA 7 rfl rfl rfl Tryd.underlying24 rfl sz24) ?_
                        refine S_ 137 rfl rfl rfl _ (y_call rfl rfl rfl cf18 (fun _ w1 hM => ih k (mem_at hx1) w1 ((hk k (mem_at hx1)).lift hM.below))) ?_
                        refine S_ 8 rfl rfl rfl _ (y_assign rfl rfl) ?_
                        refine S_go (fun _ _ h => h) ?_
                        refine T_seq ?_
                        refine T_region ?_
                        refine S_ 138 rfl rfl rfl _ (y_move rfl rfl) ?_
                        refine S_ 139 rfl rfl rfl _ (y_bin rfl rfl rfl (fun _ => b_neq)) ?_
                        refine S_go (fun _ _ h => h) ?_
                        refine T_cond rfl (fun h139 => ?_) (fun h139 => ?_)
                        · skip
                          have hn1 : chX k ≠ 0 := by simpa using h139
                          rw [if_pos hn1] at hp2
                          have e1 : chX x = chX k := by rw [hch, ← hp2]
                          refine T_seq ?_
                          refine T_region ?_
                          refine S_ 140 rfl rfl rfl _ (y_move rfl rfl) ?_
                          refine S_ 2 rfl rfl rfl _ (y_assign rfl rfl) ?_
                          refine S_go (fun _ _ h => h) ?_
                          refine T_ret (fun a w hF hM => hRb a w (post1 rfl rfl (fun w hM => ?_) a w hF hM))
                          first | exact ⟨by rw [e1], hM.below⟩ | exact ⟨by rw [hch, ← hp2, hl.end (by omega)]; rfl, hM.below⟩
                        · skip
                          have hn1 : chX k = 0 := by simpa using h139
                          rw [if_neg (by rw [show chkP (chdNo txtNo nameOk) k.says = chX k from rfl, hn1]; simp)] at hp2
                          refine T_skip_go (fun _ _ h => h) ?_
                          refine T_region ?_
                          refine S_ 141 rfl rfl rfl _ (y_bin rfl rfl rfl (fun hg => b_add (by omega))) ?_
                          refine S_ 132 rfl rfl rfl _ (y_move rfl rfl) ?_
                          refine S_nil (nextK1 (kf := [(2, 2), (7, 8), (132, 141)]) (kl := [(2, 2), (7, 8), (132, 141)]) (i + 1) (by repeat (first | exact kf_nil | (apply kf_in; focus rfl) | (apply kf_out; focus rfl))) (by repeat (first | exact kl_nil | exact kl_rest (by assumption) rfl | (apply kl_in; focus rfl) | (apply kl_out; focus rfl))) ?_ ?_ ?_ ?_)
                          · omega
                          · exact ⟨by omega, hp2⟩
                          · exact ⟨rfl, trivial⟩
                          · exact trivial
                      · try simp only [decide_eq_true_eq, decide_eq_false_iff_not, Bool.or_eq_true, Bool.or_eq_false_iff, Bool.and_eq_true, Bool.and_eq_false_iff, Bool.not_eq_true', Bool.not_eq_false', Bool.not_eq_true, Bool.not_eq_false, Bool.not_true, Bool.not_false, Int.not_lt, Int.not_le, not_or, not_and, Classical.not_not] at h133
                        refine T_exit_go (fun _ _ h => h) ?_
                        refine T_seq ?_
                        refine T_region ?_
                        refine S_ 2 rfl rfl rfl _ (y_assign rfl rfl) ?_
                        refine S_go (fun _ _ h => h) ?_
                        refine T_ret (fun a w hF hM => hRb a w (post1 rfl rfl (fun w hM => ?_) a w hF hM))
                        first | exact ⟨by rw [e1], hM.below⟩ | exact ⟨by rw [hch, ← hp2, hl.end (by omega)]; rfl, hM.below⟩
        · skip
          have hr : rngB x.op = false := h87
          have hla := hd_late hre (by rw [hr]; rfl) (by rw [hr]; rfl)
          refine T_skip_go (fun _ _ h => h) ?_
          refine T_seq ?_
          refine T_seq ?_
          refine T_region ?_
          refine S_ 111 rfl rfl rfl _ (y_fieldAddr rfl rfl fa24_0) ?_
          refine S_ 112 rfl rfl rfl _ (y_load 1 rfl rfl rfl rfl Tryd.underlying3 rfl) ?_
          refine S_ 113 rfl rfl rfl _ (y_call rfl rfl rfl cf65 (fun _ w _ => named_any _ w)) ?_
          refine S_ 114 rfl rfl rfl _ (y_move rfl rfl) ?_
          refine Sg_ 115 rfl rfl rfl rfl rfl rfl _ (y_fieldAddr rfl rfl fa24_4) ?_
          refine Sg_ 116 rfl rfl rfl rfl rfl rfl _ (y_load 1 rfl rfl rfl rfl Tryd.underlying9 rfl) ?_
          refine Sg_ 117 rfl rfl rfl rfl rfl rfl _ (y_call rfl rfl rfl cf23 (fun _ w _ => IsName_any _ w)) ?_
          refine Sg_ 118 rfl rfl rfl rfl rfl rfl _ (y_not rfl rfl) ?_
          refine S_ 119 rfl rfl rfl _ (y_and rfl rfl rfl) ?_
          refine S_go (fun _ _ h => h) ?_
          refine T_cond rfl (fun h119 => ?_) (fun h119 => ?_)
          · skip
            have e1 : chX x = 3 := chX_hd (by rw [hla, if_pos h119]) (by decide)
            refine T_seq ?_
            refine T_region ?_
            refine S_ 2 rfl rfl rfl _ (y_assign rfl rfl) ?_
            refine S_go (fun _ _ h => h) ?_
            refine T_ret (fun a w hF hM => hRb a w (post1 rfl rfl (fun w hM => ?_) a w hF hM))
            first | exact ⟨by rw [e1], hM.below⟩ | exact ⟨by rw [hch, ← hp2, hl.end (by omega)]; rfl, hM.below⟩
          · skip
            rw [if_neg (by rw [h119]; simp)] at hla
            refine T_skip_go (fun _ _ h => h) ?_
            refine T_seq ?_
            refine T_seq ?_
            refine T_region ?_
            refine S_ 120 rfl rfl rfl _ (y_fieldAddr rfl rfl fa24_0) ?_
            refine S_ 121 rfl rfl rfl _ (y_load 1 rfl rfl rfl rfl Tryd.underlying3 rfl) ?_
            refine S_ 122 rfl rfl rfl _ (y_call rfl rfl rfl cf66 (fun _ w _ => worded_any _ w)) ?_
            refine S_go (fun _ _ h => h) ?_
            refine T_cond rfl (fun h122 => ?_) (fun h122 => ?_)
            · skip
              have hw : wrdB x.op = true := h122
              rw [if_pos hw] at hla
              refine T_seq ?_
              refine T_region ?_
              refine S_ 123 rfl rfl rfl _ (y_fieldAddr rfl rfl fa24_5) ?_
              refine S_ 124 rfl rfl rfl _ (y_load 1 rfl rfl rfl rfl Tryd.underlying9 rfl) ?_
              refine S_ 125 rfl rfl rfl _ (y_call rfl rfl rfl cf67 (fun _ w _ => checkText_any _ w)) ?_
              refine S_ 5 rfl rfl rfl _ (y_assign rfl rfl) ?_
              refine S_go (fun _ _ h => h) ?_
              refine T_seq ?_
              refine T_region ?_
              refine S_ 126 rfl rfl rfl _ (y_move rfl rfl) ?_
              refine S_ 127 rfl rfl rfl _ (y_bin rfl rfl rfl (fun _ => b_neq)) ?_
              refine S_go (fun _ _ h => h) ?_
              refine T_cond rfl (fun h127 => ?_) (fun h127 => ?_)
              · skip
                have hn0 : txtNo x.tx ≠ 0 := by simpa using h127
                have e1 : chX x = txtNo x.tx := chX_hd hla hn0
                refine T_seq ?_
                refine T_region ?_
                refine S_ 128 rfl rfl rfl _ (y_move rfl rfl) ?_
                refine S_ 2 rfl rfl rfl _ (y_assign rfl rfl) ?_
                refine S_go (fun _ _ h => h) ?_
                refine T_ret (fun a w hF hM => hRb a w (post1 rfl rfl (fun w hM => ?_) a w hF hM))
                first | exact ⟨by rw [e1], hM.below⟩ | exact ⟨by rw [hch, ← hp2, hl.end (by omega)]; rfl, hM.below⟩
              · skip
                have hn0 : txtNo x.tx = 0 := by simpa using h127
                have hch := chX_kids (hla.trans hn0)
                refine T_skip_go (fun _ _ h => h) ?_
                refine T_seq ?_
                refine T_seq ?_
                refine T_region ?_
                refine S_ 129 rfl rfl rfl _ (y_fieldAddr rfl rfl fa24_1) ?_
                refine S_ 130 rfl rfl rfl _ (y_load 1 rfl rfl rfl rfl Tryd.underlying22 rfl) ?_
                refine S_ 131 rfl rfl rfl _ (y_len_slice rfl rfl Tryd.underlying22) ?_
                refine S_ 132 rfl rfl rfl _ (y_move rfl rfl) ?_
                refine S_go (fun _ _ h => h) ?_
                refine T_block ?_
                refine T_loopK1 (kf := [(2, 2), (7, 8), (132, 141)]) (kl := [(2, 2), (7, 8), (132, 141)]) (fun (i : Nat) => [(132, true, .int .i64 (i : Int))]) (fun (i : Nat) => []) (fun (i : Nat) => i ≤ x.q ∧ chkL (chdNo txtNo nameOk) ((x.kids.drop i).map SC.says) = chkL (chdNo txtNo nameOk) (x.kids.map SC.says)) (fun (i : Nat) => x.q - i) 0 (by repeat (first | exact kf_nil | (apply kf_in; focus rfl) | (apply kf_out; focus rfl))) (by repeat (first | exact kl_nil | exact kl_rest (by assumption) rfl | (apply kl_in; focus rfl) | (apply kl_out; focus rfl))) ?_ ?_ ?_ ?_
                · exact ⟨by omega, rfl⟩
                · exact ⟨rfl, trivial⟩
                · exact trivial
                rintro i ⟨hp1, hp2⟩
                refine T_seq ?_
                refine T_region ?_
                refine S_ 133 rfl rfl rfl _ (y_bin rfl rfl rfl (fun _ => b_lss)) ?_
                refine S_go (fun _ _ h => h) ?_
                refine T_seq ?_
                refine T_cond rfl (fun h133 => ?_) (fun h133 => ?_)
                · try simp only [decide_eq_true_eq, decide_eq_false_iff_not, Bool.or_eq_true, Bool.or_eq_false_iff, Bool.and_eq_true, Bool.and_eq_false_iff, Bool.not_eq_true', Bool.not_eq_false', Bool.not_eq_true, Bool.not_eq_false, Bool.not_true, Bool.not_false, Int.not_lt, Int.not_le, not_or, not_and, Classical.not_not] at h133
                  obtain ⟨k, hx1, hx2⟩ := hl.at (i := i) (by omega)
                  rw [hx2, List.map_cons, chkL] at hp2
                  refine T_skip_go (fun _ _ h => h) ?_
                  refine T_seq ?_
                  refine T_block ?_
                  refine T_seq ?_
                  refine T_region ?_
                  refine S_ 134 rfl rfl rfl _ (y_indexAddr rfl rfl rfl Tryd.underlying22 sz24 (fun hg => hl.isSome (by omega)) (fun _ => by omega)) ?_
                  refine S_ 135 rfl rfl rfl _ (y_loadT rfl rfl hl (fun _ => rfl) (fun _ => hx1) Tryd.underlying24 rfl sz24) ?_
                  refine S_alloc 7 7 rfl rfl rfl rfl z24 ?_
                  intro b7
                  refine S_store 7 rfl rfl rfl rfl rfl rfl sz24 rfl rfl ?_
                  refine S_go (fun _ _ h => h) ?_
                  refine T_seq ?_
                  refine T_region ?_
                  refine S_ 136 rfl rfl rfl _ (y_loadA 7 rfl rfl rfl Tryd.underlying24 rfl sz24) ?_
                  refine S_ 137 rfl rfl rfl _ (y_call rfl rfl rfl cf18 (fun _ w1 hM => ih k (mem_at hx1) w1 ((hk k (mem_at hx1)).lift hM.below))) ?_
                  refine S_ 8 rfl rfl rfl _ (y_assign rfl rfl) ?_
                  refine S_go (fun _ _ h => h) ?_
                  refine T_seq ?_
                  refine T_region ?_
                  refine S_ 138 rfl rfl rfl _ (y_move rfl rfl) ?_
                  refine S_ 139 rfl rfl rfl _ (y_bin rfl rfl rfl (fun _ => b_neq)) ?_
                  refine S_go (fun _ _ h => h) ?_
                  refine T_cond rfl (fun h139 => ?_) (fun h139 => ?_)
                  · skip
                    have hn1 : chX k ≠ 0 := by simpa using h139
                    rw [if_pos hn1] at hp2
                    have e1 : chX x = chX k := by rw [hch, ← hp2]
                    refine T_seq ?_
                    refine T_region ?_
                    refine S_ 140 rfl rfl rfl _ (y_move rfl rfl) ?_
                    refine S_ 2 rfl rfl rfl _ (y_assign rfl rfl) ?_
                    refine S_go (fun _ _ h => h) ?_
                    refine T_ret (fun a w hF hM => hRb a w (post1 rfl rfl (fun w hM => ?_) a w hF hM))
                    first | exact ⟨by rw [e1], hM.below⟩ | exact ⟨by rw [hch, ← hp2, hl.end (by omega)]; rfl, hM.below⟩
                  · skip
                    have hn1 : chX k = 0 := by simpa using h139
                    rw [if_neg (by rw [show chkP (chdNo txtNo nameOk) k.says = chX k from rfl, hn1]; simp)] at hp2
                    refine T_skip_go (fun _ _ h => h) ?_
                    refine T_region ?_
                    refine S_ 141 rfl rfl rfl _ (y_bin rfl rfl rfl (fun hg => b_add (by omega))) ?_
                    refine S_ 132 rfl rfl rfl _ (y_move rfl rfl) ?_
                    refine S_nil (nextK1 (kf := [(2, 2), (7, 8), (132, 141)]) (kl := [(2, 2), (7, 8), (132, 141)]) (i + 1) (by repeat (first | exact kf_nil | (apply kf_in; focus rfl) | (apply kf_out; focus rfl))) (by repeat (first | exact kl_nil | exact kl_rest (by assumption) rfl | (apply kl_in; focus rfl) | (apply kl_out; focus rfl))) ?_ ?_ ?_ ?_)
                    · omega
                    · exact ⟨by omega, hp2⟩
                    · exact ⟨rfl, trivial⟩
                    · exact trivial
                · try simp only [decide_eq_true_eq, decide_eq_false_iff_not, Bool.or_eq_true, Bool.or_eq_false_iff, Bool.and_eq_true, Bool.and_eq_false_iff, Bool.not_eq_true', Bool.not_eq_false', Bool.not_eq_true, Bool.not_eq_false, Bool.not_true, Bool.not_false, Int.not_lt, Int.not_le, not_or, not_and, Classical.not_not] at h133
                  refine T_exit_go (fun _ _ h => h) ?_
                  refine T_seq ?_
                  refine T_region ?_
                  refine S_ 2 rfl rfl rfl _ (y_assign rfl rfl) ?_
                  refine S_go (fun _ _ h => h) ?_
                  refine T_ret (fun a w hF hM => hRb a w (post1 rfl rfl (fun w hM => ?_) a w hF hM))
                  first | exact ⟨by rw [e1], hM.below⟩ | exact ⟨by rw [hch, ← hp2, hl.end (by omega)]; rfl, hM.below⟩
            · skip
              have hw : wrdB x.op = false := h122
              rw [if_neg (by rw [hw]; simp)] at hla
              have hch := chX_kids hla
              refine T_skip_go (fun _ _ h => h) ?_
              refine T_seq ?_
              refine T_seq ?_
              refine T_region ?_
              refine S_ 129 rfl rfl rfl _ (y_fieldAddr rfl rfl fa24_1) ?_
              refine S_ 130 rfl rfl rfl _ (y_load 1 rfl rfl rfl rfl Tryd.underlying22 rfl) ?_
              refine S_ 131 rfl rfl rfl _ (y_len_slice rfl rfl Tryd.underlying22) ?_
              refine S_ 132 rfl rfl rfl _ (y_move rfl rfl) ?_
              refine S_go (fun _ _ h => h) ?_
              refine T_block ?_
              refine T_loopK1 (kf := [(2, 2), (7, 8), (132, 141)]) (kl := [(2, 2), (7, 8), (132, 141)]) (fun (i : Nat) => [(132, true, .int .i64 (i : Int))]) (fun (i : Nat) => []) (fun (i : Nat) => i ≤ x.q ∧ chkL (chdNo txtNo nameOk) ((x.kids.drop i).map SC.says) = chkL (chdNo txtNo nameOk) (x.kids.map SC.says)) (fun (i : Nat) => x.q - i) 0 (by repeat (first | exact kf_nil | (apply kf_in; focus rfl) | (apply kf_out; focus rfl))) (by repeat (first | exact kl_nil | exact kl_rest (by assumption) rfl | (apply kl_in; focus rfl) | (apply kl_out; focus rfl))) ?_ ?_ ?_ ?_
              · exact ⟨by omega, rfl⟩
              · exact ⟨rfl, trivial⟩
              · exact trivial
              rintro i ⟨hp1, hp2⟩
              refine T_seq ?_
              refine T_region ?_
              refine S_ 133 rfl rfl rfl _ (y_bin rfl rfl rfl (fun _ => b_lss)) ?_
              refine S_go (fun _ _ h => h) ?_
              refine T_seq ?_
              refine T_cond rfl (fun h133 => ?_) (fun h133 => ?_)
              · try simp only [decide_eq_true_eq, decide_eq_false_iff_not, Bool.or_eq_true, Bool.or_eq_false_iff, Bool.and_eq_true, Bool.and_eq_false_iff, Bool.not_eq_true', Bool.not_eq_false', Bool.not_eq_true, Bool.not_eq_false, Bool.not_true, Bool.not_false, Int.not_lt, Int.not_le, not_or, not_and, Classical.not_not] at h133
                obtain ⟨k, hx1, hx2⟩ := hl.at (i := i) (by omega)
                rw [hx2, List.map_cons, chkL] at hp2
                refine T_skip_go (fun _ _ h => h) ?_
                refine T_seq ?_
                refine T_block ?_
                refine T_seq ?_
                refine T_region ?_
                refine S_ 134 rfl rfl rfl _ (y_indexAddr rfl rfl rfl Tryd.underlying22 sz24 (fun hg => hl.isSome (by omega)) (fun _ => by omega)) ?_
                refine S_ 135 rfl rfl rfl _ (y_loadT rfl rfl hl (fun _ => rfl) (fun _ => hx1) Tryd.underlying24 rfl sz24) ?_
                refine S_alloc 7 7 rfl rfl rfl rfl z24 ?_
                intro b7
                refine S_store 7 rfl rfl rfl rfl rfl rfl sz24 rfl rfl ?_
                refine S_go (fun _ _ h => h) ?_
                refine T_seq ?_
                refine T_region ?_
                refine S_ 136 rfl rfl rfl _ (y_loadA 7 rfl rfl rfl Tryd.underlying24 rfl sz24) ?_
                refine S_ 137 rfl rfl rfl _ (y_call rfl rfl rfl cf18 (fun _ w1 hM => ih k (mem_at hx1) w1 ((hk k (mem_at hx1)).lift hM.below))) ?_
                refine S_ 8 rfl rfl rfl _ (y_assign rfl rfl) ?_
                refine S_go (fun _ _ h => h) ?_
                refine T_seq ?_
                refine T_region ?_
                refine S_ 138 rfl rfl rfl _ (y_move rfl rfl) ?_
                refine S_ 139 rfl rfl rfl _ (y_bin rfl rfl rfl (fun _ => b_neq)) ?_
                refine S_go (fun _ _ h => h) ?_
                refine T_cond rfl (fun h139 => ?_) (fun h139 => ?_)
                · skip
                  have hn1 : chX k ≠ 0 := by simpa using h139
                  rw [if_pos hn1] at hp2
                  have e1 : chX x = chX k := by rw [hch, ← hp2]
                  refine T_seq ?_
                  refine T_region ?_
                  refine S_ 140 rfl rfl rfl _ (y_move rfl rfl) ?_
                  refine S_ 2 rfl rfl rfl _ (y_assign rfl rfl) ?_
                  refine S_go (fun _ _ h => h) ?_
                  refine T_ret (fun a w hF hM => hRb a w (post1 rfl rfl (fun w hM => ?_) a w hF hM))
                  first | exact ⟨by rw [e1], hM.below⟩ | exact ⟨by rw [hch, ← hp2, hl.end (by omega)]; rfl, hM.below⟩
                · skip
                  have hn1 : chX k = 0 := by simpa using h139
                  rw [if_neg (by rw [show chkP (chdNo txtNo nameOk) k.says = chX k from rfl, hn1]; simp)] at hp2
                  refine T_skip_go (fun _ _ h => h) ?_
                  refine T_region ?_
                  refine S_ 141 rfl rfl rfl _ (y_bin rfl rfl rfl (fun hg => b_add (by omega))) ?_
                  refine S_ 132 rfl rfl rfl _ (y_move rfl rfl) ?_
                  refine S_nil (nextK1 (kf := [(2, 2), (7, 8), (132, 141)]) (kl := [(2, 2), (7, 8), (132, 141)]) (i + 1) (by repeat (first | exact kf_nil | (apply kf_in; focus rfl) | (apply kf_out; focus rfl))) (by repeat (first | exact kl_nil | exact kl_rest (by assumption) rfl | (apply kl_in; focus rfl) | (apply kl_out; focus rfl))) ?_ ?_ ?_ ?_)
                  · omega
                  · exact ⟨by omega, hp2⟩
                  · exact ⟨rfl, trivial⟩
                  · exact trivial
              · try simp only [decide_eq_true_eq, decide_eq_false_iff_not, Bool.or_eq_true, Bool.or_eq_false_iff, Bool.and_eq_true, Bool.and_eq_false_iff, Bool.not_eq_true', Bool.not_eq_false', Bool.not_eq_true, Bool.not_eq_false, Bool.not_true, Bool.not_false, Int.not_lt, Int.not_le, not_or, not_and, Classical.not_not] at h133
                refine T_exit_go (fun _ _ h => h) ?_
                refine T_seq ?_
                refine T_region ?_
                refine S_ 2 rfl rfl rfl _ (y_assign rfl rfl) ?_
                refine S_go (fun _ _ h => h) ?_
                refine T_ret (fun a w hF hM => hRb a w (post1 rfl rfl (fun w hM => ?_) a w hF hM))
                first | exact ⟨by rw [e1], hM.below⟩ | exact ⟨by rw [hch, ← hp2, hl.end (by omega)]; rfl, hM.below⟩
theorem checkOne_any (x : SC) : OneAt x := SC.ind (Q := OneAt) one_step x
/-- the fault of a condition -/
def condNo (x : SC) : Int := if deepP 20 x.says = true then 13 else if 100 < sizeP x.says 100 then 4 else chX x
theorem CheckCond_any (x : SC) (w : World) (hok : x.Ok w) :
    Calls Tryd.prog 9 #[x.val] w fun e w' => e = .returned (.int .i64 (condNo x)) ∧ Below w.heap.size w w' := by
  refine enter_args (args := [.agg #[.int .i64 x.op, .slice x.ad x.q x.c, .int .i64 x.lo, .int .i64 x.hi, str x.nm, str x.tx]]) (F := _) Tryd.func9 rfl Tryd.ntmps9 rfl rfl ?_
  intro Rb hRb hRn
  refine T_seq ?_
  refine T_region ?_
  refine S_box 1 1 rfl rfl rfl rfl rfl ?_
  intro b1
  refine S_ 2 rfl rfl rfl _ (y_assign rfl rfl) ?_
  refine S_go (fun _ _ h => h) ?_
  refine T_seq ?_
  refine T_seq ?_
  refine T_region ?_
  refine S_ 3 rfl rfl rfl _ (y_loadA 1 rfl rfl rfl Tryd.underlying24 rfl sz24) ?_
  refine S_ 4 rfl rfl rfl _ (y_call rfl rfl rfl cf16 (fun _ w1 hM => tooDeep_any 20 (by decide) x w1 (hok.lift hM.below))) ?_
  refine S_go (fun _ _ h => h) ?_
  refine T_cond rfl (fun h4 => ?_) (fun h4 => ?_)
  · skip
    refine T_seq ?_
    refine T_region ?_
    refine S_ 2 rfl rfl rfl _ (y_assign rfl rfl) ?_
    refine S_go (fun _ _ h => h) ?_
    refine T_ret (fun a w hF hM => hRb a w (post1 rfl rfl (fun w hM => ?_) a w hF hM))
    exact ⟨by rw [condNo, if_pos h4], hM.below⟩
  · skip
    refine T_skip_go (fun _ _ h => h) ?_
    refine T_seq ?_
    refine T_seq ?_
    refine T_region ?_
    refine S_ 5 rfl rfl rfl _ (y_loadA 1 rfl rfl rfl Tryd.underlying24 rfl sz24) ?_
    refine S_ 6 rfl rfl rfl _ (y_call rfl rfl rfl cf17 (fun _ w1 hM => size_any x 100 w1 (by decide) (by decide) (hok.lift hM.below))) ?_
    refine S_ 7 rfl rfl rfl _ (y_bin rfl rfl rfl (fun _ => b_gtr)) ?_
    refine S_go (fun _ _ h => h) ?_
    refine T_cond rfl (fun h7 => ?_) (fun h7 => ?_)
    · skip
      refine T_seq ?_
      refine T_region ?_
      refine S_ 2 rfl rfl rfl _ (y_assign rfl rfl) ?_
      refine S_go (fun _ _ h => h) ?_
      refine T_ret (fun a w hF hM => hRb a w (post1 rfl rfl (fun w hM => ?_) a w hF hM))
      exact ⟨by rw [condNo, if_neg (by rw [h4]; simp), if_pos (by simpa using h7)], hM.below⟩
    · skip
      refine T_skip_go (fun _ _ h => h) ?_
      refine T_seq ?_
      refine T_region ?_
      refine S_ 8 rfl rfl rfl _ (y_loadA 1 rfl rfl rfl Tryd.underlying24 rfl sz24) ?_
      refine S_ 9 rfl rfl rfl _ (y_call rfl rfl rfl cf18 (fun _ w1 hM => checkOne_any x w1 (hok.lift hM.below))) ?_
      refine S_ 2 rfl rfl rfl _ (y_assign rfl rfl) ?_
      refine S_go (fun _ _ h => h) ?_
      refine T_ret (fun a w hF hM => hRb a w (post1 rfl rfl (fun w hM => ?_) a w hF hM))
      exact ⟨by rw [condNo, if_neg (by rw [h4]; simp), if_neg (by simpa using h7)], hM.below⟩
end Go.Proofs.YtfmbgaaonfgenaaDoor
end
section
namespace Go.Proofs.YtfmbgaaonfgenaaDoor
set_option linter.unusedSimpArgs false
set_option linter.unusedVariables false
set_option maxRecDepth 20000
open Go.RowKit Go.Eng
section
variable (e : UInt8 → UInt8 → Bool)
def gm : List UInt8 → List UInt8 → Bool
  | [], [] => true
  | [], _ :: _ => false
  | a :: p, [] => decide (a = 42) && gm p []
  | a :: p, c :: r => if a = 42 then gm p (c :: r) || gm (a :: p) r else e a c && gm p r
termination_by p s => p.length + s.length
end
section
variable {e : UInt8 → UInt8 → Bool}
theorem gm_star {p s : List UInt8} : gm e (42 :: p) s = true ↔ ∃ m, m ≤ s.length ∧ gm e p (s.drop m) = true := by
  induction s with
  | nil =>
    rw [gm]
    simp only [decide_true, Bool.true_and, List.length_nil, List.drop_nil]
    exact ⟨fun h => ⟨0, Nat.le_refl _, h⟩, fun ⟨m, _, h⟩ => h⟩
  | cons c r ih =>
    rw [gm, if_pos rfl, Bool.or_eq_true, ih]
    constructor
    · rintro (h | ⟨m, h1, h2⟩)
      · exact ⟨0, Nat.zero_le _, h⟩
      · exact ⟨m + 1, by rw [List.length_cons]; omega, by rw [List.drop_succ_cons]; exact h2⟩
    · rintro ⟨m, h1, h2⟩
      cases m with
      | zero => exact .inl h2
      | succ m => exact .inr ⟨m, by rw [List.length_cons] at h1; omega, by rw [List.drop_succ_cons] at h2; exact h2⟩
theorem gm_lit {a c : UInt8} {p r : List UInt8} (h : a ≠ 42) : gm e (a :: p) (c :: r) = (e a c && gm e p r) := by rw [gm, if_neg h]
theorem gm_lit0 {a : UInt8} {p : List UInt8} (h : a ≠ 42) : gm e (a :: p) [] = false := by rw [gm, decide_eq_false h, Bool.false_and]
/-! ### The table of all beginnings -/
/-! ### Back to the last star -/
/-- where the search stands: the last star at 'st' was tried from 'mk' on; the pattern from there to 'i' has no star -/
structure Tried (e : UInt8 → UInt8 → Bool) (p s : List UInt8) (i k : Nat) (st : Option Nat) (mk : Nat) : Prop where
  hi : i ≤ p.length
  hk : k ≤ s.length
  hst : ∀ j, st = some j → j < i ∧ k = mk + (i - j - 1) ∧ p.getD j 0 = 42 ∧ ∀ m, j < m → m < i → p.getD m 0 ≠ 42
  no : st = none → mk = 0
  eq : gm e p s = true ↔ gm e (p.drop i) (s.drop k) = true ∨ ∃ j, st = some j ∧ ∃ m, mk < m ∧ m ≤ s.length ∧ gm e (p.drop (j + 1)) (s.drop m) = true
theorem Tried.start (p s : List UInt8) : Tried e p s 0 0 none 0 := ⟨Nat.zero_le _, Nat.zero_le _, (fun j h => by cases h), (fun _ => rfl), by simp⟩
theorem drop_getD {p : List UInt8} {i : Nat} (h : i < p.length) : p.drop i = p.getD i 0 :: p.drop (i + 1) := by
  rw [List.drop_eq_getElem_cons h, List.getD_eq_getElem?_getD, List.getElem?_eq_getElem h]; rfl
/-- literals take as many bytes as they are -/
theorem gm_lits {p s : List UInt8} : ∀ (n i : Nat), i + n ≤ p.length → (∀ m, i ≤ m → m < i + n → p.getD m 0 ≠ 42) → gm e (p.drop i) s = true → n ≤ s.length ∧ gm e (p.drop (i + n)) (s.drop n) = true
  | 0, i, _, _, h => ⟨Nat.zero_le _, by simpa using h⟩
  | n + 1, i, hl, hn, h => by
    have ha := hn i (Nat.le_refl _) (by omega)
    rw [drop_getD (by omega)] at h
    cases s with
    | nil => rw [gm_lit0 ha] at h; cases h
    | cons c r =>
      rw [gm_lit ha, Bool.and_eq_true] at h
      obtain ⟨h1, h2⟩ := gm_lits (s := r) n (i + 1) (by omega) (fun m h1 h2 => hn m (by omega) (by omega)) h.2
      exact ⟨by rw [List.length_cons]; omega, by rw [List.drop_succ_cons, show i + (n + 1) = i + 1 + n by omega]; exact h2⟩
theorem Tried.later {p s : List UInt8} {i k mk j m : Nat} {st : Option Nat} (h : Tried e p s i k st mk) (hst : st = some j) (hm : mk < m) (hg : gm e (p.drop (j + 1)) (s.drop m) = true) : k < m + (i - j - 1) ∧ m + (i - j - 1) ≤ max m s.length ∧ gm e (p.drop i) (s.drop (m + (i - j - 1))) = true := by
  obtain ⟨h1, h2, h3, h4⟩ := h.hst j hst
  have hi := h.hi
  obtain ⟨g1, g2⟩ := gm_lits (i - j - 1) (j + 1) (by omega) (fun q h5 h6 => h4 q (by omega) (by omega)) hg
  rw [List.length_drop] at g1
  rw [List.drop_drop, show j + 1 + (i - j - 1) = i by omega] at g2
  exact ⟨by omega, by omega, g2⟩
theorem Tried.star {p s : List UInt8} {i k mk : Nat} {st : Option Nat} (h : Tried e p s i k st mk) (hi : i < p.length) (ha : p.getD i 0 = 42) : Tried e p s (i + 1) k (some i) k := by
  refine ⟨hi, h.hk, fun j hj => ?_, (fun hh => by cases hh), ?_⟩
  · cases hj
    exact ⟨by omega, by omega, ha, fun m h1 h2 => by omega⟩
  · have hk := h.hk
    rw [h.eq, drop_getD hi, ha, gm_star]
    constructor
    · rintro (⟨m, h1, h2⟩ | ⟨j, hj, m, h1, h2, h3⟩)
      · rw [List.length_drop] at h1
        rw [List.drop_drop] at h2
        by_cases hm : m = 0
        · subst hm; exact .inl (by simpa using h2)
        · exact .inr ⟨i, rfl, k + m, by omega, by omega, h2⟩
      · obtain ⟨l1, l2, l3⟩ := h.later hj h1 h3
        rw [drop_getD hi, ha, gm_star] at l3
        obtain ⟨q, q1, q2⟩ := l3
        rw [List.length_drop] at q1
        rw [List.drop_drop] at q2
        refine .inr ⟨i, rfl, m + (i - j - 1) + q, by omega, by omega, q2⟩
    · rintro (h1 | ⟨j, hj, m, h1, h2, h3⟩)
      · exact .inl ⟨0, Nat.zero_le _, by simpa using h1⟩
      · cases hj
        refine .inl ⟨m - k, by rw [List.length_drop]; omega, ?_⟩
        rw [List.drop_drop, show k + (m - k) = m by omega]; exact h3
theorem Tried.lit {p s : List UInt8} {i k mk : Nat} {st : Option Nat} (h : Tried e p s i k st mk) (hi : i < p.length) (hk : k < s.length) (ha : p.getD i 0 ≠ 42) (he : e (p.getD i 0) (s.getD k 0) = true) : Tried e p s (i + 1) (k + 1) st mk := by
  refine ⟨hi, hk, fun j hj => ?_, h.no, ?_⟩
  · obtain ⟨h1, h2, h3, h4⟩ := h.hst j hj
    exact ⟨by omega, by omega, h3, fun m m1 m2 => by
      by_cases hm : m = i
      · subst hm; exact ha
      · exact h4 m m1 (by omega)⟩
  · rw [h.eq, drop_getD hi, drop_getD hk, gm_lit ha, he, Bool.true_and]
theorem Tried.back {p s : List UInt8} {i k mk j : Nat} (h : Tried e p s i k (some j) mk) (hk : k < s.length) (hno : i < p.length → p.getD i 0 ≠ 42 ∧ e (p.getD i 0) (s.getD k 0) = false) : Tried e p s (j + 1) (mk + 1) (some j) (mk + 1) := by
  obtain ⟨h1, h2, h3, h4⟩ := h.hst j rfl
  have hi := h.hi
  refine ⟨by omega, by omega, fun q hq => ?_, (fun hh => by cases hh), ?_⟩
  · cases hq
    exact ⟨by omega, by omega, h3, fun m m1 m2 => by omega⟩
  · have hf : gm e (p.drop i) (s.drop k) = false := by
      by_cases hip : i < p.length
      · obtain ⟨a1, a2⟩ := hno hip
        rw [drop_getD hip, drop_getD hk, gm_lit a1, a2, Bool.false_and]
      · rw [List.drop_eq_nil_of_le (by omega), drop_getD hk, gm]
    rw [h.eq, hf]
    constructor
    · rintro (h5 | ⟨q, hq, m, m1, m2, m3⟩)
      · cases h5
      · cases hq
        by_cases hm : m = mk + 1
        · subst hm; exact .inl m3
        · exact .inr ⟨j, rfl, m, by omega, m2, m3⟩
    · rintro (h5 | ⟨q, hq, m, m1, m2, m3⟩)
      · exact .inr ⟨j, rfl, mk + 1, by omega, by omega, h5⟩
      · cases hq; exact .inr ⟨j, rfl, m, by omega, m2, m3⟩
theorem Tried.fail {p s : List UInt8} {i k mk : Nat} (h : Tried e p s i k none mk) (hk : k < s.length) (hno : i < p.length → p.getD i 0 ≠ 42 ∧ e (p.getD i 0) (s.getD k 0) = false) : gm e p s = false := by
  have hf : gm e (p.drop i) (s.drop k) = false := by
    by_cases hip : i < p.length
    · obtain ⟨a1, a2⟩ := hno hip
      rw [drop_getD hip, drop_getD hk, gm_lit a1, a2, Bool.false_and]
    · rw [List.drop_eq_nil_of_le (by omega), drop_getD hk, gm]
  rw [← Bool.not_eq_true, h.eq, hf]
  rintro (h | ⟨j, hj, _⟩)
  · cases h
  · cases hj
theorem gm_stars : ∀ p : List UInt8, gm e p [] = p.all fun c => decide (c = 42)
  | [] => by rw [gm]; rfl
  | a :: p => by rw [gm, gm_stars p, List.all_cons]
theorem Tried.done {p s : List UInt8} {i k mk : Nat} {st : Option Nat} (h : Tried e p s i k st mk) (hk : s.length ≤ k) : gm e p s = (p.drop i).all fun c => decide (c = 42) := by
  rw [← gm_stars (e := e), Bool.eq_iff_iff, h.eq, List.drop_eq_nil_of_le hk]
  constructor
  · rintro (h1 | ⟨j, hj, m, m1, m2, m3⟩)
    · exact h1
    · obtain ⟨l1, l2, l3⟩ := h.later hj m1 m3
      have := h.hk
      omega
  · exact .inl
end
end Go.Proofs.YtfmbgaaonfgenaaDoor
end
section
namespace Go.Proofs.YtfmbgaaonfgenaaDoor
set_option linter.unusedSimpArgs false
set_option linter.unusedVariables false
set_option maxRecDepth 20000
open Go.RowKit Go.Eng
def lowN (n : Nat) : Nat := if 65 ≤ n ∧ n ≤ 90 then n + 32 else n
def eqL (a b : UInt8) : Bool := decide (((lowN a.toNat : Nat) : Int) = ((lowN b.toNat : Nat) : Int))
theorem lower_any (n : Nat) (hn : n < 256) (w : World) :
    Calls Tryd.prog 14 #[.int .u8 (n : Int)] w fun e w' => e = .returned (.int .u8 ((lowN n : Nat) : Int)) ∧ Below w.heap.size w w' := by
  refine enter_args (args := [.int .u8 (n : Int)]) (F := _) Tryd.func14 rfl Tryd.ntmps14 rfl rfl ?_
  intro Rb hRb hRn
  refine T_seq ?_
  refine T_region ?_
  refine S_ 2 rfl rfl rfl _ (y_assign rfl rfl) ?_
  refine S_go (fun _ _ h => h) ?_
  refine T_seq ?_
  refine T_seq ?_
  refine T_region ?_
  refine S_ 3 rfl rfl rfl _ (y_move rfl rfl) ?_
  refine S_ 4 rfl rfl rfl _ (y_bin rfl rfl rfl (fun _ => b_geq)) ?_
  refine S_ 5 rfl rfl rfl _ (y_move rfl rfl) ?_
  refine Sg_ 6 rfl rfl rfl rfl rfl rfl _ (y_move rfl rfl) ?_
  refine Sg_ 7 rfl rfl rfl rfl rfl rfl _ (y_bin rfl rfl rfl (fun _ => b_leq)) ?_
  refine S_ 8 rfl rfl rfl _ (y_and rfl rfl rfl) ?_
  refine S_go (fun _ _ h => h) ?_
  refine T_cond rfl (fun h8 => ?_) (fun h8 => ?_)
  · skip
    have h8 : 65 ≤ n ∧ n ≤ 90 := by simp only [Bool.and_eq_true, decide_eq_true_eq] at h8; omega
    refine T_seq ?_
    refine T_region ?_
    refine S_ 9 rfl rfl rfl _ (y_move rfl rfl) ?_
    refine S_ 10 rfl rfl rfl _ (y_bin rfl rfl rfl (fun hg => b_addw)) ?_
    refine S_ 11 rfl rfl rfl _ (y_bin rfl rfl rfl (fun hg => b_subw)) ?_
    refine S_ 2 rfl rfl rfl _ (y_assign rfl rfl) ?_
    refine S_go (fun _ _ h => h) ?_
    refine T_ret (fun a w hF hM => hRb a w (post1 rfl rfl (fun w hM => ?_) a w hF hM))
    exact ⟨by rw [lowN, if_pos h8]; congr 2; simp [IntKind.wrap, IntKind.signed, IntKind.bits]; omega, hM.below⟩
  · skip
    have h8 : ¬ (65 ≤ n ∧ n ≤ 90) := by intro h; simp at h8; omega
    refine T_skip_go (fun _ _ h => h) ?_
    refine T_seq ?_
    refine T_region ?_
    refine S_ 12 rfl rfl rfl _ (y_move rfl rfl) ?_
    refine S_ 2 rfl rfl rfl _ (y_assign rfl rfl) ?_
    refine S_go (fun _ _ h => h) ?_
    refine T_ret (fun a w hF hM => hRb a w (post1 rfl rfl (fun w hM => ?_) a w hF hM))
    exact ⟨by rw [lowN, if_neg h8], hM.below⟩
def stI (st : Option Nat) : Int := st.elim (-1) fun j => (j : Int)
theorem Tried.mk_le {e : UInt8 → UInt8 → Bool} {p s : List UInt8} {i k mk : Nat} {st : Option Nat} (h : Tried e p s i k st mk) : mk ≤ k := by
  cases st with
  | none => rw [h.no rfl]; exact Nat.zero_le _
  | some j => have := (h.hst j rfl).2.1; omega
theorem lit_star {p : List UInt8} {i : Nat} (h : (decide (((i : Nat) : Int) < ((p.length : Nat) : Int)) && decide ((((p.getD i 0).toNat : Nat) : Int) = 42)) = true) : i < p.length ∧ p.getD i 0 = 42 := by
  simp only [Bool.and_eq_true, decide_eq_true_eq] at h
  exact ⟨by omega, UInt8.toNat_inj.1 (by show (p.getD i 0).toNat = 42; omega)⟩
theorem lit_no {p : List UInt8} {i : Nat} (h : (decide (((i : Nat) : Int) < ((p.length : Nat) : Int)) && decide ((((p.getD i 0).toNat : Nat) : Int) = 42)) = false) : i < p.length → p.getD i 0 ≠ 42 := by
  intro hi e
  rw [decide_eq_true (by omega), Bool.true_and, decide_eq_false_iff_not] at h
  exact h (by rw [e]; rfl)
theorem mu_star {a b c d e C : Nat} (h : a ≤ b) (h2 : d + 1 ≤ e) : (c - b) * C + (e - (d + 1)) < (c - a) * C + (e - d) := by
  have : (c - b) * C ≤ (c - a) * C := Nat.mul_le_mul_right C (by omega)
  omega
theorem mu_back {m c C x y : Nat} (h : m + 1 ≤ c) (hx : x < C) : (c - (m + 1)) * C + x < (c - m) * C + y := by
  have : (c - m) * C = (c - (m + 1)) * C + C := by rw [show c - m = (c - (m + 1)) + 1 by omega, Nat.succ_mul]
  omega
theorem dropWhile_nilF {p : UInt8 → Bool} : ∀ {l : List UInt8}, l.dropWhile p = [] → ∀ c ∈ l, p c = true
  | [], _ => fun c h => by cases h
  | a :: r, h => fun c hc => by
    rw [List.dropWhile_cons] at h
    split at h
    · rcases List.mem_cons.1 hc with rfl | hc
      · assumption
      · exact dropWhile_nilF h c hc
    · cases h
theorem dropWhile_headF {p : UInt8 → Bool} : ∀ {l : List UInt8} {y : UInt8} {t : List UInt8}, l.dropWhile p = y :: t → p y = false
  | [], y, t, h => by simp at h
  | a :: r, y, t, h => by
    rw [List.dropWhile_cons] at h
    split at h
    · exact dropWhile_headF h
    · rename_i hp
      obtain ⟨rfl, _⟩ := List.cons.inj h
      simpa using hp
theorem trimS_nilF {s cs : List UInt8} (h : Lib.trimS s cs = []) : ∀ c ∈ s, cs.contains c = true := by
  have h1 := dropWhile_nilF (l := Lib.trimRightS s cs) h
  have h2 : s.reverse.dropWhile (cs.contains ·) = [] := by
    cases hq : s.reverse.dropWhile (cs.contains ·) with
    | nil => rfl
    | cons y t =>
      have h3 := dropWhile_headF hq
      have h4 := h1 y (by unfold Lib.trimRightS; rw [hq]; simp)
      rw [h3] at h4; cases h4
  intro c hc
  exact dropWhile_nilF h2 c (List.mem_reverse.2 hc)
theorem dropWhile_allF {p : UInt8 → Bool} : ∀ {l : List UInt8}, (∀ c ∈ l, p c = true) → l.dropWhile p = []
  | [], _ => rfl
  | a :: r, h => by rw [List.dropWhile_cons, if_pos (h a (List.mem_cons_self ..)), dropWhile_allF fun c hc => h c (List.mem_cons_of_mem _ hc)]
theorem trimS_allF {s cs : List UInt8} (h : ∀ c ∈ s, cs.contains c = true) : Lib.trimS s cs = [] := by
  have h2 : s.reverse.dropWhile (cs.contains ·) = [] := dropWhile_allF fun c hc => h c (List.mem_reverse.1 hc)
  have h3 : Lib.trimRightS s cs = [] := by unfold Lib.trimRightS; rw [h2]; rfl
  unfold Lib.trimS; rw [h3]; rfl
theorem all_trim (s : List UInt8) : decide (Lib.trimS s [42] = []) = s.all fun c => decide (c = 42) := by
  rw [Bool.eq_iff_iff, decide_eq_true_eq, List.all_eq_true]
  constructor
  · intro h c hc
    have := trimS_nilF h c hc
    simpa using this
  · intro h
    exact trimS_allF fun c hc => by have := h c hc; simpa using this
theorem Fits_any (p s : List UInt8) (w : World) (hp : p.length ≤ 1000000000) (hs : s.length ≤ 4611686018427387904) :
    Calls Tryd.prog 8 #[str p, str s] w fun e w' => e = .returned (.bool (gm eqL p s)) ∧ Below w.heap.size w w' := by
  refine enter_args (args := [str p, str s]) (F := _) Tryd.func8 rfl Tryd.ntmps8 rfl rfl ?_
  intro Rb hRb hRn
  refine T_seq ?_
  refine T_region ?_
  refine S_ 4 rfl rfl rfl _ (y_assign rfl rfl) ?_
  refine S_go (fun _ _ h => h) ?_
  refine T_seq ?_
  refine T_region ?_
  refine S_ 5 rfl rfl rfl _ (y_assign rfl rfl) ?_
  refine S_ 6 rfl rfl rfl _ (y_assign rfl rfl) ?_
  refine S_ 7 rfl rfl rfl _ (y_assign rfl rfl) ?_
  refine S_go (fun _ _ h => h) ?_
  refine T_seq ?_
  refine T_seq ?_
  refine T_region ?_
  refine S_ 8 rfl rfl rfl _ (y_assign rfl rfl) ?_
  refine S_go (fun _ _ h => h) ?_
  refine T_block ?_
  refine T_loopK4 (kf := [(4, 55)]) (kl := [(4, 55)]) (fun (i : Nat) (k : Nat) (st : Option Nat) (mk : Nat) => [(5, true, .int .i64 (i : Int)), (6, true, .int .i64 (stI st)), (7, true, .int .i64 (mk : Int)), (8, true, .int .i64 (k : Int))]) (fun (i : Nat) (k : Nat) (st : Option Nat) (mk : Nat) => []) (fun (i : Nat) (k : Nat) (st : Option Nat) (mk : Nat) => Tried eqL p s i k st mk) (fun (i : Nat) (k : Nat) (st : Option Nat) (mk : Nat) => (s.length - mk) * (p.length + s.length + 2) + ((p.length + s.length + 1) - (i + k))) 0 0 none 0 (by repeat (first | exact kf_nil | (apply kf_in; focus rfl) | (apply kf_out; focus rfl))) (by repeat (first | exact kl_nil | exact kl_rest (by assumption) rfl | (apply kl_in; focus rfl) | (apply kl_out; focus rfl))) ?_ ?_ ?_ ?_
  · exact Tried.start p s
  · exact ⟨rfl, rfl, rfl, rfl, trivial⟩
  · exact trivial
  rintro i k st mk ht
  refine T_seq ?_
  refine T_seq ?_
  refine T_region ?_
  refine S_ 9 rfl rfl rfl _ (y_move rfl rfl) ?_
  refine S_ 10 rfl rfl rfl _ (y_move rfl rfl) ?_
  refine S_ 11 rfl rfl rfl _ (y_len_str rfl rfl Tryd.underlying9) ?_
  refine S_ 12 rfl rfl rfl _ (y_bin rfl rfl rfl (fun _ => b_lss)) ?_
  refine S_go (fun _ _ h => h) ?_
  refine T_cond rfl (fun h12 => ?_) (fun h12 => ?_)
  · try simp only [decide_eq_true_eq, decide_eq_false_iff_not, Bool.or_eq_true, Bool.or_eq_false_iff, Bool.and_eq_true, Bool.and_eq_false_iff, Bool.not_eq_true', Bool.not_eq_false', Bool.not_eq_true, Bool.not_eq_false, Bool.not_true, Bool.not_false, Int.not_lt, Int.not_le, not_or, not_and, Classical.not_not] at h12
    have hk : k < s.length := by omega
    have hmk := ht.mk_le
    have hil := ht.hi
    refine T_skip_go (fun _ _ h => h) ?_
    refine T_block ?_
    refine T_block ?_
    refine T_seq ?_
    refine T_region ?_
    refine S_ 14 rfl rfl rfl _ (y_move rfl rfl) ?_
    refine S_ 15 rfl rfl rfl _ (y_move rfl rfl) ?_
    refine S_ 16 rfl rfl rfl _ (y_len_str rfl rfl Tryd.underlying9) ?_
    refine S_ 17 rfl rfl rfl _ (y_bin rfl rfl rfl (fun _ => b_lss)) ?_
    refine S_ 18 rfl rfl rfl _ (y_move rfl rfl) ?_
    refine Sg_ 19 rfl rfl rfl rfl rfl rfl _ (y_move rfl rfl) ?_
    refine Sg_ 20 rfl rfl rfl rfl rfl rfl _ (y_move rfl rfl) ?_
    refine Sg_ 21 rfl rfl rfl rfl rfl rfl _ (y_index_str rfl rfl rfl Tryd.underlying9 (fun hg => by simp only [Bool.true_and, Bool.and_eq_true, beq_iff_eq, decide_eq_true_eq, decide_eq_false_iff_not, Int.not_lt, Int.not_le] at hg; omega)) ?_
    refine Sg_ 22 rfl rfl rfl rfl rfl rfl _ (y_bin rfl rfl rfl (fun _ => b_eql)) ?_
    refine S_ 23 rfl rfl rfl _ (y_and rfl rfl rfl) ?_
    refine S_ 13 rfl rfl rfl _ (y_assign rfl rfl) ?_
    refine S_go (fun _ _ h => h) ?_
    refine T_cond rfl (fun h13 => ?_) (fun h13 => ?_)
    · skip
      have hi : i < p.length ∧ p.getD i 0 = 42 := lit_star h13
      refine T_seq ?_
      refine T_region ?_
      refine S_ 24 rfl rfl rfl _ (y_move rfl rfl) ?_
      refine S_ 25 rfl rfl rfl _ (y_move rfl rfl) ?_
      refine S_ 6 rfl rfl rfl _ (y_assign rfl rfl) ?_
      refine S_ 7 rfl rfl rfl _ (y_assign rfl rfl) ?_
      refine S_go (fun _ _ h => h) ?_
      refine T_region ?_
      refine S_ 26 rfl rfl rfl _ (y_move rfl rfl) ?_
      refine S_ 27 rfl rfl rfl _ (y_bin rfl rfl rfl (fun hg => b_add (by omega))) ?_
      refine S_ 5 rfl rfl rfl _ (y_assign rfl rfl) ?_
      refine S_nil (nextK4 (kf := [(4, 55)]) (kl := [(4, 55)]) (i + 1) k (some i) k (by repeat (first | exact kf_nil | (apply kf_in; focus rfl) | (apply kf_out; focus rfl))) (by repeat (first | exact kl_nil | exact kl_rest (by assumption) rfl | (apply kl_in; focus rfl) | (apply kl_out; focus rfl))) ?_ ?_ ?_ ?_)
      · simpa only [show i + 1 + k = i + k + 1 by omega] using mu_star (C := p.length + s.length + 2) (c := s.length) (d := i + k) (e := p.length + s.length + 1) hmk (by omega)
      · exact ht.star hi.1 hi.2
      · exact ⟨rfl, rfl, rfl, rfl, trivial⟩
      · exact trivial
    · skip
      have hns : i < p.length → p.getD i 0 ≠ 42 := lit_no h13
      refine T_seq ?_
      refine T_draws (by kernel_rfl) (by kernel_rfl) ?_
      refine D_ 29 rfl rfl rfl _ (y_move rfl rfl) ?_
      refine D_ 30 rfl rfl rfl _ (y_move rfl rfl) ?_
      refine D_ 31 rfl rfl rfl _ (y_len_str rfl rfl Tryd.underlying9) ?_
      refine D_ 32 rfl rfl rfl _ (y_bin rfl rfl rfl (fun _ => b_lss)) ?_
      refine D_ 33 rfl rfl rfl _ (y_move rfl rfl) ?_
      refine Dg_ 34 rfl rfl rfl rfl rfl rfl _ (y_move rfl rfl) ?_
      refine Dg_ 35 rfl rfl rfl rfl rfl rfl _ (y_move rfl rfl) ?_
      refine Dg_ 36 rfl rfl rfl rfl rfl rfl _ (y_index_str rfl rfl rfl Tryd.underlying9 (fun hg => by simp only [Bool.true_and, Bool.and_eq_true, beq_iff_eq, decide_eq_true_eq, decide_eq_false_iff_not, Int.not_lt, Int.not_le] at hg; omega)) ?_
      refine Dg_ 37 rfl rfl rfl rfl rfl rfl _ (y_call rfl rfl rfl cf14 (fun _ w _ => lower_any _ (UInt8.toNat_lt _) w)) ?_
      refine Dg_ 38 rfl rfl rfl rfl rfl rfl _ (y_move rfl rfl) ?_
      refine Dg_ 39 rfl rfl rfl rfl rfl rfl _ (y_move rfl rfl) ?_
      refine Dg_ 40 rfl rfl rfl rfl rfl rfl _ (y_index_str rfl rfl rfl Tryd.underlying9 (fun hg => by simp only [Bool.true_and, Bool.and_eq_true, beq_iff_eq, decide_eq_true_eq, decide_eq_false_iff_not, Int.not_lt, Int.not_le] at hg; omega)) ?_
      refine Dg_ 41 rfl rfl rfl rfl rfl rfl _ (y_call rfl rfl rfl cf14 (fun _ w _ => lower_any _ (UInt8.toNat_lt _) w)) ?_
      refine Dg_ 42 rfl rfl rfl rfl rfl rfl _ (y_bin rfl rfl rfl (fun _ => b_eql)) ?_
      refine D_ 43 rfl rfl rfl _ (y_and rfl rfl rfl) ?_
      refine D_ 28 rfl rfl rfl _ (y_assign rfl rfl) ?_
      refine D_go (fun _ _ h => h) ?_
      refine T_cond rfl (fun h28 => ?_) (fun h28 => ?_)
      · skip
        have hi : i < p.length ∧ eqL (p.getD i 0) (s.getD k 0) = true := by simp only [Bool.and_eq_true, decide_eq_true_eq] at h28; exact ⟨by omega, decide_eq_true h28.2⟩
        refine T_seq ?_
        refine T_region ?_
        refine S_ 44 rfl rfl rfl _ (y_move rfl rfl) ?_
        refine S_ 45 rfl rfl rfl _ (y_bin rfl rfl rfl (fun hg => b_add (by omega))) ?_
        refine S_ 5 rfl rfl rfl _ (y_assign rfl rfl) ?_
        refine S_go (fun _ _ h => h) ?_
        refine T_region ?_
        refine S_ 46 rfl rfl rfl _ (y_move rfl rfl) ?_
        refine S_ 47 rfl rfl rfl _ (y_bin rfl rfl rfl (fun hg => b_add (by omega))) ?_
        refine S_ 8 rfl rfl rfl _ (y_assign rfl rfl) ?_
        refine S_nil (nextK4 (kf := [(4, 55)]) (kl := [(4, 55)]) (i + 1) (k + 1) st mk (by repeat (first | exact kf_nil | (apply kf_in; focus rfl) | (apply kf_out; focus rfl))) (by repeat (first | exact kl_nil | exact kl_rest (by assumption) rfl | (apply kl_in; focus rfl) | (apply kl_out; focus rfl))) ?_ ?_ ?_ ?_)
        · omega
        · exact ht.lit hi.1 hk (hns hi.1) hi.2
        · exact ⟨rfl, rfl, rfl, rfl, trivial⟩
        · exact trivial
      · skip
        have hno : i < p.length → p.getD i 0 ≠ 42 ∧ eqL (p.getD i 0) (s.getD k 0) = false := fun h => ⟨hns h, by rw [decide_eq_true (show ((i : Nat) : Int) < p.length by omega), Bool.true_and] at h28; exact h28⟩
        refine T_seq ?_
        refine T_region ?_
        refine S_ 49 rfl rfl rfl _ (y_move rfl rfl) ?_
        refine S_ 50 rfl rfl rfl _ (y_bin rfl rfl rfl (fun _ => b_geq)) ?_
        refine S_ 48 rfl rfl rfl _ (y_assign rfl rfl) ?_
        refine S_go (fun _ _ h => h) ?_
        refine T_cond rfl (fun h48 => ?_) (fun h48 => ?_)
        · skip
          obtain ⟨j, rfl⟩ : ∃ j, st = some j := by cases st with
            | none => simp [stI] at h48 <;> omega
            | some j => exact ⟨j, rfl⟩
          have hji := (ht.hst j rfl).1
          refine T_seq ?_
          refine T_region ?_
          refine S_ 51 rfl rfl rfl _ (y_move rfl rfl) ?_
          refine S_ 52 rfl rfl rfl _ (y_bin rfl rfl rfl (fun hg => b_add (by omega))) ?_
          refine S_ 7 rfl rfl rfl _ (y_assign rfl rfl) ?_
          refine S_go (fun _ _ h => h) ?_
          refine T_region ?_
          refine S_ 53 rfl rfl rfl _ (y_as (v' := .int .i64 ((j : Nat) : Int)) (by exact rfl) (y_move rfl rfl)) ?_
          refine S_ 54 rfl rfl rfl _ (y_bin rfl rfl rfl (fun hg => b_add (by omega))) ?_
          refine S_ 55 rfl rfl rfl _ (y_move rfl rfl) ?_
          refine S_ 5 rfl rfl rfl _ (y_assign rfl rfl) ?_
          refine S_ 8 rfl rfl rfl _ (y_assign rfl rfl) ?_
          refine S_nil (nextK4 (kf := [(4, 55)]) (kl := [(4, 55)]) (j + 1) (mk + 1) (some j) (mk + 1) (by repeat (first | exact kf_nil | (apply kf_in; focus rfl) | (apply kf_out; focus rfl))) (by repeat (first | exact kl_nil | exact kl_rest (by assumption) rfl | (apply kl_in; focus rfl) | (apply kl_out; focus rfl))) ?_ ?_ ?_ ?_)
          · exact mu_back (by omega) (by omega)
          · exact ht.back hk hno
          · exact ⟨rfl, rfl, rfl, rfl, trivial⟩
          · exact trivial
        · skip
          have hst : st = none := by cases st with
            | none => rfl
            | some j => simp [stI] at h48 <;> omega
          subst hst
          refine T_seq ?_
          refine T_region ?_
          refine S_ 4 rfl rfl rfl _ (y_assign rfl rfl) ?_
          refine S_go (fun _ _ h => h) ?_
          refine T_ret (fun a w hF hM => hRb a w (post1 rfl rfl (fun w hM => ?_) a w hF hM))
          exact ⟨by rw [ht.fail hk hno], hM.below⟩
  · try simp only [decide_eq_true_eq, decide_eq_false_iff_not, Bool.or_eq_true, Bool.or_eq_false_iff, Bool.and_eq_true, Bool.and_eq_false_iff, Bool.not_eq_true', Bool.not_eq_false', Bool.not_eq_true, Bool.not_eq_false, Bool.not_true, Bool.not_false, Int.not_lt, Int.not_le, not_or, not_and, Classical.not_not] at h12
    have hk : s.length ≤ k := by omega
    have hil := ht.hi
    refine T_exit_go (fun _ _ h => h) ?_
    refine T_seq ?_
    refine T_region ?_
    refine S_ 56 rfl rfl rfl _ (y_move rfl rfl) ?_
    refine S_ 57 rfl rfl rfl _ (y_move rfl rfl) ?_
    refine S_ 58 rfl rfl rfl _ (y_strFrom rfl rfl rfl Tryd.underlying9 (fun _ => by omega)) ?_
    refine S_ 59 rfl rfl rfl _ (y_call rfl rfl rfl cf15 (fun _ w _ => Any.strings_Trim_laid Tryd.lays160 (by kernel_rfl) ⟨(p.drop i).toArray⟩ ⟨([42] : List UInt8).toArray⟩ w (by rw [Lib.size_eq]; simp; omega) (by decide) (ascii_of_all (by decide)))) ?_
    refine S_ 60 rfl rfl rfl _ (y_bin rfl rfl rfl (fun _ => b_eqls)) ?_
    refine S_ 4 rfl rfl rfl _ (y_assign rfl rfl) ?_
    refine S_go (fun _ _ h => h) ?_
    refine T_ret (fun a w hF hM => hRb a w (post1 rfl rfl (fun w hM => ?_) a w hF hM))
    exact ⟨by rw [ht.done hk, ← all_trim], hM.below⟩
end Go.Proofs.YtfmbgaaonfgenaaDoor
end
section
namespace Go.Proofs.YtfmbgaaonfgenaaDoor
set_option linter.unusedSimpArgs false
set_option linter.unusedVariables false
set_option maxRecDepth 20000
open Go.RowKit Go.Eng
/-! ### step -/
end Go.Proofs.YtfmbgaaonfgenaaDoor
end
section
namespace Go.Proofs.YtfmbgaaonfgenaaDoor
set_option linter.unusedSimpArgs false
set_option linter.unusedVariables false
set_option maxRecDepth 20000
open Go.RowKit Go.Eng
def lowB (c : UInt8) : UInt8 := UInt8.ofNat (lowN c.toNat)
theorem lowN_lt (c : UInt8) : lowN c.toNat < 256 := by
  have := UInt8.toNat_lt c
  unfold lowN; split <;> omega
theorem lowB_nat (c : UInt8) : (lowB c).toNat = lowN c.toNat := by
  rw [lowB]; simp; exact lowN_lt c
end Go.Proofs.YtfmbgaaonfgenaaDoor
end
