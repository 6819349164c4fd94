/- Part 4, merged by a program. Conditions: whether each is right, and CheckCond. Conditions: those of each theorem. Patterns with stars: what they match, the search that goes back to the last star, and the table of all beginnings. Plain lists; no program in sight. -/
import Derived.Test.YtfmbgaaonfgenaaGreatDoorOpen
import Derived.Test.YtfmbgaaonfgenaaGreatDoorPk3
section
namespace Go.Proofs.YtfmbgaaonfgenaaGreatDoor
set_option linter.unusedSimpArgs false
set_option linter.unusedVariables false
set_option maxRecDepth 20000
open Go.RowKit Go.Eng
abbrev hdX (x : SC) : Int := chdNo txtNo nameOk x.op x.kids.length x.lo x.hi x.nm x.tx
def f1B (x : SC) : Bool := (decide (0 < x.kids.length) && !grpB x.op || ((!decide (x.lo = 0) || !decide (x.hi = 0)) && !rngB x.op) || (!decide (x.nm = []) && !nmdB x.op) || (!decide (x.tx = []) && !wrdB x.op))
def f2B (x : SC) : Bool := ((decide (x.op = 1) || decide (x.op = 2)) && decide (x.kids.length < 2) || decide (x.op = 3) && !decide (x.kids.length = 1))
def r1B (x : SC) : Bool := !inB x.lo (loR x.op) (hiR x.op) || !inB x.hi (loR x.op) (hiR x.op)
theorem hd_def (x : SC) : hdX x = if inB x.op 1 14 = false then 10 else if f1B x = true then 1 else if f2B x = true then 1 else if (rngB x.op && r1B x) = true then 2 else if (rngB x.op && decide (x.hi < x.lo)) = true then 5 else if (nmdB x.op && !nameOk x.nm) = true then 3 else if wrdB x.op = true then txtNo x.tx else 0 := rfl
abbrev chX (x : SC) : Int := chkP (chdNo txtNo nameOk) x.says
theorem chX_def (x : SC) : chX x = if hdX x ≠ 0 then hdX x else chkL (chdNo txtNo nameOk) (x.kids.map SC.says) := by
  show chkP _ x.says = _
  rw [SC.says_form, chkP, List.length_map]
theorem chX_hd {x : SC} {n : Int} (h : hdX x = n) (hn : n ≠ 0) : chX x = n := by rw [chX_def, h, if_pos hn]
theorem chX_kids {x : SC} (h : hdX x = 0) : chX x = chkL (chdNo txtNo nameOk) (x.kids.map SC.says) := by rw [chX_def, h, if_neg (by simp)]
def OneAt (x : SC) : Prop := ∀ w : World, x.Ok w → Calls Tryz.prog 112 #[x.val] w fun e w' => e = .returned (.int .i64 (chX x)) ∧ Below w.heap.size w w'
theorem hd_rest {x : SC} (h1 : inB x.op 1 14 = true) (h2 : f1B x = false) (h3 : f2B x = false) : hdX x = if (rngB x.op && r1B x) = true then 2 else if (rngB x.op && decide (x.hi < x.lo)) = true then 5 else if (nmdB x.op && !nameOk x.nm) = true then 3 else if wrdB x.op = true then txtNo x.tx else 0 := by
  rw [hd_def, if_neg (by rw [h1]; simp), if_neg (by rw [h2]; simp), if_neg (by rw [h3]; simp)]
theorem hd_late {x : SC} (h : hdX x = if (rngB x.op && r1B x) = true then 2 else if (rngB x.op && decide (x.hi < x.lo)) = true then 5 else if (nmdB x.op && !nameOk x.nm) = true then 3 else if wrdB x.op = true then txtNo x.tx else 0) (h1 : (rngB x.op && r1B x) = false) (h2 : (rngB x.op && decide (x.hi < x.lo)) = false) : hdX x = if (nmdB x.op && !nameOk x.nm) = true then 3 else if wrdB x.op = true then txtNo x.tx else 0 := by
  rw [h, if_neg (by rw [h1]; simp), if_neg (by rw [h2]; simp)]
set_option maxHeartbeats 3200000 in
theorem one_step (x : SC) (ih : ∀ k ∈ x.kids, OneAt k) : OneAt x := fun w hok => by
  obtain ⟨hs, hq, hb, hn, ht, hk⟩ := hok.parts
  have hl : SlT SC.enc 6 w x.ad x.q x.kids := hs.t
  have hlen := hl.len
  refine enter_args (args := [.agg #[.int .i64 x.op, .slice x.ad x.q x.c, .int .i64 x.lo, .int .i64 x.hi, str x.nm, str x.tx]]) (F := _) Tryz.func112 rfl Tryz.ntmps112 rfl rfl ?_
  intro Rb hRb hRn
  refine T_seq ?_
  refine T_region ?_
  refine S_box 1 1 rfl rfl rfl rfl rfl ?_
  intro b1
  refine S_ 2 rfl rfl rfl _ (y_assign rfl rfl) ?_
  refine S_go (fun _ _ h => h) ?_
  refine T_seq ?_
  refine T_seq ?_
  refine T_region ?_
  refine S_ 9 rfl rfl rfl _ (y_fieldAddr rfl rfl fa24_0) ?_
  refine S_ 10 rfl rfl rfl _ (y_load 1 rfl rfl rfl rfl Tryz.underlying3 rfl) ?_
  refine S_ 11 rfl rfl rfl _ (y_call rfl rfl rfl cf88 (fun _ w _ => fout_any _ _ _ w)) ?_
  refine S_go (fun _ _ h => h) ?_
  refine T_cond rfl (fun h11 => ?_) (fun h11 => ?_)
  · skip
    have hi1 : inB x.op 1 14 = false := by simpa using h11
    have e1 : chX x = 10 := chX_hd (by rw [hd_def, if_pos hi1]) (by decide)
    refine T_seq ?_
    refine T_region ?_
    refine S_ 2 rfl rfl rfl _ (y_assign rfl rfl) ?_
    refine S_go (fun _ _ h => h) ?_
    refine T_ret (fun a w hF hM => hRb a w (post1 rfl rfl (fun w hM => ?_) a w hF hM))
    first | exact ⟨by rw [e1], hM.below⟩ | exact ⟨by rw [hch, ← hp2, hl.end (by omega)]; rfl, hM.below⟩
  · skip
    have hi1 : inB x.op 1 14 = true := by simpa using h11
    refine T_skip_go (fun _ _ h => h) ?_
    refine T_seq ?_
    refine T_seq ?_
    refine T_region ?_
    refine S_ 12 rfl rfl rfl _ (y_fieldAddr rfl rfl fa24_1) ?_
    refine S_ 13 rfl rfl rfl _ (y_load 1 rfl rfl rfl rfl Tryz.underlying22 rfl) ?_
    refine S_ 14 rfl rfl rfl _ (y_len_slice rfl rfl Tryz.underlying22) ?_
    refine S_ 15 rfl rfl rfl _ (y_bin rfl rfl rfl (fun _ => b_gtr)) ?_
    refine S_ 16 rfl rfl rfl _ (y_move rfl rfl) ?_
    refine Sg_ 17 rfl rfl rfl rfl rfl rfl _ (y_fieldAddr rfl rfl fa24_0) ?_
    refine Sg_ 18 rfl rfl rfl rfl rfl rfl _ (y_load 1 rfl rfl rfl rfl Tryz.underlying3 rfl) ?_
    refine Sg_ 19 rfl rfl rfl rfl rfl rfl _ (y_call rfl rfl rfl cf189 (fun _ w _ => groups_any _ w)) ?_
    refine Sg_ 20 rfl rfl rfl rfl rfl rfl _ (y_not rfl rfl) ?_
    refine S_ 21 rfl rfl rfl _ (y_and rfl rfl rfl) ?_
    refine S_ 22 rfl rfl rfl _ (y_move rfl rfl) ?_
    refine Sg_ 23 rfl rfl rfl rfl rfl rfl _ (y_fieldAddr rfl rfl fa24_2) ?_
    refine Sg_ 24 rfl rfl rfl rfl rfl rfl _ (y_load 1 rfl rfl rfl rfl Tryz.underlying3 rfl) ?_
    refine Sg_ 25 rfl rfl rfl rfl rfl rfl _ (y_bin rfl rfl rfl (fun _ => b_neq)) ?_
    refine Sg_ 26 rfl rfl rfl rfl rfl rfl _ (y_move rfl rfl) ?_
    refine Sg_ 27 rfl rfl rfl rfl rfl rfl _ (y_fieldAddr rfl rfl fa24_3) ?_
    refine Sg_ 28 rfl rfl rfl rfl rfl rfl _ (y_load 1 rfl rfl rfl rfl Tryz.underlying3 rfl) ?_
    refine Sg_ 29 rfl rfl rfl rfl rfl rfl _ (y_bin rfl rfl rfl (fun _ => b_neq)) ?_
    refine Sg_ 30 rfl rfl rfl rfl rfl rfl _ (y_or rfl rfl rfl) ?_
    refine Sg_ 31 rfl rfl rfl rfl rfl rfl _ (y_move rfl rfl) ?_
    refine Sg_ 32 rfl rfl rfl rfl rfl rfl _ (y_fieldAddr rfl rfl fa24_0) ?_
    refine Sg_ 33 rfl rfl rfl rfl rfl rfl _ (y_load 1 rfl rfl rfl rfl Tryz.underlying3 rfl) ?_
    refine Sg_ 34 rfl rfl rfl rfl rfl rfl _ (y_call rfl rfl rfl cf190 (fun _ w _ => ranges_any _ w)) ?_
    refine Sg_ 35 rfl rfl rfl rfl rfl rfl _ (y_not rfl rfl) ?_
    refine Sg_ 36 rfl rfl rfl rfl rfl rfl _ (y_and rfl rfl rfl) ?_
    refine S_ 37 rfl rfl rfl _ (y_or rfl rfl rfl) ?_
    refine S_ 38 rfl rfl rfl _ (y_move rfl rfl) ?_
    refine Sg_ 39 rfl rfl rfl rfl rfl rfl _ (y_fieldAddr rfl rfl fa24_4) ?_
    refine Sg_ 40 rfl rfl rfl rfl rfl rfl _ (y_load 1 rfl rfl rfl rfl Tryz.underlying9 rfl) ?_
    refine Sg_ 41 rfl rfl rfl rfl rfl rfl _ (y_bin rfl rfl rfl (fun _ => b_neqs)) ?_
    refine Sg_ 42 rfl rfl rfl rfl rfl rfl _ (y_move rfl rfl) ?_
    refine Sg_ 43 rfl rfl rfl rfl rfl rfl _ (y_fieldAddr rfl rfl fa24_0) ?_
    refine Sg_ 44 rfl rfl rfl rfl rfl rfl _ (y_load 1 rfl rfl rfl rfl Tryz.underlying3 rfl) ?_
    refine Sg_ 45 rfl rfl rfl rfl rfl rfl _ (y_call rfl rfl rfl cf191 (fun _ w _ => named_any _ w)) ?_
    refine Sg_ 46 rfl rfl rfl rfl rfl rfl _ (y_not rfl rfl) ?_
    refine Sg_ 47 rfl rfl rfl rfl rfl rfl _ (y_and rfl rfl rfl) ?_
    refine S_ 48 rfl rfl rfl _ (y_or rfl rfl rfl) ?_
    refine S_ 49 rfl rfl rfl _ (y_move rfl rfl) ?_
    refine Sg_ 50 rfl rfl rfl rfl rfl rfl _ (y_fieldAddr rfl rfl fa24_5) ?_
    refine Sg_ 51 rfl rfl rfl rfl rfl rfl _ (y_load 1 rfl rfl rfl rfl Tryz.underlying9 rfl) ?_
    refine Sg_ 52 rfl rfl rfl rfl rfl rfl _ (y_bin rfl rfl rfl (fun _ => b_neqs)) ?_
    refine Sg_ 53 rfl rfl rfl rfl rfl rfl _ (y_move rfl rfl) ?_
    refine Sg_ 54 rfl rfl rfl rfl rfl rfl _ (y_fieldAddr rfl rfl fa24_0) ?_
    refine Sg_ 55 rfl rfl rfl rfl rfl rfl _ (y_load 1 rfl rfl rfl rfl Tryz.underlying3 rfl) ?_
    refine Sg_ 56 rfl rfl rfl rfl rfl rfl _ (y_call rfl rfl rfl cf192 (fun _ w _ => worded_any _ w)) ?_
    refine Sg_ 57 rfl rfl rfl rfl rfl rfl _ (y_not rfl rfl) ?_
    refine Sg_ 58 rfl rfl rfl rfl rfl rfl _ (y_and rfl rfl rfl) ?_
    refine S_ 59 rfl rfl rfl _ (y_as (v' := .bool (f1B x)) (by simp only [f1B, hlen, Int.natCast_pos]) (y_or rfl rfl rfl)) ?_
    refine S_go (fun _ _ h => h) ?_
    refine T_cond rfl (fun h59 => ?_) (fun h59 => ?_)
    · skip
      have e1 : chX x = 1 := chX_hd (by rw [hd_def, if_neg (by rw [hi1]; simp), if_pos h59]) (by decide)
      refine T_seq ?_
      refine T_region ?_
      refine S_ 2 rfl rfl rfl _ (y_assign rfl rfl) ?_
      refine S_go (fun _ _ h => h) ?_
      refine T_ret (fun a w hF hM => hRb a w (post1 rfl rfl (fun w hM => ?_) a w hF hM))
      first | exact ⟨by rw [e1], hM.below⟩ | exact ⟨by rw [hch, ← hp2, hl.end (by omega)]; rfl, hM.below⟩
    · skip
      refine T_skip_go (fun _ _ h => h) ?_
      refine T_seq ?_
      refine T_seq ?_
      refine T_region ?_
      refine S_ 60 rfl rfl rfl _ (y_fieldAddr rfl rfl fa24_0) ?_
      refine S_ 61 rfl rfl rfl _ (y_load 1 rfl rfl rfl rfl Tryz.underlying3 rfl) ?_
      refine S_ 62 rfl rfl rfl _ (y_bin rfl rfl rfl (fun _ => b_eql)) ?_
      refine S_ 63 rfl rfl rfl _ (y_move rfl rfl) ?_
      refine Sg_ 64 rfl rfl rfl rfl rfl rfl _ (y_fieldAddr rfl rfl fa24_0) ?_
      refine Sg_ 65 rfl rfl rfl rfl rfl rfl _ (y_load 1 rfl rfl rfl rfl Tryz.underlying3 rfl) ?_
      refine Sg_ 66 rfl rfl rfl rfl rfl rfl _ (y_bin rfl rfl rfl (fun _ => b_eql)) ?_
      refine S_ 67 rfl rfl rfl _ (y_or rfl rfl rfl) ?_
      refine S_ 68 rfl rfl rfl _ (y_move rfl rfl) ?_
      refine Sg_ 69 rfl rfl rfl rfl rfl rfl _ (y_fieldAddr rfl rfl fa24_1) ?_
      refine Sg_ 70 rfl rfl rfl rfl rfl rfl _ (y_load 1 rfl rfl rfl rfl Tryz.underlying22 rfl) ?_
      refine Sg_ 71 rfl rfl rfl rfl rfl rfl _ (y_len_slice rfl rfl Tryz.underlying22) ?_
      refine Sg_ 72 rfl rfl rfl rfl rfl rfl _ (y_bin rfl rfl rfl (fun _ => b_lss)) ?_
      refine S_ 73 rfl rfl rfl _ (y_and rfl rfl rfl) ?_
      refine S_ 74 rfl rfl rfl _ (y_move rfl rfl) ?_
      refine Sg_ 75 rfl rfl rfl rfl rfl rfl _ (y_fieldAddr rfl rfl fa24_0) ?_
      refine Sg_ 76 rfl rfl rfl rfl rfl rfl _ (y_load 1 rfl rfl rfl rfl Tryz.underlying3 rfl) ?_
      refine Sg_ 77 rfl rfl rfl rfl rfl rfl _ (y_bin rfl rfl rfl (fun _ => b_eql)) ?_
      refine Sg_ 78 rfl rfl rfl rfl rfl rfl _ (y_move rfl rfl) ?_
      refine Sg_ 79 rfl rfl rfl rfl rfl rfl _ (y_fieldAddr rfl rfl fa24_1) ?_
      refine Sg_ 80 rfl rfl rfl rfl rfl rfl _ (y_load 1 rfl rfl rfl rfl Tryz.underlying22 rfl) ?_
      refine Sg_ 81 rfl rfl rfl rfl rfl rfl _ (y_len_slice rfl rfl Tryz.underlying22) ?_
      refine Sg_ 82 rfl rfl rfl rfl rfl rfl _ (y_bin rfl rfl rfl (fun _ => b_neq)) ?_
      refine Sg_ 83 rfl rfl rfl rfl rfl rfl _ (y_and rfl rfl rfl) ?_
      refine S_ 84 rfl rfl rfl _ (y_as (v' := .bool (f2B x)) (by rw [f2B, hlen, show decide (((x.q : Nat) : Int) < 2) = decide (x.q < 2) from decide_eq_decide.2 (by omega), show decide (((x.q : Nat) : Int) = 1) = decide (x.q = 1) from decide_eq_decide.2 (by omega)]) (y_or rfl rfl rfl)) ?_
      refine S_go (fun _ _ h => h) ?_
      refine T_cond rfl (fun h84 => ?_) (fun h84 => ?_)
      · skip
        have e1 : chX x = 1 := chX_hd (by rw [hd_def, if_neg (by rw [hi1]; simp), if_neg (by rw [h59]; simp), if_pos h84]) (by decide)
        refine T_seq ?_
        refine T_region ?_
        refine S_ 2 rfl rfl rfl _ (y_assign rfl rfl) ?_
        refine S_go (fun _ _ h => h) ?_
        refine T_ret (fun a w hF hM => hRb a w (post1 rfl rfl (fun w hM => ?_) a w hF hM))
        first | exact ⟨by rw [e1], hM.below⟩ | exact ⟨by rw [hch, ← hp2, hl.end (by omega)]; rfl, hM.below⟩
      · skip
        have hre := hd_rest hi1 h59 h84
        refine T_skip_go (fun _ _ h => h) ?_
        refine T_seq ?_
        refine T_seq ?_
        refine T_region ?_
        refine S_ 85 rfl rfl rfl _ (y_fieldAddr rfl rfl fa24_0) ?_
        refine S_ 86 rfl rfl rfl _ (y_load 1 rfl rfl rfl rfl Tryz.underlying3 rfl) ?_
        refine S_ 87 rfl rfl rfl _ (y_call rfl rfl rfl cf190 (fun _ w _ => ranges_any _ w)) ?_
        refine S_go (fun _ _ h => h) ?_
        refine T_cond rfl (fun h87 => ?_) (fun h87 => ?_)
        · skip
          have hr : rngB x.op = true := h87
          refine T_seq ?_
          refine T_region ?_
          refine S_ 3 rfl rfl rfl _ (y_assign rfl rfl) ?_
          refine S_ 4 rfl rfl rfl _ (y_assign rfl rfl) ?_
          refine S_go (fun _ _ h => h) ?_
          refine T_seq ?_
          refine T_seq ?_
          refine T_region ?_
          refine S_ 88 rfl rfl rfl _ (y_fieldAddr rfl rfl fa24_0) ?_
          refine S_ 89 rfl rfl rfl _ (y_load 1 rfl rfl rfl rfl Tryz.underlying3 rfl) ?_
          refine S_go (fun _ _ h => h) ?_
          refine T_block ?_
          refine T_seq ?_
          refine T_region ?_
          refine S_ 91 rfl rfl rfl _ (y_bin rfl rfl rfl (fun _ => b_eql)) ?_
          refine S_ 90 rfl rfl rfl _ (y_assign rfl rfl) ?_
          refine S_go (fun _ _ h => h) ?_
          refine T_cond rfl (fun h90 => ?_) (fun h90 => ?_)
          · skip
            have hk5 : x.op = 5 := by simpa using h90
            refine T_region ?_
            refine S_ 3 rfl rfl rfl _ (y_assign rfl rfl) ?_
            refine S_ 4 rfl rfl rfl _ (y_assign rfl rfl) ?_
            refine S_go (fun _ _ h => h) ?_
            refine T_seq ?_
            refine T_seq ?_
            refine T_region ?_
            refine S_ 94 rfl rfl rfl _ (y_fieldAddr rfl rfl fa24_2) ?_
            refine S_ 95 rfl rfl rfl _ (y_load 1 rfl rfl rfl rfl Tryz.underlying3 rfl) ?_
            refine S_ 96 rfl rfl rfl _ (y_move rfl rfl) ?_
            refine S_ 97 rfl rfl rfl _ (y_move rfl rfl) ?_
            refine S_ 98 rfl rfl rfl _ (y_call rfl rfl rfl cf88 (fun _ w _ => fout_any _ _ _ w)) ?_
            refine S_ 99 rfl rfl rfl _ (y_move rfl rfl) ?_
            refine Sg_ 100 rfl rfl rfl rfl rfl rfl _ (y_fieldAddr rfl rfl fa24_3) ?_
            refine Sg_ 101 rfl rfl rfl rfl rfl rfl _ (y_load 1 rfl rfl rfl rfl Tryz.underlying3 rfl) ?_
            refine Sg_ 102 rfl rfl rfl rfl rfl rfl _ (y_move rfl rfl) ?_
            refine Sg_ 103 rfl rfl rfl rfl rfl rfl _ (y_move rfl rfl) ?_
            refine Sg_ 104 rfl rfl rfl rfl rfl rfl _ (y_call rfl rfl rfl cf88 (fun _ w _ => fout_any _ _ _ w)) ?_
            refine S_ 105 rfl rfl rfl _ (y_as (v' := .bool (r1B x)) (by rw [r1B, loR, hiR, if_pos hk5, if_pos hk5]) (y_or rfl rfl rfl)) ?_
            refine S_go (fun _ _ h => h) ?_
            refine T_cond rfl (fun h105 => ?_) (fun h105 => ?_)
            · skip
              have e1 : chX x = 2 := chX_hd (by rw [hre, if_pos (by rw [hr, h105]; rfl)]) (by decide)
              refine T_seq ?_
              refine T_region ?_
              refine S_ 2 rfl rfl rfl _ (y_assign rfl rfl) ?_
              refine S_go (fun _ _ h => h) ?_
              refine T_ret (fun a w hF hM => hRb a w (post1 rfl rfl (fun w hM => ?_) a w hF hM))
              first | exact ⟨by rw [e1], hM.below⟩ | exact ⟨by rw [hch, ← hp2, hl.end (by omega)]; rfl, hM.below⟩
            · skip
              refine T_skip_go (fun _ _ h => h) ?_
              refine T_seq ?_
              refine T_region ?_
              refine S_ 106 rfl rfl rfl _ (y_fieldAddr rfl rfl fa24_3) ?_
              refine S_ 107 rfl rfl rfl _ (y_load 1 rfl rfl rfl rfl Tryz.underlying3 rfl) ?_
              refine S_ 108 rfl rfl rfl _ (y_fieldAddr rfl rfl fa24_2) ?_
              refine S_ 109 rfl rfl rfl _ (y_load 1 rfl rfl rfl rfl Tryz.underlying3 rfl) ?_
              refine S_ 110 rfl rfl rfl _ (y_bin rfl rfl rfl (fun _ => b_lss)) ?_
              refine S_go (fun _ _ h => h) ?_
              refine T_cond rfl (fun h110 => ?_) (fun h110 => ?_)
              · skip
                have e1 : chX x = 5 := chX_hd (by rw [hre, if_neg (by rw [hr, h105]; simp), if_pos (by rw [hr, h110]; rfl)]) (by decide)
                refine T_seq ?_
                refine T_region ?_
                refine S_ 2 rfl rfl rfl _ (y_assign rfl rfl) ?_
                refine S_go (fun _ _ h => h) ?_
                refine T_ret (fun a w hF hM => hRb a w (post1 rfl rfl (fun w hM => ?_) a w hF hM))
                first | exact ⟨by rw [e1], hM.below⟩ | exact ⟨by rw [hch, ← hp2, hl.end (by omega)]; rfl, hM.below⟩
              · skip
                have hla := hd_late hre (by rw [hr, h105]; rfl) (by rw [hr, h110]; rfl)
                refine T_skip_go (fun _ _ h => h) ?_
                refine T_seq ?_
                refine T_seq ?_
                refine T_region ?_
                refine S_ 111 rfl rfl rfl _ (y_fieldAddr rfl rfl fa24_0) ?_
                refine S_ 112 rfl rfl rfl _ (y_load 1 rfl rfl rfl rfl Tryz.underlying3 rfl) ?_
                refine S_ 113 rfl rfl rfl _ (y_call rfl rfl rfl cf191 (fun _ w _ => named_any _ w)) ?_
                refine S_ 114 rfl rfl rfl _ (y_move rfl rfl) ?_
                refine Sg_ 115 rfl rfl rfl rfl rfl rfl _ (y_fieldAddr rfl rfl fa24_4) ?_
                refine Sg_ 116 rfl rfl rfl rfl rfl rfl _ (y_load 1 rfl rfl rfl rfl Tryz.underlying9 rfl) ?_
                refine Sg_ 117 rfl rfl rfl rfl rfl rfl _ (y_call rfl rfl rfl cf100 (fun _ w _ => IsName_any _ w)) ?_
                refine Sg_ 118 rfl rfl rfl rfl rfl rfl _ (y_not rfl rfl) ?_
                refine S_ 119 rfl rfl rfl _ (y_and rfl rfl rfl) ?_
                refine S_go (fun _ _ h => h) ?_
                refine T_cond rfl (fun h119 => ?_) (fun h119 => ?_)
                · skip
                  have e1 : chX x = 3 := chX_hd (by rw [hla, if_pos h119]) (by decide)
                  refine T_seq ?_
                  refine T_region ?_
                  refine S_ 2 rfl rfl rfl _ (y_assign rfl rfl) ?_
                  refine S_go (fun _ _ h => h) ?_
                  refine T_ret (fun a w hF hM => hRb a w (post1 rfl rfl (fun w hM => ?_) a w hF hM))
                  first | exact ⟨by rw [e1], hM.below⟩ | exact ⟨by rw [hch, ← hp2, hl.end (by omega)]; rfl, hM.below⟩
                · skip
                  rw [if_neg (by rw [h119]; simp)] at hla
                  refine T_skip_go (fun _ _ h => h) ?_
                  refine T_seq ?_
                  refine T_seq ?_
                  refine T_region ?_
                  refine S_ 120 rfl rfl rfl _ (y_fieldAddr rfl rfl fa24_0) ?_
                  refine S_ 121 rfl rfl rfl _ (y_load 1 rfl rfl rfl rfl Tryz.underlying3 rfl) ?_
                  refine S_ 122 rfl rfl rfl _ (y_call rfl rfl rfl cf192 (fun _ w _ => worded_any _ w)) ?_
                  refine S_go (fun _ _ h => h) ?_
                  refine T_cond rfl (fun h122 => ?_) (fun h122 => ?_)
                  · skip
                    have hw : wrdB x.op = true := h122
                    rw [if_pos hw] at hla
                    refine T_seq ?_
                    refine T_region ?_
                    refine S_ 123 rfl rfl rfl _ (y_fieldAddr rfl rfl fa24_5) ?_
                    refine S_ 124 rfl rfl rfl _ (y_load 1 rfl rfl rfl rfl Tryz.underlying9 rfl) ?_
                    refine S_ 125 rfl rfl rfl _ (y_call rfl rfl rfl cf193 (fun _ w _ => checkText_any _ w)) ?_
                    refine S_ 5 rfl rfl rfl _ (y_assign rfl rfl) ?_
                    refine S_go (fun _ _ h => h) ?_
                    refine T_seq ?_
                    refine T_region ?_
                    refine S_ 126 rfl rfl rfl _ (y_move rfl rfl) ?_
                    refine S_ 127 rfl rfl rfl _ (y_bin rfl rfl rfl (fun _ => b_neq)) ?_
                    refine S_go (fun _ _ h => h) ?_
                    refine T_cond rfl (fun h127 => ?_) (fun h127 => ?_)
                    · skip
                      have hn0 : txtNo x.tx ≠ 0 := by simpa using h127
                      have e1 : chX x = txtNo x.tx := chX_hd hla hn0
                      refine T_seq ?_
                      refine T_region ?_
                      refine S_ 128 rfl rfl rfl _ (y_move rfl rfl) ?_
                      refine S_ 2 rfl rfl rfl _ (y_assign rfl rfl) ?_
                      refine S_go (fun _ _ h => h) ?_
                      refine T_ret (fun a w hF hM => hRb a w (post1 rfl rfl (fun w hM => ?_) a w hF hM))
                      first | exact ⟨by rw [e1], hM.below⟩ | exact ⟨by rw [hch, ← hp2, hl.end (by omega)]; rfl, hM.below⟩
                    · skip
                      have hn0 : txtNo x.tx = 0 := by simpa using h127
                      have hch := chX_kids (hla.trans hn0)
                      refine T_skip_go (fun _ _ h => h) ?_
                      refine T_seq ?_
                      refine T_seq ?_
                      refine T_region ?_
                      refine S_ 129 rfl rfl rfl _ (y_fieldAddr rfl rfl fa24_1) ?_
                      refine S_ 130 rfl rfl rfl _ (y_load 1 rfl rfl rfl rfl Tryz.underlying22 rfl) ?_
                      refine S_ 131 rfl rfl rfl _ (y_len_slice rfl rfl Tryz.underlying22) ?_
                      refine S_ 132 rfl rfl rfl _ (y_move rfl rfl) ?_
                      refine S_go (fun _ _ h => h) ?_
                      refine T_block ?_
                      refine T_loopK1 (kf := [(2, 2), (7, 8), (132, 141)]) (kl := [(2, 2), (7, 8), (132, 141)]) (fun (i : Nat) => [(132, true, .int .i64 (i : Int))]) (fun (i : Nat) => []) (fun (i : Nat) => i ≤ x.q ∧ chkL (chdNo txtNo nameOk) ((x.kids.drop i).map SC.says) = chkL (chdNo txtNo nameOk) (x.kids.map SC.says)) (fun (i : Nat) => x.q - i) 0 (by repeat (first | exact kf_nil | (apply kf_in; focus rfl) | (apply kf_out; focus rfl))) (by repeat (first | exact kl_nil | exact kl_rest (by assumption) rfl | (apply kl_in; focus rfl) | (apply kl_out; focus rfl))) ?_ ?_ ?_ ?_
                      · exact ⟨by omega, rfl⟩
                      · exact ⟨rfl, trivial⟩
                      · exact trivial
                      rintro i ⟨hp1, hp2⟩
                      refine T_seq ?_
                      refine T_region ?_
                      refine S_ 133 rfl rfl rfl _ (y_bin rfl rfl rfl (fun _ => b_lss)) ?_
                      refine S_go (fun _ _ h => h) ?_
                      refine T_seq ?_
                      refine T_cond rfl (fun h133 => ?_) (fun h133 => ?_)
                      · try simp only [decide_eq_true_eq, decide_eq_false_iff_not, Bool.or_eq_true, Bool.or_eq_false_iff, Bool.and_eq_true, Bool.and_eq_false_iff, Bool.not_eq_true', Bool.not_eq_false', Bool.not_eq_true, Bool.not_eq_false, Bool.not_true, Bool.not_false, Int.not_lt, Int.not_le, not_or, not_and, Classical.not_not] at h133
                        obtain ⟨k, hx1, hx2⟩ := hl.at (i := i) (by omega)
                        rw [hx2, List.map_cons, chkL] at hp2
                        refine T_skip_go (fun _ _ h => h) ?_
                        refine T_seq ?_
                        refine T_block ?_
                        refine T_seq ?_
                        refine T_region ?_
                        refine S_ 134 rfl rfl rfl _ (y_indexAddr rfl rfl rfl Tryz.underlying22 sz24 (fun hg => hl.isSome (by omega)) (fun _ => by omega)) ?_
                        refine S_ 135 rfl rfl rfl _ (y_loadT rfl rfl hl (fun _ => rfl) (fun _ => hx1) Tryz.underlying24 rfl sz24) ?_
                        refine S_alloc 7 7 rfl rfl rfl rfl z24 ?_
                        intro b7
                        refine S_store 7 rfl rfl rfl rfl rfl rfl sz24 rfl rfl ?_
                        refine S_go (fun _ _ h => h) ?_
                        refine T_seq ?_
                        refine T_region ?_
                        refine S_ 136 rfl rfl rfl _ (y_loadA 7 rfl rfl rfl Tryz.underlying24 rfl sz24) ?_
                        refine S_ 137 rfl rfl rfl _ (y_call rfl rfl rfl cf112 (fun _ w1 hM => ih k (mem_at hx1) w1 ((hk k (mem_at hx1)).lift hM.below))) ?_
                        refine S_ 8 rfl rfl rfl _ (y_assign rfl rfl) ?_
                        refine S_go (fun _ _ h => h) ?_
                        refine T_seq ?_
                        refine T_region ?_
                        refine S_ 138 rfl rfl rfl _ (y_move rfl rfl) ?_
                        refine S_ 139 rfl rfl rfl _ (y_bin rfl rfl rfl (fun _ => b_neq)) ?_
                        refine S_go (fun _ _ h => h) ?_
                        refine T_cond rfl (fun h139 => ?_) (fun h139 => ?_)
                        · skip
                          have hn1 : chX k ≠ 0 := by simpa using h139
                          rw [if_pos hn1] at hp2
                          have e1 : chX x = chX k := by rw [hch, ← hp2]
                          refine T_seq ?_
                          refine T_region ?_
                          refine S_ 140 rfl rfl rfl _ (y_move rfl rfl) ?_
                          refine S_ 2 rfl rfl rfl _ (y_assign rfl rfl) ?_
                          refine S_go (fun _ _ h => h) ?_
                          refine T_ret (fun a w hF hM => hRb a w (post1 rfl rfl (fun w hM => ?_) a w hF hM))
                          first | exact ⟨by rw [e1], hM.below⟩ | exact ⟨by rw [hch, ← hp2, hl.end (by omega)]; rfl, hM.below⟩
                        · skip
                          have hn1 : chX k = 0 := by simpa using h139
                          rw [if_neg (by rw [show chkP (chdNo txtNo nameOk) k.says = chX k from rfl, hn1]; simp)] at hp2
                          refine T_skip_go (fun _ _ h => h) ?_
                          refine T_region ?_
                          refine S_ 141 rfl rfl rfl _ (y_bin rfl rfl rfl (fun hg => b_add (by omega))) ?_
                          refine S_ 132 rfl rfl rfl _ (y_move rfl rfl) ?_
                          refine S_nil (nextK1 (kf := [(2, 2), (7, 8), (132, 141)]) (kl := [(2, 2), (7, 8), (132, 141)]) (i + 1) (by repeat (first | exact kf_nil | (apply kf_in; focus rfl) | (apply kf_out; focus rfl))) (by repeat (first | exact kl_nil | exact kl_rest (by assumption) rfl | (apply kl_in; focus rfl) | (apply kl_out; focus rfl))) ?_ ?_ ?_ ?_)
                          · omega
                          · exact ⟨by omega, hp2⟩
                          · exact ⟨rfl, trivial⟩
                          · exact trivial
                      · try simp only [decide_eq_true_eq, decide_eq_false_iff_not, Bool.or_eq_true, Bool.or_eq_false_iff, Bool.and_eq_true, Bool.and_eq_false_iff, Bool.not_eq_true', Bool.not_eq_false', Bool.not_eq_true, Bool.not_eq_false, Bool.not_true, Bool.not_false, Int.not_lt, Int.not_le, not_or, not_and, Classical.not_not] at h133
                        refine T_exit_go (fun _ _ h => h) ?_
                        refine T_seq ?_
                        refine T_region ?_
                        refine S_ 2 rfl rfl rfl _ (y_assign rfl rfl) ?_
                        refine S_go (fun _ _ h => h) ?_
                        refine T_ret (fun a w hF hM => hRb a w (post1 rfl rfl (fun w hM => ?_) a w hF hM))
                        first | exact ⟨by rw [e1], hM.below⟩ | exact ⟨by rw [hch, ← hp2, hl.end (by omega)]; rfl, hM.below⟩
                  · skip
                    have hw : wrdB x.op = false := h122
                    rw [if_neg (by rw [hw]; simp)] at hla
                    have hch := chX_kids hla
                    refine T_skip_go (fun _ _ h => h) ?_
                    refine T_seq ?_
                    refine T_seq ?_
                    refine T_region ?_
                    refine S_ 129 rfl rfl rfl _ (y_fieldAddr rfl rfl fa24_1) ?_
                    refine S_ 130 rfl rfl rfl _ (y_load 1 rfl rfl rfl rfl Tryz.underlying22 rfl) ?_
                    refine S_ 131 rfl rfl rfl _ (y_len_slice rfl rfl Tryz.underlying22) ?_
                    refine S_ 132 rfl rfl rfl _ (y_move rfl rfl) ?_
                    refine S_go (fun _ _ h => h) ?_
                    refine T_block ?_
                    refine T_loopK1 (kf := [(2, 2), (7, 8), (132, 141)]) (kl := [(2, 2), (7, 8), (132, 141)]) (fun (i : Nat) => [(132, true, .int .i64 (i : Int))]) (fun (i : Nat) => []) (fun (i : Nat) => i ≤ x.q ∧ chkL (chdNo txtNo nameOk) ((x.kids.drop i).map SC.says) = chkL (chdNo txtNo nameOk) (x.kids.map SC.says)) (fun (i : Nat) => x.q - i) 0 (by repeat (first | exact kf_nil | (apply kf_in; focus rfl) | (apply kf_out; focus rfl))) (by repeat (first | exact kl_nil | exact kl_rest (by assumption) rfl | (apply kl_in; focus rfl) | (apply kl_out; focus rfl))) ?_ ?_ ?_ ?_
                    · exact ⟨by omega, rfl⟩
                    · exact ⟨rfl, trivial⟩
                    · exact trivial
                    rintro i ⟨hp1, hp2⟩
                    refine T_seq ?_
                    refine T_region ?_
                    refine S_ 133 rfl rfl rfl _ (y_bin rfl rfl rfl (fun _ => b_lss)) ?_
                    refine S_go (fun _ _ h => h) ?_
                    refine T_seq ?_
                    refine T_cond rfl (fun h133 => ?_) (fun h133 => ?_)
                    · try simp only [decide_eq_true_eq, decide_eq_false_iff_not, Bool.or_eq_true, Bool.or_eq_false_iff, Bool.and_eq_true, Bool.and_eq_false_iff, Bool.not_eq_true', Bool.not_eq_false', Bool.not_eq_true, Bool.not_eq_false, Bool.not_true, Bool.not_false, Int.not_lt, Int.not_le, not_or, not_and, Classical.not_not] at h133
                      obtain ⟨k, hx1, hx2⟩ := hl.at (i := i) (by omega)
                      rw [hx2, List.map_cons, chkL] at hp2
                      refine T_skip_go (fun _ _ h => h) ?_
                      refine T_seq ?_
                      refine T_block ?_
                      refine T_seq ?_
                      refine T_region ?_
                      refine S_ 134 rfl rfl rfl _ (y_indexAddr rfl rfl rfl Tryz.underlying22 sz24 (fun hg => hl.isSome (by omega)) (fun _ => by omega)) ?_
                      refine S_ 135 rfl rfl rfl _ (y_loadT rfl rfl hl (fun _ => rfl) (fun _ => hx1) Tryz.underlying24 rfl sz24) ?_
                      refine S_alloc 7 7 rfl rfl rfl rfl z24 ?_
                      intro b7
                      refine S_store 7 rfl rfl rfl rfl rfl rfl sz24 rfl rfl ?_
                      refine S_go (fun _ _ h => h) ?_
                      refine T_seq ?_
                      refine T_region ?_
                      refine S_ 136 rfl rfl rfl _ (y_loadA 7 rfl rfl rfl Tryz.underlying24 rfl sz24) ?_
                      refine S_ 137 rfl rfl rfl _ (y_call rfl rfl rfl cf112 (fun _ w1 hM => ih k (mem_at hx1) w1 ((hk k (mem_at hx1)).lift hM.below))) ?_
                      refine S_ 8 rfl rfl rfl _ (y_assign rfl rfl) ?_
                      refine S_go (fun _ _ h => h) ?_
                      refine T_seq ?_
                      refine T_region ?_
                      refine S_ 138 rfl rfl rfl _ (y_move rfl rfl) ?_
                      refine S_ 139 rfl rfl rfl _ (y_bin rfl rfl rfl (fun _ => b_neq)) ?_
                      refine S_go (fun _ _ h => h) ?_
                      refine T_cond rfl (fun h139 => ?_) (fun h139 => ?_)
                      · skip
                        have hn1 : chX k ≠ 0 := by simpa using h139
                        rw [if_pos hn1] at hp2
                        have e1 : chX x = chX k := by rw [hch, ← hp2]
                        refine T_seq ?_
                        refine T_region ?_
                        refine S_ 140 rfl rfl rfl _ (y_move rfl rfl) ?_
                        refine S_ 2 rfl rfl rfl _ (y_assign rfl rfl) ?_
                        refine S_go (fun _ _ h => h) ?_
                        refine T_ret (fun a w hF hM => hRb a w (post1 rfl rfl (fun w hM => ?_) a w hF hM))
                        first | exact ⟨by rw [e1], hM.below⟩ | exact ⟨by rw [hch, ← hp2, hl.end (by omega)]; rfl, hM.below⟩
                      · skip
                        have hn1 : chX k = 0 := by simpa using h139
                        rw [if_neg (by rw [show chkP (chdNo txtNo nameOk) k.says = chX k from rfl, hn1]; simp)] at hp2
                        refine T_skip_go (fun _ _ h => h) ?_
                        refine T_region ?_
                        refine S_ 141 rfl rfl rfl _ (y_bin rfl rfl rfl (fun hg => b_add (by omega))) ?_
                        refine S_ 132 rfl rfl rfl _ (y_move rfl rfl) ?_
                        refine S_nil (nextK1 (kf := [(2, 2), (7, 8), (132, 141)]) (kl := [(2, 2), (7, 8), (132, 141)]) (i + 1) (by repeat (first | exact kf_nil | (apply kf_in; focus rfl) | (apply kf_out; focus rfl))) (by repeat (first | exact kl_nil | exact kl_rest (by assumption) rfl | (apply kl_in; focus rfl) | (apply kl_out; focus rfl))) ?_ ?_ ?_ ?_)
                        · omega
                        · exact ⟨by omega, hp2⟩
                        · exact ⟨rfl, trivial⟩
                        · exact trivial
                    · try simp only [decide_eq_true_eq, decide_eq_false_iff_not, Bool.or_eq_true, Bool.or_eq_false_iff, Bool.and_eq_true, Bool.and_eq_false_iff, Bool.not_eq_true', Bool.not_eq_false', Bool.not_eq_true, Bool.not_eq_false, Bool.not_true, Bool.not_false, Int.not_lt, Int.not_le, not_or, not_and, Classical.not_not] at h133
                      refine T_exit_go (fun _ _ h => h) ?_
                      refine T_seq ?_
                      refine T_region ?_
                      refine S_ 2 rfl rfl rfl _ (y_assign rfl rfl) ?_
                      refine S_go (fun _ _ h => h) ?_
                      refine T_ret (fun a w hF hM => hRb a w (post1 rfl rfl (fun w hM => ?_) a w hF hM))
                      first | exact ⟨by rw [e1], hM.below⟩ | exact ⟨by rw [hch, ← hp2, hl.end (by omega)]; rfl, hM.below⟩
          · skip
            have hk5 : ¬ x.op = 5 := by simpa using h90
            refine T_seq ?_
            refine T_region ?_
            refine S_ 93 rfl rfl rfl _ (y_bin rfl rfl rfl (fun _ => b_eql)) ?_
            refine S_ 92 rfl rfl rfl _ (y_assign rfl rfl) ?_
            refine S_go (fun _ _ h => h) ?_
            refine T_cond rfl (fun h92 => ?_) (fun h92 => ?_)
            · skip
              have hk6 : x.op = 6 := by simpa using h92
              refine T_region ?_
              refine S_ 4 rfl rfl rfl _ (y_assign rfl rfl) ?_
              refine S_go (fun _ _ h => h) ?_
              refine T_seq ?_
              refine T_seq ?_
              refine T_region ?_
              refine S_ 94 rfl rfl rfl _ (y_fieldAddr rfl rfl fa24_2) ?_
              refine S_ 95 rfl rfl rfl _ (y_load 1 rfl rfl rfl rfl Tryz.underlying3 rfl) ?_
              refine S_ 96 rfl rfl rfl _ (y_move rfl rfl) ?_
              refine S_ 97 rfl rfl rfl _ (y_move rfl rfl) ?_
              refine S_ 98 rfl rfl rfl _ (y_call rfl rfl rfl cf88 (fun _ w _ => fout_any _ _ _ w)) ?_
              refine S_ 99 rfl rfl rfl _ (y_move rfl rfl) ?_
              refine Sg_ 100 rfl rfl rfl rfl rfl rfl _ (y_fieldAddr rfl rfl fa24_3) ?_
              refine Sg_ 101 rfl rfl rfl rfl rfl rfl _ (y_load 1 rfl rfl rfl rfl Tryz.underlying3 rfl) ?_
              refine Sg_ 102 rfl rfl rfl rfl rfl rfl _ (y_move rfl rfl) ?_
              refine Sg_ 103 rfl rfl rfl rfl rfl rfl _ (y_move rfl rfl) ?_
              refine Sg_ 104 rfl rfl rfl rfl rfl rfl _ (y_call rfl rfl rfl cf88 (fun _ w _ => fout_any _ _ _ w)) ?_
              refine S_ 105 rfl rfl rfl _ (y_as (v' := .bool (r1B x)) (by rw [r1B, loR, hiR, if_neg hk5, if_neg hk5, if_pos hk6]) (y_or rfl rfl rfl)) ?_
              refine S_go (fun _ _ h => h) ?_
              refine T_cond rfl (fun h105 => ?_) (fun h105 => ?_)
              · skip
                have e1 : chX x = 2 := chX_hd (by rw [hre, if_pos (by rw [hr, h105]; rfl)]) (by decide)
                refine T_seq ?_
                refine T_region ?_
                refine S_ 2 rfl rfl rfl _ (y_assign rfl rfl) ?_
                refine S_go (fun _ _ h => h) ?_
                refine T_ret (fun a w hF hM => hRb a w (post1 rfl rfl (fun w hM => ?_) a w hF hM))
                first | exact ⟨by rw [e1], hM.below⟩ | exact ⟨by rw [hch, ← hp2, hl.end (by omega)]; rfl, hM.below⟩
              · skip
                refine T_skip_go (fun _ _ h => h) ?_
                refine T_seq ?_
                refine T_region ?_
                refine S_ 106 rfl rfl rfl _ (y_fieldAddr rfl rfl fa24_3) ?_
                refine S_ 107 rfl rfl rfl _ (y_load 1 rfl rfl rfl rfl Tryz.underlying3 rfl) ?_
                refine S_ 108 rfl rfl rfl _ (y_fieldAddr rfl rfl fa24_2) ?_
                refine S_ 109 rfl rfl rfl _ (y_load 1 rfl rfl rfl rfl Tryz.underlying3 rfl) ?_
                refine S_ 110 rfl rfl rfl _ (y_bin rfl rfl rfl (fun _ => b_lss)) ?_
                refine S_go (fun _ _ h => h) ?_
                refine T_cond rfl (fun h110 => ?_) (fun h110 => ?_)
                · skip
                  have e1 : chX x = 5 := chX_hd (by rw [hre, if_neg (by rw [hr, h105]; simp), if_pos (by rw [hr, h110]; rfl)]) (by decide)
                  refine T_seq ?_
                  refine T_region ?_
                  refine S_ 2 rfl rfl rfl _ (y_assign rfl rfl) ?_
                  refine S_go (fun _ _ h => h) ?_
                  refine T_ret (fun a w hF hM => hRb a w (post1 rfl rfl (fun w hM => ?_) a w hF hM))
                  first | exact ⟨by rw [e1], hM.below⟩ | exact ⟨by rw [hch, ← hp2, hl.end (by omega)]; rfl, hM.below⟩
                · skip
                  have hla := hd_late hre (by rw [hr, h105]; rfl) (by rw [hr, h110]; rfl)
                  refine T_skip_go (fun _ _ h => h) ?_
                  refine T_seq ?_
                  refine T_seq ?_
                  refine T_region ?_
                  refine S_ 111 rfl rfl rfl _ (y_fieldAddr rfl rfl fa24_0) ?_
                  refine S_ 112 rfl rfl rfl _ (y_load 1 rfl rfl rfl rfl Tryz.underlying3 rfl) ?_
                  refine S_ 113 rfl rfl rfl _ (y_call rfl rfl rfl cf191 (fun _ w _ => named_any _ w)) ?_
                  refine S_ 114 rfl rfl rfl _ (y_move rfl rfl) ?_
                  refine Sg_ 115 rfl rfl rfl rfl rfl rfl _ (y_fieldAddr rfl rfl fa24_4) ?_
                  refine Sg_ 116 rfl rfl rfl rfl rfl rfl _ (y_load 1 rfl rfl rfl rfl Tryz.underlying9 rfl) ?_
                  refine Sg_ 117 rfl rfl rfl rfl rfl rfl _ (y_call rfl rfl rfl cf100 (fun _ w _ => IsName_any _ w)) ?_
                  refine Sg_ 118 rfl rfl rfl rfl rfl rfl _ (y_not rfl rfl) ?_
                  refine S_ 119 rfl rfl rfl _ (y_and rfl rfl rfl) ?_
                  refine S_go (fun _ _ h => h) ?_
                  refine T_cond rfl (fun h119 => ?_) (fun h119 => ?_)
                  · skip
                    have e1 : chX x = 3 := chX_hd (by rw [hla, if_pos h119]) (by decide)
                    refine T_seq ?_
                    refine T_region ?_
                    refine S_ 2 rfl rfl rfl _ (y_assign rfl rfl) ?_
                    refine S_go (fun _ _ h => h) ?_
                    refine T_ret (fun a w hF hM => hRb a w (post1 rfl rfl (fun w hM => ?_) a w hF hM))
                    first | exact ⟨by rw [e1], hM.below⟩ | exact ⟨by rw [hch, ← hp2, hl.end (by omega)]; rfl, hM.below⟩
                  · skip
                    rw [if_neg (by rw [h119]; simp)] at hla
                    refine T_skip_go (fun _ _ h => h) ?_
                    refine T_seq ?_
                    refine T_seq ?_
                    refine T_region ?_
                    refine S_ 120 rfl rfl rfl _ (y_fieldAddr rfl rfl fa24_0) ?_
                    refine S_ 121 rfl rfl rfl _ (y_load 1 rfl rfl rfl rfl Tryz.underlying3 rfl) ?_
                    refine S_ 122 rfl rfl rfl _ (y_call rfl rfl rfl cf192 (fun _ w _ => worded_any _ w)) ?_
                    refine S_go (fun _ _ h => h) ?_
                    refine T_cond rfl (fun h122 => ?_) (fun h122 => ?_)
                    · skip
                      have hw : wrdB x.op = true := h122
                      rw [if_pos hw] at hla
                      refine T_seq ?_
                      refine T_region ?_
                      refine S_ 123 rfl rfl rfl _ (y_fieldAddr rfl rfl fa24_5) ?_
                      refine S_ 124 rfl rfl rfl _ (y_load 1 rfl rfl rfl rfl Tryz.underlying9 rfl) ?_
                      refine S_ 125 rfl rfl rfl _ (y_call rfl rfl rfl cf193 (fun _ w _ => checkText_any _ w)) ?_
                      refine S_ 5 rfl rfl rfl _ (y_assign rfl rfl) ?_
                      refine S_go (fun _ _ h => h) ?_
                      refine T_seq ?_
                      refine T_region ?_
                      refine S_ 126 rfl rfl rfl _ (y_move rfl rfl) ?_
                      refine S_ 127 rfl rfl rfl _ (y_bin rfl rfl rfl (fun _ => b_neq)) ?_
                      refine S_go (fun _ _ h => h) ?_
                      refine T_cond rfl (fun h127 => ?_) (fun h127 => ?_)
                      · skip
                        have hn0 : txtNo x.tx ≠ 0 := by simpa using h127
                        have e1 : chX x = txtNo x.tx := chX_hd hla hn0
                        refine T_seq ?_
                        refine T_region ?_
                        refine S_ 128 rfl rfl rfl _ (y_move rfl rfl) ?_
                        refine S_ 2 rfl rfl rfl _ (y_assign rfl rfl) ?_
                        refine S_go (fun _ _ h => h) ?_
                        refine T_ret (fun a w hF hM => hRb a w (post1 rfl rfl (fun w hM => ?_) a w hF hM))
                        first | exact ⟨by rw [e1], hM.below⟩ | exact ⟨by rw [hch, ← hp2, hl.end (by omega)]; rfl, hM.below⟩
                      · skip
                        have hn0 : txtNo x.tx = 0 := by simpa using h127
                        have hch := chX_kids (hla.trans hn0)
                        refine T_skip_go (fun _ _ h => h) ?_
                        refine T_seq ?_
                        refine T_seq ?_
                        refine T_region ?_
                        refine S_ 129 rfl rfl rfl _ (y_fieldAddr rfl rfl fa24_1) ?_
                        refine S_ 130 rfl rfl rfl _ (y_load 1 rfl rfl rfl rfl Tryz.underlying22 rfl) ?_
                        refine S_ 131 rfl rfl rfl _ (y_len_slice rfl rfl Tryz.underlying22) ?_
                        refine S_ 132 rfl rfl rfl _ (y_move rfl rfl) ?_
                        refine S_go (fun _ _ h => h) ?_
                        refine T_block ?_
                        refine T_loopK1 (kf := [(2, 2), (7, 8), (132, 141)]) (kl := [(2, 2), (7, 8), (132, 141)]) (fun (i : Nat) => [(132, true, .int .i64 (i : Int))]) (fun (i : Nat) => []) (fun (i : Nat) => i ≤ x.q ∧ chkL (chdNo txtNo nameOk) ((x.kids.drop i).map SC.says) = chkL (chdNo txtNo nameOk) (x.kids.map SC.says)) (fun (i : Nat) => x.q - i) 0 (by repeat (first | exact kf_nil | (apply kf_in; focus rfl) | (apply kf_out; focus rfl))) (by repeat (first | exact kl_nil | exact kl_rest (by assumption) rfl | (apply kl_in; focus rfl) | (apply kl_out; focus rfl))) ?_ ?_ ?_ ?_
                        · exact ⟨by omega, rfl⟩
                        · exact ⟨rfl, trivial⟩
                        · exact trivial
                        rintro i ⟨hp1, hp2⟩
                        refine T_seq ?_
                        refine T_region ?_
                        refine S_ 133 rfl rfl rfl _ (y_bin rfl rfl rfl (fun _ => b_lss)) ?_
                        refine S_go (fun _ _ h => h) ?_
                        refine T_seq ?_
                        refine T_cond rfl (fun h133 => ?_) (fun h133 => ?_)
                        · try simp only [decide_eq_true_eq, decide_eq_false_iff_not, Bool.or_eq_true, Bool.or_eq_false_iff, Bool.and_eq_true, Bool.and_eq_false_iff, Bool.not_eq_true', Bool.not_eq_false', Bool.not_eq_true, Bool.not_eq_false, Bool.not_true, Bool.not_false, Int.not_lt, Int.not_le, not_or, not_and, Classical.not_not] at h133
                          obtain ⟨k, hx1, hx2⟩ := hl.at (i := i) (by omega)
                          rw [hx2, List.map_cons, chkL] at hp2
                          refine T_skip_go (fun _ _ h => h) ?_
                          refine T_seq ?_
                          refine T_block ?_
                          refine T_seq ?_
                          refine T_region ?_
                          refine S_ 134 rfl rfl rfl _ (y_indexAddr rfl rfl rfl Tryz.underlying22 sz24 (fun hg => hl.isSome (by omega)) (fun _ => by omega)) ?_
                          refine S_ 135 rfl rfl rfl _ (y_loadT rfl rfl hl (fun _ => rfl) (fun _ => hx1) Tryz.underlying24 rfl sz24) ?_
                          refine S_alloc 7 7 rfl rfl rfl rfl z24 ?_
                          intro b7
                          refine S_store 7 rfl rfl rfl rfl rfl rfl sz24 rfl rfl ?_
                          refine S_go (fun _ _ h => h) ?_
                          refine T_seq ?_
                          refine T_region ?_
                          refine S_ 136 rfl rfl rfl _ (y_loadA 7 rfl rfl rfl Tryz.underlying24 rfl sz24) ?_
                          refine S_ 137 rfl rfl rfl _ (y_call rfl rfl rfl cf112 (fun _ w1 hM => ih k (mem_at hx1) w1 ((hk k (mem_at hx1)).lift hM.below))) ?_
                          refine S_ 8 rfl rfl rfl _ (y_assign rfl rfl) ?_
                          refine S_go (fun _ _ h => h) ?_
                          refine T_seq ?_
                          refine T_region ?_
                          refine S_ 138 rfl rfl rfl _ (y_move rfl rfl) ?_
                          refine S_ 139 rfl rfl rfl _ (y_bin rfl rfl rfl (fun _ => b_neq)) ?_
                          refine S_go (fun _ _ h => h) ?_
                          refine T_cond rfl (fun h139 => ?_) (fun h139 => ?_)
                          · skip
                            have hn1 : chX k ≠ 0 := by simpa using h139
                            rw [if_pos hn1] at hp2
                            have e1 : chX x = chX k := by rw [hch, ← hp2]
                            refine T_seq ?_
                            refine T_region ?_
                            refine S_ 140 rfl rfl rfl _ (y_move rfl rfl) ?_
                            refine S_ 2 rfl rfl rfl _ (y_assign rfl rfl) ?_
                            refine S_go (fun _ _ h => h) ?_
                            refine T_ret (fun a w hF hM => hRb a w (post1 rfl rfl (fun w hM => ?_) a w hF hM))
                            first | exact ⟨by rw [e1], hM.below⟩ | exact ⟨by rw [hch, ← hp2, hl.end (by omega)]; rfl, hM.below⟩
                          · skip
                            have hn1 : chX k = 0 := by simpa using h139
                            rw [if_neg (by rw [show chkP (chdNo txtNo nameOk) k.says = chX k from rfl, hn1]; simp)] at hp2
                            refine T_skip_go (fun _ _ h => h) ?_
                            refine T_region ?_
                            refine S_ 141 rfl rfl rfl _ (y_bin rfl rfl rfl (fun hg => b_add (by omega))) ?_
                            refine S_ 132 rfl rfl rfl _ (y_move rfl rfl) ?_
                            refine S_nil (nextK1 (kf := [(2, 2), (7, 8), (132, 141)]) (kl := [(2, 2), (7, 8), (132, 141)]) (i + 1) (by repeat (first | exact kf_nil | (apply kf_in; focus rfl) | (apply kf_out; focus rfl))) (by repeat (first | exact kl_nil | exact kl_rest (by assumption) rfl | (apply kl_in; focus rfl) | (apply kl_out; focus rfl))) ?_ ?_ ?_ ?_)
                            · omega
                            · exact ⟨by omega, hp2⟩
                            · exact ⟨rfl, trivial⟩
                            · exact trivial
                        · try simp only [decide_eq_true_eq, decide_eq_false_iff_not, Bool.or_eq_true, Bool.or_eq_false_iff, Bool.and_eq_true, Bool.and_eq_false_iff, Bool.not_eq_true', Bool.not_eq_false', Bool.not_eq_true, Bool.not_eq_false, Bool.not_true, Bool.not_false, Int.not_lt, Int.not_le, not_or, not_and, Classical.not_not] at h133
                          refine T_exit_go (fun _ _ h => h) ?_
                          refine T_seq ?_
                          refine T_region ?_
                          refine S_ 2 rfl rfl rfl _ (y_assign rfl rfl) ?_
                          refine S_go (fun _ _ h => h) ?_
                          refine T_ret (fun a w hF hM => hRb a w (post1 rfl rfl (fun w hM => ?_) a w hF hM))
                          first | exact ⟨by rw [e1], hM.below⟩ | exact ⟨by rw [hch, ← hp2, hl.end (by omega)]; rfl, hM.below⟩
                    · skip
                      have hw : wrdB x.op = false := h122
                      rw [if_neg (by rw [hw]; simp)] at hla
                      have hch := chX_kids hla
                      refine T_skip_go (fun _ _ h => h) ?_
                      refine T_seq ?_
                      refine T_seq ?_
                      refine T_region ?_
                      refine S_ 129 rfl rfl rfl _ (y_fieldAddr rfl rfl fa24_1) ?_
                      refine S_ 130 rfl rfl rfl _ (y_load 1 rfl rfl rfl rfl Tryz.underlying22 rfl) ?_
                      refine S_ 131 rfl rfl rfl _ (y_len_slice rfl rfl Tryz.underlying22) ?_
                      refine S_ 132 rfl rfl rfl _ (y_move rfl rfl) ?_
                      refine S_go (fun _ _ h => h) ?_
                      refine T_block ?_
                      refine T_loopK1 (kf := [(2, 2), (7, 8), (132, 141)]) (kl := [(2, 2), (7, 8), (132, 141)]) (fun (i : Nat) => [(132, true, .int .i64 (i : Int))]) (fun (i : Nat) => []) (fun (i : Nat) => i ≤ x.q ∧ chkL (chdNo txtNo nameOk) ((x.kids.drop i).map SC.says) = chkL (chdNo txtNo nameOk) (x.kids.map SC.says)) (fun (i : Nat) => x.q - i) 0 (by repeat (first | exact kf_nil | (apply kf_in; focus rfl) | (apply kf_out; focus rfl))) (by repeat (first | exact kl_nil | exact kl_rest (by assumption) rfl | (apply kl_in; focus rfl) | (apply kl_out; focus rfl))) ?_ ?_ ?_ ?_
                      · exact ⟨by omega, rfl⟩
                      · exact ⟨rfl, trivial⟩
                      · exact trivial
                      rintro i ⟨hp1, hp2⟩
                      refine T_seq ?_
                      refine T_region ?_
                      refine S_ 133 rfl rfl rfl _ (y_bin rfl rfl rfl (fun _ => b_lss)) ?_
                      refine S_go (fun _ _ h => h) ?_
                      refine T_seq ?_
                      refine T_cond rfl (fun h133 => ?_) (fun h133 => ?_)
                      · try simp only [decide_eq_true_eq, decide_eq_false_iff_not, Bool.or_eq_true, Bool.or_eq_false_iff, Bool.and_eq_true, Bool.and_eq_false_iff, Bool.not_eq_true', Bool.not_eq_false', Bool.not_eq_true, Bool.not_eq_false, Bool.not_true, Bool.not_false, Int.not_lt, Int.not_le, not_or, not_and, Classical.not_not] at h133
                        obtain ⟨k, hx1, hx2⟩ := hl.at (i := i) (by omega)
                        rw [hx2, List.map_cons, chkL] at hp2
                        refine T_skip_go (fun _ _ h => h) ?_
                        refine T_seq ?_
                        refine T_block ?_
                        refine T_seq ?_
                        refine T_region ?_
                        refine S_ 134 rfl rfl rfl _ (y_indexAddr rfl rfl rfl Tryz.underlying22 sz24 (fun hg => hl.isSome (by omega)) (fun _ => by omega)) ?_
                        refine S_ 135 rfl rfl rfl _ (y_loadT rfl rfl hl (fun _ => rfl) (fun _ => hx1) Tryz.underlying24 rfl sz24) ?_
                        refine S_alloc 7 7 rfl rfl rfl rfl z24 ?_
                        intro b7
                        refine S_store 7 rfl rfl rfl rfl rfl rfl sz24 rfl rfl ?_
                        refine S_go (fun _ _ h => h) ?_
                        refine T_seq ?_
                        refine T_region ?_
                        refine S_ 136 rfl rfl rfl _ (y_loadA 7 rfl rfl rfl Tryz.underlying24 rfl sz24) ?_
                        refine S_ 137 rfl rfl rfl _ (y_call rfl rfl rfl cf112 (fun _ w1 hM => ih k (mem_at hx1) w1 ((hk k (mem_at hx1)).lift hM.below))) ?_
                        refine S_ 8 rfl rfl rfl _ (y_assign rfl rfl) ?_
                        refine S_go (fun _ _ h => h) ?_
                        refine T_seq ?_
                        refine T_region ?_
                        refine S_ 138 rfl rfl rfl _ (y_move rfl rfl) ?_
                        refine S_ 139 rfl rfl rfl _ (y_bin rfl rfl rfl (fun _ => b_neq)) ?_
                        refine S_go (fun _ _ h => h) ?_
                        refine T_cond rfl (fun h139 => ?_) (fun h139 => ?_)
                        · skip
                          have hn1 : chX k ≠ 0 := by simpa using h139
                          rw [if_pos hn1] at hp2
                          have e1 : chX x = chX k := by rw [hch, ← hp2]
                          refine T_seq ?_
                          refine T_region ?_
                          refine S_ 140 rfl rfl rfl _ (y_move rfl rfl) ?_
                          refine S_ 2 rfl rfl rfl _ (y_assign rfl rfl) ?_
                          refine S_go (fun _ _ h => h) ?_
                          refine T_ret (fun a w hF hM => hRb a w (post1 rfl rfl (fun w hM => ?_) a w hF hM))
                          first | exact ⟨by rw [e1], hM.below⟩ | exact ⟨by rw [hch, ← hp2, hl.end (by omega)]; rfl, hM.below⟩
                        · skip
                          have hn1 : chX k = 0 := by simpa using h139
                          rw [if_neg (by rw [show chkP (chdNo txtNo nameOk) k.says = chX k from rfl, hn1]; simp)] at hp2
                          refine T_skip_go (fun _ _ h => h) ?_
                          refine T_region ?_
                          refine S_ 141 rfl rfl rfl _ (y_bin rfl rfl rfl (fun hg => b_add (by omega))) ?_
                          refine S_ 132 rfl rfl rfl _ (y_move rfl rfl) ?_
                          refine S_nil (nextK1 (kf := [(2, 2), (7, 8), (132, 141)]) (kl := [(2, 2), (7, 8), (132, 141)]) (i + 1) (by repeat (first | exact kf_nil | (apply kf_in; focus rfl) | (apply kf_out; focus rfl))) (by repeat (first | exact kl_nil | exact kl_rest (by assumption) rfl | (apply kl_in; focus rfl) | (apply kl_out; focus rfl))) ?_ ?_ ?_ ?_)
                          · omega
                          · exact ⟨by omega, hp2⟩
                          · exact ⟨rfl, trivial⟩
                          · exact trivial
                      · try simp only [decide_eq_true_eq, decide_eq_false_iff_not, Bool.or_eq_true, Bool.or_eq_false_iff, Bool.and_eq_true, Bool.and_eq_false_iff, Bool.not_eq_true', Bool.not_eq_false', Bool.not_eq_true, Bool.not_eq_false, Bool.not_true, Bool.not_false, Int.not_lt, Int.not_le, not_or, not_and, Classical.not_not] at h133
                        refine T_exit_go (fun _ _ h => h) ?_
                        refine T_seq ?_
                        refine T_region ?_
                        refine S_ 2 rfl rfl rfl _ (y_assign rfl rfl) ?_
                        refine S_go (fun _ _ h => h) ?_
                        refine T_ret (fun a w hF hM => hRb a w (post1 rfl rfl (fun w hM => ?_) a w hF hM))
                        first | exact ⟨by rw [e1], hM.below⟩ | exact ⟨by rw [hch, ← hp2, hl.end (by omega)]; rfl, hM.below⟩
            · skip
              have hk6 : ¬ x.op = 6 := by simpa using h92
              refine T_skip_go (fun _ _ h => h) ?_
              refine T_seq ?_
              refine T_seq ?_
              refine T_region ?_
              refine S_ 94 rfl rfl rfl _ (y_fieldAddr rfl rfl fa24_2) ?_
              refine S_ 95 rfl rfl rfl _ (y_load 1 rfl rfl rfl rfl Tryz.underlying3 rfl) ?_
              refine S_ 96 rfl rfl rfl _ (y_move rfl rfl) ?_
              refine S_ 97 rfl rfl rfl _ (y_move rfl rfl) ?_
              refine S_ 98 rfl rfl rfl _ (y_call rfl rfl rfl cf88 (fun _ w _ => fout_any _ _ _ w)) ?_
              refine S_ 99 rfl rfl rfl _ (y_move rfl rfl) ?_
              refine Sg_ 100 rfl rfl rfl rfl rfl rfl _ (y_fieldAddr rfl rfl fa24_3) ?_
              refine Sg_ 101 rfl rfl rfl rfl rfl rfl _ (y_load 1 rfl rfl rfl rfl Tryz.underlying3 rfl) ?_
              refine Sg_ 102 rfl rfl rfl rfl rfl rfl _ (y_move rfl rfl) ?_
              refine Sg_ 103 rfl rfl rfl rfl rfl rfl _ (y_move rfl rfl) ?_
              refine Sg_ 104 rfl rfl rfl rfl rfl rfl _ (y_call rfl rfl rfl cf88 (fun _ w _ => fout_any _ _ _ w)) ?_
              refine S_ 105 rfl rfl rfl _ (y_as (v' := .bool (r1B x)) (by rw [r1B, loR, hiR, if_neg hk5, if_neg hk5, if_neg hk6]) (y_or rfl rfl rfl)) ?_
              refine S_go (fun _ _ h => h) ?_
              refine T_cond rfl (fun h105 => ?_) (fun h105 => ?_)
              · skip
                have e1 : chX x = 2 := chX_hd (by rw [hre, if_pos (by rw [hr, h105]; rfl)]) (by decide)
                refine T_seq ?_
                refine T_region ?_
                refine S_ 2 rfl rfl rfl _ (y_assign rfl rfl) ?_
                refine S_go (fun _ _ h => h) ?_
                refine T_ret (fun a w hF hM => hRb a w (post1 rfl rfl (fun w hM => ?_) a w hF hM))
                first | exact ⟨by rw [e1], hM.below⟩ | exact ⟨by rw [hch, ← hp2, hl.end (by omega)]; rfl, hM.below⟩
              · skip
                refine T_skip_go (fun _ _ h => h) ?_
                refine T_seq ?_
                refine T_region ?_
                refine S_ 106 rfl rfl rfl _ (y_fieldAddr rfl rfl fa24_3) ?_
                refine S_ 107 rfl rfl rfl _ (y_load 1 rfl rfl rfl rfl Tryz.underlying3 rfl) ?_
                refine S_ 108 rfl rfl rfl _ (y_fieldAddr rfl rfl fa24_2) ?_
                refine S_ 109 rfl rfl rfl _ (y_load 1 rfl rfl rfl rfl Tryz.underlying3 rfl) ?_
                refine S_ 110 rfl rfl rfl _ (y_bin rfl rfl rfl (fun _ => b_lss)) ?_
                refine S_go (fun _ _ h => h) ?_
                refine T_cond rfl (fun h110 => ?_) (fun h110 => ?_)
                · skip
                  have e1 : chX x = 5 := chX_hd (by rw [hre, if_neg (by rw [hr, h105]; simp), if_pos (by rw [hr, h110]; rfl)]) (by decide)
                  refine T_seq ?_
                  refine T_region ?_
                  refine S_ 2 rfl rfl rfl _ (y_assign rfl rfl) ?_
                  refine S_go (fun _ _ h => h) ?_
                  refine T_ret (fun a w hF hM => hRb a w (post1 rfl rfl (fun w hM => ?_) a w hF hM))
                  first | exact ⟨by rw [e1], hM.below⟩ | exact ⟨by rw [hch, ← hp2, hl.end (by omega)]; rfl, hM.below⟩
                · skip
                  have hla := hd_late hre (by rw [hr, h105]; rfl) (by rw [hr, h110]; rfl)
                  refine T_skip_go (fun _ _ h => h) ?_
                  refine T_seq ?_
                  refine T_seq ?_
                  refine T_region ?_
                  refine S_ 111 rfl rfl rfl _ (y_fieldAddr rfl rfl fa24_0) ?_
                  refine S_ 112 rfl rfl rfl _ (y_load 1 rfl rfl rfl rfl Tryz.underlying3 rfl) ?_
                  refine S_ 113 rfl rfl rfl _ (y_call rfl rfl rfl cf191 (fun _ w _ => named_any _ w)) ?_
                  refine S_ 114 rfl rfl rfl _ (y_move rfl rfl) ?_
                  refine Sg_ 115 rfl rfl rfl rfl rfl rfl _ (y_fieldAddr rfl rfl fa24_4) ?_
                  refine Sg_ 116 rfl rfl rfl rfl rfl rfl _ (y_load 1 rfl rfl rfl rfl Tryz.underlying9 rfl) ?_
                  refine Sg_ 117 rfl rfl rfl rfl rfl rfl _ (y_call rfl rfl rfl cf100 (fun _ w _ => IsName_any _ w)) ?_
                  refine Sg_ 118 rfl rfl rfl rfl rfl rfl _ (y_not rfl rfl) ?_
                  refine S_ 119 rfl rfl rfl _ (y_and rfl rfl rfl) ?_
                  refine S_go (fun _ _ h => h) ?_
                  refine T_cond rfl (fun h119 => ?_) (fun h119 => ?_)
                  · skip
                    have e1 : chX x = 3 := chX_hd (by rw [hla, if_pos h119]) (by decide)
                    refine T_seq ?_
                    refine T_region ?_
                    refine S_ 2 rfl rfl rfl _ (y_assign rfl rfl) ?_
                    refine S_go (fun _ _ h => h) ?_
                    refine T_ret (fun a w hF hM => hRb a w (post1 rfl rfl (fun w hM => ?_) a w hF hM))
                    first | exact ⟨by rw [e1], hM.below⟩ | exact ⟨by rw [hch, ← hp2, hl.end (by omega)]; rfl, hM.below⟩
                  · skip
                    rw [if_neg (by rw [h119]; simp)] at hla
                    refine T_skip_go (fun _ _ h => h) ?_
                    refine T_seq ?_
                    refine T_seq ?_
                    refine T_region ?_
                    refine S_ 120 rfl rfl rfl _ (y_fieldAddr rfl rfl fa24_0) ?_
                    refine S_ 121 rfl rfl rfl _ (y_load 1 rfl rfl rfl rfl Tryz.underlying3 rfl) ?_
                    refine S_ 122 rfl rfl rfl _ (y_call rfl rfl rfl cf192 (fun _ w _ => worded_any _ w)) ?_
                    refine S_go (fun _ _ h => h) ?_
                    refine T_cond rfl (fun h122 => ?_) (fun h122 => ?_)
                    · skip
                      have hw : wrdB x.op = true := h122
                      rw [if_pos hw] at hla
                      refine T_seq ?_
                      refine T_region ?_
                      refine S_ 123 rfl rfl rfl _ (y_fieldAddr rfl rfl fa24_5) ?_
                      refine S_ 124 rfl rfl rfl _ (y_load 1 rfl rfl rfl rfl Tryz.underlying9 rfl) ?_
                      refine S_ 125 rfl rfl rfl _ (y_call rfl rfl rfl cf193 (fun _ w _ => checkText_any _ w)) ?_
                      refine S_ 5 rfl rfl rfl _ (y_assign rfl rfl) ?_
                      refine S_go (fun _ _ h => h) ?_
                      refine T_seq ?_
                      refine T_region ?_
                      refine S_ 126 rfl rfl rfl _ (y_move rfl rfl) ?_
                      refine S_ 127 rfl rfl rfl _ (y_bin rfl rfl rfl (fun _ => b_neq)) ?_
                      refine S_go (fun _ _ h => h) ?_
                      refine T_cond rfl (fun h127 => ?_) (fun h127 => ?_)
                      · skip
                        have hn0 : txtNo x.tx ≠ 0 := by simpa using h127
                        have e1 : chX x = txtNo x.tx := chX_hd hla hn0
                        refine T_seq ?_
                        refine T_region ?_
                        refine S_ 128 rfl rfl rfl _ (y_move rfl rfl) ?_
                        refine S_ 2 rfl rfl rfl _ (y_assign rfl rfl) ?_
                        refine S_go (fun _ _ h => h) ?_
                        refine T_ret (fun a w hF hM => hRb a w (post1 rfl rfl (fun w hM => ?_) a w hF hM))
                        first | exact ⟨by rw [e1], hM.below⟩ | exact ⟨by rw [hch, ← hp2, hl.end (by omega)]; rfl, hM.below⟩
                      · skip
                        have hn0 : txtNo x.tx = 0 := by simpa using h127
                        have hch := chX_kids (hla.trans hn0)
                        refine T_skip_go (fun _ _ h => h) ?_
                        refine T_seq ?_
                        refine T_seq ?_
                        refine T_region ?_
                        refine S_ 129 rfl rfl rfl _ (y_fieldAddr rfl rfl fa24_1) ?_
                        refine S_ 130 rfl rfl rfl _ (y_load 1 rfl rfl rfl rfl Tryz.underlying22 rfl) ?_
                        refine S_ 131 rfl rfl rfl _ (y_len_slice rfl rfl Tryz.underlying22) ?_
                        refine S_ 132 rfl rfl rfl _ (y_move rfl rfl) ?_
                        refine S_go (fun _ _ h => h) ?_
                        refine T_block ?_
                        refine T_loopK1 (kf := [(2, 2), (7, 8), (132, 141)]) (kl := [(2, 2), (7, 8), (132, 141)]) (fun (i : Nat) => [(132, true, .int .i64 (i : Int))]) (fun (i : Nat) => []) (fun (i : Nat) => i ≤ x.q ∧ chkL (chdNo txtNo nameOk) ((x.kids.drop i).map SC.says) = chkL (chdNo txtNo nameOk) (x.kids.map SC.says)) (fun (i : Nat) => x.q - i) 0 (by repeat (first | exact kf_nil | (apply kf_in; focus rfl) | (apply kf_out; focus rfl))) (by repeat (first | exact kl_nil | exact kl_rest (by assumption) rfl | (apply kl_in; focus rfl) | (apply kl_out; focus rfl))) ?_ ?_ ?_ ?_
                        · exact ⟨by omega, rfl⟩
                        · exact ⟨rfl, trivial⟩
                        · exact trivial
                        rintro i ⟨hp1, hp2⟩
                        refine T_seq ?_
                        refine T_region ?_
                        refine S_ 133 rfl rfl rfl _ (y_bin rfl rfl rfl (fun _ => b_lss)) ?_
                        refine S_go (fun _ _ h => h) ?_
                        refine T_seq ?_
                        refine T_cond rfl (fun h133 => ?_) (fun h133 => ?_)
                        · try simp only [decide_eq_true_eq, decide_eq_false_iff_not, Bool.or_eq_true, Bool.or_eq_false_iff, Bool.and_eq_true, Bool.and_eq_false_iff, Bool.not_eq_true', Bool.not_eq_false', Bool.not_eq_true, Bool.not_eq_false, Bool.not_true, Bool.not_false, Int.not_lt, Int.not_le, not_or, not_and, Classical.not_not] at h133
                          obtain ⟨k, hx1, hx2⟩ := hl.at (i := i) (by omega)
                          rw [hx2, List.map_cons, chkL] at hp2
                          refine T_skip_go (fun _ _ h => h) ?_
                          refine T_seq ?_
                          refine T_block ?_
                          refine T_seq ?_
                          refine T_region ?_
                          refine S_ 134 rfl rfl rfl _ (y_indexAddr rfl rfl rfl Tryz.underlying22 sz24 (fun hg => hl.isSome (by omega)) (fun _ => by omega)) ?_
                          refine S_ 135 rfl rfl rfl _ (y_loadT rfl rfl hl (fun _ => rfl) (fun _ => hx1) Tryz.underlying24 rfl sz24) ?_
                          refine S_alloc 7 7 rfl rfl rfl rfl z24 ?_
                          intro b7
                          refine S_store 7 rfl rfl rfl rfl rfl rfl sz24 rfl rfl ?_
                          refine S_go (fun _ _ h => h) ?_
                          refine T_seq ?_
                          refine T_region ?_
                          refine S_ 136 rfl rfl rfl _ (y_loadA 7 rfl rfl rfl Tryz.underlying24 rfl sz24) ?_
                          refine S_ 137 rfl rfl rfl _ (y_call rfl rfl rfl cf112 (fun _ w1 hM => ih k (mem_at hx1) w1 ((hk k (mem_at hx1)).lift hM.below))) ?_
                          refine S_ 8 rfl rfl rfl _ (y_assign rfl rfl) ?_
                          refine S_go (fun _ _ h => h) ?_
                          refine T_seq ?_
                          refine T_region ?_
                          refine S_ 138 rfl rfl rfl _ (y_move rfl rfl) ?_
                          refine S_ 139 rfl rfl rfl _ (y_bin rfl rfl rfl (fun _ => b_neq)) ?_
                          refine S_go (fun _ _ h => h) ?_
                          refine T_cond rfl (fun h139 => ?_) (fun h139 => ?_)
                          · skip
                            have hn1 : chX k ≠ 0 := by simpa using h139
                            rw [if_pos hn1] at hp2
                            have e1 : chX x = chX k := by rw [hch, ← hp2]
                            refine T_seq ?_
                            refine T_region ?_
                            refine S_ 140 rfl rfl rfl _ (y_move rfl rfl) ?_
                            refine S_ 2 rfl rfl rfl _ (y_assign rfl rfl) ?_
                            refine S_go (fun _ _ h => h) ?_
                            refine T_ret (fun a w hF hM => hRb a w (post1 rfl rfl (fun w hM => ?_) a w hF hM))
                            first | exact ⟨by rw [e1], hM.below⟩ | exact ⟨by rw [hch, ← hp2, hl.end (by omega)]; rfl, hM.below⟩
                          · skip
                            have hn1 : chX k = 0 := by simpa using h139
                            rw [if_neg (by rw [show chkP (chdNo txtNo nameOk) k.says = chX k from rfl, hn1]; simp)] at hp2
                            refine T_skip_go (fun _ _ h => h) ?_
                            refine T_region ?_
                            refine S_ 141 rfl rfl rfl _ (y_bin rfl rfl rfl (fun hg => b_add (by omega))) ?_
                            refine S_ 132 rfl rfl rfl _ (y_move rfl rfl) ?_
                            refine S_nil (nextK1 (kf := [(2, 2), (7, 8), (132, 141)]) (kl := [(2, 2), (7, 8), (132, 141)]) (i + 1) (by repeat (first | exact kf_nil | (apply kf_in; focus rfl) | (apply kf_out; focus rfl))) (by repeat (first | exact kl_nil | exact kl_rest (by assumption) rfl | (apply kl_in; focus rfl) | (apply kl_out; focus rfl))) ?_ ?_ ?_ ?_)
                            · omega
                            · exact ⟨by omega, hp2⟩
                            · exact ⟨rfl, trivial⟩
                            · exact trivial
                        · try simp only [decide_eq_true_eq, decide_eq_false_iff_not, Bool.or_eq_true, Bool.or_eq_false_iff, Bool.and_eq_true, Bool.and_eq_false_iff, Bool.not_eq_true', Bool.not_eq_false', Bool.not_eq_true, Bool.not_eq_false, Bool.not_true, Bool.not_false, Int.not_lt, Int.not_le, not_or, not_and, Classical.not_not] at h133
                          refine T_exit_go (fun _ _ h => h) ?_
                          refine T_seq ?_
                          refine T_region ?_
                          refine S_ 2 rfl rfl rfl _ (y_assign rfl rfl) ?_
                          refine S_go (fun _ _ h => h) ?_
                          refine T_ret (fun a w hF hM => hRb a w (post1 rfl rfl (fun w hM => ?_) a w hF hM))
                          first | exact ⟨by rw [e1], hM.below⟩ | exact ⟨by rw [hch, ← hp2, hl.end (by omega)]; rfl, hM.below⟩
                    · skip
                      have hw : wrdB x.op = false := h122
                      rw [if_neg (by rw [hw]; simp)] at hla
                      have hch := chX_kids hla
                      refine T_skip_go (fun _ _ h => h) ?_
                      refine T_seq ?_
                      refine T_seq ?_
                      refine T_region ?_
                      refine S_ 129 rfl rfl rfl _ (y_fieldAddr rfl rfl fa24_1) ?_
                      refine S_ 130 rfl rfl rfl _ (y_load 1 rfl rfl rfl rfl Tryz.underlying22 rfl) ?_
                      refine S_ 131 rfl rfl rfl _ (y_len_slice rfl rfl Tryz.underlying22) ?_
                      refine S_ 132 rfl rfl rfl _ (y_move rfl rfl) ?_
                      refine S_go (fun _ _ h => h) ?_
                      refine T_block ?_
                      refine T_loopK1 (kf := [(2, 2), (7, 8), (132, 141)]) (kl := [(2, 2), (7, 8), (132, 141)]) (fun (i : Nat) => [(132, true, .int .i64 (i : Int))]) (fun (i : Nat) => []) (fun (i : Nat) => i ≤ x.q ∧ chkL (chdNo txtNo nameOk) ((x.kids.drop i).map SC.says) = chkL (chdNo txtNo nameOk) (x.kids.map SC.says)) (fun (i : Nat) => x.q - i) 0 (by repeat (first | exact kf_nil | (apply kf_in; focus rfl) | (apply kf_out; focus rfl))) (by repeat (first | exact kl_nil | exact kl_rest (by assumption) rfl | (apply kl_in; focus rfl) | (apply kl_out; focus rfl))) ?_ ?_ ?_ ?_
                      · exact ⟨by omega, rfl⟩
                      · exact ⟨rfl, trivial⟩
                      · exact trivial
                      rintro i ⟨hp1, hp2⟩
                      refine T_seq ?_
                      refine T_region ?_
                      refine S_ 133 rfl rfl rfl _ (y_bin rfl rfl rfl (fun _ => b_lss)) ?_
                      refine S_go (fun _ _ h => h) ?_
                      refine T_seq ?_
                      refine T_cond rfl (fun h133 => ?_) (fun h133 => ?_)
                      · try simp only [decide_eq_true_eq, decide_eq_false_iff_not, Bool.or_eq_true, Bool.or_eq_false_iff, Bool.and_eq_true, Bool.and_eq_false_iff, Bool.not_eq_true', Bool.not_eq_false', Bool.not_eq_true, Bool.not_eq_false, Bool.not_true, Bool.not_false, Int.not_lt, Int.not_le, not_or, not_and, Classical.not_not] at h133
                        obtain ⟨k, hx1, hx2⟩ := hl.at (i := i) (by omega)
                        rw [hx2, List.map_cons, chkL] at hp2
                        refine T_skip_go (fun _ _ h => h) ?_
                        refine T_seq ?_
                        refine T_block ?_
                        refine T_seq ?_
                        refine T_region ?_
                        refine S_ 134 rfl rfl rfl _ (y_indexAddr rfl rfl rfl Tryz.underlying22 sz24 (fun hg => hl.isSome (by omega)) (fun _ => by omega)) ?_
                        refine S_ 135 rfl rfl rfl _ (y_loadT rfl rfl hl (fun _ => rfl) (fun _ => hx1) Tryz.underlying24 rfl sz24) ?_
                        refine S_alloc 7 7 rfl rfl rfl rfl z24 ?_
                        intro b7
                        refine S_store 7 rfl rfl rfl rfl rfl rfl sz24 rfl rfl ?_
                        refine S_go (fun _ _ h => h) ?_
                        refine T_seq ?_
                        refine T_region ?_
                        refine S_ 136 rfl rfl rfl _ (y_loadA 7 rfl rfl rfl Tryz.underlying24 rfl sz24) ?_
                        refine S_ 137 rfl rfl rfl _ (y_call rfl rfl rfl cf112 (fun _ w1 hM => ih k (mem_at hx1) w1 ((hk k (mem_at hx1)).lift hM.below))) ?_
                        refine S_ 8 rfl rfl rfl _ (y_assign rfl rfl) ?_
                        refine S_go (fun _ _ h => h) ?_
                        refine T_seq ?_
                        refine T_region ?_
                        refine S_ 138 rfl rfl rfl _ (y_move rfl rfl) ?_
                        refine S_ 139 rfl rfl rfl _ (y_bin rfl rfl rfl (fun _ => b_neq)) ?_
                        refine S_go (fun _ _ h => h) ?_
                        refine T_cond rfl (fun h139 => ?_) (fun h139 => ?_)
                        · skip
                          have hn1 : chX k ≠ 0 := by simpa using h139
                          rw [if_pos hn1] at hp2
                          have e1 : chX x = chX k := by rw [hch, ← hp2]
                          refine T_seq ?_
                          refine T_region ?_
                          refine S_ 140 rfl rfl rfl _ (y_move rfl rfl) ?_
                          refine S_ 2 rfl rfl rfl _ (y_assign rfl rfl) ?_
                          refine S_go (fun _ _ h => h) ?_
                          refine T_ret (fun a w hF hM => hRb a w (post1 rfl rfl (fun w hM => ?_) a w hF hM))
                          first | exact ⟨by rw [e1], hM.below⟩ | exact ⟨by rw [hch, ← hp2, hl.end (by omega)]; rfl, hM.below⟩
                        · skip
                          have hn1 : chX k = 0 := by simpa using h139
                          rw [if_neg (by rw [show chkP (chdNo txtNo nameOk) k.says = chX k from rfl, hn1]; simp)] at hp2
                          refine T_skip_go (fun _ _ h => h) ?_
                          refine T_region ?_
                          refine S_ 141 rfl rfl rfl _ (y_bin rfl rfl rfl (fun hg => b_add (by omega))) ?_
                          refine S_ 132 rfl rfl rfl _ (y_move rfl rfl) ?_
                          refine S_nil (nextK1 (kf := [(2, 2), (7, 8), (132, 141)]) (kl := [(2, 2), (7, 8), (132, 141)]) (i + 1) (by repeat (first | exact kf_nil | (apply kf_in; focus rfl) | (apply kf_out; focus rfl))) (by repeat (first | exact kl_nil | exact kl_rest (by assumption) rfl | (apply kl_in; focus rfl) | (apply kl_out; focus rfl))) ?_ ?_ ?_ ?_)
                          · omega
                          · exact ⟨by omega, hp2⟩
                          · exact ⟨rfl, trivial⟩
                          · exact trivial
                      · try simp only [decide_eq_true_eq, decide_eq_false_iff_not, Bool.or_eq_true, Bool.or_eq_false_iff, Bool.and_eq_true, Bool.and_eq_false_iff, Bool.not_eq_true', Bool.not_eq_false', Bool.not_eq_true, Bool.not_eq_false, Bool.not_true, Bool.not_false, Int.not_lt, Int.not_le, not_or, not_and, Classical.not_not] at h133
                        refine T_exit_go (fun _ _ h => h) ?_
                        refine T_seq ?_
                        refine T_region ?_
                        refine S_ 2 rfl rfl rfl _ (y_assign rfl rfl) ?_
                        refine S_go (fun _ _ h => h) ?_
                        refine T_ret (fun a w hF hM => hRb a w (post1 rfl rfl (fun w hM => ?_) a w hF hM))
                        first | exact ⟨by rw [e1], hM.below⟩ | exact ⟨by rw [hch, ← hp2, hl.end (by omega)]; rfl, hM.below⟩
        · skip
          have hr : rngB x.op = false := h87
          have hla := hd_late hre (by rw [hr]; rfl) (by rw [hr]; rfl)
          refine T_skip_go (fun _ _ h => h) ?_
          refine T_seq ?_
          refine T_seq ?_
          refine T_region ?_
          refine S_ 111 rfl rfl rfl _ (y_fieldAddr rfl rfl fa24_0) ?_
          refine S_ 112 rfl rfl rfl _ (y_load 1 rfl rfl rfl rfl Tryz.underlying3 rfl) ?_
          refine S_ 113 rfl rfl rfl _ (y_call rfl rfl rfl cf191 (fun _ w _ => named_any _ w)) ?_
          refine S_ 114 rfl rfl rfl _ (y_move rfl rfl) ?_
          refine Sg_ 115 rfl rfl rfl rfl rfl rfl _ (y_fieldAddr rfl rfl fa24_4) ?_
          refine Sg_ 116 rfl rfl rfl rfl rfl rfl _ (y_load 1 rfl rfl rfl rfl Tryz.underlying9 rfl) ?_
          refine Sg_ 117 rfl rfl rfl rfl rfl rfl _ (y_call rfl rfl rfl cf100 (fun _ w _ => IsName_any _ w)) ?_
          refine Sg_ 118 rfl rfl rfl rfl rfl rfl _ (y_not rfl rfl) ?_
          refine S_ 119 rfl rfl rfl _ (y_and rfl rfl rfl) ?_
          refine S_go (fun _ _ h => h) ?_
          refine T_cond rfl (fun h119 => ?_) (fun h119 => ?_)
          · skip
            have e1 : chX x = 3 := chX_hd (by rw [hla, if_pos h119]) (by decide)
            refine T_seq ?_
            refine T_region ?_
            refine S_ 2 rfl rfl rfl _ (y_assign rfl rfl) ?_
            refine S_go (fun _ _ h => h) ?_
            refine T_ret (fun a w hF hM => hRb a w (post1 rfl rfl (fun w hM => ?_) a w hF hM))
            first | exact ⟨by rw [e1], hM.below⟩ | exact ⟨by rw [hch, ← hp2, hl.end (by omega)]; rfl, hM.below⟩
          · skip
            rw [if_neg (by rw [h119]; simp)] at hla
            refine T_skip_go (fun _ _ h => h) ?_
            refine T_seq ?_
            refine T_seq ?_
            refine T_region ?_
            refine S_ 120 rfl rfl rfl _ (y_fieldAddr rfl rfl fa24_0) ?_
            refine S_ 121 rfl rfl rfl _ (y_load 1 rfl rfl rfl rfl Tryz.underlying3 rfl) ?_
            refine S_ 122 rfl rfl rfl _ (y_call rfl rfl rfl cf192 (fun _ w _ => worded_any _ w)) ?_
            refine S_go (fun _ _ h => h) ?_
            refine T_cond rfl (fun h122 => ?_) (fun h122 => ?_)
            · skip
              have hw : wrdB x.op = true := h122
              rw [if_pos hw] at hla
              refine T_seq ?_
              refine T_region ?_
              refine S_ 123 rfl rfl rfl _ (y_fieldAddr rfl rfl fa24_5) ?_
              refine S_ 124 rfl rfl rfl _ (y_load 1 rfl rfl rfl rfl Tryz.underlying9 rfl) ?_
              refine S_ 125 rfl rfl rfl _ (y_call rfl rfl rfl cf193 (fun _ w _ => checkText_any _ w)) ?_
              refine S_ 5 rfl rfl rfl _ (y_assign rfl rfl) ?_
              refine S_go (fun _ _ h => h) ?_
              refine T_seq ?_
              refine T_region ?_
              refine S_ 126 rfl rfl rfl _ (y_move rfl rfl) ?_
              refine S_ 127 rfl rfl rfl _ (y_bin rfl rfl rfl (fun _ => b_neq)) ?_
              refine S_go (fun _ _ h => h) ?_
              refine T_cond rfl (fun h127 => ?_) (fun h127 => ?_)
              · skip
                have hn0 : txtNo x.tx ≠ 0 := by simpa using h127
                have e1 : chX x = txtNo x.tx := chX_hd hla hn0
                refine T_seq ?_
                refine T_region ?_
                refine S_ 128 rfl rfl rfl _ (y_move rfl rfl) ?_
                refine S_ 2 rfl rfl rfl _ (y_assign rfl rfl) ?_
                refine S_go (fun _ _ h => h) ?_
                refine T_ret (fun a w hF hM => hRb a w (post1 rfl rfl (fun w hM => ?_) a w hF hM))
                first | exact ⟨by rw [e1], hM.below⟩ | exact ⟨by rw [hch, ← hp2, hl.end (by omega)]; rfl, hM.below⟩
              · skip
                have hn0 : txtNo x.tx = 0 := by simpa using h127
                have hch := chX_kids (hla.trans hn0)
                refine T_skip_go (fun _ _ h => h) ?_
                refine T_seq ?_
                refine T_seq ?_
                refine T_region ?_
                refine S_ 129 rfl rfl rfl _ (y_fieldAddr rfl rfl fa24_1) ?_
                refine S_ 130 rfl rfl rfl _ (y_load 1 rfl rfl rfl rfl Tryz.underlying22 rfl) ?_
                refine S_ 131 rfl rfl rfl _ (y_len_slice rfl rfl Tryz.underlying22) ?_
                refine S_ 132 rfl rfl rfl _ (y_move rfl rfl) ?_
                refine S_go (fun _ _ h => h) ?_
                refine T_block ?_
                refine T_loopK1 (kf := [(2, 2), (7, 8), (132, 141)]) (kl := [(2, 2), (7, 8), (132, 141)]) (fun (i : Nat) => [(132, true, .int .i64 (i : Int))]) (fun (i : Nat) => []) (fun (i : Nat) => i ≤ x.q ∧ chkL (chdNo txtNo nameOk) ((x.kids.drop i).map SC.says) = chkL (chdNo txtNo nameOk) (x.kids.map SC.says)) (fun (i : Nat) => x.q - i) 0 (by repeat (first | exact kf_nil | (apply kf_in; focus rfl) | (apply kf_out; focus rfl))) (by repeat (first | exact kl_nil | exact kl_rest (by assumption) rfl | (apply kl_in; focus rfl) | (apply kl_out; focus rfl))) ?_ ?_ ?_ ?_
                · exact ⟨by omega, rfl⟩
                · exact ⟨rfl, trivial⟩
                · exact trivial
                rintro i ⟨hp1, hp2⟩
                refine T_seq ?_
                refine T_region ?_
                refine S_ 133 rfl rfl rfl _ (y_bin rfl rfl rfl (fun _ => b_lss)) ?_
                refine S_go (fun _ _ h => h) ?_
                refine T_seq ?_
                refine T_cond rfl (fun h133 => ?_) (fun h133 => ?_)
                · try simp only [decide_eq_true_eq, decide_eq_false_iff_not, Bool.or_eq_true, Bool.or_eq_false_iff, Bool.and_eq_true, Bool.and_eq_false_iff, Bool.not_eq_true', Bool.not_eq_false', Bool.not_eq_true, Bool.not_eq_false, Bool.not_true, Bool.not_false, Int.not_lt, Int.not_le, not_or, not_and, Classical.not_not] at h133
                  obtain ⟨k, hx1, hx2⟩ := hl.at (i := i) (by omega)
                  rw [hx2, List.map_cons, chkL] at hp2
                  refine T_skip_go (fun _ _ h => h) ?_
                  refine T_seq ?_
                  refine T_block ?_
                  refine T_seq ?_
                  refine T_region ?_
                  refine S_ 134 rfl rfl rfl _ (y_indexAddr rfl rfl rfl Tryz.underlying22 sz24 (fun hg => hl.isSome (by omega)) (fun _ => by omega)) ?_
                  refine S_ 135 rfl rfl rfl _ (y_loadT rfl rfl hl (fun _ => rfl) (fun _ => hx1) Tryz.underlying24 rfl sz24) ?_
                  refine S_alloc 7 7 rfl rfl rfl rfl z24 ?_
                  intro b7
                  refine S_store 7 rfl rfl rfl rfl rfl rfl sz24 rfl rfl ?_
                  refine S_go (fun _ _ h => h) ?_
                  refine T_seq ?_
                  refine T_region ?_
                  refine S_ 136 rfl rfl rfl _ (y_loadA 7 rfl rfl rfl Tryz.underlying24 rfl sz24) ?_
                  refine S_ 137 rfl rfl rfl _ (y_call rfl rfl rfl cf112 (fun _ w1 hM => ih k (mem_at hx1) w1 ((hk k (mem_at hx1)).lift hM.below))) ?_
                  refine S_ 8 rfl rfl rfl _ (y_assign rfl rfl) ?_
                  refine S_go (fun _ _ h => h) ?_
                  refine T_seq ?_
                  refine T_region ?_
                  refine S_ 138 rfl rfl rfl _ (y_move rfl rfl) ?_
                  refine S_ 139 rfl rfl rfl _ (y_bin rfl rfl rfl (fun _ => b_neq)) ?_
                  refine S_go (fun _ _ h => h) ?_
                  refine T_cond rfl (fun h139 => ?_) (fun h139 => ?_)
                  · skip
                    have hn1 : chX k ≠ 0 := by simpa using h139
                    rw [if_pos hn1] at hp2
                    have e1 : chX x = chX k := by rw [hch, ← hp2]
                    refine T_seq ?_
                    refine T_region ?_
                    refine S_ 140 rfl rfl rfl _ (y_move rfl rfl) ?_
                    refine S_ 2 rfl rfl rfl _ (y_assign rfl rfl) ?_
                    refine S_go (fun _ _ h => h) ?_
                    refine T_ret (fun a w hF hM => hRb a w (post1 rfl rfl (fun w hM => ?_) a w hF hM))
                    first | exact ⟨by rw [e1], hM.below⟩ | exact ⟨by rw [hch, ← hp2, hl.end (by omega)]; rfl, hM.below⟩
                  · skip
                    have hn1 : chX k = 0 := by simpa using h139
                    rw [if_neg (by rw [show chkP (chdNo txtNo nameOk) k.says = chX k from rfl, hn1]; simp)] at hp2
                    refine T_skip_go (fun _ _ h => h) ?_
                    refine T_region ?_
                    refine S_ 141 rfl rfl rfl _ (y_bin rfl rfl rfl (fun hg => b_add (by omega))) ?_
                    refine S_ 132 rfl rfl rfl _ (y_move rfl rfl) ?_
                    refine S_nil (nextK1 (kf := [(2, 2), (7, 8), (132, 141)]) (kl := [(2, 2), (7, 8), (132, 141)]) (i + 1) (by repeat (first | exact kf_nil | (apply kf_in; focus rfl) | (apply kf_out; focus rfl))) (by repeat (first | exact kl_nil | exact kl_rest (by assumption) rfl | (apply kl_in; focus rfl) | (apply kl_out; focus rfl))) ?_ ?_ ?_ ?_)
                    · omega
                    · exact ⟨by omega, hp2⟩
                    · exact ⟨rfl, trivial⟩
                    · exact trivial
                · try simp only [decide_eq_true_eq, decide_eq_false_iff_not, Bool.or_eq_true, Bool.or_eq_false_iff, Bool.and_eq_true, Bool.and_eq_false_iff, Bool.not_eq_true', Bool.not_eq_false', Bool.not_eq_true, Bool.not_eq_false, Bool.not_true, Bool.not_false, Int.not_lt, Int.not_le, not_or, not_and, Classical.not_not] at h133
                  refine T_exit_go (fun _ _ h => h) ?_
                  refine T_seq ?_
                  refine T_region ?_
                  refine S_ 2 rfl rfl rfl _ (y_assign rfl rfl) ?_
                  refine S_go (fun _ _ h => h) ?_
                  refine T_ret (fun a w hF hM => hRb a w (post1 rfl rfl (fun w hM => ?_) a w hF hM))
                  first | exact ⟨by rw [e1], hM.below⟩ | exact ⟨by rw [hch, ← hp2, hl.end (by omega)]; rfl, hM.below⟩
            · skip
              have hw : wrdB x.op = false := h122
              rw [if_neg (by rw [hw]; simp)] at hla
              have hch := chX_kids hla
              refine T_skip_go (fun _ _ h => h) ?_
              refine T_seq ?_
              refine T_seq ?_
              refine T_region ?_
              refine S_ 129 rfl rfl rfl _ (y_fieldAddr rfl rfl fa24_1) ?_
              refine S_ 130 rfl rfl rfl _ (y_load 1 rfl rfl rfl rfl Tryz.underlying22 rfl) ?_
              refine S_ 131 rfl rfl rfl _ (y_len_slice rfl rfl Tryz.underlying22) ?_
              refine S_ 132 rfl rfl rfl _ (y_move rfl rfl) ?_
              refine S_go (fun _ _ h => h) ?_
              refine T_block ?_
              refine T_loopK1 (kf := [(2, 2), (7, 8), (132, 141)]) (kl := [(2, 2), (7, 8), (132, 141)]) (fun (i : Nat) => [(132, true, .int .i64 (i : Int))]) (fun (i : Nat) => []) (fun (i : Nat) => i ≤ x.q ∧ chkL (chdNo txtNo nameOk) ((x.kids.drop i).map SC.says) = chkL (chdNo txtNo nameOk) (x.kids.map SC.says)) (fun (i : Nat) => x.q - i) 0 (by repeat (first | exact kf_nil | (apply kf_in; focus rfl) | (apply kf_out; focus rfl))) (by repeat (first | exact kl_nil | exact kl_rest (by assumption) rfl | (apply kl_in; focus rfl) | (apply kl_out; focus rfl))) ?_ ?_ ?_ ?_
              · exact ⟨by omega, rfl⟩
              · exact ⟨rfl, trivial⟩
              · exact trivial
              rintro i ⟨hp1, hp2⟩
              refine T_seq ?_
              refine T_region ?_
              refine S_ 133 rfl rfl rfl _ (y_bin rfl rfl rfl (fun _ => b_lss)) ?_
              refine S_go (fun _ _ h => h) ?_
              refine T_seq ?_
              refine T_cond rfl (fun h133 => ?_) (fun h133 => ?_)
              · try simp only [decide_eq_true_eq, decide_eq_false_iff_not, Bool.or_eq_true, Bool.or_eq_false_iff, Bool.and_eq_true, Bool.and_eq_false_iff, Bool.not_eq_true', Bool.not_eq_false', Bool.not_eq_true, Bool.not_eq_false, Bool.not_true, Bool.not_false, Int.not_lt, Int.not_le, not_or, not_and, Classical.not_not] at h133
                obtain ⟨k, hx1, hx2⟩ := hl.at (i := i) (by omega)
                rw [hx2, List.map_cons, chkL] at hp2
                refine T_skip_go (fun _ _ h => h) ?_
                refine T_seq ?_
                refine T_block ?_
                refine T_seq ?_
                refine T_region ?_
                refine S_ 134 rfl rfl rfl _ (y_indexAddr rfl rfl rfl Tryz.underlying22 sz24 (fun hg => hl.isSome (by omega)) (fun _ => by omega)) ?_
                refine S_ 135 rfl rfl rfl _ (y_loadT rfl rfl hl (fun _ => rfl) (fun _ => hx1) Tryz.underlying24 rfl sz24) ?_
                refine S_alloc 7 7 rfl rfl rfl rfl z24 ?_
                intro b7
                refine S_store 7 rfl rfl rfl rfl rfl rfl sz24 rfl rfl ?_
                refine S_go (fun _ _ h => h) ?_
                refine T_seq ?_
                refine T_region ?_
                refine S_ 136 rfl rfl rfl _ (y_loadA 7 rfl rfl rfl Tryz.underlying24 rfl sz24) ?_
                refine S_ 137 rfl rfl rfl _ (y_call rfl rfl rfl cf112 (fun _ w1 hM => ih k (mem_at hx1) w1 ((hk k (mem_at hx1)).lift hM.below))) ?_
                refine S_ 8 rfl rfl rfl _ (y_assign rfl rfl) ?_
                refine S_go (fun _ _ h => h) ?_
                refine T_seq ?_
                refine T_region ?_
                refine S_ 138 rfl rfl rfl _ (y_move rfl rfl) ?_
                refine S_ 139 rfl rfl rfl _ (y_bin rfl rfl rfl (fun _ => b_neq)) ?_
                refine S_go (fun _ _ h => h) ?_
                refine T_cond rfl (fun h139 => ?_) (fun h139 => ?_)
                · skip
                  have hn1 : chX k ≠ 0 := by simpa using h139
                  rw [if_pos hn1] at hp2
                  have e1 : chX x = chX k := by rw [hch, ← hp2]
                  refine T_seq ?_
                  refine T_region ?_
                  refine S_ 140 rfl rfl rfl _ (y_move rfl rfl) ?_
                  refine S_ 2 rfl rfl rfl _ (y_assign rfl rfl) ?_
                  refine S_go (fun _ _ h => h) ?_
                  refine T_ret (fun a w hF hM => hRb a w (post1 rfl rfl (fun w hM => ?_) a w hF hM))
                  first | exact ⟨by rw [e1], hM.below⟩ | exact ⟨by rw [hch, ← hp2, hl.end (by omega)]; rfl, hM.below⟩
                · skip
                  have hn1 : chX k = 0 := by simpa using h139
                  rw [if_neg (by rw [show chkP (chdNo txtNo nameOk) k.says = chX k from rfl, hn1]; simp)] at hp2
                  refine T_skip_go (fun _ _ h => h) ?_
                  refine T_region ?_
                  refine S_ 141 rfl rfl rfl _ (y_bin rfl rfl rfl (fun hg => b_add (by omega))) ?_
                  refine S_ 132 rfl rfl rfl _ (y_move rfl rfl) ?_
                  refine S_nil (nextK1 (kf := [(2, 2), (7, 8), (132, 141)]) (kl := [(2, 2), (7, 8), (132, 141)]) (i + 1) (by repeat (first | exact kf_nil | (apply kf_in; focus rfl) | (apply kf_out; focus rfl))) (by repeat (first | exact kl_nil | exact kl_rest (by assumption) rfl | (apply kl_in; focus rfl) | (apply kl_out; focus rfl))) ?_ ?_ ?_ ?_)
                  · omega
                  · exact ⟨by omega, hp2⟩
                  · exact ⟨rfl, trivial⟩
                  · exact trivial
              · try simp only [decide_eq_true_eq, decide_eq_false_iff_not, Bool.or_eq_true, Bool.or_eq_false_iff, Bool.and_eq_true, Bool.and_eq_false_iff, Bool.not_eq_true', Bool.not_eq_false', Bool.not_eq_true, Bool.not_eq_false, Bool.not_true, Bool.not_false, Int.not_lt, Int.not_le, not_or, not_and, Classical.not_not] at h133
                refine T_exit_go (fun _ _ h => h) ?_
                refine T_seq ?_
                refine T_region ?_
                refine S_ 2 rfl rfl rfl _ (y_assign rfl rfl) ?_
                refine S_go (fun _ _ h => h) ?_
                refine T_ret (fun a w hF hM => hRb a w (post1 rfl rfl (fun w hM => ?_) a w hF hM))
                first | exact ⟨by rw [e1], hM.below⟩ | exact ⟨by rw [hch, ← hp2, hl.end (by omega)]; rfl, hM.below⟩
theorem checkOne_any (x : SC) : OneAt x := SC.ind (Q := OneAt) one_step x
/-- the fault of a condition -/
def condNo (x : SC) : Int := if deepP 20 x.says = true then 13 else if 100 < sizeP x.says 100 then 4 else chX x
theorem CheckCond_any (x : SC) (w : World) (hok : x.Ok w) :
    Calls Tryz.prog 43 #[x.val] w fun e w' => e = .returned (.int .i64 (condNo x)) ∧ Below w.heap.size w w' := by
  refine enter_args (args := [.agg #[.int .i64 x.op, .slice x.ad x.q x.c, .int .i64 x.lo, .int .i64 x.hi, str x.nm, str x.tx]]) (F := _) Tryz.func43 rfl Tryz.ntmps43 rfl rfl ?_
  intro Rb hRb hRn
  refine T_seq ?_
  refine T_region ?_
  refine S_box 1 1 rfl rfl rfl rfl rfl ?_
  intro b1
  refine S_ 2 rfl rfl rfl _ (y_assign rfl rfl) ?_
  refine S_go (fun _ _ h => h) ?_
  refine T_seq ?_
  refine T_seq ?_
  refine T_region ?_
  refine S_ 3 rfl rfl rfl _ (y_loadA 1 rfl rfl rfl Tryz.underlying24 rfl sz24) ?_
  refine S_ 4 rfl rfl rfl _ (y_call rfl rfl rfl cf110 (fun _ w1 hM => tooDeep_any 20 (by decide) x w1 (hok.lift hM.below))) ?_
  refine S_go (fun _ _ h => h) ?_
  refine T_cond rfl (fun h4 => ?_) (fun h4 => ?_)
  · skip
    refine T_seq ?_
    refine T_region ?_
    refine S_ 2 rfl rfl rfl _ (y_assign rfl rfl) ?_
    refine S_go (fun _ _ h => h) ?_
    refine T_ret (fun a w hF hM => hRb a w (post1 rfl rfl (fun w hM => ?_) a w hF hM))
    exact ⟨by rw [condNo, if_pos h4], hM.below⟩
  · skip
    refine T_skip_go (fun _ _ h => h) ?_
    refine T_seq ?_
    refine T_seq ?_
    refine T_region ?_
    refine S_ 5 rfl rfl rfl _ (y_loadA 1 rfl rfl rfl Tryz.underlying24 rfl sz24) ?_
    refine S_ 6 rfl rfl rfl _ (y_call rfl rfl rfl cf111 (fun _ w1 hM => size_any x 100 w1 (by decide) (by decide) (hok.lift hM.below))) ?_
    refine S_ 7 rfl rfl rfl _ (y_bin rfl rfl rfl (fun _ => b_gtr)) ?_
    refine S_go (fun _ _ h => h) ?_
    refine T_cond rfl (fun h7 => ?_) (fun h7 => ?_)
    · skip
      refine T_seq ?_
      refine T_region ?_
      refine S_ 2 rfl rfl rfl _ (y_assign rfl rfl) ?_
      refine S_go (fun _ _ h => h) ?_
      refine T_ret (fun a w hF hM => hRb a w (post1 rfl rfl (fun w hM => ?_) a w hF hM))
      exact ⟨by rw [condNo, if_neg (by rw [h4]; simp), if_pos (by simpa using h7)], hM.below⟩
    · skip
      refine T_skip_go (fun _ _ h => h) ?_
      refine T_seq ?_
      refine T_region ?_
      refine S_ 8 rfl rfl rfl _ (y_loadA 1 rfl rfl rfl Tryz.underlying24 rfl sz24) ?_
      refine S_ 9 rfl rfl rfl _ (y_call rfl rfl rfl cf112 (fun _ w1 hM => checkOne_any x w1 (hok.lift hM.below))) ?_
      refine S_ 2 rfl rfl rfl _ (y_assign rfl rfl) ?_
      refine S_go (fun _ _ h => h) ?_
      refine T_ret (fun a w hF hM => hRb a w (post1 rfl rfl (fun w hM => ?_) a w hF hM))
      exact ⟨by rw [condNo, if_neg (by rw [h4]; simp), if_neg (by simpa using h7)], hM.below⟩
end Go.Proofs.YtfmbgaaonfgenaaGreatDoor
end
section
namespace Go.Proofs.YtfmbgaaonfgenaaGreatDoor
set_option linter.unusedSimpArgs false
set_option linter.unusedVariables false
set_option maxRecDepth 20000
open Go.RowKit Go.Eng
section
variable (e : UInt8 → UInt8 → Bool)
def gm : List UInt8 → List UInt8 → Bool
  | [], [] => true
  | [], _ :: _ => false
  | a :: p, [] => decide (a = 42) && gm p []
  | a :: p, c :: r => if a = 42 then gm p (c :: r) || gm (a :: p) r else e a c && gm p r
termination_by p s => p.length + s.length
end
section
variable {e : UInt8 → UInt8 → Bool}
theorem gm_star {p s : List UInt8} : gm e (42 :: p) s = true ↔ ∃ m, m ≤ s.length ∧ gm e p (s.drop m) = true := by
  induction s with
  | nil =>
    rw [gm]
    simp only [decide_true, Bool.true_and, List.length_nil, List.drop_nil]
    exact ⟨fun h => ⟨0, Nat.le_refl _, h⟩, fun ⟨m, _, h⟩ => h⟩
  | cons c r ih =>
    rw [gm, if_pos rfl, Bool.or_eq_true, ih]
    constructor
    · rintro (h | ⟨m, h1, h2⟩)
      · exact ⟨0, Nat.zero_le _, h⟩
      · exact ⟨m + 1, by rw [List.length_cons]; omega, by rw [List.drop_succ_cons]; exact h2⟩
    · rintro ⟨m, h1, h2⟩
      cases m with
      | zero => exact .inl h2
      | succ m => exact .inr ⟨m, by rw [List.length_cons] at h1; omega, by rw [List.drop_succ_cons] at h2; exact h2⟩
theorem gm_lit {a c : UInt8} {p r : List UInt8} (h : a ≠ 42) : gm e (a :: p) (c :: r) = (e a c && gm e p r) := by rw [gm, if_neg h]
theorem gm_lit0 {a : UInt8} {p : List UInt8} (h : a ≠ 42) : gm e (a :: p) [] = false := by rw [gm, decide_eq_false h, Bool.false_and]
theorem gm_nil {s : List UInt8} : gm e [] s = decide (s = []) := by cases s <;> simp [gm]
/-- a pattern in two parts -/
theorem gm_app : ∀ (p q s : List UInt8), gm e (p ++ q) s = true ↔ ∃ m, m ≤ s.length ∧ gm e p (s.take m) = true ∧ gm e q (s.drop m) = true
  | [], q, s => by
    rw [List.nil_append]
    constructor
    · intro h; exact ⟨0, Nat.zero_le _, by simp [gm], h⟩
    · rintro ⟨m, h1, h2, h3⟩
      rw [gm_nil, decide_eq_true_eq] at h2
      have : m = 0 ∨ s = [] := by
        cases s with
        | nil => exact .inr rfl
        | cons a r =>
          cases m with
          | zero => exact .inl rfl
          | succ m => simp at h2
      rcases this with rfl | rfl
      · exact h3
      · simpa using h3
  | a :: p, q, s => by
    by_cases ha : a = 42
    · subst ha
      rw [List.cons_append, gm_star]
      constructor
      · rintro ⟨m, h1, h2⟩
        obtain ⟨k, h3, h4, h5⟩ := (gm_app p q _).1 h2
        rw [List.length_drop] at h3
        refine ⟨m + k, by omega, gm_star.2 ⟨m, by rw [List.length_take]; omega, ?_⟩, by rw [List.drop_drop] at h5; exact h5⟩
        rw [List.drop_take, Nat.add_sub_cancel_left]; exact h4
      · rintro ⟨m, h1, h2, h3⟩
        obtain ⟨k, h4, h5⟩ := gm_star.1 h2
        rw [List.length_take] at h4
        refine ⟨k, by omega, (gm_app p q _).2 ⟨m - k, by rw [List.length_drop]; omega, ?_, ?_⟩⟩
        · rw [List.drop_take] at h5; exact h5
        · rw [List.drop_drop, show k + (m - k) = m by omega]; exact h3
    · cases s with
      | nil =>
        rw [List.cons_append, gm_lit0 ha]
        constructor
        · intro h; cases h
        · rintro ⟨m, _, h2, _⟩
          rw [List.take_nil, gm_lit0 ha] at h2; cases h2
      | cons c r =>
        rw [List.cons_append, gm_lit ha, Bool.and_eq_true, gm_app p q r]
        constructor
        · rintro ⟨h1, m, h2, h3, h4⟩
          exact ⟨m + 1, by rw [List.length_cons]; omega, by rw [List.take_succ_cons, gm_lit ha, h1, h3]; rfl, by rw [List.drop_succ_cons]; exact h4⟩
        · rintro ⟨m, h1, h2, h3⟩
          cases m with
          | zero => rw [List.take_zero, gm_lit0 ha] at h2; cases h2
          | succ m =>
            rw [List.take_succ_cons, gm_lit ha, Bool.and_eq_true] at h2
            exact ⟨h2.1, m, by rw [List.length_cons] at h1; omega, h2.2, by rw [List.drop_succ_cons] at h3; exact h3⟩
/-! ### The table of all beginnings -/
/-- what a row of the table is made of the one before -/
def nxF (a : UInt8) (s : List UInt8) (fits : List Bool) : Nat → Bool
  | 0 => if a = 42 then fits.getD 0 false else false
  | k + 1 => if a = 42 then fits.getD (k + 1) false || nxF a s fits k else fits.getD k false && e a (s.getD k 0)
def rowG (e : UInt8 → UInt8 → Bool) (p s : List UInt8) : List Bool := (List.range (s.length + 1)).map fun k => gm e p (s.take k)
theorem rowG_at {p s : List UInt8} {k : Nat} (h : k ≤ s.length) : (rowG e p s).getD k false = gm e p (s.take k) := by
  rw [rowG, List.getD_eq_getElem?_getD, List.getElem?_map, List.getElem?_range (by omega)]; rfl
theorem gm_one {a : UInt8} {s : List UInt8} (h : a ≠ 42) : gm e [a] s = true ↔ ∃ c, s = [c] ∧ e a c = true := by
  match s with
  | [] => rw [gm_lit0 h]; simp
  | [c] => rw [gm_lit h]; simp [gm]
  | c :: d :: r => rw [gm_lit h]; simp [gm]
theorem nxF_row {a : UInt8} {p s : List UInt8} : ∀ k, k ≤ s.length → nxF (e := e) a s (rowG e p s) k = gm e (p ++ [a]) (s.take k)
  | 0, h => by
    rw [nxF, rowG_at h, List.take_zero, Bool.eq_iff_iff, gm_app]
    by_cases ha : a = 42
    · subst ha
      rw [if_pos rfl]
      constructor
      · intro h2; exact ⟨0, Nat.le_refl _, h2, by simp [gm]⟩
      · rintro ⟨m, h1, h2, _⟩; rw [List.take_nil] at h2; exact h2
    · rw [if_neg ha]
      constructor
      · intro h2; cases h2
      · rintro ⟨m, h1, _, h2⟩; rw [List.drop_nil, gm_lit0 ha] at h2; cases h2
  | k + 1, h => by
    rw [nxF]
    by_cases ha : a = 42
    · subst ha
      rw [if_pos rfl, nxF_row k (by omega), rowG_at h, Bool.eq_iff_iff, Bool.or_eq_true, gm_app, gm_app]
      have any : ∀ t : List UInt8, gm e [42] t = true := fun t => gm_star.2 ⟨t.length, Nat.le_refl _, by rw [List.drop_length]; simp [gm]⟩
      constructor
      · rintro (h2 | ⟨m, h1, h2, _⟩)
        · exact ⟨k + 1, by rw [List.length_take]; omega, by rw [List.take_take, Nat.min_self]; exact h2, any _⟩
        · rw [List.length_take] at h1
          rw [List.take_take, Nat.min_eq_left (by omega)] at h2
          exact ⟨m, by rw [List.length_take]; omega, by rw [List.take_take, Nat.min_eq_left (by omega)]; exact h2, any _⟩
      · rintro ⟨m, h1, h2, _⟩
        rw [List.length_take] at h1
        rw [List.take_take, Nat.min_eq_left (by omega)] at h2
        by_cases hm : m = k + 1
        · subst hm; exact .inl h2
        · exact .inr ⟨m, by rw [List.length_take]; omega, by rw [List.take_take, Nat.min_eq_left (by omega)]; exact h2, any _⟩
    · rw [if_neg ha, rowG_at (by omega), Bool.eq_iff_iff, Bool.and_eq_true, gm_app]
      have hk : s.take (k + 1) = s.take k ++ [s.getD k 0] := by
        rw [List.getD_eq_getElem?_getD, List.getElem?_eq_getElem (by omega), List.take_succ_eq_append_getElem (by omega)]; rfl
      constructor
      · rintro ⟨h2, h3⟩
        refine ⟨k, by rw [List.length_take]; omega, by rw [List.take_take, Nat.min_eq_left (by omega)]; exact h2, ?_⟩
        rw [hk, List.drop_left' (by rw [List.length_take]; omega)]
        exact (gm_one ha).2 ⟨_, rfl, h3⟩
      · rintro ⟨m, h1, h2, h3⟩
        obtain ⟨c, h4, h5⟩ := (gm_one ha).1 h3
        have hl := congrArg List.length h4
        rw [List.length_drop, List.length_take, List.length_singleton] at hl
        have hm : m = k := by omega
        subst hm
        rw [List.take_take, Nat.min_eq_left (by omega)] at h2
        rw [hk, List.drop_left' (by rw [List.length_take]; omega)] at h4
        have : s.getD m 0 = c := by simpa using h4
        exact ⟨h2, by rw [this]; exact h5⟩
theorem rowG_0 (s : List UInt8) : rowG e [] s = true :: List.replicate s.length false := by
  apply List.ext_getElem?
  intro k
  rw [rowG, List.getElem?_map]
  by_cases hk : k ≤ s.length
  · rw [List.getElem?_range (by omega)]
    show some (gm e [] (s.take k)) = _
    rw [gm_nil]
    cases k with
    | zero => simp
    | succ k =>
      rw [List.getElem?_cons_succ, List.getElem?_replicate, if_pos (by omega), decide_eq_false]
      intro h
      have := congrArg List.length h
      rw [List.length_take] at this
      have h0 : ([] : List UInt8).length = 0 := rfl
      omega
  · rw [List.getElem?_eq_none (by simp; omega), List.getElem?_eq_none (by simp; omega)]; rfl
/-! ### Back to the last star -/
/-- where the search stands: the last star at 'st' was tried from 'mk' on; the pattern from there to 'i' has no star -/
structure Tried (e : UInt8 → UInt8 → Bool) (p s : List UInt8) (i k : Nat) (st : Option Nat) (mk : Nat) : Prop where
  hi : i ≤ p.length
  hk : k ≤ s.length
  hst : ∀ j, st = some j → j < i ∧ k = mk + (i - j - 1) ∧ p.getD j 0 = 42 ∧ ∀ m, j < m → m < i → p.getD m 0 ≠ 42
  no : st = none → mk = 0
  eq : gm e p s = true ↔ gm e (p.drop i) (s.drop k) = true ∨ ∃ j, st = some j ∧ ∃ m, mk < m ∧ m ≤ s.length ∧ gm e (p.drop (j + 1)) (s.drop m) = true
theorem Tried.start (p s : List UInt8) : Tried e p s 0 0 none 0 := ⟨Nat.zero_le _, Nat.zero_le _, (fun j h => by cases h), (fun _ => rfl), by simp⟩
theorem drop_getD {p : List UInt8} {i : Nat} (h : i < p.length) : p.drop i = p.getD i 0 :: p.drop (i + 1) := by
  rw [List.drop_eq_getElem_cons h, List.getD_eq_getElem?_getD, List.getElem?_eq_getElem h]; rfl
/-- literals take as many bytes as they are -/
theorem gm_lits {p s : List UInt8} : ∀ (n i : Nat), i + n ≤ p.length → (∀ m, i ≤ m → m < i + n → p.getD m 0 ≠ 42) → gm e (p.drop i) s = true → n ≤ s.length ∧ gm e (p.drop (i + n)) (s.drop n) = true
  | 0, i, _, _, h => ⟨Nat.zero_le _, by simpa using h⟩
  | n + 1, i, hl, hn, h => by
    have ha := hn i (Nat.le_refl _) (by omega)
    rw [drop_getD (by omega)] at h
    cases s with
    | nil => rw [gm_lit0 ha] at h; cases h
    | cons c r =>
      rw [gm_lit ha, Bool.and_eq_true] at h
      obtain ⟨h1, h2⟩ := gm_lits (s := r) n (i + 1) (by omega) (fun m h1 h2 => hn m (by omega) (by omega)) h.2
      exact ⟨by rw [List.length_cons]; omega, by rw [List.drop_succ_cons, show i + (n + 1) = i + 1 + n by omega]; exact h2⟩
theorem Tried.later {p s : List UInt8} {i k mk j m : Nat} {st : Option Nat} (h : Tried e p s i k st mk) (hst : st = some j) (hm : mk < m) (hg : gm e (p.drop (j + 1)) (s.drop m) = true) : k < m + (i - j - 1) ∧ m + (i - j - 1) ≤ max m s.length ∧ gm e (p.drop i) (s.drop (m + (i - j - 1))) = true := by
  obtain ⟨h1, h2, h3, h4⟩ := h.hst j hst
  have hi := h.hi
  obtain ⟨g1, g2⟩ := gm_lits (i - j - 1) (j + 1) (by omega) (fun q h5 h6 => h4 q (by omega) (by omega)) hg
  rw [List.length_drop] at g1
  rw [List.drop_drop, show j + 1 + (i - j - 1) = i by omega] at g2
  exact ⟨by omega, by omega, g2⟩
theorem Tried.star {p s : List UInt8} {i k mk : Nat} {st : Option Nat} (h : Tried e p s i k st mk) (hi : i < p.length) (ha : p.getD i 0 = 42) : Tried e p s (i + 1) k (some i) k := by
  refine ⟨hi, h.hk, fun j hj => ?_, (fun hh => by cases hh), ?_⟩
  · cases hj
    exact ⟨by omega, by omega, ha, fun m h1 h2 => by omega⟩
  · have hk := h.hk
    rw [h.eq, drop_getD hi, ha, gm_star]
    constructor
    · rintro (⟨m, h1, h2⟩ | ⟨j, hj, m, h1, h2, h3⟩)
      · rw [List.length_drop] at h1
        rw [List.drop_drop] at h2
        by_cases hm : m = 0
        · subst hm; exact .inl (by simpa using h2)
        · exact .inr ⟨i, rfl, k + m, by omega, by omega, h2⟩
      · obtain ⟨l1, l2, l3⟩ := h.later hj h1 h3
        rw [drop_getD hi, ha, gm_star] at l3
        obtain ⟨q, q1, q2⟩ := l3
        rw [List.length_drop] at q1
        rw [List.drop_drop] at q2
        refine .inr ⟨i, rfl, m + (i - j - 1) + q, by omega, by omega, q2⟩
    · rintro (h1 | ⟨j, hj, m, h1, h2, h3⟩)
      · exact .inl ⟨0, Nat.zero_le _, by simpa using h1⟩
      · cases hj
        refine .inl ⟨m - k, by rw [List.length_drop]; omega, ?_⟩
        rw [List.drop_drop, show k + (m - k) = m by omega]; exact h3
theorem Tried.lit {p s : List UInt8} {i k mk : Nat} {st : Option Nat} (h : Tried e p s i k st mk) (hi : i < p.length) (hk : k < s.length) (ha : p.getD i 0 ≠ 42) (he : e (p.getD i 0) (s.getD k 0) = true) : Tried e p s (i + 1) (k + 1) st mk := by
  refine ⟨hi, hk, fun j hj => ?_, h.no, ?_⟩
  · obtain ⟨h1, h2, h3, h4⟩ := h.hst j hj
    exact ⟨by omega, by omega, h3, fun m m1 m2 => by
      by_cases hm : m = i
      · subst hm; exact ha
      · exact h4 m m1 (by omega)⟩
  · rw [h.eq, drop_getD hi, drop_getD hk, gm_lit ha, he, Bool.true_and]
theorem Tried.back {p s : List UInt8} {i k mk j : Nat} (h : Tried e p s i k (some j) mk) (hk : k < s.length) (hno : i < p.length → p.getD i 0 ≠ 42 ∧ e (p.getD i 0) (s.getD k 0) = false) : Tried e p s (j + 1) (mk + 1) (some j) (mk + 1) := by
  obtain ⟨h1, h2, h3, h4⟩ := h.hst j rfl
  have hi := h.hi
  refine ⟨by omega, by omega, fun q hq => ?_, (fun hh => by cases hh), ?_⟩
  · cases hq
    exact ⟨by omega, by omega, h3, fun m m1 m2 => by omega⟩
  · have hf : gm e (p.drop i) (s.drop k) = false := by
      by_cases hip : i < p.length
      · obtain ⟨a1, a2⟩ := hno hip
        rw [drop_getD hip, drop_getD hk, gm_lit a1, a2, Bool.false_and]
      · rw [List.drop_eq_nil_of_le (by omega), drop_getD hk, gm]
    rw [h.eq, hf]
    constructor
    · rintro (h5 | ⟨q, hq, m, m1, m2, m3⟩)
      · cases h5
      · cases hq
        by_cases hm : m = mk + 1
        · subst hm; exact .inl m3
        · exact .inr ⟨j, rfl, m, by omega, m2, m3⟩
    · rintro (h5 | ⟨q, hq, m, m1, m2, m3⟩)
      · exact .inr ⟨j, rfl, mk + 1, by omega, by omega, h5⟩
      · cases hq; exact .inr ⟨j, rfl, m, by omega, m2, m3⟩
theorem Tried.fail {p s : List UInt8} {i k mk : Nat} (h : Tried e p s i k none mk) (hk : k < s.length) (hno : i < p.length → p.getD i 0 ≠ 42 ∧ e (p.getD i 0) (s.getD k 0) = false) : gm e p s = false := by
  have hf : gm e (p.drop i) (s.drop k) = false := by
    by_cases hip : i < p.length
    · obtain ⟨a1, a2⟩ := hno hip
      rw [drop_getD hip, drop_getD hk, gm_lit a1, a2, Bool.false_and]
    · rw [List.drop_eq_nil_of_le (by omega), drop_getD hk, gm]
  rw [← Bool.not_eq_true, h.eq, hf]
  rintro (h | ⟨j, hj, _⟩)
  · cases h
  · cases hj
theorem gm_stars : ∀ p : List UInt8, gm e p [] = p.all fun c => decide (c = 42)
  | [] => by rw [gm]; rfl
  | a :: p => by rw [gm, gm_stars p, List.all_cons]
theorem Tried.done {p s : List UInt8} {i k mk : Nat} {st : Option Nat} (h : Tried e p s i k st mk) (hk : s.length ≤ k) : gm e p s = (p.drop i).all fun c => decide (c = 42) := by
  rw [← gm_stars (e := e), Bool.eq_iff_iff, h.eq, List.drop_eq_nil_of_le hk]
  constructor
  · rintro (h1 | ⟨j, hj, m, m1, m2, m3⟩)
    · exact h1
    · obtain ⟨l1, l2, l3⟩ := h.later hj m1 m3
      have := h.hk
      omega
  · exact .inl
end
end Go.Proofs.YtfmbgaaonfgenaaGreatDoor
end
