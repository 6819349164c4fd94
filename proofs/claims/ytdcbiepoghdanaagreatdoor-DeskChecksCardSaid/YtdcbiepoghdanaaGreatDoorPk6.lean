/- Part 6, merged by a program. A new house is made. Conditions: those of each theorem. DeskChecks answers true, for all setups and moments. Conditions: the setup lies in memory. Events opened: from the form's reading to 'Evt.Ok'. No condition. Setups among the arguments opened. No condition. A world in which the listed tables of Go's hold what their text says, at a seat of houses. No condition. -/
import Derived.Test.YtdcbiepoghdanaaGreatDoorUnr
import Derived.Test.YtdcbiepoghdanaaGreatDoorIns
import Derived.Test.YtdcbiepoghdanaaGreatDoorIfc
import Derived.Test.YtdcbiepoghdanaaGreatDoorOpen
import Derived.Test.YtdcbiepoghdanaaGreatDoorCards
import Derived.Test.YtdcbiepoghdanaaGreatDoorTie
import Derived.Deep.DeepHandedRow
import Derived.Lib.LaidTab
import Derived.Stop.LaidErr
import Derived.ProofKit
import Derived.OpenShut
import Derived.Test.YtdcbiepoghdanaaGreatDoorPk5
section
namespace Go.Proofs.YtdcbiepoghdanaaGreatDoor
set_option linter.unusedSimpArgs false
set_option linter.unusedVariables false
set_option maxRecDepth 20000
open Go.RowKit Go.Eng
set_option maxHeartbeats 1600000 in
theorem NewWatch_any (l : Sl SAl) (at_ : Int) (w : World) (hl : AlsOk w l) (hm : outI at_ 0 3155759999 = false) :
    Calls Tryz.prog 70 #[.slice l.A l.q l.c, .int .i64 at_] w fun e w' => ∃ b : Option Addr, e = .returned (.tuple #[.pointer b, .int .i64 (alertsNo l)]) ∧ Below w.heap.size w w' := by
  have ht := hl.ok.t
  have hq := hl.q
  refine enter_args (args := [.slice l.A l.q l.c, .int .i64 at_]) (F := _) Tryz.func70 rfl Tryz.ntmps70 rfl rfl ?_
  intro Rb hRb hRn
  refine T_seq ?_
  refine T_region ?_
  refine S_ 4 rfl rfl rfl _ (y_assign rfl rfl) ?_
  refine S_ 5 rfl rfl rfl _ (y_assign rfl rfl) ?_
  refine S_go (fun _ _ h => h) ?_
  refine T_seq ?_
  refine T_seq ?_
  refine T_region ?_
  refine S_ 11 rfl rfl rfl _ (y_move rfl rfl) ?_
  refine S_ 12 rfl rfl rfl _ (y_call rfl rfl rfl cf62 (fun _ w1 hM => ACheckRules_any l w1 (hl.below hM.below))) ?_
  refine S_ 6 rfl rfl rfl _ (y_assign rfl rfl) ?_
  refine S_go (fun _ _ h => h) ?_
  refine T_seq ?_
  refine T_region ?_
  refine S_ 13 rfl rfl rfl _ (y_move rfl rfl) ?_
  refine S_ 14 rfl rfl rfl _ (y_bin rfl rfl rfl (fun _ => b_neq)) ?_
  refine S_go (fun _ _ h => h) ?_
  refine T_cond rfl (fun h14 => ?_) (fun h14 => ?_)
  · skip
    have h14 : ¬ alertsNo l = 0 := by simpa using h14
    refine T_seq ?_
    refine T_region ?_
    refine S_ 15 rfl rfl rfl _ (y_move rfl rfl) ?_
    refine S_ 4 rfl rfl rfl _ (y_assign rfl rfl) ?_
    refine S_ 5 rfl rfl rfl _ (y_assign rfl rfl) ?_
    refine S_go (fun _ _ h => h) ?_
    refine T_ret (fun a w hF hM => hRb a w (post2 rfl rfl rfl (fun w hM => ?_) a w hF hM))
    exact ⟨none, rfl, hM.below⟩
  · skip
    have h14 : alertsNo l = 0 := by simpa using h14
    refine T_skip_go (fun _ _ h => h) ?_
    refine T_seq ?_
    refine T_seq ?_
    refine T_region ?_
    refine S_ 16 rfl rfl rfl _ (y_move rfl rfl) ?_
    refine S_ 17 rfl rfl rfl _ (y_call rfl rfl rfl cf139 (fun _ w1 _ => almom_any _ w1)) ?_
    refine S_ 18 rfl rfl rfl _ (y_not rfl rfl) ?_
    refine S_go (fun _ _ h => h) ?_
    refine T_cond rfl (fun h18 => ?_) (fun h18 => ?_)
    · skip
      rw [hm] at h18; cases h18
    · skip
      refine T_skip_go (fun _ _ h => h) ?_
      refine T_seq ?_
      refine T_region ?_
      refine S_ 19 rfl rfl rfl _ (y_move rfl rfl) ?_
      refine S_ 20 rfl rfl rfl _ (y_build (zv := .agg #[.slice none 0 0, .slice none 0 0, .slice none 0 0, .int .i64 0, .int .i64 0]) (pl := [(0, 1), (1, 1), (2, 1), (3, 1), (4, 1)]) (out := [.slice none 0 0, .slice none 0 0, .slice none 0 0, _, .int .i64 0]) rfl rfl Tryz.underlying207 z207 (by kernel_rfl) rfl) ?_
      refine S_box 21 21 rfl rfl rfl rfl rfl ?_
      intro b21
      refine S_ 7 rfl rfl rfl _ (y_assign rfl rfl) ?_
      refine S_go (fun _ _ h => h) ?_
      refine T_seq ?_
      refine T_seq ?_
      refine T_region ?_
      refine S_ 22 rfl rfl rfl _ (y_move rfl rfl) ?_
      refine S_nilSlice 919 (e := 212) (size := 11) ?_
      refine S_ 23 rfl rfl rfl _ (y_len_slice rfl rfl Tryz.underlying47) ?_
      refine S_ 24 rfl rfl rfl _ (y_move rfl rfl) ?_
      refine S_go (fun _ _ h => h) ?_
      refine T_block ?_
      refine T_loopK5 (kf := [(9, 10), (24, 72)]) (kl := [(9, 10), (21, 21), (24, 72), (919, 919)]) (fun (i : Nat) (A : Option Addr) (c : Nat) (V : List Value) (m : Int) => [(24, true, .int .i64 (i : Int))]) (fun (i : Nat) (A : Option Addr) (c : Nat) (V : List Value) (m : Int) => [(21, .blk b21 (IsBox [.slice A i c, .slice none 0 0, .slice none 0 0, .int .i64 at_, .int .i64 m] 207)), (919, .own 212 11 (.slice A i c) i V)]) (fun (i : Nat) (A : Option Addr) (c : Nat) (V : List Value) (m : Int) => i ≤ l.q) (fun (i : Nat) (A : Option Addr) (c : Nat) (V : List Value) (m : Int) => l.q - i) 0 none 0 [] 0 (by repeat (first | exact kf_nil | (apply kf_in; focus rfl) | (apply kf_out; focus rfl))) (by repeat (first | exact kl_nil | exact kl_rest (by assumption) rfl | (apply kl_in; focus rfl) | (apply kl_out; focus rfl))) ?_ ?_ ?_ ?_
      · omega
      · exact ⟨rfl, trivial⟩
      · exact ⟨rfl, rfl, trivial⟩
      rintro i A c V m hp1
      refine T_seq ?_
      refine T_region ?_
      refine S_ 25 rfl rfl rfl _ (y_bin rfl rfl rfl (fun _ => b_lss)) ?_
      refine S_go (fun _ _ h => h) ?_
      refine T_seq ?_
      refine T_cond rfl (fun h25 => ?_) (fun h25 => ?_)
      · try simp only [decide_eq_true_eq, decide_eq_false_iff_not, Bool.or_eq_true, Bool.or_eq_false_iff, Bool.and_eq_true, Bool.and_eq_false_iff, Bool.not_eq_true', Bool.not_eq_false', Bool.not_eq_true, Bool.not_eq_false, Bool.not_true, Bool.not_false, Int.not_lt, Int.not_le, not_or, not_and, Classical.not_not] at h25
        obtain ⟨x, hx1, hx2⟩ := ht.at (i := i) (by omega)
        have hq50 := alerts_q h14
        refine T_skip_go (fun _ _ h => h) ?_
        refine T_seq ?_
        refine T_block ?_
        refine T_seq ?_
        refine T_region ?_
        refine S_ 26 rfl rfl rfl _ (y_indexAddr rfl rfl rfl Tryz.underlying47 sz171 (fun hg => ht.isSome (by omega)) (fun _ => by omega)) ?_
        refine S_ 27 rfl rfl rfl _ (y_loadT rfl rfl ht (fun _ => rfl) (fun _ => hx1) Tryz.underlying171 rfl sz171) ?_
        refine S_alloc 9 9 rfl rfl rfl rfl z171 ?_
        intro b9
        refine S_store 9 rfl rfl rfl rfl rfl rfl sz171 rfl rfl ?_
        refine S_go (fun _ _ h => h) ?_
        refine T_seq ?_
        refine T_region ?_
        refine S_ 28 rfl rfl rfl _ (y_loadA 9 rfl rfl rfl Tryz.underlying171 rfl sz171) ?_
        refine S_ 29 rfl rfl rfl _ (y_move rfl rfl) ?_
        refine S_ 30 rfl rfl rfl _ (y_buildArr (zv := .agg #[.int .i64 0, .int .i64 0]) (out := [.int .i64 0, .int .i64 at_]) rfl rfl Tryz.underlying209 z209 sz3 rfl) ?_
        refine S_ 31 rfl rfl rfl _ (y_build (zv := .agg #[.string ⟨#[]⟩, .string ⟨#[]⟩, .int .i64 0, .int .i64 0, .int .i64 0, .int .i64 0, .int .i64 0, .int .i64 0, .int .i64 0, .int .i64 0, .nilFunc]) (pl := [(0, 7), (7, 2), (9, 1), (10, 1)]) (out := [_, _, _, _, _, _, _, _, _, .int .i64 0, .nilFunc]) rfl rfl Tryz.underlying212 z212 (by kernel_rfl) rfl) ?_
        refine S_alloc 10 10 rfl rfl rfl rfl z212 ?_
        intro b10
        refine S_store 10 rfl rfl rfl rfl rfl rfl sz212 rfl rfl ?_
        refine S_go (fun _ _ h => h) ?_
        refine T_seq ?_
        refine T_seq ?_
        refine T_region ?_
        refine S_ 32 rfl rfl rfl _ (y_fieldAddr rfl rfl fa171_2) ?_
        refine S_ 33 rfl rfl rfl _ (y_load 9 rfl rfl rfl rfl Tryz.underlying3 rfl) ?_
        refine S_go (fun _ _ h => h) ?_
        refine T_block ?_
        refine T_seq ?_
        refine T_region ?_
        refine S_ 38 rfl rfl rfl _ (y_bin rfl rfl rfl (fun _ => b_eql)) ?_
        refine S_ 37 rfl rfl rfl _ (y_assign rfl rfl) ?_
        refine S_go (fun _ _ h => h) ?_
        refine T_cond rfl (fun h37 => ?_) (fun h37 => ?_)
        · try simp only [decide_eq_true_eq, decide_eq_false_iff_not, Bool.or_eq_true, Bool.or_eq_false_iff, Bool.and_eq_true, Bool.and_eq_false_iff, Bool.not_eq_true', Bool.not_eq_false', Bool.not_eq_true, Bool.not_eq_false, Bool.not_true, Bool.not_false, Int.not_lt, Int.not_le, not_or, not_and, Classical.not_not] at h37
          refine T_region ?_
          refine S_ 39 rfl rfl rfl _ (y_loadA 9 rfl rfl rfl Tryz.underlying171 rfl sz171) ?_
          refine S_ 40 rfl rfl rfl _ (y_makeFunc rfl rfl rfl rfl rfl) ?_
          refine S_ 41 rfl rfl rfl _ (y_fieldAddr rfl rfl fa212_3) ?_
          refine S_store 10 rfl rfl rfl rfl rfl rfl sz210 rfl rfl ?_
          refine S_go (fun _ _ h => h) ?_
          refine T_seq ?_
          refine T_perm [0, 1, 2, 3, 4, 5, 6, 7, 8, 9, 10] [true, true, true, true, true, true, false, false, true, true, false] [0, 0, 2, 6, 14, 0, 32, 126, 255, 511, 1023] [(4, [21]), (5, [10])] (by kernel_rfl) (by kernel_rfl) (by kernel_rfl) rfl (by kernel_rfl) ?_
          refine Rf_ 0 52 rfl rfl rfl rfl rfl _ trivial (Y.z (y_move rfl rfl) rfl) ?_
          refine Rf_ 1 53 rfl rfl rfl rfl rfl _ trivial (Y.z (y_move rfl rfl) rfl) ?_
          refine Rf_ 2 54 rfl rfl rfl rfl rfl _ trivial (Z.of (z_nilCheck rfl rfl)) ?_
          refine Rf_ 3 55 rfl rfl rfl rfl rfl _ trivial (Y.z (y_fieldAddr rfl rfl fa207_0) rfl) ?_
          refine Rf_ 4 56 rfl rfl rfl rfl rfl _ ⟨rfl, trivial⟩ (Y.z (y_load 21 rfl rfl rfl rfl Tryz.underlying203 rfl) rfl) ?_
          refine Rf_ 5 57 rfl rfl rfl rfl rfl _ ⟨rfl, trivial⟩ (Y.z (y_loadA 10 rfl rfl rfl Tryz.underlying212 rfl sz212) rfl) ?_
          refine R_chain 6 rfl rfl ?_
          refine S_buildSlice 58 58 rfl rfl rfl rfl rfl Tryz.underlying203 inf212 rfl (by decide) (by decide) rfl rfl (by decide) rfl (_) rfl ?_
          intro b58
          refine R_next ⟨.inr ⟨rfl, trivial⟩, .inl rfl, trivial⟩ ?_
          refine R_chain 7 rfl rfl ?_
          obtain ⟨i59, hi59, hz59, hs59, hy59⟩ := info_parts inf212
          refine S_append 59 919 58 rfl rfl rfl rfl rfl rfl rfl rfl Tryz.underlying203 hi59 hz59 hs59 hy59 rfl (by decide) (by decide) rfl ?_ ?_ (_) (V ++ [str x.nm, str x.ky, .int .i64 x.ak, .int .i64 x.lm, .int .i64 x.wn, .int .i64 x.fr, .int .i64 x.rs, .int .i64 0, .int .i64 at_, .int .i64 0, .func (.func 140) #[.agg #[str x.nm, str x.ky, .int .i64 x.ak, .int .i64 x.lm, .int .i64 x.wn, .int .i64 x.fr, .int .i64 x.rs]] #[]]) rfl ?_ ?_
          · (simp only [maxLen]; omega)
          · omega
          · rfl
          intro A59 c59
          refine R_next ⟨.inl rfl, .inl rfl, trivial⟩ ?_
          refine Rf_ 8 60 rfl rfl rfl rfl rfl _ trivial (Z.of (z_nilCheck rfl rfl)) ?_
          refine Rf_ 9 61 rfl rfl rfl rfl rfl _ trivial (Y.z (y_fieldAddr rfl rfl fa207_0) rfl) ?_
          refine R_chain 10 rfl rfl ?_
          refine S_store 21 rfl rfl rfl rfl rfl rfl sz203 rfl rfl ?_
          refine R_next ⟨.inl rfl, .inl rfl, trivial⟩ ?_
          refine R_go (fun _ _ h => h) ?_
          refine T_drawsTail 10 (by kernel_rfl) (by kernel_rfl) ?_
          refine D_ 62 rfl rfl rfl _ (y_move rfl rfl) ?_
          refine D_ 63 rfl rfl rfl _ (y_move rfl rfl) ?_
          refine D_ 64 rfl rfl rfl _ (y_nilCheck rfl rfl) ?_
          refine D_ 65 rfl rfl rfl _ (y_fieldAddr rfl rfl fa207_4) ?_
          refine D_ 66 rfl rfl rfl _ (y_load 21 rfl rfl rfl rfl Tryz.underlying3 rfl) ?_
          refine D_ 67 rfl rfl rfl _ (y_fieldAddr rfl rfl fa171_4) ?_
          refine D_ 68 rfl rfl rfl _ (y_load 9 rfl rfl rfl rfl Tryz.underlying3 rfl) ?_
          refine D_ 69 rfl rfl rfl _ (y_max rfl rfl rfl) ?_
          refine D_ 70 rfl rfl rfl _ (y_nilCheck rfl rfl) ?_
          refine D_ 71 rfl rfl rfl _ (y_fieldAddr rfl rfl fa207_4) ?_
          refine D_tail ?_
          refine S_store 21 rfl rfl rfl rfl rfl rfl sz3 rfl rfl ?_
          refine S_go (fun _ _ h => h) ?_
          refine T_region ?_
          refine S_ 72 rfl rfl rfl _ (y_bin rfl rfl rfl (fun hg => b_add (by omega))) ?_
          refine S_ 24 rfl rfl rfl _ (y_move rfl rfl) ?_
          refine S_nil (nextK5 (kf := [(9, 10), (24, 72)]) (kl := [(9, 10), (21, 21), (24, 72), (919, 919)]) (i + 1) A59 c59 (V ++ [str x.nm, str x.ky, .int .i64 x.ak, .int .i64 x.lm, .int .i64 x.wn, .int .i64 x.fr, .int .i64 x.rs, .int .i64 0, .int .i64 at_, .int .i64 0, .func (.func 140) #[.agg #[str x.nm, str x.ky, .int .i64 x.ak, .int .i64 x.lm, .int .i64 x.wn, .int .i64 x.fr, .int .i64 x.rs]] #[]]) (if m < x.wn then x.wn else m) (by repeat (first | exact kf_nil | (apply kf_in; focus rfl) | (apply kf_out; focus rfl))) (by repeat (first | exact kl_nil | exact kl_rest (by assumption) rfl | (apply kl_in; focus rfl) | (apply kl_out; focus rfl))) ?_ ?_ ?_ ?_)
          · omega
          · omega
          · exact ⟨rfl, trivial⟩
          · exact ⟨rfl, rfl, trivial⟩
        · try simp only [decide_eq_true_eq, decide_eq_false_iff_not, Bool.or_eq_true, Bool.or_eq_false_iff, Bool.and_eq_true, Bool.and_eq_false_iff, Bool.not_eq_true', Bool.not_eq_false', Bool.not_eq_true, Bool.not_eq_false, Bool.not_true, Bool.not_false, Int.not_lt, Int.not_le, not_or, not_and, Classical.not_not] at h37
          refine T_seq ?_
          refine T_region ?_
          refine S_ 43 rfl rfl rfl _ (y_bin rfl rfl rfl (fun _ => b_eql)) ?_
          refine S_ 42 rfl rfl rfl _ (y_assign rfl rfl) ?_
          refine S_go (fun _ _ h => h) ?_
          refine T_cond rfl (fun h42 => ?_) (fun h42 => ?_)
          · try simp only [decide_eq_true_eq, decide_eq_false_iff_not, Bool.or_eq_true, Bool.or_eq_false_iff, Bool.and_eq_true, Bool.and_eq_false_iff, Bool.not_eq_true', Bool.not_eq_false', Bool.not_eq_true, Bool.not_eq_false, Bool.not_true, Bool.not_false, Int.not_lt, Int.not_le, not_or, not_and, Classical.not_not] at h42
            refine T_region ?_
            refine S_ 44 rfl rfl rfl _ (y_loadA 9 rfl rfl rfl Tryz.underlying171 rfl sz171) ?_
            refine S_ 45 rfl rfl rfl _ (y_makeFunc rfl rfl rfl rfl rfl) ?_
            refine S_ 46 rfl rfl rfl _ (y_fieldAddr rfl rfl fa212_3) ?_
            refine S_store 10 rfl rfl rfl rfl rfl rfl sz210 rfl rfl ?_
            refine S_go (fun _ _ h => h) ?_
            refine T_seq ?_
            refine T_perm [0, 1, 2, 3, 4, 5, 6, 7, 8, 9, 10] [true, true, true, true, true, true, false, false, true, true, false] [0, 0, 2, 6, 14, 0, 32, 126, 255, 511, 1023] [(4, [21]), (5, [10])] (by kernel_rfl) (by kernel_rfl) (by kernel_rfl) rfl (by kernel_rfl) ?_
            refine Rf_ 0 52 rfl rfl rfl rfl rfl _ trivial (Y.z (y_move rfl rfl) rfl) ?_
            refine Rf_ 1 53 rfl rfl rfl rfl rfl _ trivial (Y.z (y_move rfl rfl) rfl) ?_
            refine Rf_ 2 54 rfl rfl rfl rfl rfl _ trivial (Z.of (z_nilCheck rfl rfl)) ?_
            refine Rf_ 3 55 rfl rfl rfl rfl rfl _ trivial (Y.z (y_fieldAddr rfl rfl fa207_0) rfl) ?_
            refine Rf_ 4 56 rfl rfl rfl rfl rfl _ ⟨rfl, trivial⟩ (Y.z (y_load 21 rfl rfl rfl rfl Tryz.underlying203 rfl) rfl) ?_
            refine Rf_ 5 57 rfl rfl rfl rfl rfl _ ⟨rfl, trivial⟩ (Y.z (y_loadA 10 rfl rfl rfl Tryz.underlying212 rfl sz212) rfl) ?_
            refine R_chain 6 rfl rfl ?_
            refine S_buildSlice 58 58 rfl rfl rfl rfl rfl Tryz.underlying203 inf212 rfl (by decide) (by decide) rfl rfl (by decide) rfl (_) rfl ?_
            intro b58
            refine R_next ⟨.inr ⟨rfl, trivial⟩, .inl rfl, trivial⟩ ?_
            refine R_chain 7 rfl rfl ?_
            obtain ⟨i59, hi59, hz59, hs59, hy59⟩ := info_parts inf212
            refine S_append 59 919 58 rfl rfl rfl rfl rfl rfl rfl rfl Tryz.underlying203 hi59 hz59 hs59 hy59 rfl (by decide) (by decide) rfl ?_ ?_ (_) (V ++ [str x.nm, str x.ky, .int .i64 x.ak, .int .i64 x.lm, .int .i64 x.wn, .int .i64 x.fr, .int .i64 x.rs, .int .i64 0, .int .i64 at_, .int .i64 0, .func (.func 141) #[.agg #[str x.nm, str x.ky, .int .i64 x.ak, .int .i64 x.lm, .int .i64 x.wn, .int .i64 x.fr, .int .i64 x.rs]] #[]]) rfl ?_ ?_
            · (simp only [maxLen]; omega)
            · omega
            · rfl
            intro A59 c59
            refine R_next ⟨.inl rfl, .inl rfl, trivial⟩ ?_
            refine Rf_ 8 60 rfl rfl rfl rfl rfl _ trivial (Z.of (z_nilCheck rfl rfl)) ?_
            refine Rf_ 9 61 rfl rfl rfl rfl rfl _ trivial (Y.z (y_fieldAddr rfl rfl fa207_0) rfl) ?_
            refine R_chain 10 rfl rfl ?_
            refine S_store 21 rfl rfl rfl rfl rfl rfl sz203 rfl rfl ?_
            refine R_next ⟨.inl rfl, .inl rfl, trivial⟩ ?_
            refine R_go (fun _ _ h => h) ?_
            refine T_drawsTail 10 (by kernel_rfl) (by kernel_rfl) ?_
            refine D_ 62 rfl rfl rfl _ (y_move rfl rfl) ?_
            refine D_ 63 rfl rfl rfl _ (y_move rfl rfl) ?_
            refine D_ 64 rfl rfl rfl _ (y_nilCheck rfl rfl) ?_
            refine D_ 65 rfl rfl rfl _ (y_fieldAddr rfl rfl fa207_4) ?_
            refine D_ 66 rfl rfl rfl _ (y_load 21 rfl rfl rfl rfl Tryz.underlying3 rfl) ?_
            refine D_ 67 rfl rfl rfl _ (y_fieldAddr rfl rfl fa171_4) ?_
            refine D_ 68 rfl rfl rfl _ (y_load 9 rfl rfl rfl rfl Tryz.underlying3 rfl) ?_
            refine D_ 69 rfl rfl rfl _ (y_max rfl rfl rfl) ?_
            refine D_ 70 rfl rfl rfl _ (y_nilCheck rfl rfl) ?_
            refine D_ 71 rfl rfl rfl _ (y_fieldAddr rfl rfl fa207_4) ?_
            refine D_tail ?_
            refine S_store 21 rfl rfl rfl rfl rfl rfl sz3 rfl rfl ?_
            refine S_go (fun _ _ h => h) ?_
            refine T_region ?_
            refine S_ 72 rfl rfl rfl _ (y_bin rfl rfl rfl (fun hg => b_add (by omega))) ?_
            refine S_ 24 rfl rfl rfl _ (y_move rfl rfl) ?_
            refine S_nil (nextK5 (kf := [(9, 10), (24, 72)]) (kl := [(9, 10), (21, 21), (24, 72), (919, 919)]) (i + 1) A59 c59 (V ++ [str x.nm, str x.ky, .int .i64 x.ak, .int .i64 x.lm, .int .i64 x.wn, .int .i64 x.fr, .int .i64 x.rs, .int .i64 0, .int .i64 at_, .int .i64 0, .func (.func 141) #[.agg #[str x.nm, str x.ky, .int .i64 x.ak, .int .i64 x.lm, .int .i64 x.wn, .int .i64 x.fr, .int .i64 x.rs]] #[]]) (if m < x.wn then x.wn else m) (by repeat (first | exact kf_nil | (apply kf_in; focus rfl) | (apply kf_out; focus rfl))) (by repeat (first | exact kl_nil | exact kl_rest (by assumption) rfl | (apply kl_in; focus rfl) | (apply kl_out; focus rfl))) ?_ ?_ ?_ ?_)
            · omega
            · omega
            · exact ⟨rfl, trivial⟩
            · exact ⟨rfl, rfl, trivial⟩
          · try simp only [decide_eq_true_eq, decide_eq_false_iff_not, Bool.or_eq_true, Bool.or_eq_false_iff, Bool.and_eq_true, Bool.and_eq_false_iff, Bool.not_eq_true', Bool.not_eq_false', Bool.not_eq_true, Bool.not_eq_false, Bool.not_true, Bool.not_false, Int.not_lt, Int.not_le, not_or, not_and, Classical.not_not] at h42
            refine T_seq ?_
            refine T_region ?_
            refine S_ 48 rfl rfl rfl _ (y_bin rfl rfl rfl (fun _ => b_eql)) ?_
            refine S_ 47 rfl rfl rfl _ (y_assign rfl rfl) ?_
            refine S_go (fun _ _ h => h) ?_
            refine T_cond rfl (fun h47 => ?_) (fun h47 => ?_)
            · try simp only [decide_eq_true_eq, decide_eq_false_iff_not, Bool.or_eq_true, Bool.or_eq_false_iff, Bool.and_eq_true, Bool.and_eq_false_iff, Bool.not_eq_true', Bool.not_eq_false', Bool.not_eq_true, Bool.not_eq_false, Bool.not_true, Bool.not_false, Int.not_lt, Int.not_le, not_or, not_and, Classical.not_not] at h47
              refine T_region ?_
              refine S_ 49 rfl rfl rfl _ (y_loadA 9 rfl rfl rfl Tryz.underlying171 rfl sz171) ?_
              refine S_ 50 rfl rfl rfl _ (y_makeFunc rfl rfl rfl rfl rfl) ?_
              refine S_ 51 rfl rfl rfl _ (y_fieldAddr rfl rfl fa212_3) ?_
              refine S_store 10 rfl rfl rfl rfl rfl rfl sz210 rfl rfl ?_
              refine S_go (fun _ _ h => h) ?_
              refine T_seq ?_
              refine T_perm [0, 1, 2, 3, 4, 5, 6, 7, 8, 9, 10] [true, true, true, true, true, true, false, false, true, true, false] [0, 0, 2, 6, 14, 0, 32, 126, 255, 511, 1023] [(4, [21]), (5, [10])] (by kernel_rfl) (by kernel_rfl) (by kernel_rfl) rfl (by kernel_rfl) ?_
              refine Rf_ 0 52 rfl rfl rfl rfl rfl _ trivial (Y.z (y_move rfl rfl) rfl) ?_
              refine Rf_ 1 53 rfl rfl rfl rfl rfl _ trivial (Y.z (y_move rfl rfl) rfl) ?_
              refine Rf_ 2 54 rfl rfl rfl rfl rfl _ trivial (Z.of (z_nilCheck rfl rfl)) ?_
              refine Rf_ 3 55 rfl rfl rfl rfl rfl _ trivial (Y.z (y_fieldAddr rfl rfl fa207_0) rfl) ?_
              refine Rf_ 4 56 rfl rfl rfl rfl rfl _ ⟨rfl, trivial⟩ (Y.z (y_load 21 rfl rfl rfl rfl Tryz.underlying203 rfl) rfl) ?_
              refine Rf_ 5 57 rfl rfl rfl rfl rfl _ ⟨rfl, trivial⟩ (Y.z (y_loadA 10 rfl rfl rfl Tryz.underlying212 rfl sz212) rfl) ?_
              refine R_chain 6 rfl rfl ?_
              refine S_buildSlice 58 58 rfl rfl rfl rfl rfl Tryz.underlying203 inf212 rfl (by decide) (by decide) rfl rfl (by decide) rfl (_) rfl ?_
              intro b58
              refine R_next ⟨.inr ⟨rfl, trivial⟩, .inl rfl, trivial⟩ ?_
              refine R_chain 7 rfl rfl ?_
              obtain ⟨i59, hi59, hz59, hs59, hy59⟩ := info_parts inf212
              refine S_append 59 919 58 rfl rfl rfl rfl rfl rfl rfl rfl Tryz.underlying203 hi59 hz59 hs59 hy59 rfl (by decide) (by decide) rfl ?_ ?_ (_) (V ++ [str x.nm, str x.ky, .int .i64 x.ak, .int .i64 x.lm, .int .i64 x.wn, .int .i64 x.fr, .int .i64 x.rs, .int .i64 0, .int .i64 at_, .int .i64 0, .func (.func 142) #[.agg #[str x.nm, str x.ky, .int .i64 x.ak, .int .i64 x.lm, .int .i64 x.wn, .int .i64 x.fr, .int .i64 x.rs]] #[]]) rfl ?_ ?_
              · (simp only [maxLen]; omega)
              · omega
              · rfl
              intro A59 c59
              refine R_next ⟨.inl rfl, .inl rfl, trivial⟩ ?_
              refine Rf_ 8 60 rfl rfl rfl rfl rfl _ trivial (Z.of (z_nilCheck rfl rfl)) ?_
              refine Rf_ 9 61 rfl rfl rfl rfl rfl _ trivial (Y.z (y_fieldAddr rfl rfl fa207_0) rfl) ?_
              refine R_chain 10 rfl rfl ?_
              refine S_store 21 rfl rfl rfl rfl rfl rfl sz203 rfl rfl ?_
              refine R_next ⟨.inl rfl, .inl rfl, trivial⟩ ?_
              refine R_go (fun _ _ h => h) ?_
              refine T_drawsTail 10 (by kernel_rfl) (by kernel_rfl) ?_
              refine D_ 62 rfl rfl rfl _ (y_move rfl rfl) ?_
              refine D_ 63 rfl rfl rfl _ (y_move rfl rfl) ?_
              refine D_ 64 rfl rfl rfl _ (y_nilCheck rfl rfl) ?_
              refine D_ 65 rfl rfl rfl _ (y_fieldAddr rfl rfl fa207_4) ?_
              refine D_ 66 rfl rfl rfl _ (y_load 21 rfl rfl rfl rfl Tryz.underlying3 rfl) ?_
              refine D_ 67 rfl rfl rfl _ (y_fieldAddr rfl rfl fa171_4) ?_
              refine D_ 68 rfl rfl rfl _ (y_load 9 rfl rfl rfl rfl Tryz.underlying3 rfl) ?_
              refine D_ 69 rfl rfl rfl _ (y_max rfl rfl rfl) ?_
              refine D_ 70 rfl rfl rfl _ (y_nilCheck rfl rfl) ?_
              refine D_ 71 rfl rfl rfl _ (y_fieldAddr rfl rfl fa207_4) ?_
              refine D_tail ?_
              refine S_store 21 rfl rfl rfl rfl rfl rfl sz3 rfl rfl ?_
              refine S_go (fun _ _ h => h) ?_
              refine T_region ?_
              refine S_ 72 rfl rfl rfl _ (y_bin rfl rfl rfl (fun hg => b_add (by omega))) ?_
              refine S_ 24 rfl rfl rfl _ (y_move rfl rfl) ?_
              refine S_nil (nextK5 (kf := [(9, 10), (24, 72)]) (kl := [(9, 10), (21, 21), (24, 72), (919, 919)]) (i + 1) A59 c59 (V ++ [str x.nm, str x.ky, .int .i64 x.ak, .int .i64 x.lm, .int .i64 x.wn, .int .i64 x.fr, .int .i64 x.rs, .int .i64 0, .int .i64 at_, .int .i64 0, .func (.func 142) #[.agg #[str x.nm, str x.ky, .int .i64 x.ak, .int .i64 x.lm, .int .i64 x.wn, .int .i64 x.fr, .int .i64 x.rs]] #[]]) (if m < x.wn then x.wn else m) (by repeat (first | exact kf_nil | (apply kf_in; focus rfl) | (apply kf_out; focus rfl))) (by repeat (first | exact kl_nil | exact kl_rest (by assumption) rfl | (apply kl_in; focus rfl) | (apply kl_out; focus rfl))) ?_ ?_ ?_ ?_)
              · omega
              · omega
              · exact ⟨rfl, trivial⟩
              · exact ⟨rfl, rfl, trivial⟩
            · try simp only [decide_eq_true_eq, decide_eq_false_iff_not, Bool.or_eq_true, Bool.or_eq_false_iff, Bool.and_eq_true, Bool.and_eq_false_iff, Bool.not_eq_true', Bool.not_eq_false', Bool.not_eq_true, Bool.not_eq_false, Bool.not_true, Bool.not_false, Int.not_lt, Int.not_le, not_or, not_and, Classical.not_not] at h47
              refine T_region ?_
              refine S_ 34 rfl rfl rfl _ (y_loadA 9 rfl rfl rfl Tryz.underlying171 rfl sz171) ?_
              refine S_ 35 rfl rfl rfl _ (y_makeFunc rfl rfl rfl rfl rfl) ?_
              refine S_ 36 rfl rfl rfl _ (y_fieldAddr rfl rfl fa212_3) ?_
              refine S_store 10 rfl rfl rfl rfl rfl rfl sz210 rfl rfl ?_
              refine S_go (fun _ _ h => h) ?_
              refine T_seq ?_
              refine T_perm [0, 1, 2, 3, 4, 5, 6, 7, 8, 9, 10] [true, true, true, true, true, true, false, false, true, true, false] [0, 0, 2, 6, 14, 0, 32, 126, 255, 511, 1023] [(4, [21]), (5, [10])] (by kernel_rfl) (by kernel_rfl) (by kernel_rfl) rfl (by kernel_rfl) ?_
              refine Rf_ 0 52 rfl rfl rfl rfl rfl _ trivial (Y.z (y_move rfl rfl) rfl) ?_
              refine Rf_ 1 53 rfl rfl rfl rfl rfl _ trivial (Y.z (y_move rfl rfl) rfl) ?_
              refine Rf_ 2 54 rfl rfl rfl rfl rfl _ trivial (Z.of (z_nilCheck rfl rfl)) ?_
              refine Rf_ 3 55 rfl rfl rfl rfl rfl _ trivial (Y.z (y_fieldAddr rfl rfl fa207_0) rfl) ?_
              refine Rf_ 4 56 rfl rfl rfl rfl rfl _ ⟨rfl, trivial⟩ (Y.z (y_load 21 rfl rfl rfl rfl Tryz.underlying203 rfl) rfl) ?_
              refine Rf_ 5 57 rfl rfl rfl rfl rfl _ ⟨rfl, trivial⟩ (Y.z (y_loadA 10 rfl rfl rfl Tryz.underlying212 rfl sz212) rfl) ?_
              refine R_chain 6 rfl rfl ?_
              refine S_buildSlice 58 58 rfl rfl rfl rfl rfl Tryz.underlying203 inf212 rfl (by decide) (by decide) rfl rfl (by decide) rfl (_) rfl ?_
              intro b58
              refine R_next ⟨.inr ⟨rfl, trivial⟩, .inl rfl, trivial⟩ ?_
              refine R_chain 7 rfl rfl ?_
              obtain ⟨i59, hi59, hz59, hs59, hy59⟩ := info_parts inf212
              refine S_append 59 919 58 rfl rfl rfl rfl rfl rfl rfl rfl Tryz.underlying203 hi59 hz59 hs59 hy59 rfl (by decide) (by decide) rfl ?_ ?_ (_) (V ++ [str x.nm, str x.ky, .int .i64 x.ak, .int .i64 x.lm, .int .i64 x.wn, .int .i64 x.fr, .int .i64 x.rs, .int .i64 0, .int .i64 at_, .int .i64 0, .func (.func 143) #[.agg #[str x.nm, str x.ky, .int .i64 x.ak, .int .i64 x.lm, .int .i64 x.wn, .int .i64 x.fr, .int .i64 x.rs]] #[]]) rfl ?_ ?_
              · (simp only [maxLen]; omega)
              · omega
              · rfl
              intro A59 c59
              refine R_next ⟨.inl rfl, .inl rfl, trivial⟩ ?_
              refine Rf_ 8 60 rfl rfl rfl rfl rfl _ trivial (Z.of (z_nilCheck rfl rfl)) ?_
              refine Rf_ 9 61 rfl rfl rfl rfl rfl _ trivial (Y.z (y_fieldAddr rfl rfl fa207_0) rfl) ?_
              refine R_chain 10 rfl rfl ?_
              refine S_store 21 rfl rfl rfl rfl rfl rfl sz203 rfl rfl ?_
              refine R_next ⟨.inl rfl, .inl rfl, trivial⟩ ?_
              refine R_go (fun _ _ h => h) ?_
              refine T_drawsTail 10 (by kernel_rfl) (by kernel_rfl) ?_
              refine D_ 62 rfl rfl rfl _ (y_move rfl rfl) ?_
              refine D_ 63 rfl rfl rfl _ (y_move rfl rfl) ?_
              refine D_ 64 rfl rfl rfl _ (y_nilCheck rfl rfl) ?_
              refine D_ 65 rfl rfl rfl _ (y_fieldAddr rfl rfl fa207_4) ?_
              refine D_ 66 rfl rfl rfl _ (y_load 21 rfl rfl rfl rfl Tryz.underlying3 rfl) ?_
              refine D_ 67 rfl rfl rfl _ (y_fieldAddr rfl rfl fa171_4) ?_
              refine D_ 68 rfl rfl rfl _ (y_load 9 rfl rfl rfl rfl Tryz.underlying3 rfl) ?_
              refine D_ 69 rfl rfl rfl _ (y_max rfl rfl rfl) ?_
              refine D_ 70 rfl rfl rfl _ (y_nilCheck rfl rfl) ?_
              refine D_ 71 rfl rfl rfl _ (y_fieldAddr rfl rfl fa207_4) ?_
              refine D_tail ?_
              refine S_store 21 rfl rfl rfl rfl rfl rfl sz3 rfl rfl ?_
              refine S_go (fun _ _ h => h) ?_
              refine T_region ?_
              refine S_ 72 rfl rfl rfl _ (y_bin rfl rfl rfl (fun hg => b_add (by omega))) ?_
              refine S_ 24 rfl rfl rfl _ (y_move rfl rfl) ?_
              refine S_nil (nextK5 (kf := [(9, 10), (24, 72)]) (kl := [(9, 10), (21, 21), (24, 72), (919, 919)]) (i + 1) A59 c59 (V ++ [str x.nm, str x.ky, .int .i64 x.ak, .int .i64 x.lm, .int .i64 x.wn, .int .i64 x.fr, .int .i64 x.rs, .int .i64 0, .int .i64 at_, .int .i64 0, .func (.func 143) #[.agg #[str x.nm, str x.ky, .int .i64 x.ak, .int .i64 x.lm, .int .i64 x.wn, .int .i64 x.fr, .int .i64 x.rs]] #[]]) (if m < x.wn then x.wn else m) (by repeat (first | exact kf_nil | (apply kf_in; focus rfl) | (apply kf_out; focus rfl))) (by repeat (first | exact kl_nil | exact kl_rest (by assumption) rfl | (apply kl_in; focus rfl) | (apply kl_out; focus rfl))) ?_ ?_ ?_ ?_)
              · omega
              · omega
              · exact ⟨rfl, trivial⟩
              · exact ⟨rfl, rfl, trivial⟩
      · try simp only [decide_eq_true_eq, decide_eq_false_iff_not, Bool.or_eq_true, Bool.or_eq_false_iff, Bool.and_eq_true, Bool.and_eq_false_iff, Bool.not_eq_true', Bool.not_eq_false', Bool.not_eq_true, Bool.not_eq_false, Bool.not_true, Bool.not_false, Int.not_lt, Int.not_le, not_or, not_and, Classical.not_not] at h25
        refine T_exit_go (fun _ _ h => h) ?_
        refine T_seq ?_
        refine T_region ?_
        refine S_ 73 rfl rfl rfl _ (y_move rfl rfl) ?_
        refine S_ 4 rfl rfl rfl _ (y_assign rfl rfl) ?_
        refine S_ 5 rfl rfl rfl _ (y_assign rfl rfl) ?_
        refine S_go (fun _ _ h => h) ?_
        refine T_ret (fun a w hF hM => hRb a w (post2 rfl rfl rfl (fun w hM => ?_) a w hF hM))
        exact ⟨some ⟨b21, 0, none⟩, by rw [h14], hM.below⟩
theorem NewBox_any (m wt ag tr : Int) (w : World) :
    Calls Tryz.prog 71 #[.agg #[.int .i64 m, .int .i64 wt, .int .i64 ag, .int .i64 tr]] w fun e w' => ∃ b : Option Addr, e = .returned (.tuple #[.pointer b, .int .i64 (planNo m wt ag tr)]) ∧ Below w.heap.size w w' := by
  refine enter_args (args := [.agg #[.int .i64 m, .int .i64 wt, .int .i64 ag, .int .i64 tr]]) (F := _) Tryz.func71 rfl Tryz.ntmps71 rfl rfl ?_
  intro Rb hRb hRn
  refine T_seq ?_
  refine T_region ?_
  refine S_box 1 1 rfl rfl rfl rfl rfl ?_
  intro b1
  refine S_ 2 rfl rfl rfl _ (y_assign rfl rfl) ?_
  refine S_ 3 rfl rfl rfl _ (y_assign rfl rfl) ?_
  refine S_go (fun _ _ h => h) ?_
  refine T_seq ?_
  refine T_seq ?_
  refine T_region ?_
  refine S_ 5 rfl rfl rfl _ (y_loadA 1 rfl rfl rfl Tryz.underlying49 rfl sz49) ?_
  refine S_ 6 rfl rfl rfl _ (y_call rfl rfl rfl cf63 (fun _ w1 _ => CkPlan_any m wt ag tr w1)) ?_
  refine S_ 4 rfl rfl rfl _ (y_assign rfl rfl) ?_
  refine S_go (fun _ _ h => h) ?_
  refine T_seq ?_
  refine T_region ?_
  refine S_ 7 rfl rfl rfl _ (y_move rfl rfl) ?_
  refine S_ 8 rfl rfl rfl _ (y_bin rfl rfl rfl (fun _ => b_neq)) ?_
  refine S_go (fun _ _ h => h) ?_
  refine T_cond rfl (fun h8 => ?_) (fun h8 => ?_)
  · skip
    have h8 : ¬ planNo m wt ag tr = 0 := by simpa using h8
    refine T_seq ?_
    refine T_region ?_
    refine S_ 9 rfl rfl rfl _ (y_move rfl rfl) ?_
    refine S_ 2 rfl rfl rfl _ (y_assign rfl rfl) ?_
    refine S_ 3 rfl rfl rfl _ (y_assign rfl rfl) ?_
    refine S_go (fun _ _ h => h) ?_
    refine T_ret (fun a w hF hM => hRb a w (post2 rfl rfl rfl (fun w hM => ?_) a w hF hM))
    exact ⟨none, rfl, hM.below⟩
  · skip
    have h8 : planNo m wt ag tr = 0 := by simpa using h8
    refine T_skip_go (fun _ _ h => h) ?_
    refine T_seq ?_
    refine T_region ?_
    refine S_ 10 rfl rfl rfl _ (y_loadA 1 rfl rfl rfl Tryz.underlying49 rfl sz49) ?_
    refine S_makeMap 11 11 (fun n : Int => Value.int .i64 n) rfl rfl rfl rfl ?_
    intro b11
    refine S_ 12 rfl rfl rfl _ (y_build (zv := .agg #[.int .i64 0, .int .i64 0, .int .i64 0, .int .i64 0, .map none, .int .i64 0, .slice none 0 0, .int .i64 0, .int .i64 0, .int .i64 0]) (pl := [(0, 4), (4, 1), (5, 1), (6, 1), (7, 1), (8, 1), (9, 1)]) (out := [_, _, _, _, _, .int .i64 0, .slice none 0 0, .int .i64 0, .int .i64 0, .int .i64 0]) rfl rfl Tryz.underlying216 z216 (by kernel_rfl) rfl) ?_
    refine S_box 13 13 rfl rfl rfl rfl rfl ?_
    intro b13
    refine S_ 2 rfl rfl rfl _ (y_assign rfl rfl) ?_
    refine S_ 3 rfl rfl rfl _ (y_assign rfl rfl) ?_
    refine S_go (fun _ _ h => h) ?_
    refine T_ret (fun a w hF hM => hRb a w (post2 rfl rfl rfl (fun w hM => ?_) a w hF hM))
    exact ⟨some ⟨b13, 0, none⟩, by rw [h8], hM.below⟩
theorem NewIndex_any (w : World) : Calls Tryz.prog 69 #[] w fun e w' => ∃ b : Option Addr, e = .returned (.pointer b) ∧ Below w.heap.size w w' := by
  refine enter_args (args := []) (F := _) Tryz.func69 rfl Tryz.ntmps69 rfl rfl ?_
  intro Rb hRb hRn
  refine T_seq ?_
  refine T_region ?_
  refine S_ 0 rfl rfl rfl _ (y_assign rfl rfl) ?_
  refine S_go (fun _ _ h => h) ?_
  refine T_seq ?_
  refine T_region ?_
  refine S_makeMap 1 1 (fun l : List UInt8 => str l) rfl rfl rfl rfl ?_
  intro b1
  refine S_ 2 rfl rfl rfl _ (y_build (zv := .agg #[.map none]) (pl := [(0, 1)]) (out := [_]) rfl rfl Tryz.underlying202 z202 (by kernel_rfl) rfl) ?_
  refine S_box 3 3 rfl rfl rfl rfl rfl ?_
  intro b3
  refine S_ 0 rfl rfl rfl _ (y_assign rfl rfl) ?_
  refine S_go (fun _ _ h => h) ?_
  refine T_ret (fun a w hF hM => hRb a w (post1 rfl rfl (fun w hM => ?_) a w hF hM))
  exact ⟨some ⟨b3, 0, none⟩, rfl, hM.below⟩
abbrev bkI (b m : Nat) : It := .blk b (IsBox [.map (some m), .int .i64 0, .slice none 0 0] 199)
abbrev mpI (b : Nat) : It := .blk b (IsMap (fun l : List UInt8 => str l) [])
theorem NewBook_any {w0 : World} {K : HL} (hK : FromK K) (w : World) (hM0 : Mem w0 ([] ++ K) w) :
    Calls Tryz.prog 68 #[] w fun e w' => ∃ z : Nat × Nat, e = .returned (.pointer (some ⟨z.1, 0, none⟩)) ∧ True ∧ Mem w0 ([(3, bkI z.1 z.2), (1, mpI z.2)] ++ K) w' := by
  refine enterM_args (args := []) (F := _) hM0 Tryz.func68 rfl Tryz.ntmps68 rfl rfl ?_
  intro Rb hRb hRn
  refine T_seq ?_
  refine T_region ?_
  refine S_ 0 rfl rfl rfl _ (y_assign rfl rfl) ?_
  refine S_go (fun _ _ h => h) ?_
  refine T_seq ?_
  refine T_region ?_
  refine S_makeMap 1 1 (fun l : List UInt8 => str l) rfl rfl rfl rfl ?_
  intro b1
  refine S_ 2 rfl rfl rfl _ (y_build (zv := .agg #[.map none, .int .i64 0, .slice none 0 0]) (pl := [(0, 1), (1, 1), (2, 1)]) (out := [_, .int .i64 0, .slice none 0 0]) rfl rfl Tryz.underlying199 z199 (by kernel_rfl) rfl) ?_
  refine S_box 3 3 rfl rfl rfl rfl rfl ?_
  intro b3
  refine S_ 0 rfl rfl rfl _ (y_assign rfl rfl) ?_
  refine S_go (fun _ _ h => h) ?_
  refine T_ret (fun a w hF hM => hRb a w (post1 rfl rfl (fun w hM => ?_) a w hF hM))
  exact ⟨(b3, b1), rfl, trivial, hM.keep (ks := [(0, 999)]) (by repeat (first | exact kl_rest (by assumption) rfl | (apply kl_in; focus rfl))) _ ⟨rfl, rfl, trivial⟩⟩
structure HoR where
  f : Nat → Value
  h : Nat
  b : Nat
  m : Nat
  r : Nat
  g : Option Addr
  x : Option Addr
  t : Option Addr
  o : Option Addr
  p : Value
  s : Value
def hoCells (z : HoR) (at_ : Int) : List Value := [z.f 0, z.f 1, z.f 2, z.f 3, z.f 4, z.f 5, z.f 6, z.f 7, z.f 8, z.f 9, z.f 10, .int .i64 at_, .pointer z.g, .pointer (some ⟨z.b, 0, none⟩), .pointer z.x, .pointer z.t, .pointer z.o, z.p, z.s, .map (some z.r)]
def HoR.L (z : HoR) (at_ : Int) : HL := [(25, .blk z.h (IsBox (hoCells z at_) 107)), (902, bkI z.b z.m), (903, mpI z.m), (23, mpI z.r)]
def newNo (s : SSt) (at_ : Int) : Int := fst (setupNo s) (if outI at_ 0 3155759999 = true then 2 else 0)
theorem NewF_any (s : SSt) (at_ : Int) (w : World) (hs : StOk w s) (h0 : newNo s at_ ≠ 0) :
    Calls Tryz.prog 23 #[s.val, .int .i64 at_] w fun e w' => e = .returned (.tuple #[.pointer none, .int .i64 (newNo s at_)]) ∧ Below w.heap.size w w' := by
  by_cases h1 : setupNo s = 0
  · have h2 : outI at_ 0 3155759999 = true := by
      cases h : outI at_ 0 3155759999 with
      | true => rfl
      | false => rw [newNo, fst_f h1, h] at h0; exact absurd rfl h0
    have e0 : newNo s at_ = 2 := by rw [newNo, fst_f h1, if_pos h2]
    refine enter_args (args := [.agg #[.slice s.cl.A s.cl.q s.cl.c, .slice s.gr.A s.gr.q s.gr.c, .slice s.qt.A s.qt.q s.qt.c, .slice s.rt.A s.rt.q s.rt.c, .slice s.al.A s.al.q s.al.c, .int .i64 s.m, .int .i64 s.wt, .int .i64 s.ag, .int .i64 s.tr, .slice s.ow.A s.ow.q s.ow.c, .int .i64 s.ds], .int .i64 at_]) (F := _) Tryz.func23 rfl Tryz.ntmps23 rfl rfl ?_
    intro Rb hRb hRn
    refine T_seq ?_
    refine T_region ?_
    refine S_box 2 2 rfl rfl rfl rfl rfl ?_
    intro b2
    refine S_ 4 rfl rfl rfl _ (y_assign rfl rfl) ?_
    refine S_ 5 rfl rfl rfl _ (y_assign rfl rfl) ?_
    refine S_go (fun _ _ h => h) ?_
    refine T_seq ?_
    refine T_seq ?_
    refine T_region ?_
    refine S_ 8 rfl rfl rfl _ (y_loadA 2 rfl rfl rfl Tryz.underlying52 rfl sz52) ?_
    refine S_ 9 rfl rfl rfl _ (y_call rfl rfl rfl cf21 (fun _ w1 hM => dkCheck_any s w1 (hs.below hM.below))) ?_
    refine S_ 6 rfl rfl rfl _ (y_assign rfl rfl) ?_
    refine S_go (fun _ _ h => h) ?_
    refine T_seq ?_
    refine T_region ?_
    refine S_ 10 rfl rfl rfl _ (y_move rfl rfl) ?_
    refine S_ 11 rfl rfl rfl _ (y_bin rfl rfl rfl (fun _ => b_neq)) ?_
    refine S_go (fun _ _ h => h) ?_
    refine T_cond rfl (fun h11 => ?_) (fun h11 => ?_)
    · skip
      rw [h1] at h11; cases h11
    · skip
      refine T_skip_go (fun _ _ h => h) ?_
      refine T_seq ?_
      refine T_seq ?_
      refine T_region ?_
      refine S_ 13 rfl rfl rfl _ (y_move rfl rfl) ?_
      refine S_ 14 rfl rfl rfl _ (y_call rfl rfl rfl cf66 (fun _ w1 _ => dkmom_any _ w1)) ?_
      refine S_ 15 rfl rfl rfl _ (y_not rfl rfl) ?_
      refine S_go (fun _ _ h => h) ?_
      refine T_cond rfl (fun h15 => ?_) (fun h15 => ?_)
      · skip
        refine T_seq ?_
        refine T_region ?_
        refine S_ 4 rfl rfl rfl _ (y_assign rfl rfl) ?_
        refine S_ 5 rfl rfl rfl _ (y_assign rfl rfl) ?_
        refine S_go (fun _ _ h => h) ?_
        refine T_ret (fun a w hF hM => hRb a w (post2 rfl rfl rfl (fun w hM => ?_) a w hF hM))
        exact ⟨by rw [e0], hM.below⟩
      · skip
        rw [h2] at h15; cases h15
  · have e0 : newNo s at_ = setupNo s := fst_t h1
    refine enter_args (args := [.agg #[.slice s.cl.A s.cl.q s.cl.c, .slice s.gr.A s.gr.q s.gr.c, .slice s.qt.A s.qt.q s.qt.c, .slice s.rt.A s.rt.q s.rt.c, .slice s.al.A s.al.q s.al.c, .int .i64 s.m, .int .i64 s.wt, .int .i64 s.ag, .int .i64 s.tr, .slice s.ow.A s.ow.q s.ow.c, .int .i64 s.ds], .int .i64 at_]) (F := _) Tryz.func23 rfl Tryz.ntmps23 rfl rfl ?_
    intro Rb hRb hRn
    refine T_seq ?_
    refine T_region ?_
    refine S_box 2 2 rfl rfl rfl rfl rfl ?_
    intro b2
    refine S_ 4 rfl rfl rfl _ (y_assign rfl rfl) ?_
    refine S_ 5 rfl rfl rfl _ (y_assign rfl rfl) ?_
    refine S_go (fun _ _ h => h) ?_
    refine T_seq ?_
    refine T_seq ?_
    refine T_region ?_
    refine S_ 8 rfl rfl rfl _ (y_loadA 2 rfl rfl rfl Tryz.underlying52 rfl sz52) ?_
    refine S_ 9 rfl rfl rfl _ (y_call rfl rfl rfl cf21 (fun _ w1 hM => dkCheck_any s w1 (hs.below hM.below))) ?_
    refine S_ 6 rfl rfl rfl _ (y_assign rfl rfl) ?_
    refine S_go (fun _ _ h => h) ?_
    refine T_seq ?_
    refine T_region ?_
    refine S_ 10 rfl rfl rfl _ (y_move rfl rfl) ?_
    refine S_ 11 rfl rfl rfl _ (y_bin rfl rfl rfl (fun _ => b_neq)) ?_
    refine S_go (fun _ _ h => h) ?_
    refine T_cond rfl (fun h11 => ?_) (fun h11 => ?_)
    · skip
      refine T_seq ?_
      refine T_region ?_
      refine S_ 12 rfl rfl rfl _ (y_move rfl rfl) ?_
      refine S_ 4 rfl rfl rfl _ (y_assign rfl rfl) ?_
      refine S_ 5 rfl rfl rfl _ (y_assign rfl rfl) ?_
      refine S_go (fun _ _ h => h) ?_
      refine T_ret (fun a w hF hM => hRb a w (post2 rfl rfl rfl (fun w hM => ?_) a w hF hM))
      exact ⟨by rw [e0], hM.below⟩
    · skip
      exact absurd (by simpa using h11) h1
set_option maxHeartbeats 1600000 in
theorem New_any {w0 : World} {K : HL} (hK : FromK K) (s : SSt) (at_ : Int) (w : World) (hs : StOk w0 s) (h0 : newNo s at_ = 0) (hM0 : Mem w0 ([] ++ K) w) :
    Calls Tryz.prog 23 #[s.val, .int .i64 at_] w fun e w' => ∃ z : HoR, e = .returned (.tuple #[.pointer (some ⟨z.h, 0, none⟩), .int .i64 0]) ∧ True ∧ Mem w0 (z.L at_ ++ K) w' := by
  obtain ⟨h1, h2⟩ := fst_0D h0
  have h2 : outI at_ 0 3155759999 = false := by
    cases h : outI at_ 0 3155759999 with
    | false => rfl
    | true => rw [h] at h2; cases h2
  obtain ⟨p1, p2, p3, p4, p5, p6⟩ := setup_parts h1
  refine enterM_args (args := [.agg #[.slice s.cl.A s.cl.q s.cl.c, .slice s.gr.A s.gr.q s.gr.c, .slice s.qt.A s.qt.q s.qt.c, .slice s.rt.A s.rt.q s.rt.c, .slice s.al.A s.al.q s.al.c, .int .i64 s.m, .int .i64 s.wt, .int .i64 s.ag, .int .i64 s.tr, .slice s.ow.A s.ow.q s.ow.c, .int .i64 s.ds], .int .i64 at_]) (F := _) hM0 Tryz.func23 rfl Tryz.ntmps23 rfl rfl ?_
  intro Rb hRb hRn
  refine T_seq ?_
  refine T_region ?_
  refine S_box 2 2 rfl rfl rfl rfl rfl ?_
  intro b2
  refine S_ 4 rfl rfl rfl _ (y_assign rfl rfl) ?_
  refine S_ 5 rfl rfl rfl _ (y_assign rfl rfl) ?_
  refine S_go (fun _ _ h => h) ?_
  refine T_seq ?_
  refine T_seq ?_
  refine T_region ?_
  refine S_ 8 rfl rfl rfl _ (y_loadA 2 rfl rfl rfl Tryz.underlying52 rfl sz52) ?_
  refine S_ 9 rfl rfl rfl _ (y_call rfl rfl rfl cf21 (fun _ w1 hM => dkCheck_any s w1 (hs.below hM.below))) ?_
  refine S_ 6 rfl rfl rfl _ (y_assign rfl rfl) ?_
  refine S_go (fun _ _ h => h) ?_
  refine T_seq ?_
  refine T_region ?_
  refine S_ 10 rfl rfl rfl _ (y_move rfl rfl) ?_
  refine S_ 11 rfl rfl rfl _ (y_bin rfl rfl rfl (fun _ => b_neq)) ?_
  refine S_go (fun _ _ h => h) ?_
  refine T_cond rfl (fun h11 => ?_) (fun h11 => ?_)
  · skip
    rw [h1] at h11; cases h11
  · skip
    refine T_skip_go (fun _ _ h => h) ?_
    refine T_seq ?_
    refine T_seq ?_
    refine T_region ?_
    refine S_ 13 rfl rfl rfl _ (y_move rfl rfl) ?_
    refine S_ 14 rfl rfl rfl _ (y_call rfl rfl rfl cf66 (fun _ w1 _ => dkmom_any _ w1)) ?_
    refine S_ 15 rfl rfl rfl _ (y_not rfl rfl) ?_
    refine S_go (fun _ _ h => h) ?_
    refine T_cond rfl (fun h15 => ?_) (fun h15 => ?_)
    · skip
      rw [h2] at h15; cases h15
    · skip
      refine T_skip_go (fun _ _ h => h) ?_
      refine T_seq ?_
      refine T_region ?_
      refine S_ 16 rfl rfl rfl _ (y_loadA 2 rfl rfl rfl Tryz.underlying52 rfl sz52) ?_
      refine S_call 17 (X := (Nat → Value)) rfl rfl rfl rfl rfl rfl rfl cf67 (fun f => .agg #[f 0, f 1, f 2, f 3, f 4, f 5, f 6, f 7, f 8, f 9, f 10]) (fun _ => True) (fun _ => _) (fun w1 hM => (copied_any s w1 (hs.below hM.below) h1).mono fun e w2 ⟨n, h1, h3⟩ => ⟨n, h1, trivial, hM.call h3⟩) ?_
      intro x17 hx17
      refine S_ 18 rfl rfl rfl _ (y_move rfl rfl) ?_
      refine S_callN 19 [] [(3, 902), (1, 903)] (X := (Nat × Nat)) rfl rfl rfl rfl rfl rfl rfl cf68 rfl (fun z => .pointer (some ⟨z.1, 0, none⟩)) (fun _ => True) (fun z => [(3, bkI z.1 z.2), (1, mpI z.2)]) (fun _ => rfl) (fun _ => rfl) (fun K1 hK1 w1 hM => NewBook_any hK1 w1 hM) ?_
      intro x19 hx19
      refine S_call 20 (X := (Option Addr)) rfl rfl rfl rfl rfl rfl rfl cf69 (fun b => .pointer b) (fun _ => True) (fun _ => _) (fun w1 hM => (NewIndex_any w1).mono fun e w2 ⟨n, h1, h3⟩ => ⟨n, h1, trivial, hM.call h3⟩) ?_
      intro x20 hx20
      refine S_makeMap 21 21 (fun l : List UInt8 => str l) rfl rfl rfl rfl ?_
      intro b21
      refine S_makeMap 22 22 (fun n : Int => Value.int .i64 n) rfl rfl rfl rfl ?_
      intro b22
      refine S_makeMap 23 23 (fun l : List UInt8 => str l) rfl rfl rfl rfl ?_
      intro b23
      refine S_ 24 rfl rfl rfl _ (y_build (zv := .agg #[.slice none 0 0, .slice none 0 0, .slice none 0 0, .slice none 0 0, .slice none 0 0, .int .i64 0, .int .i64 0, .int .i64 0, .int .i64 0, .slice none 0 0, .int .i64 0, .int .i64 0, .pointer none, .pointer none, .pointer none, .pointer none, .pointer none, .map none, .map none, .map none]) (pl := [(0, 11), (11, 1), (12, 1), (13, 1), (14, 1), (15, 1), (16, 1), (17, 1), (18, 1), (19, 1)]) (out := [_, _, _, _, _, _, _, _, _, _, _, _, .pointer none, _, _, .pointer none, .pointer none, _, _, _]) rfl rfl Tryz.underlying107 z107 (by kernel_rfl) rfl) ?_
      refine S_box 25 25 rfl rfl rfl rfl rfl ?_
      intro b25
      refine S_ 7 rfl rfl rfl _ (y_assign rfl rfl) ?_
      refine S_go (fun _ _ h => h) ?_
      refine T_seq ?_
      refine T_region ?_
      refine S_ 27 rfl rfl rfl _ (y_move rfl rfl) ?_
      refine S_ 28 rfl rfl rfl _ (y_fieldAddr rfl rfl fa52_2) ?_
      refine S_ 29 rfl rfl rfl _ (y_load 2 rfl rfl rfl rfl Tryz.underlying45 rfl) ?_
      refine S_ 30 rfl rfl rfl _ (y_fieldAddr rfl rfl fa52_3) ?_
      refine S_ 31 rfl rfl rfl _ (y_load 2 rfl rfl rfl rfl Tryz.underlying46 rfl) ?_
      refine S_ 32 rfl rfl rfl _ (y_move rfl rfl) ?_
      refine S_call 33 (X := (Option Addr)) rfl rfl rfl rfl rfl rfl rfl cf61 (fun b => .tuple #[.pointer b, .int .i64 (fst (quotasNo s.qt) (ratesNo s.rt))]) (fun _ => True) (fun _ => _) (fun w1 hM => (NewGate_any s.qt s.rt at_ w1 (hs.qt.below hM.below) (hs.rt.below hM.below) h2).mono fun e w2 ⟨n, h1, h3⟩ => ⟨n, h1, trivial, hM.call h3⟩) ?_
      intro x33 hx33
      refine S_ 26 rfl rfl rfl _ (y_move rfl rfl) ?_
      refine S_ 34 rfl rfl rfl _ (y_extract rfl rfl rfl) ?_
      refine S_ 35 rfl rfl rfl _ (y_extract rfl rfl rfl) ?_
      refine S_ 36 rfl rfl rfl _ (y_nilCheck rfl rfl) ?_
      refine S_ 37 rfl rfl rfl _ (y_fieldAddr rfl rfl fa107_2) ?_
      refine S_store 25 rfl rfl rfl rfl rfl rfl sz91 rfl rfl ?_
      refine S_go (fun _ _ h => h) ?_
      refine T_seq ?_
      refine T_region ?_
      refine S_ 39 rfl rfl rfl _ (y_move rfl rfl) ?_
      refine S_ 40 rfl rfl rfl _ (y_fieldAddr rfl rfl fa52_4) ?_
      refine S_ 41 rfl rfl rfl _ (y_load 2 rfl rfl rfl rfl Tryz.underlying47 rfl) ?_
      refine S_ 42 rfl rfl rfl _ (y_move rfl rfl) ?_
      refine S_call 43 (X := (Option Addr)) rfl rfl rfl rfl rfl rfl rfl cf70 (fun b => .tuple #[.pointer b, .int .i64 (alertsNo s.al)]) (fun _ => True) (fun _ => _) (fun w1 hM => (NewWatch_any s.al at_ w1 (hs.al.below hM.below) h2).mono fun e w2 ⟨n, h1, h3⟩ => ⟨n, h1, trivial, hM.call h3⟩) ?_
      intro x43 hx43
      refine S_ 38 rfl rfl rfl _ (y_move rfl rfl) ?_
      refine S_ 44 rfl rfl rfl _ (y_extract rfl rfl rfl) ?_
      refine S_ 45 rfl rfl rfl _ (y_extract rfl rfl rfl) ?_
      refine S_ 46 rfl rfl rfl _ (y_nilCheck rfl rfl) ?_
      refine S_ 47 rfl rfl rfl _ (y_fieldAddr rfl rfl fa107_5) ?_
      refine S_store 25 rfl rfl rfl rfl rfl rfl sz104 rfl rfl ?_
      refine S_go (fun _ _ h => h) ?_
      refine T_seq ?_
      refine T_region ?_
      refine S_ 49 rfl rfl rfl _ (y_move rfl rfl) ?_
      refine S_ 50 rfl rfl rfl _ (y_fieldAddr rfl rfl fa52_5) ?_
      refine S_ 51 rfl rfl rfl _ (y_loadSub 2 5 4 (ds := [.int .i64 s.m, .int .i64 s.wt, .int .i64 s.ag, .int .i64 s.tr]) rfl rfl rfl rfl Tryz.underlying49 rfl sz49) ?_
      refine S_call 52 (X := (Option Addr)) rfl rfl rfl rfl rfl rfl rfl cf71 (fun b => .tuple #[.pointer b, .int .i64 (planNo s.m s.wt s.ag s.tr)]) (fun _ => True) (fun _ => _) (fun w1 hM => (NewBox_any s.m s.wt s.ag s.tr w1).mono fun e w2 ⟨n, h1, h3⟩ => ⟨n, h1, trivial, hM.call h3⟩) ?_
      intro x52 hx52
      refine S_ 48 rfl rfl rfl _ (y_move rfl rfl) ?_
      refine S_ 53 rfl rfl rfl _ (y_extract rfl rfl rfl) ?_
      refine S_ 54 rfl rfl rfl _ (y_extract rfl rfl rfl) ?_
      refine S_ 55 rfl rfl rfl _ (y_nilCheck rfl rfl) ?_
      refine S_ 56 rfl rfl rfl _ (y_fieldAddr rfl rfl fa107_6) ?_
      refine S_store 25 rfl rfl rfl rfl rfl rfl sz105 rfl rfl ?_
      refine S_go (fun _ _ h => h) ?_
      refine T_seq ?_
      refine T_region ?_
      refine S_ 57 rfl rfl rfl _ (y_move rfl rfl) ?_
      refine S_ 4 rfl rfl rfl _ (y_assign rfl rfl) ?_
      refine S_ 5 rfl rfl rfl _ (y_assign rfl rfl) ?_
      refine S_go (fun _ _ h => h) ?_
      refine T_ret (fun a w hF hM => hRb a w (post2 rfl rfl rfl (fun w hM => ?_) a w hF hM))
      exact ⟨⟨x17, b25, x19.1, x19.2, b23, x33, x20, x43, x52, .map (some b21), .map (some b22)⟩, rfl, trivial, hM.keep (ks := [(0, 999)]) (by repeat (first | exact kl_rest (by assumption) rfl | (apply kl_in; focus rfl))) _ ⟨rfl, rfl, rfl, rfl, trivial⟩⟩
/-! ### Sorts of nothing -/
theorem lenE_any (w : World) : Calls Tryz.prog 195 #[.int .u64 0] w fun e w' => e = .returned (.int .i64 0) ∧ Below w.heap.size w w' := by
  refine enter_args (args := [.int .u64 0]) (F := _) Tryz.func195 rfl Tryz.ntmps195 rfl rfl ?_
  intro Rb hRb hRn
  refine T_seq ?_
  refine T_region ?_
  refine S_ 2 rfl rfl rfl _ (y_assign rfl rfl) ?_
  refine S_go (fun _ _ h => h) ?_
  refine T_seq ?_
  refine T_cond rfl (fun hNone => ?_) (fun hNone => ?_)
  · skip
    cases hNone
  · skip
    refine T_skip_go (fun _ _ h => h) ?_
    refine T_seq ?_
    refine T_region ?_
    refine S_ 6 rfl rfl rfl _ (y_move rfl rfl) ?_
    refine S_ 7 rfl rfl rfl _ (y_call rfl rfl rfl cf241 (fun _ w1 _ => (Tryz.bits_Len64 0 w1 (by decide) (by decide)).mono fun e w2 ⟨h1, h2⟩ => ⟨h1.trans (by rfl), by rw [h2]; exact Below.refl _ _⟩)) ?_
    refine S_ 2 rfl rfl rfl _ (y_assign rfl rfl) ?_
    refine S_go (fun _ _ h => h) ?_
    refine T_ret (fun a w hF hM => hRb a w (post1 rfl rfl (fun w hM => ?_) a w hF hM))
    exact ⟨rfl, hM.below⟩
theorem insEG_any (cf : Value) (w : World) : Calls Tryz.prog 242 #[.slice none 0 0, .int .i64 0, .int .i64 0, cf] w fun e w' => e = .returned (.tuple #[]) ∧ Below w.heap.size w w' := by
  refine enter_args (args := [.slice none 0 0, .int .i64 0, .int .i64 0, cf]) (F := _) Tryz.func242 rfl Tryz.ntmps242 rfl rfl ?_
  intro Rb hRb hRn
  refine T_seq ?_
  refine T_region ?_
  refine S_ 10 rfl rfl rfl _ (y_move rfl rfl) ?_
  refine S_ 11 rfl rfl rfl _ (y_bin rfl rfl rfl (fun hg => b_add (by omega))) ?_
  refine S_ 8 rfl rfl rfl _ (y_assign rfl rfl) ?_
  refine S_go (fun _ _ h => h) ?_
  refine T_block ?_
  refine T_rounds (Nat.succ Nat.zero) ?_
  refine T_seq ?_
  refine T_seq ?_
  refine T_region ?_
  refine S_ 12 rfl rfl rfl _ (y_move rfl rfl) ?_
  refine S_ 13 rfl rfl rfl _ (y_move rfl rfl) ?_
  refine S_ 14 rfl rfl rfl _ (y_bin rfl rfl rfl (fun _ => b_lss)) ?_
  refine S_go (fun _ _ h => h) ?_
  refine T_cond rfl (fun h14 => ?_) (fun h14 => ?_)
  · skip
    cases h14
  · skip
    refine T_exit (fun a w hF hM => hRn a w (post0 rfl (fun w hM => ?_) a w hF hM))
    exact ⟨rfl, hM.below⟩
theorem pdqEG_any (n : Int) (cf : Value) (w : World) : Calls Tryz.prog 196 #[.slice none 0 0, .int .i64 0, .int .i64 0, .int .i64 n, cf] w fun e w' => e = .returned (.tuple #[]) ∧ Below w.heap.size w w' := by
  refine enter_args (args := [.slice none 0 0, .int .i64 0, .int .i64 0, .int .i64 n, cf]) (F := _) Tryz.func196 rfl Tryz.ntmps196 rfl rfl ?_
  intro Rb hRb hRn
  refine T_seq ?_
  refine T_region ?_
  refine S_ 10 rfl rfl rfl _ (y_assign rfl rfl) ?_
  refine S_go (fun _ _ h => h) ?_
  refine T_seq ?_
  refine T_region ?_
  refine S_ 11 rfl rfl rfl _ (y_assign rfl rfl) ?_
  refine S_go (fun _ _ h => h) ?_
  refine T_block ?_
  refine T_rounds (Nat.succ Nat.zero) ?_
  refine T_block ?_
  refine T_seq ?_
  refine T_region ?_
  refine S_ 21 rfl rfl rfl _ (y_move rfl rfl) ?_
  refine S_ 22 rfl rfl rfl _ (y_move rfl rfl) ?_
  refine S_ 23 rfl rfl rfl _ (y_bin rfl rfl rfl (fun hg => b_sub (by omega))) ?_
  refine S_ 12 rfl rfl rfl _ (y_assign rfl rfl) ?_
  refine S_go (fun _ _ h => h) ?_
  refine T_seq ?_
  refine T_seq ?_
  refine T_region ?_
  refine S_ 24 rfl rfl rfl _ (y_move rfl rfl) ?_
  refine S_ 25 rfl rfl rfl _ (y_bin rfl rfl rfl (fun _ => b_leq)) ?_
  refine S_go (fun _ _ h => h) ?_
  refine T_cond rfl (fun h25 => ?_) (fun h25 => ?_)
  · skip
    refine T_seq ?_
    refine T_region ?_
    refine S_ 26 rfl rfl rfl _ (y_move rfl rfl) ?_
    refine S_ 27 rfl rfl rfl _ (y_move rfl rfl) ?_
    refine S_ 28 rfl rfl rfl _ (y_move rfl rfl) ?_
    refine S_ 29 rfl rfl rfl _ (y_move rfl rfl) ?_
    refine S_ 30 rfl rfl rfl _ (y_call rfl rfl rfl cf242 (fun _ w1 _ => insEG_any cf w1)) ?_
    refine S_go (fun _ _ h => h) ?_
    refine T_ret (fun a w hF hM => hRb a w (post0 rfl (fun w hM => ?_) a w hF hM))
    exact ⟨rfl, hM.below⟩
  · skip
    cases h25
theorem srtEG_any (cf : Value) (w : World) : Calls Tryz.prog 145 #[.slice none 0 0, cf] w fun e w' => e = .returned (.tuple #[]) ∧ Below w.heap.size w w' := by
  refine enter_args (args := [.slice none 0 0, cf]) (F := _) Tryz.func145 rfl Tryz.ntmps145 rfl rfl ?_
  intro Rb hRb hRn
  refine T_seq ?_
  refine T_region ?_
  refine S_ 5 rfl rfl rfl _ (y_move rfl rfl) ?_
  refine S_ 6 rfl rfl rfl _ (y_len_slice rfl rfl Tryz.underlying112) ?_
  refine S_ 4 rfl rfl rfl _ (y_assign rfl rfl) ?_
  refine S_go (fun _ _ h => h) ?_
  refine T_region ?_
  refine S_ 7 rfl rfl rfl _ (y_move rfl rfl) ?_
  refine S_ 8 rfl rfl rfl _ (y_move rfl rfl) ?_
  refine S_ 9 rfl rfl rfl _ (y_move rfl rfl) ?_
  refine S_ 10 rfl rfl rfl _ (y_conv rfl rfl Tryz.underlying3 Tryz.underlying279) ?_
  refine S_ 11 rfl rfl rfl _ (y_call rfl rfl rfl cf195 (fun _ w1 _ => lenE_any w1)) ?_
  refine S_ 12 rfl rfl rfl _ (y_move rfl rfl) ?_
  refine S_ 13 rfl rfl rfl _ (y_call rfl rfl rfl cf196 (fun _ w1 _ => pdqEG_any _ cf w1)) ?_
  refine S_nil (fun a w hF hM => hRn a w (post0 rfl (fun w hM => ?_) a w hF hM))
  exact ⟨rfl, hM.below⟩
theorem insEV_any (cf : Value) (w : World) : Calls Tryz.prog 255 #[.slice none 0 0, .int .i64 0, .int .i64 0, cf] w fun e w' => e = .returned (.tuple #[]) ∧ Below w.heap.size w w' := by
  refine enter_args (args := [.slice none 0 0, .int .i64 0, .int .i64 0, cf]) (F := _) Tryz.func255 rfl Tryz.ntmps255 rfl rfl ?_
  intro Rb hRb hRn
  refine T_seq ?_
  refine T_region ?_
  refine S_ 10 rfl rfl rfl _ (y_move rfl rfl) ?_
  refine S_ 11 rfl rfl rfl _ (y_bin rfl rfl rfl (fun hg => b_add (by omega))) ?_
  refine S_ 8 rfl rfl rfl _ (y_assign rfl rfl) ?_
  refine S_go (fun _ _ h => h) ?_
  refine T_block ?_
  refine T_rounds (Nat.succ Nat.zero) ?_
  refine T_seq ?_
  refine T_seq ?_
  refine T_region ?_
  refine S_ 12 rfl rfl rfl _ (y_move rfl rfl) ?_
  refine S_ 13 rfl rfl rfl _ (y_move rfl rfl) ?_
  refine S_ 14 rfl rfl rfl _ (y_bin rfl rfl rfl (fun _ => b_lss)) ?_
  refine S_go (fun _ _ h => h) ?_
  refine T_cond rfl (fun h14 => ?_) (fun h14 => ?_)
  · skip
    cases h14
  · skip
    refine T_exit (fun a w hF hM => hRn a w (post0 rfl (fun w hM => ?_) a w hF hM))
    exact ⟨rfl, hM.below⟩
theorem pdqEV_any (n : Int) (cf : Value) (w : World) : Calls Tryz.prog 199 #[.slice none 0 0, .int .i64 0, .int .i64 0, .int .i64 n, cf] w fun e w' => e = .returned (.tuple #[]) ∧ Below w.heap.size w w' := by
  refine enter_args (args := [.slice none 0 0, .int .i64 0, .int .i64 0, .int .i64 n, cf]) (F := _) Tryz.func199 rfl Tryz.ntmps199 rfl rfl ?_
  intro Rb hRb hRn
  refine T_seq ?_
  refine T_region ?_
  refine S_ 10 rfl rfl rfl _ (y_assign rfl rfl) ?_
  refine S_go (fun _ _ h => h) ?_
  refine T_seq ?_
  refine T_region ?_
  refine S_ 11 rfl rfl rfl _ (y_assign rfl rfl) ?_
  refine S_go (fun _ _ h => h) ?_
  refine T_block ?_
  refine T_rounds (Nat.succ Nat.zero) ?_
  refine T_block ?_
  refine T_seq ?_
  refine T_region ?_
  refine S_ 21 rfl rfl rfl _ (y_move rfl rfl) ?_
  refine S_ 22 rfl rfl rfl _ (y_move rfl rfl) ?_
  refine S_ 23 rfl rfl rfl _ (y_bin rfl rfl rfl (fun hg => b_sub (by omega))) ?_
  refine S_ 12 rfl rfl rfl _ (y_assign rfl rfl) ?_
  refine S_go (fun _ _ h => h) ?_
  refine T_seq ?_
  refine T_seq ?_
  refine T_region ?_
  refine S_ 24 rfl rfl rfl _ (y_move rfl rfl) ?_
  refine S_ 25 rfl rfl rfl _ (y_bin rfl rfl rfl (fun _ => b_leq)) ?_
  refine S_go (fun _ _ h => h) ?_
  refine T_cond rfl (fun h25 => ?_) (fun h25 => ?_)
  · skip
    refine T_seq ?_
    refine T_region ?_
    refine S_ 26 rfl rfl rfl _ (y_move rfl rfl) ?_
    refine S_ 27 rfl rfl rfl _ (y_move rfl rfl) ?_
    refine S_ 28 rfl rfl rfl _ (y_move rfl rfl) ?_
    refine S_ 29 rfl rfl rfl _ (y_move rfl rfl) ?_
    refine S_ 30 rfl rfl rfl _ (y_call rfl rfl rfl cf255 (fun _ w1 _ => insEV_any cf w1)) ?_
    refine S_go (fun _ _ h => h) ?_
    refine T_ret (fun a w hF hM => hRb a w (post0 rfl (fun w hM => ?_) a w hF hM))
    exact ⟨rfl, hM.below⟩
  · skip
    cases h25
theorem srtEV_any (cf : Value) (w : World) : Calls Tryz.prog 149 #[.slice none 0 0, cf] w fun e w' => e = .returned (.tuple #[]) ∧ Below w.heap.size w w' := by
  refine enter_args (args := [.slice none 0 0, cf]) (F := _) Tryz.func149 rfl Tryz.ntmps149 rfl rfl ?_
  intro Rb hRb hRn
  refine T_seq ?_
  refine T_region ?_
  refine S_ 5 rfl rfl rfl _ (y_move rfl rfl) ?_
  refine S_ 6 rfl rfl rfl _ (y_len_slice rfl rfl Tryz.underlying226) ?_
  refine S_ 4 rfl rfl rfl _ (y_assign rfl rfl) ?_
  refine S_go (fun _ _ h => h) ?_
  refine T_region ?_
  refine S_ 7 rfl rfl rfl _ (y_move rfl rfl) ?_
  refine S_ 8 rfl rfl rfl _ (y_move rfl rfl) ?_
  refine S_ 9 rfl rfl rfl _ (y_move rfl rfl) ?_
  refine S_ 10 rfl rfl rfl _ (y_conv rfl rfl Tryz.underlying3 Tryz.underlying279) ?_
  refine S_ 11 rfl rfl rfl _ (y_call rfl rfl rfl cf195 (fun _ w1 _ => lenE_any w1)) ?_
  refine S_ 12 rfl rfl rfl _ (y_move rfl rfl) ?_
  refine S_ 13 rfl rfl rfl _ (y_call rfl rfl rfl cf199 (fun _ w1 _ => pdqEV_any _ cf w1)) ?_
  refine S_nil (fun a w hF hM => hRn a w (post0 rfl (fun w hM => ?_) a w hF hM))
  exact ⟨rfl, hM.below⟩
end Go.Proofs.YtdcbiepoghdanaaGreatDoor
end
section
namespace Go.Proofs.YtdcbiepoghdanaaGreatDoor
set_option linter.unusedSimpArgs false
set_option linter.unusedVariables false
set_option maxRecDepth 20000
open Go.RowKit Go.Eng
theorem b_neqpN {P : Program} {t e : TypeId} {x y : Operand} {q : Option Addr} (ht : P.underlying t = some (.pointer e)) : ∀ w, (do eqGuard .neq t x y (.pointer q) (.pointer none); binOp .neq t (.pointer q) (.pointer none) : Sem Value).run P w = .ok (.bool (!q.isNone)) w := fun w => by
  simp only [eqGuard_at_pointer, binOp, Op.equal, Op.maxDepth]
  simp [run_equalIn_nil 9999 ht]
theorem S_skipB {P : Program} {w0 : World} {n : Nat} {ops : Array Oper} {l : List Oper} {F : FL} {L : HL} {Q : Exit → Act → World → Prop} {o : Oper} (d : Nat) {j s : Nat} {want gs b : Bool} {oj : Oper} (hd : o.dst = some d) (hdn : Nat.blt d n = true) (hg : o.guard = some (j, want)) (hj : ops[j]? = some oj) (hs : oj.dst = some s) (hv : F.get s = some (gs, .bool b)) (ht : (gs && (b == want)) = false)
    (h : S P w0 n ops l ((d, false, .bool false) :: F) L Q) : S P w0 n ops (o :: l) F L Q := by
  intro a w hF hM
  have h2 := G_at (ops := ops) (F := F) (o := o) hg hj hs hv n a hF
  rw [ht] at h2
  unfold wpList
  rw [if_neg (by rw [h2]; exact Bool.false_ne_true)]
  have := hF.put false (.bool false) hdn
  rw [hd]
  exact h _ _ this hM
abbrev hoI (z : HoR) (at_ : Int) : It := .blk z.h (IsBox (hoCells z at_) 107)
theorem At_any {w0 : World} {K : HL} (hK : FromK K) (z : HoR) (at_ : Int) (w : World) (hM0 : Mem w0 ([(901, hoI z at_)] ++ K) w) :
    Calls Tryz.prog 24 #[.pointer (some ⟨z.h, 0, none⟩)] w fun e w' => ∃ _u : Unit, e = .returned (.int .i64 at_) ∧ True ∧ Mem w0 ([(901, hoI z at_)] ++ K) w' := by
  refine enterM_args (args := [.pointer (some ⟨z.h, 0, none⟩)]) (F := _) hM0 Tryz.func24 rfl Tryz.ntmps24 rfl rfl ?_
  intro Rb hRb hRn
  refine T_seq ?_
  refine T_region ?_
  refine S_ 2 rfl rfl rfl _ (y_assign rfl rfl) ?_
  refine S_go (fun _ _ h => h) ?_
  refine T_seq ?_
  refine T_region ?_
  refine S_ 3 rfl rfl rfl _ (y_move rfl rfl) ?_
  refine S_ 4 rfl rfl rfl _ (y_nilCheck rfl rfl) ?_
  refine S_ 5 rfl rfl rfl _ (y_fieldAddr rfl rfl fa107_1) ?_
  refine S_ 6 rfl rfl rfl _ (y_load 901 rfl rfl rfl rfl Tryz.underlying3 rfl) ?_
  refine S_ 2 rfl rfl rfl _ (y_assign rfl rfl) ?_
  refine S_go (fun _ _ h => h) ?_
  refine T_ret (fun a w hF hM => hRb a w (post1 rfl rfl (fun w hM => ?_) a w hF hM))
  exact ⟨(), rfl, trivial, hM.keep (ks := [(0, 999)]) (by repeat (first | exact kl_rest (by assumption) rfl | (apply kl_in; focus rfl))) _ ⟨rfl, trivial⟩⟩
abbrev esI (b : Nat) (z : Array MapEntry × Nat) : It := .blk b (IsEs z.1 z.2)
set_option maxHeartbeats 1600000 in
theorem BGroups_any {w0 : World} {K : HL} (hK : FromK K) (b m : Nat) (w : World) (hM0 : Mem w0 ([(902, bkI b m), (903, mpI m)] ++ K) w) :
    Calls Tryz.prog 72 #[.pointer (some ⟨b, 0, none⟩)] w fun e w' => ∃ z : Array MapEntry × Nat, e = .returned (.slice none 0 0) ∧ True ∧ Mem w0 ([(902, bkI b m), (903, esI m z)] ++ K) w' := by
  refine enterM_args (args := [.pointer (some ⟨b, 0, none⟩)]) (F := _) hM0 Tryz.func72 rfl Tryz.ntmps72 rfl rfl ?_
  intro Rb hRb hRn
  refine T_seq ?_
  refine T_region ?_
  refine S_nilSlice 2 (e := 115) (size := 6) ?_
  refine S_ 2 rfl rfl rfl _ (y_assign rfl rfl) ?_
  refine S_go (fun _ _ h => h) ?_
  refine T_seq ?_
  refine T_region ?_
  refine S_makeMap 10 10 (fun n : Int => Value.int .i64 n) rfl rfl rfl rfl ?_
  intro b10
  refine S_ 3 rfl rfl rfl _ (y_assign rfl rfl) ?_
  refine S_go (fun _ _ h => h) ?_
  refine T_seq ?_
  refine T_seq ?_
  refine T_region ?_
  refine S_ 11 rfl rfl rfl _ (y_move rfl rfl) ?_
  refine S_ 12 rfl rfl rfl _ (y_nilCheck rfl rfl) ?_
  refine S_ 13 rfl rfl rfl _ (y_fieldAddr rfl rfl fa199_0) ?_
  refine S_ 14 rfl rfl rfl _ (y_load 902 rfl rfl rfl rfl Tryz.underlying196 rfl) ?_
  refine S_range 15 903 15 (fun p : List UInt8 × Value => str p.1) (fun p : List UInt8 × Value => p.2) ([]) (rfl) rfl rfl rfl rfl rfl rfl Tryz.underlying196 ?_
  intro r15 es15 ck15
  refine S_go (fun _ _ h => h) ?_
  refine T_block ?_
  refine T_rounds (Nat.succ Nat.zero) ?_
  refine T_seq ?_
  refine T_region ?_
  refine S_next 16 903 15 rfl rfl rfl rfl rfl rfl rfl ?_
  intro e16 ps16 hn16 hs16
  have he16 : e16 = none := by
    cases h : e16 with
    | none => rfl
    | some p => exact absurd (hs16 p h).length_eq (by simp)
  refine S_ 17 rfl rfl rfl _ (y_extract (v := .bool e16.isSome) rfl rfl (by cases e16 <;> rfl)) ?_
  refine S_go (fun _ _ h => h) ?_
  refine T_seq ?_
  refine T_cond rfl (fun h17 => ?_) (fun h17 => ?_)
  · skip
    rw [he16] at h17; cases h17
  · skip
    refine T_exit_go (fun _ _ h => h) ?_
    refine T_seq ?_
    refine T_region ?_
    refine S_nilSlice 7 (e := 115) (size := 6) ?_
    refine S_ 7 rfl rfl rfl _ (y_assign rfl rfl) ?_
    refine S_go (fun _ _ h => h) ?_
    refine T_seq ?_
    refine T_seq ?_
    refine T_region ?_
    refine S_ 105 rfl rfl rfl _ (y_move rfl rfl) ?_
    refine S_range 106 10 106 (fun p : Int × Value => .int .i64 p.1) (fun p : Int × Value => p.2) ([]) (rfl) rfl rfl rfl rfl rfl rfl Tryz.underlying217 ?_
    intro r106 es106 ck106
    refine S_go (fun _ _ h => h) ?_
    refine T_block ?_
    refine T_rounds (Nat.succ Nat.zero) ?_
    refine T_seq ?_
    refine T_region ?_
    refine S_next 107 10 106 rfl rfl rfl rfl rfl rfl rfl ?_
    intro e107 ps107 hn107 hs107
    have he107 : e107 = none := by
      cases h : e107 with
      | none => rfl
      | some p => exact absurd (hs107 p h).length_eq (by simp)
    refine S_ 108 rfl rfl rfl _ (y_extract (v := .bool e107.isSome) rfl rfl (by cases e107 <;> rfl)) ?_
    refine S_go (fun _ _ h => h) ?_
    refine T_seq ?_
    refine T_cond rfl (fun h108 => ?_) (fun h108 => ?_)
    · skip
      rw [he107] at h108; cases h108
    · skip
      refine T_exit_go (fun _ _ h => h) ?_
      refine T_seq ?_
      refine T_region ?_
      refine S_ 122 rfl rfl rfl _ (y_move rfl rfl) ?_
      refine S_ 123 rfl rfl rfl _ (y_call rfl rfl rfl cf145 (fun _ w1 _ => srtEG_any _ w1)) ?_
      refine S_go (fun _ _ h => h) ?_
      refine T_seq ?_
      refine T_region ?_
      refine S_ 124 rfl rfl rfl _ (y_move rfl rfl) ?_
      refine S_ 2 rfl rfl rfl _ (y_assign rfl rfl) ?_
      refine S_go (fun _ _ h => h) ?_
      refine T_ret (fun a w hF hM => hRb a w (post1 rfl rfl (fun w hM => ?_) a w hF hM))
      exact ⟨(es15, ck15), rfl, trivial, hM.keep (ks := [(0, 999)]) (by repeat (first | exact kl_rest (by assumption) rfl | (apply kl_in; focus rfl))) _ ⟨rfl, rfl, trivial⟩⟩
theorem HGroups_any {w0 : World} {K : HL} (hK : FromK K) (z : HoR) (at_ : Int) (w : World) (hM0 : Mem w0 ([(901, hoI z at_), (902, bkI z.b z.m), (903, mpI z.m)] ++ K) w) :
    Calls Tryz.prog 25 #[.pointer (some ⟨z.h, 0, none⟩)] w fun e w' => ∃ y : Array MapEntry × Nat, e = .returned (.slice none 0 0) ∧ True ∧ Mem w0 ([(901, hoI z at_), (902, bkI z.b z.m), (903, esI z.m y)] ++ K) w' := by
  refine enterM_args (args := [.pointer (some ⟨z.h, 0, none⟩)]) (F := _) hM0 Tryz.func25 rfl Tryz.ntmps25 rfl rfl ?_
  intro Rb hRb hRn
  refine T_seq ?_
  refine T_region ?_
  refine S_nilSlice 2 (e := 3) (size := 1) ?_
  refine S_ 2 rfl rfl rfl _ (y_assign rfl rfl) ?_
  refine S_go (fun _ _ h => h) ?_
  refine T_seq ?_
  refine T_region ?_
  refine S_nilSlice 3 (e := 3) (size := 1) ?_
  refine S_ 3 rfl rfl rfl _ (y_assign rfl rfl) ?_
  refine S_go (fun _ _ h => h) ?_
  refine T_seq ?_
  refine T_seq ?_
  refine T_region ?_
  refine S_ 6 rfl rfl rfl _ (y_move rfl rfl) ?_
  refine S_ 7 rfl rfl rfl _ (y_nilCheck rfl rfl) ?_
  refine S_ 8 rfl rfl rfl _ (y_fieldAddr rfl rfl fa107_3) ?_
  refine S_ 9 rfl rfl rfl _ (y_load 901 rfl rfl rfl rfl Tryz.underlying97 rfl) ?_
  refine S_callM 10 [(902, 902), (903, 903)] (X := (Array MapEntry × Nat)) rfl rfl rfl rfl rfl rfl rfl cf72 rfl (fun _ => .slice none 0 0) (fun _ => True) (fun y => [(902, bkI z.b z.m), (903, esI z.m y)]) (fun _ => rfl) (fun _ => rfl) (fun K1 hK1 w1 hM => BGroups_any hK1 z.b z.m w1 hM) ?_
  intro x10 hx10
  refine S_ 11 rfl rfl rfl _ (y_len_slice rfl rfl Tryz.underlying112) ?_
  refine S_ 12 rfl rfl rfl _ (y_move rfl rfl) ?_
  refine S_go (fun _ _ h => h) ?_
  refine T_block ?_
  refine T_rounds (Nat.succ Nat.zero) ?_
  refine T_seq ?_
  refine T_region ?_
  refine S_ 13 rfl rfl rfl _ (y_bin rfl rfl rfl (fun _ => b_lss)) ?_
  refine S_go (fun _ _ h => h) ?_
  refine T_seq ?_
  refine T_cond rfl (fun h13 => ?_) (fun h13 => ?_)
  · skip
    cases h13
  · skip
    refine T_exit_go (fun _ _ h => h) ?_
    refine T_seq ?_
    refine T_region ?_
    refine S_ 22 rfl rfl rfl _ (y_move rfl rfl) ?_
    refine S_ 2 rfl rfl rfl _ (y_assign rfl rfl) ?_
    refine S_go (fun _ _ h => h) ?_
    refine T_ret (fun a w hF hM => hRb a w (post1 rfl rfl (fun w hM => ?_) a w hF hM))
    exact ⟨x10, rfl, trivial, hM.keep (ks := [(0, 999)]) (by repeat (first | exact kl_rest (by assumption) rfl | (apply kl_in; focus rfl))) _ ⟨rfl, rfl, rfl, trivial⟩⟩
theorem known_any {w0 : World} {K : HL} (hK : FromK K) (z : HoR) (at_ : Int) (w : World) (hM0 : Mem w0 ([(901, hoI z at_), (904, mpI z.r)] ++ K) w) :
    Calls Tryz.prog 74 #[.pointer (some ⟨z.h, 0, none⟩)] w fun e w' => ∃ y : Array MapEntry × Nat, e = .returned (.slice none 0 0) ∧ True ∧ Mem w0 ([(901, hoI z at_), (904, esI z.r y)] ++ K) w' := by
  refine enterM_args (args := [.pointer (some ⟨z.h, 0, none⟩)]) (F := _) hM0 Tryz.func74 rfl Tryz.ntmps74 rfl rfl ?_
  intro Rb hRb hRn
  refine T_seq ?_
  refine T_region ?_
  refine S_nilSlice 2 (e := 9) (size := 1) ?_
  refine S_ 2 rfl rfl rfl _ (y_assign rfl rfl) ?_
  refine S_go (fun _ _ h => h) ?_
  refine T_seq ?_
  refine T_region ?_
  refine S_nilSlice 3 (e := 9) (size := 1) ?_
  refine S_ 3 rfl rfl rfl _ (y_assign rfl rfl) ?_
  refine S_go (fun _ _ h => h) ?_
  refine T_seq ?_
  refine T_seq ?_
  refine T_region ?_
  refine S_ 5 rfl rfl rfl _ (y_move rfl rfl) ?_
  refine S_ 6 rfl rfl rfl _ (y_nilCheck rfl rfl) ?_
  refine S_ 7 rfl rfl rfl _ (y_fieldAddr rfl rfl fa107_9) ?_
  refine S_ 8 rfl rfl rfl _ (y_load 901 rfl rfl rfl rfl Tryz.underlying103 rfl) ?_
  refine S_range 9 904 9 (fun p : List UInt8 × Value => str p.1) (fun p : List UInt8 × Value => p.2) ([]) (rfl) rfl rfl rfl rfl rfl rfl Tryz.underlying103 ?_
  intro r9 es9 ck9
  refine S_go (fun _ _ h => h) ?_
  refine T_block ?_
  refine T_rounds (Nat.succ Nat.zero) ?_
  refine T_seq ?_
  refine T_region ?_
  refine S_next 10 904 9 rfl rfl rfl rfl rfl rfl rfl ?_
  intro e10 ps10 hn10 hs10
  have he10 : e10 = none := by
    cases h : e10 with
    | none => rfl
    | some p => exact absurd (hs10 p h).length_eq (by simp)
  refine S_ 11 rfl rfl rfl _ (y_extract (v := .bool e10.isSome) rfl rfl (by cases e10 <;> rfl)) ?_
  refine S_go (fun _ _ h => h) ?_
  refine T_seq ?_
  refine T_cond rfl (fun h11 => ?_) (fun h11 => ?_)
  · skip
    rw [he10] at h11; cases h11
  · skip
    refine T_exit_go (fun _ _ h => h) ?_
    refine T_seq ?_
    refine T_region ?_
    refine S_ 18 rfl rfl rfl _ (y_move rfl rfl) ?_
    refine S_ 2 rfl rfl rfl _ (y_assign rfl rfl) ?_
    refine S_go (fun _ _ h => h) ?_
    refine T_ret (fun a w hF hM => hRb a w (post1 rfl rfl (fun w hM => ?_) a w hF hM))
    exact ⟨(es9, ck9), rfl, trivial, hM.keep (ks := [(0, 999)]) (by repeat (first | exact kl_rest (by assumption) rfl | (apply kl_in; focus rfl))) _ ⟨rfl, rfl, trivial⟩⟩
theorem parseE_any (w : World) : Calls Tryz.prog 148 #[.slice none 0 0] w fun e w' => e = .returned (.tuple #[.slice none 0 0, .int .i64 0]) ∧ Below w.heap.size w w' := by
  refine enter_args (args := [.slice none 0 0]) (F := _) Tryz.func148 rfl Tryz.ntmps148 rfl rfl ?_
  intro Rb hRb hRn
  refine T_seq ?_
  refine T_region ?_
  refine S_nilSlice 2 (e := 231) (size := 5) ?_
  refine S_ 2 rfl rfl rfl _ (y_assign rfl rfl) ?_
  refine S_ 3 rfl rfl rfl _ (y_assign rfl rfl) ?_
  refine S_go (fun _ _ h => h) ?_
  refine T_seq ?_
  refine T_seq ?_
  refine T_region ?_
  refine S_ 9 rfl rfl rfl _ (y_move rfl rfl) ?_
  refine S_ 10 rfl rfl rfl _ (y_len_slice rfl rfl Tryz.underlying41) ?_
  refine S_ 11 rfl rfl rfl _ (y_bin rfl rfl rfl (fun _ => b_gtr)) ?_
  refine S_go (fun _ _ h => h) ?_
  refine T_cond rfl (fun h11 => ?_) (fun h11 => ?_)
  · skip
    cases h11
  · skip
    refine T_skip_go (fun _ _ h => h) ?_
    refine T_seq ?_
    refine T_region ?_
    refine S_nilSlice 4 (e := 231) (size := 5) ?_
    refine S_ 4 rfl rfl rfl _ (y_assign rfl rfl) ?_
    refine S_go (fun _ _ h => h) ?_
    refine T_seq ?_
    refine T_seq ?_
    refine T_region ?_
    refine S_ 12 rfl rfl rfl _ (y_move rfl rfl) ?_
    refine S_ 13 rfl rfl rfl _ (y_len_slice rfl rfl Tryz.underlying41) ?_
    refine S_ 14 rfl rfl rfl _ (y_move rfl rfl) ?_
    refine S_go (fun _ _ h => h) ?_
    refine T_block ?_
    refine T_rounds (Nat.succ Nat.zero) ?_
    refine T_seq ?_
    refine T_region ?_
    refine S_ 15 rfl rfl rfl _ (y_bin rfl rfl rfl (fun _ => b_lss)) ?_
    refine S_go (fun _ _ h => h) ?_
    refine T_seq ?_
    refine T_cond rfl (fun h15 => ?_) (fun h15 => ?_)
    · skip
      cases h15
    · skip
      refine T_exit_go (fun _ _ h => h) ?_
      refine T_seq ?_
      refine T_region ?_
      refine S_ 30 rfl rfl rfl _ (y_move rfl rfl) ?_
      refine S_ 2 rfl rfl rfl _ (y_assign rfl rfl) ?_
      refine S_ 3 rfl rfl rfl _ (y_assign rfl rfl) ?_
      refine S_go (fun _ _ h => h) ?_
      refine T_ret (fun a w hF hM => hRb a w (post2 rfl rfl rfl (fun w hM => ?_) a w hF hM))
      exact ⟨rfl, hM.below⟩
theorem sortedE_any (w : World) : Calls Tryz.prog 73 #[.slice none 0 0] w fun e w' => e = .returned (.tuple #[.slice none 0 0, .int .i64 0]) ∧ Below w.heap.size w w' := by
  refine enter_args (args := [.slice none 0 0]) (F := _) Tryz.func73 rfl Tryz.ntmps73 rfl rfl ?_
  intro Rb hRb hRn
  refine T_seq ?_
  refine T_region ?_
  refine S_nilSlice 2 (e := 9) (size := 1) ?_
  refine S_ 2 rfl rfl rfl _ (y_assign rfl rfl) ?_
  refine S_ 3 rfl rfl rfl _ (y_assign rfl rfl) ?_
  refine S_go (fun _ _ h => h) ?_
  refine T_seq ?_
  refine T_region ?_
  refine S_ 13 rfl rfl rfl _ (y_move rfl rfl) ?_
  refine S_ 14 rfl rfl rfl _ (y_call rfl rfl rfl cf148 (fun _ w1 _ => parseE_any w1)) ?_
  refine S_ 12 rfl rfl rfl _ (y_move rfl rfl) ?_
  refine S_ 15 rfl rfl rfl _ (y_extract rfl rfl rfl) ?_
  refine S_ 16 rfl rfl rfl _ (y_extract rfl rfl rfl) ?_
  refine S_ 4 rfl rfl rfl _ (y_assign rfl rfl) ?_
  refine S_ 5 rfl rfl rfl _ (y_assign rfl rfl) ?_
  refine S_go (fun _ _ h => h) ?_
  refine T_seq ?_
  refine T_seq ?_
  refine T_region ?_
  refine S_ 17 rfl rfl rfl _ (y_move rfl rfl) ?_
  refine S_ 18 rfl rfl rfl _ (y_bin rfl rfl rfl (fun _ => b_neq)) ?_
  refine S_go (fun _ _ h => h) ?_
  refine T_cond rfl (fun h18 => ?_) (fun h18 => ?_)
  · skip
    cases h18
  · skip
    refine T_skip_go (fun _ _ h => h) ?_
    refine T_seq ?_
    refine T_region ?_
    refine S_ 20 rfl rfl rfl _ (y_move rfl rfl) ?_
    refine S_ 21 rfl rfl rfl _ (y_call rfl rfl rfl cf149 (fun _ w1 _ => srtEV_any _ w1)) ?_
    refine S_go (fun _ _ h => h) ?_
    refine T_seq ?_
    refine T_region ?_
    refine S_nilSlice 6 (e := 9) (size := 1) ?_
    refine S_ 6 rfl rfl rfl _ (y_assign rfl rfl) ?_
    refine S_go (fun _ _ h => h) ?_
    refine T_seq ?_
    refine T_seq ?_
    refine T_region ?_
    refine S_ 22 rfl rfl rfl _ (y_move rfl rfl) ?_
    refine S_ 23 rfl rfl rfl _ (y_len_slice rfl rfl Tryz.underlying226) ?_
    refine S_ 24 rfl rfl rfl _ (y_move rfl rfl) ?_
    refine S_go (fun _ _ h => h) ?_
    refine T_block ?_
    refine T_rounds (Nat.succ Nat.zero) ?_
    refine T_seq ?_
    refine T_region ?_
    refine S_ 25 rfl rfl rfl _ (y_bin rfl rfl rfl (fun _ => b_lss)) ?_
    refine S_go (fun _ _ h => h) ?_
    refine T_seq ?_
    refine T_cond rfl (fun h25 => ?_) (fun h25 => ?_)
    · skip
      cases h25
    · skip
      refine T_exit_go (fun _ _ h => h) ?_
      refine T_seq ?_
      refine T_region ?_
      refine S_ 51 rfl rfl rfl _ (y_move rfl rfl) ?_
      refine S_ 2 rfl rfl rfl _ (y_assign rfl rfl) ?_
      refine S_ 3 rfl rfl rfl _ (y_assign rfl rfl) ?_
      refine S_go (fun _ _ h => h) ?_
      refine T_ret (fun a w hF hM => hRb a w (post2 rfl rfl rfl (fun w hM => ?_) a w hF hM))
      exact ⟨rfl, hM.below⟩
theorem Releases_any {w0 : World} {K : HL} (hK : FromK K) (z : HoR) (at_ : Int) (w : World) (hM0 : Mem w0 ([(901, hoI z at_), (904, mpI z.r)] ++ K) w) :
    Calls Tryz.prog 26 #[.pointer (some ⟨z.h, 0, none⟩)] w fun e w' => ∃ y : Array MapEntry × Nat, e = .returned (.slice none 0 0) ∧ True ∧ Mem w0 ([(901, hoI z at_), (904, esI z.r y)] ++ K) w' := by
  refine enterM_args (args := [.pointer (some ⟨z.h, 0, none⟩)]) (F := _) hM0 Tryz.func26 rfl Tryz.ntmps26 rfl rfl ?_
  intro Rb hRb hRn
  refine T_seq ?_
  refine T_region ?_
  refine S_nilSlice 2 (e := 9) (size := 1) ?_
  refine S_ 2 rfl rfl rfl _ (y_assign rfl rfl) ?_
  refine S_go (fun _ _ h => h) ?_
  refine T_seq ?_
  refine T_region ?_
  refine S_ 6 rfl rfl rfl _ (y_move rfl rfl) ?_
  refine S_callM 7 [(901, 901), (904, 904)] (X := (Array MapEntry × Nat)) rfl rfl rfl rfl rfl rfl rfl cf74 rfl (fun _ => .slice none 0 0) (fun _ => True) (fun y => [(901, hoI z at_), (904, esI z.r y)]) (fun _ => rfl) (fun _ => rfl) (fun K1 hK1 w1 hM => known_any hK1 z at_ w1 hM) ?_
  intro x7 hx7
  refine S_ 8 rfl rfl rfl _ (y_call rfl rfl rfl cf73 (fun _ w1 _ => sortedE_any w1)) ?_
  refine S_ 5 rfl rfl rfl _ (y_move rfl rfl) ?_
  refine S_ 9 rfl rfl rfl _ (y_extract rfl rfl rfl) ?_
  refine S_ 10 rfl rfl rfl _ (y_extract rfl rfl rfl) ?_
  refine S_ 3 rfl rfl rfl _ (y_assign rfl rfl) ?_
  refine S_ 4 rfl rfl rfl _ (y_assign rfl rfl) ?_
  refine S_go (fun _ _ h => h) ?_
  refine T_seq ?_
  refine T_region ?_
  refine S_ 11 rfl rfl rfl _ (y_move rfl rfl) ?_
  refine S_ 2 rfl rfl rfl _ (y_assign rfl rfl) ?_
  refine S_go (fun _ _ h => h) ?_
  refine T_ret (fun a w hF hM => hRb a w (post1 rfl rfl (fun w hM => ?_) a w hF hM))
  exact ⟨x7, rfl, trivial, hM.keep (ks := [(0, 999)]) (by repeat (first | exact kl_rest (by assumption) rfl | (apply kl_in; focus rfl))) _ ⟨rfl, rfl, trivial⟩⟩
def intD (n : Int) : List Value := [.int .i64 n]
theorem firstD_any (A : Option Addr) (c : Nat) (m k : Int) (w : World) (hl : SlT intD 1 w A 2 [m, k]) : Calls Tryz.prog 22 #[.slice A 2 c] w fun e w' => e = .returned (.int .i64 (fst m k)) ∧ Below w.heap.size w w' := by
  refine enter_args (args := [.slice A 2 c]) (F := _) Tryz.func22 rfl Tryz.ntmps22 rfl rfl ?_
  intro Rb hRb hRn
  refine T_seq ?_
  refine T_region ?_
  refine S_ 2 rfl rfl rfl _ (y_assign rfl rfl) ?_
  refine S_go (fun _ _ h => h) ?_
  refine T_seq ?_
  refine T_seq ?_
  refine T_region ?_
  refine S_ 5 rfl rfl rfl _ (y_move rfl rfl) ?_
  refine S_ 6 rfl rfl rfl _ (y_len_slice rfl rfl Tryz.underlying94) ?_
  refine S_ 7 rfl rfl rfl _ (y_move rfl rfl) ?_
  refine S_go (fun _ _ h => h) ?_
  refine T_block ?_
  refine T_loopK1 (kf := [(2, 2), (4, 4), (7, 14)]) (kl := [(2, 2), (4, 4), (7, 14)]) (fun (i : Nat) => [(7, true, .int .i64 (i : Int))]) (fun (i : Nat) => []) (fun (i : Nat) => i ≤ 2 ∧ fst m k = (([m, k].drop i).find? (fun x => decide (x ≠ 0))).getD 0) (fun (i : Nat) => 2 - i) 0 (by repeat (first | exact kf_nil | (apply kf_in; focus rfl) | (apply kf_out; focus rfl))) (by repeat (first | exact kl_nil | exact kl_rest (by assumption) rfl | (apply kl_in; focus rfl) | (apply kl_out; focus rfl))) ?_ ?_ ?_ ?_
  · exact ⟨by omega, by unfold fst; by_cases hm : m = 0 <;> by_cases hk : k = 0 <;> simp [hm, hk]⟩
  · exact ⟨rfl, trivial⟩
  · exact trivial
  rintro i ⟨hp1, hp2⟩
  refine T_seq ?_
  refine T_region ?_
  refine S_ 8 rfl rfl rfl _ (y_bin rfl rfl rfl (fun _ => b_lss)) ?_
  refine S_go (fun _ _ h => h) ?_
  refine T_seq ?_
  refine T_cond rfl (fun h8 => ?_) (fun h8 => ?_)
  · try simp only [decide_eq_true_eq, decide_eq_false_iff_not, Bool.or_eq_true, Bool.or_eq_false_iff, Bool.and_eq_true, Bool.and_eq_false_iff, Bool.not_eq_true', Bool.not_eq_false', Bool.not_eq_true, Bool.not_eq_false, Bool.not_true, Bool.not_false, Int.not_lt, Int.not_le, not_or, not_and, Classical.not_not] at h8
    obtain ⟨x, hx1, hx2⟩ := hl.at (i := i) (by omega)
    refine T_skip_go (fun _ _ h => h) ?_
    refine T_seq ?_
    refine T_block ?_
    refine T_seq ?_
    refine T_region ?_
    refine S_ 9 rfl rfl rfl _ (y_indexAddr rfl rfl rfl Tryz.underlying94 sz26 (fun hg => hl.isSome (by omega)) (fun _ => by omega)) ?_
    refine S_ 10 rfl rfl rfl _ (y_loadT1 (val := (fun n : Int => Value.int .i64 n)) rfl rfl hl (fun _ => hx1) Tryz.underlying26 rfl) ?_
    refine S_ 4 rfl rfl rfl _ (y_assign rfl rfl) ?_
    refine S_go (fun _ _ h => h) ?_
    refine T_seq ?_
    refine T_region ?_
    refine S_ 11 rfl rfl rfl _ (y_move rfl rfl) ?_
    refine S_ 12 rfl rfl rfl _ (y_bin rfl rfl rfl (fun _ => b_neq)) ?_
    refine S_go (fun _ _ h => h) ?_
    refine T_cond rfl (fun h12 => ?_) (fun h12 => ?_)
    · try simp only [decide_eq_true_eq, decide_eq_false_iff_not, Bool.or_eq_true, Bool.or_eq_false_iff, Bool.and_eq_true, Bool.and_eq_false_iff, Bool.not_eq_true', Bool.not_eq_false', Bool.not_eq_true, Bool.not_eq_false, Bool.not_true, Bool.not_false, Int.not_lt, Int.not_le, not_or, not_and, Classical.not_not] at h12
      refine T_seq ?_
      refine T_region ?_
      refine S_ 13 rfl rfl rfl _ (y_move rfl rfl) ?_
      refine S_ 2 rfl rfl rfl _ (y_assign rfl rfl) ?_
      refine S_go (fun _ _ h => h) ?_
      refine T_ret (fun a w hF hM => hRb a w (post1 rfl rfl (fun w hM => ?_) a w hF hM))
      exact ⟨by rw [hp2, hx2, List.find?_cons_of_pos (by simpa using h12)]; rfl, hM.below⟩
    · try simp only [decide_eq_true_eq, decide_eq_false_iff_not, Bool.or_eq_true, Bool.or_eq_false_iff, Bool.and_eq_true, Bool.and_eq_false_iff, Bool.not_eq_true', Bool.not_eq_false', Bool.not_eq_true, Bool.not_eq_false, Bool.not_true, Bool.not_false, Int.not_lt, Int.not_le, not_or, not_and, Classical.not_not] at h12
      refine T_skip_go (fun _ _ h => h) ?_
      refine T_region ?_
      refine S_ 14 rfl rfl rfl _ (y_bin rfl rfl rfl (fun hg => b_add (by omega))) ?_
      refine S_ 7 rfl rfl rfl _ (y_move rfl rfl) ?_
      refine S_nil (nextK1 (kf := [(2, 2), (4, 4), (7, 14)]) (kl := [(2, 2), (4, 4), (7, 14)]) (i + 1) (by repeat (first | exact kf_nil | (apply kf_in; focus rfl) | (apply kf_out; focus rfl))) (by repeat (first | exact kl_nil | exact kl_rest (by assumption) rfl | (apply kl_in; focus rfl) | (apply kl_out; focus rfl))) ?_ ?_ ?_ ?_)
      · omega
      · exact ⟨by omega, by rw [hp2, hx2, List.find?_cons_of_neg (by simpa using h12)]⟩
      · exact ⟨rfl, trivial⟩
      · exact trivial
  · try simp only [decide_eq_true_eq, decide_eq_false_iff_not, Bool.or_eq_true, Bool.or_eq_false_iff, Bool.and_eq_true, Bool.and_eq_false_iff, Bool.not_eq_true', Bool.not_eq_false', Bool.not_eq_true, Bool.not_eq_false, Bool.not_true, Bool.not_false, Int.not_lt, Int.not_le, not_or, not_and, Classical.not_not] at h8
    refine T_exit_go (fun _ _ h => h) ?_
    refine T_seq ?_
    refine T_region ?_
    refine S_ 2 rfl rfl rfl _ (y_assign rfl rfl) ?_
    refine S_go (fun _ _ h => h) ?_
    refine T_ret (fun a w hF hM => hRb a w (post1 rfl rfl (fun w hM => ?_) a w hF hM))
    exact ⟨by rw [hp2, hl.end (by omega)]; rfl, hM.below⟩
theorem new_t {s : SSt} {at_ : Int} (h : outI at_ 0 3155759999 = true) : fst (setupNo s) 2 = newNo s at_ := by rw [newNo, if_pos h]
theorem new_f {s : SSt} {at_ : Int} (h : outI at_ 0 3155759999 = false) : setupNo s = newNo s at_ := by
  rw [newNo, if_f h]; unfold fst; by_cases h : setupNo s = 0 <;> simp [h]
/-- a fault: no house -/
theorem DeskF_any (s : SSt) (at_ : Int) (w : World) (hs : StOk w s) (h0 : newNo s at_ ≠ 0) :
    Calls Tryz.prog 5 #[s.val, .int .i64 at_] w fun en w' => en = .returned (.bool true) ∧ Below w.heap.size w w' := by
  refine enter_args (args := [.agg #[.slice s.cl.A s.cl.q s.cl.c, .slice s.gr.A s.gr.q s.gr.c, .slice s.qt.A s.qt.q s.qt.c, .slice s.rt.A s.rt.q s.rt.c, .slice s.al.A s.al.q s.al.c, .int .i64 s.m, .int .i64 s.wt, .int .i64 s.ag, .int .i64 s.tr, .slice s.ow.A s.ow.q s.ow.c, .int .i64 s.ds], .int .i64 at_]) (F := _) Tryz.func5 rfl Tryz.ntmps5 rfl rfl ?_
  intro Rb hRb hRn
  refine T_seq ?_
  refine T_region ?_
  refine S_box 2 2 rfl rfl rfl rfl rfl ?_
  intro b2
  refine S_ 4 rfl rfl rfl _ (y_assign rfl rfl) ?_
  refine S_go (fun _ _ h => h) ?_
  refine T_seq ?_
  refine T_region ?_
  refine S_ 8 rfl rfl rfl _ (y_loadA 2 rfl rfl rfl Tryz.underlying52 rfl sz52) ?_
  refine S_ 9 rfl rfl rfl _ (y_call rfl rfl rfl cf20 (fun _ w1 hM => SetupFault_any s w1 (hs.below hM.below))) ?_
  refine S_ 5 rfl rfl rfl _ (y_assign rfl rfl) ?_
  refine S_go (fun _ _ h => h) ?_
  refine T_seq ?_
  refine T_seq ?_
  refine T_region ?_
  refine S_ 10 rfl rfl rfl _ (y_loadA 2 rfl rfl rfl Tryz.underlying52 rfl sz52) ?_
  refine S_ 11 rfl rfl rfl _ (y_call rfl rfl rfl cf21 (fun _ w1 hM => dkCheck_any s w1 (hs.below hM.below))) ?_
  refine S_ 12 rfl rfl rfl _ (y_move rfl rfl) ?_
  refine S_ 13 rfl rfl rfl _ (y_bin rfl rfl rfl (fun _ => b_neq)) ?_
  refine S_go (fun _ _ h => h) ?_
  refine T_cond rfl (fun h13 => ?_) (fun h13 => ?_)
  · skip
    simp at h13
  · skip
    refine T_skip_go (fun _ _ h => h) ?_
    refine T_seq ?_
    refine T_seq ?_
    refine T_region ?_
    refine S_ 14 rfl rfl rfl _ (y_move rfl rfl) ?_
    refine S_ 15 rfl rfl rfl _ (y_bin rfl rfl rfl (fun _ => b_lss)) ?_
    refine S_ 16 rfl rfl rfl _ (y_move rfl rfl) ?_
    refine Sg_ 17 rfl rfl rfl rfl rfl rfl _ (y_move rfl rfl) ?_
    refine Sg_ 18 rfl rfl rfl rfl rfl rfl _ (y_bin rfl rfl rfl (fun _ => b_gtr)) ?_
    refine S_ 19 rfl rfl rfl _ (y_as (v' := .bool (outI at_ 0 3155759999)) (by exact rfl) (y_or rfl rfl rfl)) ?_
    refine S_go (fun _ _ h => h) ?_
    refine T_cond rfl (fun h19 => ?_) (fun h19 => ?_)
    · skip
      refine T_region ?_
      refine S_ 20 rfl rfl rfl _ (y_move rfl rfl) ?_
      refine S_buildSlice 21 21 rfl rfl rfl rfl rfl Tryz.underlying94 inf26 rfl (by decide) (by decide) rfl rfl (by decide) rfl (_) rfl ?_
      intro b21
      refine S_ 22 rfl rfl rfl _ (y_as (v' := .int .i64 (newNo s at_)) (by rw [new_t h19]) (y_call rfl rfl rfl cf22 (fun _ w1 hM => firstD_any _ _ (setupNo s) 2 w1 ⟨own_reads hM (i := 21) rfl, rfl⟩))) ?_
      refine S_ 5 rfl rfl rfl _ (y_assign rfl rfl) ?_
      refine S_go (fun _ _ h => h) ?_
      refine T_seq ?_
      refine T_region ?_
      refine S_ 24 rfl rfl rfl _ (y_loadA 2 rfl rfl rfl Tryz.underlying52 rfl sz52) ?_
      refine S_ 25 rfl rfl rfl _ (y_move rfl rfl) ?_
      refine S_ 26 rfl rfl rfl _ (y_call rfl rfl rfl cf23 (fun _ w1 hM => NewF_any s at_ w1 (hs.below hM.below) h0)) ?_
      refine S_ 23 rfl rfl rfl _ (y_move rfl rfl) ?_
      refine S_ 27 rfl rfl rfl _ (y_extract rfl rfl rfl) ?_
      refine S_ 28 rfl rfl rfl _ (y_extract rfl rfl rfl) ?_
      refine S_ 6 rfl rfl rfl _ (y_assign rfl rfl) ?_
      refine S_ 7 rfl rfl rfl _ (y_assign rfl rfl) ?_
      refine S_go (fun _ _ h => h) ?_
      refine T_seq ?_
      refine T_seq ?_
      refine T_region ?_
      refine S_ 29 rfl rfl rfl _ (y_move rfl rfl) ?_
      refine S_ 30 rfl rfl rfl _ (y_move rfl rfl) ?_
      refine S_ 31 rfl rfl rfl _ (y_bin rfl rfl rfl (fun _ => b_neq)) ?_
      refine S_ 32 rfl rfl rfl _ (y_move rfl rfl) ?_
      refine Sg_ 33 rfl rfl rfl rfl rfl rfl _ (y_move rfl rfl) ?_
      refine Sg_ 34 rfl rfl rfl rfl rfl rfl _ (y_bin rfl rfl rfl (fun _ => b_neqpN Tryz.underlying55)) ?_
      refine Sg_ 35 rfl rfl rfl rfl rfl rfl _ (y_move rfl rfl) ?_
      refine Sg_ 36 rfl rfl rfl rfl rfl rfl _ (y_bin rfl rfl rfl (fun _ => b_eql)) ?_
      refine Sg_ 37 rfl rfl rfl rfl rfl rfl _ (y_bin rfl rfl rfl (fun _ => b_neqb Tryz.underlying4)) ?_
      refine S_ 38 rfl rfl rfl _ (y_or rfl rfl rfl) ?_
      refine S_go (fun _ _ h => h) ?_
      refine T_cond rfl (fun h38 => ?_) (fun h38 => ?_)
      · skip
        simp [h0] at h38
      · skip
        refine T_skip_go (fun _ _ h => h) ?_
        refine T_seq ?_
        refine T_region ?_
        refine S_ 39 rfl rfl rfl _ (y_move rfl rfl) ?_
        refine S_ 40 rfl rfl rfl _ (y_as (v' := .bool true) (by simp) (y_bin rfl rfl rfl (fun _ => b_eqlp Tryz.underlying55))) ?_
        refine S_ 41 rfl rfl rfl _ (y_move rfl rfl) ?_
        refine S_skipB 42 rfl rfl rfl rfl rfl rfl rfl ?_
        refine S_skipB 43 rfl rfl rfl rfl rfl rfl rfl ?_
        refine S_skipB 44 rfl rfl rfl rfl rfl rfl rfl ?_
        refine S_skipB 45 rfl rfl rfl rfl rfl rfl rfl ?_
        refine S_skipB 46 rfl rfl rfl rfl rfl rfl rfl ?_
        refine S_skipB 47 rfl rfl rfl rfl rfl rfl rfl ?_
        refine S_skipB 48 rfl rfl rfl rfl rfl rfl rfl ?_
        refine S_skipB 49 rfl rfl rfl rfl rfl rfl rfl ?_
        refine S_skipB 50 rfl rfl rfl rfl rfl rfl rfl ?_
        refine S_skipB 51 rfl rfl rfl rfl rfl rfl rfl ?_
        refine S_skipB 52 rfl rfl rfl rfl rfl rfl rfl ?_
        refine S_skipB 53 rfl rfl rfl rfl rfl rfl rfl ?_
        refine S_skipB 54 rfl rfl rfl rfl rfl rfl rfl ?_
        refine S_skipB 55 rfl rfl rfl rfl rfl rfl rfl ?_
        refine S_skipB 56 rfl rfl rfl rfl rfl rfl rfl ?_
        refine S_skipB 57 rfl rfl rfl rfl rfl rfl rfl ?_
        refine S_ 58 rfl rfl rfl _ (y_pickT rfl rfl rfl) ?_
        refine S_ 4 rfl rfl rfl _ (y_assign rfl rfl) ?_
        refine S_go (fun _ _ h => h) ?_
        refine T_ret (fun a w hF hM => hRb a w (post1 rfl rfl (fun w hM => ?_) a w hF hM))
        exact ⟨rfl, hM.below⟩
    · skip
      have hsf := new_f (s := s) h19
      rw [hsf]
      refine T_skip_go (fun _ _ h => h) ?_
      refine T_seq ?_
      refine T_region ?_
      refine S_ 24 rfl rfl rfl _ (y_loadA 2 rfl rfl rfl Tryz.underlying52 rfl sz52) ?_
      refine S_ 25 rfl rfl rfl _ (y_move rfl rfl) ?_
      refine S_ 26 rfl rfl rfl _ (y_call rfl rfl rfl cf23 (fun _ w1 hM => NewF_any s at_ w1 (hs.below hM.below) h0)) ?_
      refine S_ 23 rfl rfl rfl _ (y_move rfl rfl) ?_
      refine S_ 27 rfl rfl rfl _ (y_extract rfl rfl rfl) ?_
      refine S_ 28 rfl rfl rfl _ (y_extract rfl rfl rfl) ?_
      refine S_ 6 rfl rfl rfl _ (y_assign rfl rfl) ?_
      refine S_ 7 rfl rfl rfl _ (y_assign rfl rfl) ?_
      refine S_go (fun _ _ h => h) ?_
      refine T_seq ?_
      refine T_seq ?_
      refine T_region ?_
      refine S_ 29 rfl rfl rfl _ (y_move rfl rfl) ?_
      refine S_ 30 rfl rfl rfl _ (y_move rfl rfl) ?_
      refine S_ 31 rfl rfl rfl _ (y_bin rfl rfl rfl (fun _ => b_neq)) ?_
      refine S_ 32 rfl rfl rfl _ (y_move rfl rfl) ?_
      refine Sg_ 33 rfl rfl rfl rfl rfl rfl _ (y_move rfl rfl) ?_
      refine Sg_ 34 rfl rfl rfl rfl rfl rfl _ (y_bin rfl rfl rfl (fun _ => b_neqpN Tryz.underlying55)) ?_
      refine Sg_ 35 rfl rfl rfl rfl rfl rfl _ (y_move rfl rfl) ?_
      refine Sg_ 36 rfl rfl rfl rfl rfl rfl _ (y_bin rfl rfl rfl (fun _ => b_eql)) ?_
      refine Sg_ 37 rfl rfl rfl rfl rfl rfl _ (y_bin rfl rfl rfl (fun _ => b_neqb Tryz.underlying4)) ?_
      refine S_ 38 rfl rfl rfl _ (y_or rfl rfl rfl) ?_
      refine S_go (fun _ _ h => h) ?_
      refine T_cond rfl (fun h38 => ?_) (fun h38 => ?_)
      · skip
        simp [h0] at h38
      · skip
        refine T_skip_go (fun _ _ h => h) ?_
        refine T_seq ?_
        refine T_region ?_
        refine S_ 39 rfl rfl rfl _ (y_move rfl rfl) ?_
        refine S_ 40 rfl rfl rfl _ (y_as (v' := .bool true) (by simp) (y_bin rfl rfl rfl (fun _ => b_eqlp Tryz.underlying55))) ?_
        refine S_ 41 rfl rfl rfl _ (y_move rfl rfl) ?_
        refine S_skipB 42 rfl rfl rfl rfl rfl rfl rfl ?_
        refine S_skipB 43 rfl rfl rfl rfl rfl rfl rfl ?_
        refine S_skipB 44 rfl rfl rfl rfl rfl rfl rfl ?_
        refine S_skipB 45 rfl rfl rfl rfl rfl rfl rfl ?_
        refine S_skipB 46 rfl rfl rfl rfl rfl rfl rfl ?_
        refine S_skipB 47 rfl rfl rfl rfl rfl rfl rfl ?_
        refine S_skipB 48 rfl rfl rfl rfl rfl rfl rfl ?_
        refine S_skipB 49 rfl rfl rfl rfl rfl rfl rfl ?_
        refine S_skipB 50 rfl rfl rfl rfl rfl rfl rfl ?_
        refine S_skipB 51 rfl rfl rfl rfl rfl rfl rfl ?_
        refine S_skipB 52 rfl rfl rfl rfl rfl rfl rfl ?_
        refine S_skipB 53 rfl rfl rfl rfl rfl rfl rfl ?_
        refine S_skipB 54 rfl rfl rfl rfl rfl rfl rfl ?_
        refine S_skipB 55 rfl rfl rfl rfl rfl rfl rfl ?_
        refine S_skipB 56 rfl rfl rfl rfl rfl rfl rfl ?_
        refine S_skipB 57 rfl rfl rfl rfl rfl rfl rfl ?_
        refine S_ 58 rfl rfl rfl _ (y_pickT rfl rfl rfl) ?_
        refine S_ 4 rfl rfl rfl _ (y_assign rfl rfl) ?_
        refine S_go (fun _ _ h => h) ?_
        refine T_ret (fun a w hF hM => hRb a w (post1 rfl rfl (fun w hM => ?_) a w hF hM))
        exact ⟨rfl, hM.below⟩
/-- no fault: a house without groups and releases -/
theorem DeskT_any (s : SSt) (at_ : Int) (w : World) (hs : StOk w s) (h0 : newNo s at_ = 0) :
    Calls Tryz.prog 5 #[s.val, .int .i64 at_] w fun en w' => en = .returned (.bool true) ∧ Below w.heap.size w w' := by
  obtain ⟨h1, h2⟩ := fst_0D h0
  have h2 : outI at_ 0 3155759999 = false := by
    cases h : outI at_ 0 3155759999 with
    | false => rfl
    | true => rw [h] at h2; cases h2
  refine enter_args (args := [.agg #[.slice s.cl.A s.cl.q s.cl.c, .slice s.gr.A s.gr.q s.gr.c, .slice s.qt.A s.qt.q s.qt.c, .slice s.rt.A s.rt.q s.rt.c, .slice s.al.A s.al.q s.al.c, .int .i64 s.m, .int .i64 s.wt, .int .i64 s.ag, .int .i64 s.tr, .slice s.ow.A s.ow.q s.ow.c, .int .i64 s.ds], .int .i64 at_]) (F := _) Tryz.func5 rfl Tryz.ntmps5 rfl rfl ?_
  intro Rb hRb hRn
  refine T_seq ?_
  refine T_region ?_
  refine S_box 2 2 rfl rfl rfl rfl rfl ?_
  intro b2
  refine S_ 4 rfl rfl rfl _ (y_assign rfl rfl) ?_
  refine S_go (fun _ _ h => h) ?_
  refine T_seq ?_
  refine T_region ?_
  refine S_ 8 rfl rfl rfl _ (y_loadA 2 rfl rfl rfl Tryz.underlying52 rfl sz52) ?_
  refine S_ 9 rfl rfl rfl _ (y_as (v' := .int .i64 0) (by rw [h1]) (y_call rfl rfl rfl cf20 (fun _ w1 hM => SetupFault_any s w1 (hs.below hM.below)))) ?_
  refine S_ 5 rfl rfl rfl _ (y_assign rfl rfl) ?_
  refine S_go (fun _ _ h => h) ?_
  refine T_seq ?_
  refine T_seq ?_
  refine T_region ?_
  refine S_ 10 rfl rfl rfl _ (y_loadA 2 rfl rfl rfl Tryz.underlying52 rfl sz52) ?_
  refine S_ 11 rfl rfl rfl _ (y_call rfl rfl rfl cf21 (fun _ w1 hM => dkCheck_any s w1 (hs.below hM.below))) ?_
  refine S_ 12 rfl rfl rfl _ (y_move rfl rfl) ?_
  refine S_ 13 rfl rfl rfl _ (y_bin rfl rfl rfl (fun _ => b_neq)) ?_
  refine S_go (fun _ _ h => h) ?_
  refine T_cond rfl (fun h13 => ?_) (fun h13 => ?_)
  · skip
    simp [h1] at h13
  · skip
    refine T_skip_go (fun _ _ h => h) ?_
    refine T_seq ?_
    refine T_seq ?_
    refine T_region ?_
    refine S_ 14 rfl rfl rfl _ (y_move rfl rfl) ?_
    refine S_ 15 rfl rfl rfl _ (y_bin rfl rfl rfl (fun _ => b_lss)) ?_
    refine S_ 16 rfl rfl rfl _ (y_move rfl rfl) ?_
    refine Sg_ 17 rfl rfl rfl rfl rfl rfl _ (y_move rfl rfl) ?_
    refine Sg_ 18 rfl rfl rfl rfl rfl rfl _ (y_bin rfl rfl rfl (fun _ => b_gtr)) ?_
    refine S_ 19 rfl rfl rfl _ (y_as (v' := .bool (outI at_ 0 3155759999)) (by exact rfl) (y_or rfl rfl rfl)) ?_
    refine S_go (fun _ _ h => h) ?_
    refine T_cond rfl (fun h19 => ?_) (fun h19 => ?_)
    · skip
      rw [h2] at h19; cases h19
    · skip
      refine T_skip_go (fun _ _ h => h) ?_
      refine T_seq ?_
      refine T_region ?_
      refine S_ 24 rfl rfl rfl _ (y_loadA 2 rfl rfl rfl Tryz.underlying52 rfl sz52) ?_
      refine S_ 25 rfl rfl rfl _ (y_move rfl rfl) ?_
      refine S_callN 26 [] [(25, 925), (902, 902), (903, 903), (23, 923)] (X := HoR) rfl rfl rfl rfl rfl rfl rfl cf23 rfl (fun z => .tuple #[.pointer (some ⟨z.h, 0, none⟩), .int .i64 0]) (fun _ => True) (fun z => z.L at_) (fun _ => rfl) (fun _ => rfl) (fun K1 hK1 w1 hM => New_any hK1 s at_ w1 hs h0 hM) ?_
      intro z hz
      refine S_ 23 rfl rfl rfl _ (y_move rfl rfl) ?_
      refine S_ 27 rfl rfl rfl _ (y_extract rfl rfl rfl) ?_
      refine S_ 28 rfl rfl rfl _ (y_extract rfl rfl rfl) ?_
      refine S_ 6 rfl rfl rfl _ (y_assign rfl rfl) ?_
      refine S_ 7 rfl rfl rfl _ (y_assign rfl rfl) ?_
      refine S_go (fun _ _ h => h) ?_
      refine T_seq ?_
      refine T_seq ?_
      refine T_region ?_
      refine S_ 29 rfl rfl rfl _ (y_move rfl rfl) ?_
      refine S_ 30 rfl rfl rfl _ (y_move rfl rfl) ?_
      refine S_ 31 rfl rfl rfl _ (y_bin rfl rfl rfl (fun _ => b_neq)) ?_
      refine S_ 32 rfl rfl rfl _ (y_move rfl rfl) ?_
      refine Sg_ 33 rfl rfl rfl rfl rfl rfl _ (y_move rfl rfl) ?_
      refine Sg_ 34 rfl rfl rfl rfl rfl rfl _ (y_bin rfl rfl rfl (fun _ => b_neqpN Tryz.underlying55)) ?_
      refine Sg_ 35 rfl rfl rfl rfl rfl rfl _ (y_move rfl rfl) ?_
      refine Sg_ 36 rfl rfl rfl rfl rfl rfl _ (y_bin rfl rfl rfl (fun _ => b_eql)) ?_
      refine Sg_ 37 rfl rfl rfl rfl rfl rfl _ (y_bin rfl rfl rfl (fun _ => b_neqb Tryz.underlying4)) ?_
      refine S_ 38 rfl rfl rfl _ (y_or rfl rfl rfl) ?_
      refine S_go (fun _ _ h => h) ?_
      refine T_cond rfl (fun h38 => ?_) (fun h38 => ?_)
      · skip
        simp at h38
      · skip
        refine T_skip_go (fun _ _ h => h) ?_
        refine T_seq ?_
        refine T_region ?_
        refine S_ 39 rfl rfl rfl _ (y_move rfl rfl) ?_
        refine S_ 40 rfl rfl rfl _ (y_bin rfl rfl rfl (fun _ => b_eqlp Tryz.underlying55)) ?_
        refine S_ 41 rfl rfl rfl _ (y_move rfl rfl) ?_
        refine Sg_ 42 rfl rfl rfl rfl rfl rfl _ (y_move rfl rfl) ?_
        refine S_unguard rfl rfl rfl rfl rfl ?_
        refine S_callM 43 [(901, 925)] (X := Unit) rfl rfl rfl rfl rfl rfl rfl cf24 rfl (fun _ => .int .i64 at_) (fun _ => True) (fun _ => [(901, hoI z at_)]) (fun _ => rfl) (fun _ => rfl) (fun K1 hK1 w1 hM => At_any hK1 z at_ w1 hM) ?_
        intro x43 hx43
        refine Sg_ 44 rfl rfl rfl rfl rfl rfl _ (y_move rfl rfl) ?_
        refine Sg_ 45 rfl rfl rfl rfl rfl rfl _ (y_as (v' := .bool true) (by simp) (y_bin rfl rfl rfl (fun _ => b_eql))) ?_
        refine Sg_ 46 rfl rfl rfl rfl rfl rfl _ (y_move rfl rfl) ?_
        refine Sg_ 47 rfl rfl rfl rfl rfl rfl _ (y_move rfl rfl) ?_
        refine S_unguard rfl rfl rfl rfl rfl ?_
        refine S_callM 48 [(901, 925), (902, 902), (903, 903)] (X := (Array MapEntry × Nat)) rfl rfl rfl rfl rfl rfl rfl cf25 rfl (fun _ => .slice none 0 0) (fun _ => True) (fun y => [(901, hoI z at_), (902, bkI z.b z.m), (903, esI z.m y)]) (fun _ => rfl) (fun _ => rfl) (fun K1 hK1 w1 hM => HGroups_any hK1 z at_ w1 hM) ?_
        intro x48 hx48
        refine Sg_ 49 rfl rfl rfl rfl rfl rfl _ (y_len_slice rfl rfl Tryz.underlying59) ?_
        refine Sg_ 50 rfl rfl rfl rfl rfl rfl _ (y_bin rfl rfl rfl (fun _ => b_eql)) ?_
        refine Sg_ 51 rfl rfl rfl rfl rfl rfl _ (y_as (v' := .bool true) (by simp) (y_and rfl rfl rfl)) ?_
        refine Sg_ 52 rfl rfl rfl rfl rfl rfl _ (y_move rfl rfl) ?_
        refine Sg_ 53 rfl rfl rfl rfl rfl rfl _ (y_move rfl rfl) ?_
        refine S_unguard rfl rfl rfl rfl rfl ?_
        refine S_callM 54 [(901, 925), (904, 923)] (X := (Array MapEntry × Nat)) rfl rfl rfl rfl rfl rfl rfl cf26 rfl (fun _ => .slice none 0 0) (fun _ => True) (fun y => [(901, hoI z at_), (904, esI z.r y)]) (fun _ => rfl) (fun _ => rfl) (fun K1 hK1 w1 hM => Releases_any hK1 z at_ w1 hM) ?_
        intro x54 hx54
        refine Sg_ 55 rfl rfl rfl rfl rfl rfl _ (y_len_slice rfl rfl Tryz.underlying41) ?_
        refine Sg_ 56 rfl rfl rfl rfl rfl rfl _ (y_bin rfl rfl rfl (fun _ => b_eql)) ?_
        refine Sg_ 57 rfl rfl rfl rfl rfl rfl _ (y_and rfl rfl rfl) ?_
        refine S_ 58 rfl rfl rfl _ (y_as (v' := .bool true) (by simp) (y_or rfl rfl rfl)) ?_
        refine S_ 4 rfl rfl rfl _ (y_assign rfl rfl) ?_
        refine S_go (fun _ _ h => h) ?_
        refine T_ret (fun a w hF hM => hRb a w (post1 rfl rfl (fun w hM => ?_) a w hF hM))
        exact ⟨rfl, hM.below⟩
theorem DeskChecks_any (s : SSt) (at_ : Int) (w : World) (hs : StOk w s) :
    Calls Tryz.prog 5 #[s.val, .int .i64 at_] w fun en w' => en = .returned (.bool true) ∧ Below w.heap.size w w' := by
  by_cases h : newNo s at_ = 0
  · exact DeskT_any s at_ w hs h
  · exact DeskF_any s at_ w hs h
end Go.Proofs.YtdcbiepoghdanaaGreatDoor
end
section
namespace Go.Proofs.YtdcbiepoghdanaaGreatDoor
set_option linter.unusedSimpArgs false
set_option linter.unusedVariables false
set_option maxRecDepth 20000
open Go.RowKit Go.Eng
section
variable {H : Type} {enc : TypeId × Value → H} {w : World}
def IntOk (n : Int) : Prop := (Lit.int .i64 n).wf = true
def ShortS (s : List UInt8) : Prop := s.length ≤ reachBytes
theorem reach_len : reachBytes ≤ 4611686018427387904 := by decide
def strEnc (l : List UInt8) : List Value := [str l]
theorem op_s : Opn enc Tryz.prog w 9 strEnc ShortS (fun l d => d = .lit (.string l)) := opn_str Tryz.underlying9
theorem op_i : Opn enc Tryz.prog w 3 (fun n : Int => [Value.int .i64 n]) IntOk (fun n d => d = .lit (.int .i64 n)) := opn_int Tryz.underlying3
theorem op_b : Opn enc Tryz.prog w 4 (fun b : Bool => [Value.bool b]) (fun _ => True) (fun b d => d = .lit (.bool b)) := opn_bool Tryz.underlying4
def slV {X : Type} (s : Sl X) : List Value := [.slice s.A s.q s.c]
end
end Go.Proofs.YtdcbiepoghdanaaGreatDoor
end
section
namespace Go.Proofs.YtdcbiepoghdanaaGreatDoor
set_option linter.unusedSimpArgs false
set_option linter.unusedVariables false
set_option maxRecDepth 20000
open Go.RowKit Go.Eng
section
variable {H : Type} {enc : TypeId × Value → H} {w : World}
theorem op_rl : Opn enc Tryz.prog w 150 SRl.enc (fun r => r.nm.length ≤ 4611686018427387904 ∧ r.tx.length ≤ 4611686018427387904) (fun _ _ => True) :=
  (opn_struct Tryz.underlying150 co150 (opf_cons op_i rfl co3 (opf_cons op_s rfl co9 (opf_cons op_i rfl co3 (opf_cons op_i rfl co3 (opf_cons op_s rfl co9 (opf_cons op_i rfl co3 opf_nil))))))).map
    (fun p => (⟨p.1, p.2.1, p.2.2.1, p.2.2.2.1, p.2.2.2.2.1, p.2.2.2.2.2.1⟩ : SRl)) (fun _ => rfl) (fun p ⟨_, h2, _, _, h5, _⟩ => ⟨Nat.le_trans h2 reach_len, Nat.le_trans h5 reach_len⟩) (fun _ _ _ => trivial)
theorem op_mt : Opn enc Tryz.prog w 156 SMt.enc (fun m => m.gl.length ≤ 4611686018427387904) (fun _ _ => True) :=
  (opn_struct Tryz.underlying156 co156 (opf_cons op_i rfl co3 (opf_cons op_b rfl co4 (opf_cons op_s rfl co9 opf_nil)))).map
    (fun p => (⟨p.1, p.2.1, p.2.2.1⟩ : SMt)) (fun _ => rfl) (fun p ⟨_, _, h3, _⟩ => Nat.le_trans h3 reach_len) (fun _ _ _ => trivial)
theorem op_ac : Opn enc Tryz.prog w 158 SAc.enc (fun a => a.tx.length ≤ 4611686018427387904) (fun _ _ => True) :=
  (opn_struct Tryz.underlying158 co158 (opf_cons op_i rfl co3 (opf_cons op_i rfl co3 (opf_cons op_s rfl co9 opf_nil)))).map
    (fun p => (⟨p.1, p.2.1, p.2.2.1⟩ : SAc)) (fun _ => rfl) (fun p ⟨_, _, h3, _⟩ => Nat.le_trans h3 reach_len) (fun _ _ _ => trivial)
theorem op_mts : Opn enc Tryz.prog w 151 slV (fun s : Sl SMt => s.Ok SMt.enc 3 w ∧ s.q ≤ 4611686018427387904 ∧ ∀ m ∈ s.l, m.gl.length ≤ 4611686018427387904) (fun _ _ => True) :=
  (opn_slice Tryz.underlying151 co156 (by decide) (by rw [bo156]; decide) (fun _ => rfl) op_mt).map (fun s => s) (fun _ => rfl) (fun s h => ⟨h.1, Nat.le_trans h.2.1 reach_len, h.2.2⟩) (fun _ _ _ => trivial)
theorem op_acs : Opn enc Tryz.prog w 152 slV (fun s : Sl SAc => s.Ok SAc.enc 3 w ∧ s.q ≤ 4611686018427387904 ∧ ∀ a ∈ s.l, a.tx.length ≤ 4611686018427387904) (fun _ _ => True) :=
  (opn_slice Tryz.underlying152 co158 (by decide) (by rw [bo158]; decide) (fun _ => rfl) op_ac).map (fun s => s) (fun _ => rfl) (fun s h => ⟨h.1, Nat.le_trans h.2.1 reach_len, h.2.2⟩) (fun _ _ _ => trivial)
theorem op_gr : Opn enc Tryz.prog w 154 SGr.enc (GrOk w) (fun _ _ => True) :=
  (opn_struct Tryz.underlying154 co154 (opf_cons op_mts rfl co151 (opf_cons op_acs rfl co152 opf_nil))).map
    (fun p => (⟨p.1, p.2.1⟩ : SGr)) (fun _ => rfl) (fun p ⟨⟨h1, h2, h3⟩, ⟨h4, h5, h6⟩, _⟩ => ⟨h1, h2, h3, h4, h5, h6⟩) (fun _ _ _ => trivial)
theorem op_buc : Opn enc Tryz.prog w 160 (fun p : Int × Int × Int => [.int .i64 p.1, .int .i64 p.2.1, .int .i64 p.2.2]) (fun _ => True) (fun _ _ => True) :=
  (opn_struct Tryz.underlying160 co160 (opf_cons op_i rfl co3 (opf_cons op_i rfl co3 (opf_cons op_i rfl co3 opf_nil)))).map
    (fun p => (p.1, p.2.1, p.2.2.1)) (fun _ => rfl) (fun _ _ => trivial) (fun _ _ _ => trivial)
theorem op_qt : Opn enc Tryz.prog w 162 SQt.enc (fun q => q.nm.length ≤ 4611686018427387904 ∧ q.ky.length ≤ 4611686018427387904) (fun _ _ => True) :=
  (opn_struct Tryz.underlying162 co162 (opf_cons op_s rfl co9 (opf_cons op_s rfl co9 (opf_cons op_buc rfl co160 opf_nil)))).map
    (fun p => (⟨p.1, p.2.1, p.2.2.1.1, p.2.2.1.2.1, p.2.2.1.2.2⟩ : SQt)) (fun _ => rfl) (fun p ⟨h1, h2, _⟩ => ⟨Nat.le_trans h1 reach_len, Nat.le_trans h2 reach_len⟩) (fun _ _ _ => trivial)
theorem op_rt : Opn enc Tryz.prog w 167 SRt.enc (fun r => r.ky.length ≤ 4611686018427387904) (fun _ _ => True) :=
  (opn_struct Tryz.underlying167 co167 (opf_cons op_s rfl co9 (opf_cons op_i rfl co3 opf_nil))).map
    (fun p => (⟨p.1, p.2.1⟩ : SRt)) (fun _ => rfl) (fun p ⟨h1, _⟩ => Nat.le_trans h1 reach_len) (fun _ _ _ => trivial)
theorem op_al : Opn enc Tryz.prog w 171 SAl.enc (fun q => q.nm.length ≤ 4611686018427387904 ∧ q.ky.length ≤ 4611686018427387904) (fun _ _ => True) :=
  (opn_struct Tryz.underlying171 co171 (opf_cons op_s rfl co9 (opf_cons op_s rfl co9 (opf_cons op_i rfl co3 (opf_cons op_i rfl co3 (opf_cons op_i rfl co3 (opf_cons op_i rfl co3 (opf_cons op_i rfl co3 opf_nil)))))))).map
    (fun p => (⟨p.1, p.2.1, p.2.2.1, p.2.2.2.1, p.2.2.2.2.1, p.2.2.2.2.2.1, p.2.2.2.2.2.2.1⟩ : SAl)) (fun _ => rfl) (fun p ⟨h1, h2, _⟩ => ⟨Nat.le_trans h1 reach_len, Nat.le_trans h2 reach_len⟩) (fun _ _ _ => trivial)
theorem op_pln : Opn enc Tryz.prog w 49 (fun p : Int × Int × Int × Int => [.int .i64 p.1, .int .i64 p.2.1, .int .i64 p.2.2.1, .int .i64 p.2.2.2]) (fun _ => True) (fun _ _ => True) :=
  (opn_struct Tryz.underlying49 co49 (opf_cons op_i rfl co3 (opf_cons op_i rfl co3 (opf_cons op_i rfl co3 (opf_cons op_i rfl co3 opf_nil))))).map
    (fun p => (p.1, p.2.1, p.2.2.1, p.2.2.2.1)) (fun _ => rfl) (fun _ _ => trivial) (fun _ _ _ => trivial)
theorem op_strsD : Opn enc Tryz.prog w 41 slV (fun s : Sl (List UInt8) => s.Ok strE 1 w ∧ s.q ≤ 4611686018427387904) (fun _ _ => True) :=
  (opn_slice Tryz.underlying41 co9 (by decide) (by rw [bo9]; decide) (fun _ => rfl) op_s).map (fun s => s) (fun _ => rfl) (fun s h => ⟨h.1, Nat.le_trans h.2.1 reach_len⟩) (fun _ _ _ => trivial)
theorem op_ownerD : Opn enc Tryz.prog w 175 SOwner.enc (OwnOk w) (fun _ _ => True) :=
  (opn_struct Tryz.underlying175 co175 (opf_cons op_s rfl co9 (opf_cons op_strsD rfl co41 opf_nil))).map
    (fun p => (⟨p.1, p.2.1⟩ : SOwner)) (fun _ => rfl) (fun p ⟨h1, ⟨h2, h3⟩, _⟩ => ⟨Nat.le_trans h1 reach_len, h2, h3⟩) (fun _ _ _ => trivial)
theorem op_rls : Opn enc Tryz.prog w 43 slV (RlsOk w) (fun _ _ => True) :=
  (opn_slice Tryz.underlying43 co150 (by decide) (by rw [bo150]; decide) (fun _ => rfl) op_rl).map (fun s => s) (fun _ => rfl) (fun s h => ⟨h.1, Nat.le_trans h.2.1 reach_len, h.2.2⟩) (fun _ _ _ => trivial)
theorem op_grs : Opn enc Tryz.prog w 44 slV (GrsOk w) (fun _ _ => True) :=
  (opn_slice Tryz.underlying44 co154 (by decide) (by rw [bo154]; decide) (fun _ => rfl) op_gr).map (fun s => s) (fun _ => rfl) (fun s h => ⟨h.1, Nat.le_trans h.2.1 reach_len, h.2.2⟩) (fun _ _ _ => trivial)
theorem op_qts : Opn enc Tryz.prog w 45 slV (QtsOk w) (fun _ _ => True) :=
  (opn_slice Tryz.underlying45 co162 (by decide) (by rw [bo162]; decide) (fun _ => rfl) op_qt).map (fun s => s) (fun _ => rfl) (fun s h => ⟨h.1, Nat.le_trans h.2.1 reach_len, h.2.2⟩) (fun _ _ _ => trivial)
theorem op_rts : Opn enc Tryz.prog w 46 slV (RtsOk w) (fun _ _ => True) :=
  (opn_slice Tryz.underlying46 co167 (by decide) (by rw [bo167]; decide) (fun _ => rfl) op_rt).map (fun s => s) (fun _ => rfl) (fun s h => ⟨h.1, Nat.le_trans h.2.1 reach_len, h.2.2⟩) (fun _ _ _ => trivial)
theorem op_als : Opn enc Tryz.prog w 47 slV (AlsOk w) (fun _ _ => True) :=
  (opn_slice Tryz.underlying47 co171 (by decide) (by rw [bo171]; decide) (fun _ => rfl) op_al).map (fun s => s) (fun _ => rfl) (fun s h => ⟨h.1, Nat.le_trans h.2.1 reach_len, h.2.2⟩) (fun _ _ _ => trivial)
theorem op_ows : Opn enc Tryz.prog w 50 slV (OwnsOk w) (fun _ _ => True) :=
  (opn_slice Tryz.underlying50 co175 (by decide) (by rw [bo175]; decide) (fun _ => rfl) op_ownerD).map (fun s => s) (fun _ => rfl) (fun s h => ⟨h.1, Nat.le_trans h.2.1 reach_len, h.2.2⟩) (fun _ _ _ => trivial)
theorem op_setup : Opn enc Tryz.prog w 52 SSt.enc (StOk w) (fun _ _ => True) :=
  (opn_struct Tryz.underlying52 co52 (opf_cons op_rls rfl co43 (opf_cons op_grs rfl co44 (opf_cons op_qts rfl co45 (opf_cons op_rts rfl co46 (opf_cons op_als rfl co47 (opf_cons op_pln rfl co49 (opf_cons op_ows rfl co50 (opf_cons op_i rfl co3 opf_nil))))))))).map
    (fun p => (⟨p.1, p.2.1, p.2.2.1, p.2.2.2.1, p.2.2.2.2.1, p.2.2.2.2.2.1.1, p.2.2.2.2.2.1.2.1, p.2.2.2.2.2.1.2.2.1, p.2.2.2.2.2.1.2.2.2, p.2.2.2.2.2.2.1, p.2.2.2.2.2.2.2.1⟩ : SSt)) (fun _ => rfl)
    (fun p ⟨h1, h2, h3, h4, h5, _, h6, _⟩ => ⟨h1, h2, h3, h4, h5, h6⟩) (fun _ _ _ => trivial)
end
end Go.Proofs.YtdcbiepoghdanaaGreatDoor
end
section
namespace Go.Proofs.YtdcbiepoghdanaaGreatDoor
set_option linter.unusedSimpArgs false
set_option linter.unusedVariables false
set_option maxRecDepth 20000
open Go.ChangeShapes Go.WideShapes Go.RowKit
theorem ownNone : ownKnob Tryz.prog.godebug = none := by kernel_rfl
theorem laidOut : laidOutB Tryz.prog = true := by kernel_rfl
def firstCells : Array Value := (Go.Pinned.utf8FirstZ.map fun n : Nat => Value.int .u8 (n : Int)).toArray
def tabCells (k : IntKind) (zs : List Int) : Array Value := (zs.map fun n => Value.int k n).toArray
def rangeZ : List Int := [128, 191, 160, 191, 128, 159, 144, 191, 128, 143, 0, 0, 0, 0, 0, 0, 0, 0, 0, 0, 0, 0, 0, 0, 0, 0, 0, 0, 0, 0, 0, 0]
def tz32Z : List Int := [0, 1, 28, 2, 29, 14, 24, 3, 30, 22, 20, 15, 25, 17, 4, 8, 31, 27, 13, 23, 21, 19, 16, 7, 26, 12, 18, 6, 11, 5, 10, 9]
def tz64Z : List Int := [0, 1, 56, 2, 57, 49, 28, 3, 61, 58, 42, 50, 38, 29, 17, 4, 62, 47, 59, 36, 45, 43, 51, 22, 53, 39, 33, 30, 24, 18, 12, 5, 63, 55, 48, 27, 60, 41, 37, 16, 46, 35, 44, 21, 52, 32, 23, 11, 54, 26, 40, 15, 34, 20, 31, 10, 25, 14, 19, 9, 13, 8, 7, 6]
def pow10Z : List Int := [1, 10, 100, 1000, 10000, 100000, 1000000, 10000000, 100000000, 1000000000, 10000000000, 100000000000, 1000000000000, 10000000000000, 100000000000000, 1000000000000000, 10000000000000000, 100000000000000000, 1000000000000000000, 10000000000000000000]
def layCells (cs : Array Value) : Obj → Obj
  | .cells _ t frozen => .cells cs t frozen
  | o => o
noncomputable def low2 : Nat := (World.holding Tryz.prog default ⟨#[], #[], []⟩).heap.size
def rangeT : List UInt8 := [118, 97, 108, 117, 101, 32, 111, 117, 116, 32, 111, 102, 32, 114, 97, 110, 103, 101]
def syntaxT : List UInt8 := [105, 110, 118, 97, 108, 105, 100, 32, 115, 121, 110, 116, 97, 120]
noncomputable def laidWorld2 (os : Os) (args : Array Value) : World :=
  { World.holding Tryz.prog os ⟨#[.cells #[.string ⟨rangeT.toArray⟩] 405, .cells #[.string ⟨syntaxT.toArray⟩] 405], args, []⟩ with heap := (((((((World.holding Tryz.prog os ⟨#[.cells #[.string ⟨rangeT.toArray⟩] 405, .cells #[.string ⟨syntaxT.toArray⟩] 405], args, []⟩).heap.modify 3 (layCells firstCells)).modify 4 (layCells (tabCells .u8 rangeZ))).modify 7 (layCells (tabCells .u8 tz32Z))).modify 8 (layCells (tabCells .u8 tz64Z))).modify 2 (layCells (tabCells .u64 pow10Z))).modify 6 (layCells #[.iface 403 (.pointer (some ⟨low2, 0, none⟩))])).modify 5 (layCells #[.iface 403 (.pointer (some ⟨low2 + 1, 0, none⟩))]) }
end Go.Proofs.YtdcbiepoghdanaaGreatDoor
end
