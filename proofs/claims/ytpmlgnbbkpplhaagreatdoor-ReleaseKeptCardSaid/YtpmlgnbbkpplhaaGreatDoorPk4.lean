/- Part 4, merged by a program. The law ReleaseKept walked. Conditions: those of the theorem. Events opened: from the form's reading to 'Evt.Ok'. No condition. A world in which the listed tables of Go's hold what their text says, and what a row's condition says of the table of trailing noughts. No condition. A world in which the listed tables hold what their text says, and the two errors of strconv lie as their initialisers lay them. No condition. -/
import Derived.Test.YtpmlgnbbkpplhaaGreatDoorOpen
import Derived.Test.YtpmlgnbbkpplhaaGreatDoorCards
import Derived.Test.YtpmlgnbbkpplhaaGreatDoorTie
import Derived.Deep.DeepHandedRow
import Derived.Lib.LaidTab
import Derived.Stop.LaidErr
import Derived.ProofKit
import Derived.OpenShut
import Derived.Test.YtpmlgnbbkpplhaaGreatDoorPk3
section
namespace Go.Proofs.YtpmlgnbbkpplhaaGreatDoor
set_option linter.unusedSimpArgs false
set_option linter.unusedVariables false
set_option maxRecDepth 20000
open Go.RowKit Go.Eng
def stRes (at_ : Int) (inn : List UInt8) : PSt := ⟨2, at_, inn, false, -1, -1, -1, 0⟩
def stIgn (at_ : Int) : PSt := ⟨3, at_, [], false, -1, -1, -1, 0⟩
theorem kept_res {at_ eat : Int} {inn rel : List UInt8} {vs : List PVer} (h1 : relOk inn = true) (h2 : relOk rel = true) (h3 : (verV rel).p = (verV inn).p) : comesB (stRes at_ inn) eat rel vs = decide (0 ≤ cmpV (verV rel) (verV inn)) := by
  show (if relOk inn = false then decide (at_ < eat) else if (relOk rel && decide ((verV rel).p = (verV inn).p)) = true then decide (0 < cmpV (verV rel) (verV inn)) || decide (cmpV (verV rel) (verV inn) = 0) && !false else decide (at_ < eat) && vs.any fun v => beyB (verV inn) v false) = _
  rw [if_neg (by rw [h1]; simp), if_pos (by rw [h2, decide_eq_true h3]; rfl)]
  by_cases h : 0 ≤ cmpV (verV rel) (verV inn)
  · rw [decide_eq_true h]
    by_cases h4 : 0 < cmpV (verV rel) (verV inn)
    · simp [h4]
    · simp [show cmpV (verV rel) (verV inn) = 0 by omega]
  · rw [decide_eq_false h, decide_eq_false (show ¬ 0 < cmpV (verV rel) (verV inn) by omega), decide_eq_false (show ¬ cmpV (verV rel) (verV inn) = 0 by omega)]; rfl
theorem kept_no {at_ : Int} {inn : List UInt8} (h : stNo (stRes at_ inn) = 0) : stNo (stIgn at_) = 0 := by
  unfold stNo at h ⊢
  rw [if_neg (show ¬ outB (stRes at_ inn).k 1 3 = true from (by decide : ¬ outB 2 1 3 = true))] at h
  rw [if_neg (show ¬ outB (stIgn at_).k 1 3 = true from (by decide : ¬ outB 3 1 3 = true))]
  have e : stBadA (stIgn at_) = stBadA (stRes at_ inn) := rfl
  rw [e]
  split at h
  · omega
  · rename_i h2
    rw [if_neg h2, if_neg (by simp [stIgn]), if_neg (by simp [stIgn, stBadB])]
theorem kept_ign {at_ eat : Int} {rel : List UInt8} {wt : Int} {vs : List PVer} : againB (stIgn at_) eat rel wt vs 1 = false ∧ afterS (stIgn at_) eat rel wt vs 1 = stIgn at_ := by
  have hl : lessM (stIgn at_) wt = stIgn at_ := if_neg (by simp [stIgn])
  have hg : againB (stIgn at_) eat rel wt vs 1 = false := by
    unfold againB
    rw [if_neg (show ¬ (stIgn at_).k = 2 by simp [stIgn]), if_pos (by rfl), hl]; rfl
  exact ⟨hg, by rw [afterS, if_neg (by rw [hg]; simp), if_pos (by rfl), hl]⟩
set_option maxHeartbeats 1600000 in
theorem ReleaseKept_any (e : Evt) (inn : List UInt8) (A : Option Addr) (q c : Nat) (S : List (List UInt8)) (at_ : Int) (w : World) (he : e.Ok w) (hS : SlT strE 1 w A q S) :
    Calls Tryz.prog 6 #[e.val, str inn, .slice A q c, .int .i64 at_] w fun en w' => en = .returned (.bool true) ∧ Below w.heap.size w w' := by
  refine enter_args (args := [.agg #[str e.id, .int .i64 e.at_, .int .i64 e.lv, .slice e.fa.A e.fa.q e.fa.c, .slice e.ta.A e.ta.q e.ta.c, .slice e.cr.A e.cr.q e.cr.c, str e.rel, str e.us, .int .i64 e.wt], str inn, .slice A q c, .int .i64 at_]) (F := _) Tryz.func6 rfl Tryz.ntmps6 rfl rfl ?_
  intro Rb hRb hRn
  refine T_seq ?_
  refine T_region ?_
  refine S_box 4 4 rfl rfl rfl rfl rfl ?_
  intro b4
  refine S_ 8 rfl rfl rfl _ (y_assign rfl rfl) ?_
  refine S_go (fun _ _ h => h) ?_
  refine T_seq ?_
  refine T_seq ?_
  refine T_region ?_
  refine S_ 16 rfl rfl rfl _ (y_call rfl rfl rfl cf32 (fun _ w _ => awakeRel_any w)) ?_
  refine S_ 17 rfl rfl rfl _ (y_not rfl rfl) ?_
  refine S_go (fun _ _ h => h) ?_
  refine T_cond rfl (fun h17 => ?_) (fun h17 => ?_)
  · skip
    cases h17
  · skip
    refine T_skip_go (fun _ _ h => h) ?_
    refine T_seq ?_
    refine T_region ?_
    refine S_ 19 rfl rfl rfl _ (y_move rfl rfl) ?_
    refine S_callOwn 20 20 rfl rfl rfl rfl rfl rfl rfl cf24 (fun A c => .tuple #[pvV (parE inn).1 A c, .int .i64 (parE inn).2]) 9 1 ((parE inn).1.pre.length) ((parE inn).1.pre.flatMap strE) (fun w hM => Parse_any inn w) ?_
    intro A20 c20
    refine S_ 18 rfl rfl rfl _ (y_move rfl rfl) ?_
    refine S_ 21 rfl rfl rfl _ (y_extract rfl rfl rfl) ?_
    refine S_ 22 rfl rfl rfl _ (y_extract rfl rfl rfl) ?_
    refine S_alloc 9 9 rfl rfl rfl rfl z42 ?_
    intro b9
    refine S_store 9 rfl rfl rfl rfl rfl rfl sz42 rfl rfl ?_
    refine S_ 10 rfl rfl rfl _ (y_assign rfl rfl) ?_
    refine S_go (fun _ _ h => h) ?_
    refine T_seq ?_
    refine T_seq ?_
    refine T_region ?_
    refine S_ 23 rfl rfl rfl _ (y_move rfl rfl) ?_
    refine S_ 24 rfl rfl rfl _ (y_bin rfl rfl rfl (fun _ => b_neq)) ?_
    refine S_go (fun _ _ h => h) ?_
    refine T_cond rfl (fun h24 => ?_) (fun h24 => ?_)
    · try simp only [decide_eq_true_eq, decide_eq_false_iff_not, Bool.or_eq_true, Bool.or_eq_false_iff, Bool.and_eq_true, Bool.and_eq_false_iff, Bool.not_eq_true', Bool.not_eq_false', Bool.not_eq_true, Bool.not_eq_false, Bool.not_true, Bool.not_false, Int.not_lt, Int.not_le, not_or, not_and, Classical.not_not] at h24
      refine T_seq ?_
      refine T_region ?_
      refine S_ 8 rfl rfl rfl _ (y_assign rfl rfl) ?_
      refine S_go (fun _ _ h => h) ?_
      refine T_ret (fun a w hF hM => hRb a w (post1 rfl rfl (fun w hM => ?_) a w hF hM))
      exact ⟨rfl, hM.below⟩
    · try simp only [decide_eq_true_eq, decide_eq_false_iff_not, Bool.or_eq_true, Bool.or_eq_false_iff, Bool.and_eq_true, Bool.and_eq_false_iff, Bool.not_eq_true', Bool.not_eq_false', Bool.not_eq_true, Bool.not_eq_false, Bool.not_true, Bool.not_false, Int.not_lt, Int.not_le, not_or, not_and, Classical.not_not] at h24
      have hin : relOk inn = true := by
        cases hq : relOk inn with
        | true => rfl
        | false => rw [parE_bad hq] at h24; exact absurd h24 (by decide)
      refine T_skip_go (fun _ _ h => h) ?_
      refine T_seq ?_
      refine T_region ?_
      refine S_ 25 rfl rfl rfl _ (y_move rfl rfl) ?_
      refine S_ 26 rfl rfl rfl _ (y_move rfl rfl) ?_
      refine S_ 27 rfl rfl rfl _ (y_build (zv := .agg #[.int .i64 0, .int .i64 0, .string ⟨#[]⟩, .bool false, .int .i64 0, .int .i64 0, .int .i64 0, .int .i64 0]) (pl := [(0, 1), (1, 1), (2, 1), (3, 1), (4, 1), (5, 1), (6, 1), (7, 1)]) (out := [_, _, _, .bool false, _, _, _, .int .i64 0]) rfl rfl Tryz.underlying52 z52 (by kernel_rfl) rfl) ?_
      refine S_alloc 11 11 rfl rfl rfl rfl z52 ?_
      intro b11
      refine S_store 11 rfl rfl rfl rfl rfl rfl sz52 rfl rfl ?_
      refine S_go (fun _ _ h => h) ?_
      refine T_seq ?_
      refine T_region ?_
      refine S_ 29 rfl rfl rfl _ (y_loadA 11 rfl rfl rfl Tryz.underlying52 rfl sz52) ?_
      refine S_ 30 rfl rfl rfl _ (y_loadA 4 rfl rfl rfl Tryz.underlying29 rfl sz29) ?_
      refine S_ 31 rfl rfl rfl _ (y_move rfl rfl) ?_
      refine S_ 32 rfl rfl rfl _ (y_call rfl rfl rfl cf27 (fun _ w hM => Seen_any (stRes at_ inn) e A q c S 1 w (he.below hM.below) (hS.below hM.below))) ?_
      refine S_ 28 rfl rfl rfl _ (y_move rfl rfl) ?_
      refine S_ 33 rfl rfl rfl _ (y_extract rfl rfl rfl) ?_
      refine S_ 34 rfl rfl rfl _ (y_extract rfl rfl rfl) ?_
      refine S_ 35 rfl rfl rfl _ (y_extract rfl rfl rfl) ?_
      refine S_alloc 12 12 rfl rfl rfl rfl z52 ?_
      intro b12
      refine S_store 12 rfl rfl rfl rfl rfl rfl sz52 rfl rfl ?_
      refine S_ 13 rfl rfl rfl _ (y_assign rfl rfl) ?_
      refine S_ 10 rfl rfl rfl _ (y_assign rfl rfl) ?_
      refine S_go (fun _ _ h => h) ?_
      refine T_seq ?_
      refine T_seq ?_
      refine T_region ?_
      refine S_ 36 rfl rfl rfl _ (y_move rfl rfl) ?_
      refine S_ 37 rfl rfl rfl _ (y_bin rfl rfl rfl (fun _ => b_neq)) ?_
      refine S_go (fun _ _ h => h) ?_
      refine T_cond rfl (fun h37 => ?_) (fun h37 => ?_)
      · try simp only [decide_eq_true_eq, decide_eq_false_iff_not, Bool.or_eq_true, Bool.or_eq_false_iff, Bool.and_eq_true, Bool.and_eq_false_iff, Bool.not_eq_true', Bool.not_eq_false', Bool.not_eq_true, Bool.not_eq_false, Bool.not_true, Bool.not_false, Int.not_lt, Int.not_le, not_or, not_and, Classical.not_not] at h37
        refine T_seq ?_
        refine T_region ?_
        refine S_ 8 rfl rfl rfl _ (y_assign rfl rfl) ?_
        refine S_go (fun _ _ h => h) ?_
        refine T_ret (fun a w hF hM => hRb a w (post1 rfl rfl (fun w hM => ?_) a w hF hM))
        exact ⟨rfl, hM.below⟩
      · try simp only [decide_eq_true_eq, decide_eq_false_iff_not, Bool.or_eq_true, Bool.or_eq_false_iff, Bool.and_eq_true, Bool.and_eq_false_iff, Bool.not_eq_true', Bool.not_eq_false', Bool.not_eq_true, Bool.not_eq_false, Bool.not_true, Bool.not_false, Int.not_lt, Int.not_le, not_or, not_and, Classical.not_not] at h37
        have h37 : seenNo (stRes at_ inn) e S 1 = 0 := h37
        obtain ⟨hg1, hg2⟩ := seenS_good h37
        have hst : stNo (stRes at_ inn) = 0 := (fst0 h37).1
        have hno : seenNo (stIgn at_) e S 1 = 0 := by
          have h38 := (fst0 h37).2
          rw [seenNo, kept_no hst]; exact h38
        obtain ⟨hk1, hk2⟩ := seenS_good hno
        refine T_skip_go (fun _ _ h => h) ?_
        refine T_seq ?_
        refine T_seq ?_
        refine T_region ?_
        refine S_ 39 rfl rfl rfl _ (y_fieldAddr rfl rfl fa29_6) ?_
        refine S_ 40 rfl rfl rfl _ (y_load 4 rfl rfl rfl rfl Tryz.underlying9 rfl) ?_
        refine S_callOwn 41 41 rfl rfl rfl rfl rfl rfl rfl cf24 (fun A c => .tuple #[pvV (parE e.rel).1 A c, .int .i64 (parE e.rel).2]) 9 1 ((parE e.rel).1.pre.length) ((parE e.rel).1.pre.flatMap strE) (fun w hM => Parse_any e.rel w) ?_
        intro A41 c41
        refine S_ 38 rfl rfl rfl _ (y_move rfl rfl) ?_
        refine S_ 42 rfl rfl rfl _ (y_extract rfl rfl rfl) ?_
        refine S_ 43 rfl rfl rfl _ (y_extract rfl rfl rfl) ?_
        refine S_alloc 14 14 rfl rfl rfl rfl z42 ?_
        intro b14
        refine S_store 14 rfl rfl rfl rfl rfl rfl sz42 rfl rfl ?_
        refine S_ 15 rfl rfl rfl _ (y_assign rfl rfl) ?_
        refine S_go (fun _ _ h => h) ?_
        refine T_seq ?_
        refine T_region ?_
        refine S_ 44 rfl rfl rfl _ (y_move rfl rfl) ?_
        refine S_ 45 rfl rfl rfl _ (y_bin rfl rfl rfl (fun _ => b_eql)) ?_
        refine S_ 46 rfl rfl rfl _ (y_move rfl rfl) ?_
        refine Sg_ 47 rfl rfl rfl rfl rfl rfl _ (y_fieldAddr rfl rfl fa42_0) ?_
        refine Sg_ 48 rfl rfl rfl rfl rfl rfl _ (y_load 14 rfl rfl rfl rfl Tryz.underlying9 rfl) ?_
        refine Sg_ 49 rfl rfl rfl rfl rfl rfl _ (y_fieldAddr rfl rfl fa42_0) ?_
        refine Sg_ 50 rfl rfl rfl rfl rfl rfl _ (y_load 9 rfl rfl rfl rfl Tryz.underlying9 rfl) ?_
        refine Sg_ 51 rfl rfl rfl rfl rfl rfl _ (y_bin rfl rfl rfl (fun _ => b_eqls)) ?_
        refine S_ 52 rfl rfl rfl _ (y_and rfl rfl rfl) ?_
        refine S_ 53 rfl rfl rfl _ (y_move rfl rfl) ?_
        refine Sg_ 54 rfl rfl rfl rfl rfl rfl _ (y_move rfl rfl) ?_
        refine Sg_ 55 rfl rfl rfl rfl rfl rfl _ (y_loadA 14 rfl rfl rfl Tryz.underlying42 rfl sz42) ?_
        refine Sg_ 56 rfl rfl rfl rfl rfl rfl _ (y_loadA 9 rfl rfl rfl Tryz.underlying42 rfl sz42) ?_
        refine Sg_ 57 rfl rfl rfl rfl rfl rfl _ (y_call rfl rfl rfl cf22 (fun _ w hM => Compare_any (svr (parE e.rel).1 A41 c41) (svr (parE inn).1 A20 c20) w (svr_ok (parE_bound _) (owned_ok (enc := strE) hM rfl (i := 41) rfl)) (svr_ok (parE_bound _) (owned_ok (enc := strE) hM rfl (i := 20) rfl)))) ?_
        refine Sg_ 58 rfl rfl rfl rfl rfl rfl _ (y_bin rfl rfl rfl (fun _ => b_geq)) ?_
        refine Sg_ 59 rfl rfl rfl rfl rfl rfl _ (y_bin rfl rfl rfl (fun _ => b_neqb Tryz.underlying4)) ?_
        refine Sg_ 60 rfl rfl rfl rfl rfl rfl _ (y_move rfl rfl) ?_
        refine Sg_ 61 rfl rfl rfl rfl rfl rfl _ (y_move rfl rfl) ?_
        refine Sg_ 62 rfl rfl rfl rfl rfl rfl _ (y_not rfl rfl) ?_
        refine Sg_ 63 rfl rfl rfl rfl rfl rfl _ (y_move rfl rfl) ?_
        refine Sg_ 64 rfl rfl rfl rfl rfl rfl _ (y_loadA 12 rfl rfl rfl Tryz.underlying52 rfl sz52) ?_
        refine Sg_ 65 rfl rfl rfl rfl rfl rfl _ (y_loadA 11 rfl rfl rfl Tryz.underlying52 rfl sz52) ?_
        refine Sg_ 66 rfl rfl rfl rfl rfl rfl _ (y_bin rfl rfl rfl (fun _ => b_neqA (rs := [_, _, _, _, _, _, _, _]) Tryz.underlying52 (by kernel_rfl) (by kernel_rfl) ⟨by decide, ⟨_, Tryz.underlying3, rfl, _, _, rfl, rfl, rfl⟩, by decide, ⟨_, Tryz.underlying3, rfl, _, _, rfl, rfl, rfl⟩, by decide, ⟨_, Tryz.underlying9, rfl, _, _, rfl, rfl, rfl⟩, by decide, ⟨_, Tryz.underlying4, rfl, _, _, rfl, rfl, rfl⟩, by decide, ⟨_, Tryz.underlying3, rfl, _, _, rfl, rfl, rfl⟩, by decide, ⟨_, Tryz.underlying3, rfl, _, _, rfl, rfl, rfl⟩, by decide, ⟨_, Tryz.underlying3, rfl, _, _, rfl, rfl, rfl⟩, by decide, ⟨_, Tryz.underlying3, rfl, _, _, rfl, rfl, rfl⟩, trivial⟩)) ?_
        refine Sg_ 67 rfl rfl rfl rfl rfl rfl _ (y_and rfl rfl rfl) ?_
        refine Sg_ 68 rfl rfl rfl rfl rfl rfl _ (y_or rfl rfl rfl) ?_
        refine S_ 69 rfl rfl rfl _ (y_and rfl rfl rfl) ?_
        refine S_go (fun _ _ h => h) ?_
        refine T_cond rfl (fun h69 => ?_) (fun h69 => ?_)
        · skip
          exfalso
          cases hr : relOk e.rel with
          | false => simp [parE_bad hr] at h69
          | true =>
            by_cases hp : (verV e.rel).p = (verV inn).p
            · have h1 : seenB (stRes at_ inn) e S 1 = decide (0 ≤ cmpV (verV e.rel) (verV inn)) := by rw [hg2, againB, if_pos (by rfl), kept_res hin hr hp]
              by_cases hc : 0 ≤ cmpV (verV e.rel) (verV inn)
              · simp [svr_says, parE_good hr, parE_good hin, h1, hc] at h69
              · have h2 : againB (stRes at_ inn) e.at_ e.rel e.wt (S.map verV) 1 = false := by rw [← hg2, h1, decide_eq_false hc]
                have h3 : seenS (stRes at_ inn) e S 1 = stRes at_ inn := by rw [hg1, afterS, if_neg (by rw [h2]; simp), if_neg (show ¬ (stRes at_ inn).k = 3 by simp [stRes])]
                rw [h1, h3] at h69
                simp [svr_says, parE_good hr, parE_good hin, hc, stRes] at h69
            · simp [parE_good hr, parE_good hin, hp] at h69
        · skip
          refine T_skip_go (fun _ _ h => h) ?_
          refine T_seq ?_
          refine T_region ?_
          refine S_ 70 rfl rfl rfl _ (y_move rfl rfl) ?_
          refine S_ 71 rfl rfl rfl _ (y_build (zv := .agg #[.int .i64 0, .int .i64 0, .string ⟨#[]⟩, .bool false, .int .i64 0, .int .i64 0, .int .i64 0, .int .i64 0]) (pl := [(0, 1), (1, 1), (2, 1), (3, 1), (4, 1), (5, 1), (6, 1), (7, 1)]) (out := [_, _, .string ⟨#[]⟩, .bool false, _, _, _, .int .i64 0]) rfl rfl Tryz.underlying52 z52 (by kernel_rfl) rfl) ?_
          refine S_store 11 rfl rfl rfl rfl rfl rfl sz52 rfl rfl ?_
          refine S_go (fun _ _ h => h) ?_
          refine T_seq ?_
          refine T_region ?_
          refine S_ 73 rfl rfl rfl _ (y_loadA 11 rfl rfl rfl Tryz.underlying52 rfl sz52) ?_
          refine S_ 74 rfl rfl rfl _ (y_loadA 4 rfl rfl rfl Tryz.underlying29 rfl sz29) ?_
          refine S_ 75 rfl rfl rfl _ (y_move rfl rfl) ?_
          refine S_ 76 rfl rfl rfl _ (y_call rfl rfl rfl cf27 (fun _ w hM => Seen_any (stIgn at_) e A q c S 1 w (he.below hM.below) (hS.below hM.below))) ?_
          refine S_ 72 rfl rfl rfl _ (y_move rfl rfl) ?_
          refine S_ 77 rfl rfl rfl _ (y_extract rfl rfl rfl) ?_
          refine S_ 78 rfl rfl rfl _ (y_extract rfl rfl rfl) ?_
          refine S_ 79 rfl rfl rfl _ (y_extract rfl rfl rfl) ?_
          refine S_store 12 rfl rfl rfl rfl rfl rfl sz52 rfl rfl ?_
          refine S_ 13 rfl rfl rfl _ (y_assign rfl rfl) ?_
          refine S_ 10 rfl rfl rfl _ (y_assign rfl rfl) ?_
          refine S_go (fun _ _ h => h) ?_
          refine T_seq ?_
          refine T_region ?_
          refine S_ 80 rfl rfl rfl _ (y_move rfl rfl) ?_
          refine S_ 81 rfl rfl rfl _ (y_bin rfl rfl rfl (fun _ => b_eql)) ?_
          refine S_ 82 rfl rfl rfl _ (y_move rfl rfl) ?_
          refine Sg_ 83 rfl rfl rfl rfl rfl rfl _ (y_move rfl rfl) ?_
          refine Sg_ 84 rfl rfl rfl rfl rfl rfl _ (y_not rfl rfl) ?_
          refine S_ 85 rfl rfl rfl _ (y_and rfl rfl rfl) ?_
          refine S_ 86 rfl rfl rfl _ (y_move rfl rfl) ?_
          refine Sg_ 87 rfl rfl rfl rfl rfl rfl _ (y_loadA 12 rfl rfl rfl Tryz.underlying52 rfl sz52) ?_
          refine Sg_ 88 rfl rfl rfl rfl rfl rfl _ (y_loadA 11 rfl rfl rfl Tryz.underlying52 rfl sz52) ?_
          refine Sg_ 89 rfl rfl rfl rfl rfl rfl _ (y_bin rfl rfl rfl (fun _ => b_eqlA (rs := [_, _, _, _, _, _, _, _]) Tryz.underlying52 (by kernel_rfl) (by kernel_rfl) ⟨by decide, ⟨_, Tryz.underlying3, rfl, _, _, rfl, rfl, rfl⟩, by decide, ⟨_, Tryz.underlying3, rfl, _, _, rfl, rfl, rfl⟩, by decide, ⟨_, Tryz.underlying9, rfl, _, _, rfl, rfl, rfl⟩, by decide, ⟨_, Tryz.underlying4, rfl, _, _, rfl, rfl, rfl⟩, by decide, ⟨_, Tryz.underlying3, rfl, _, _, rfl, rfl, rfl⟩, by decide, ⟨_, Tryz.underlying3, rfl, _, _, rfl, rfl, rfl⟩, by decide, ⟨_, Tryz.underlying3, rfl, _, _, rfl, rfl, rfl⟩, by decide, ⟨_, Tryz.underlying3, rfl, _, _, rfl, rfl, rfl⟩, trivial⟩)) ?_
          refine S_ 90 rfl rfl rfl _ (y_and rfl rfl rfl) ?_
          refine S_ 8 rfl rfl rfl _ (y_assign rfl rfl) ?_
          refine S_go (fun _ _ h => h) ?_
          refine T_ret (fun a w hF hM => hRb a w (post1 rfl rfl (fun w hM => ?_) a w hF hM))
          exact ⟨by rw [hno, hk1, hk2, kept_ign.1, kept_ign.2]; simp [stIgn], hM.below⟩
end Go.Proofs.YtpmlgnbbkpplhaaGreatDoor
end
section
namespace Go.Proofs.YtpmlgnbbkpplhaaGreatDoor
set_option linter.unusedSimpArgs false
set_option linter.unusedVariables false
set_option maxRecDepth 20000
open Go.RowKit Go.Eng
section
variable {H : Type} {enc : TypeId × Value → H} {w : World}
def IntOk (n : Int) : Prop := (Lit.int .i64 n).wf = true
def ShortS (s : List UInt8) : Prop := s.length ≤ reachBytes
theorem reach_len : reachBytes ≤ 4611686018427387904 := by decide
def strEnc (l : List UInt8) : List Value := [str l]
theorem op_s : Opn enc Tryz.prog w 9 strEnc ShortS (fun l d => d = .lit (.string l)) := opn_str Tryz.underlying9
theorem op_i : Opn enc Tryz.prog w 3 (fun n : Int => [Value.int .i64 n]) IntOk (fun n d => d = .lit (.int .i64 n)) := opn_int Tryz.underlying3
theorem op_b : Opn enc Tryz.prog w 4 (fun b : Bool => [Value.bool b]) (fun _ => True) (fun b d => d = .lit (.bool b)) := opn_bool Tryz.underlying4
def slV {X : Type} (s : Sl X) : List Value := [.slice s.A s.q s.c]
def frmG (f : Frm) : Prop := ShortS f.m ∧ ShortS f.f ∧ ShortS f.fi
theorem op_frm : Opn enc Tryz.prog w 119 Frm.enc frmG (fun _ _ => True) :=
  (opn_struct Tryz.underlying119 co119 (opf_cons op_s rfl co9 (opf_cons op_s rfl co9 (opf_cons op_s rfl co9 (opf_cons op_i rfl co3 (opf_cons op_i rfl co3 (opf_cons op_b rfl co4 opf_nil))))))).map
    (fun p => (⟨p.1, p.2.1, p.2.2.1, p.2.2.2.1, p.2.2.2.2.1, p.2.2.2.2.2.1⟩ : Frm)) (fun _ => rfl) (fun _ h => ⟨h.1, h.2.1, h.2.2.1⟩) (fun _ _ _ => trivial)
theorem op_frms : Opn enc Tryz.prog w 112 slV (FrmsOk w) (fun _ _ => True) :=
  (opn_slice Tryz.underlying112 co119 (by decide) (by rw [bo119]; decide) (fun _ => rfl) op_frm).map (fun s => s) (fun _ => rfl)
    (fun s h => ⟨h.1, Nat.le_trans h.2.1 reach_len, fun f hf => ⟨Nat.le_trans (h.2.2 f hf).1 reach_len, Nat.le_trans (h.2.2 f hf).2.1 reach_len, Nat.le_trans (h.2.2 f hf).2.2 reach_len⟩⟩) (fun _ _ _ => trivial)
theorem op_flt : Opn enc Tryz.prog w 114 Flt.enc (FltOk w) (fun _ _ => True) :=
  (opn_struct Tryz.underlying114 co114 (opf_cons op_s rfl co9 (opf_cons op_s rfl co9 (opf_cons op_frms rfl co112 opf_nil)))).map
    (fun p => (⟨p.1, p.2.1, p.2.2.1⟩ : Flt)) (fun _ => rfl) (fun _ h => ⟨Nat.le_trans h.1 reach_len, Nat.le_trans h.2.1 reach_len, h.2.2.1⟩) (fun _ _ _ => trivial)
theorem op_flts : Opn enc Tryz.prog w 25 slV (FltsOk w) (fun _ _ => True) :=
  (opn_slice Tryz.underlying25 co114 (by decide) (by rw [bo114]; decide) (fun _ => rfl) op_flt).map (fun s => s) (fun _ => rfl)
    (fun s h => ⟨h.1, Nat.le_trans h.2.1 reach_len, h.2.2⟩) (fun _ _ _ => trivial)
theorem op_tag : Opn enc Tryz.prog w 104 STag.enc (fun t => ShortS t.n ∧ ShortS t.v) (fun _ _ => True) :=
  (opn_struct Tryz.underlying104 co104 (opf_cons op_s rfl co9 (opf_cons op_s rfl co9 opf_nil))).map
    (fun p => (⟨p.1, p.2.1⟩ : STag)) (fun _ => rfl) (fun _ h => ⟨h.1, h.2.1⟩) (fun _ _ _ => trivial)
theorem op_tags : Opn enc Tryz.prog w 26 slV (TagsOk w) (fun _ _ => True) :=
  (opn_slice Tryz.underlying26 co104 (by decide) (by rw [bo104]; decide) (fun _ => rfl) op_tag).map (fun s => s) (fun _ => rfl)
    (fun s h => ⟨h.1, Nat.le_trans h.2.1 reach_len, fun t ht => ⟨Nat.le_trans (h.2.2 t ht).1 reach_len, Nat.le_trans (h.2.2 t ht).2 reach_len⟩⟩) (fun _ _ _ => trivial)
theorem op_crumb : Opn enc Tryz.prog w 107 SCrumb.enc (fun c => IntOk c.at_ ∧ ShortS c.k ∧ ShortS c.t) (fun _ _ => True) :=
  (opn_struct Tryz.underlying107 co107 (opf_cons op_i rfl co3 (opf_cons op_s rfl co9 (opf_cons op_s rfl co9 opf_nil)))).map
    (fun p => (⟨p.1, p.2.1, p.2.2.1⟩ : SCrumb)) (fun _ => rfl) (fun _ h => ⟨h.1, h.2.1, h.2.2.1⟩) (fun _ _ _ => trivial)
theorem op_crumbs : Opn enc Tryz.prog w 27 slV (CrumbsOk w) (fun _ _ => True) :=
  (opn_slice Tryz.underlying27 co107 (by decide) (by rw [bo107]; decide) (fun _ => rfl) op_crumb).map (fun s => s) (fun _ => rfl)
    (fun s h => ⟨h.1, Nat.le_trans h.2.1 reach_len, fun t ht => ⟨Nat.le_trans (h.2.2 t ht).2.1 reach_len, Nat.le_trans (h.2.2 t ht).2.2 reach_len⟩⟩) (fun _ _ _ => trivial)
theorem op_evt : Opn enc Tryz.prog w 29 Evt.enc (Evt.Ok w) (fun _ _ => True) :=
  (opn_struct Tryz.underlying29 co29 (opf_cons op_s rfl co9 (opf_cons op_i rfl co3 (opf_cons op_i rfl co3 (opf_cons op_flts rfl co25 (opf_cons op_tags rfl co26 (opf_cons op_crumbs rfl co27 (opf_cons op_s rfl co9 (opf_cons op_s rfl co9 (opf_cons op_i rfl co3 opf_nil)))))))))).map
    (fun p => (⟨p.1, p.2.1, p.2.2.1, p.2.2.2.1, p.2.2.2.2.1, p.2.2.2.2.2.1, p.2.2.2.2.2.2.1, p.2.2.2.2.2.2.2.1, p.2.2.2.2.2.2.2.2.1⟩ : Evt)) (fun _ => rfl)
    (fun p h => by
      obtain ⟨h1, _, _, h4, h5, h6, h7, h8, _⟩ := h
      exact ⟨h4, h5, h6, Nat.le_trans h1 reach_len, Nat.le_trans h7 reach_len, Nat.le_trans h8 reach_len⟩) (fun _ _ _ => trivial)
end
end Go.Proofs.YtpmlgnbbkpplhaaGreatDoor
end
section
namespace Go.Proofs.YtpmlgnbbkpplhaaGreatDoor
set_option linter.unusedSimpArgs false
set_option linter.unusedVariables false
set_option maxRecDepth 20000
open Go.ChangeShapes Go.WideShapes Go.RowKit
theorem ownNone : ownKnob Tryz.prog.godebug = none := by kernel_rfl
theorem laidOut : laidOutB Tryz.prog = true := by kernel_rfl
def firstCells : Array Value := (Go.Pinned.utf8FirstZ.map fun n : Nat => Value.int .u8 (n : Int)).toArray
def tabCells (k : IntKind) (zs : List Int) : Array Value := (zs.map fun n => Value.int k n).toArray
def rangeZ : List Int := [128, 191, 160, 191, 128, 159, 144, 191, 128, 143, 0, 0, 0, 0, 0, 0, 0, 0, 0, 0, 0, 0, 0, 0, 0, 0, 0, 0, 0, 0, 0, 0]
def tz32Z : List Int := [0, 1, 28, 2, 29, 14, 24, 3, 30, 22, 20, 15, 25, 17, 4, 8, 31, 27, 13, 23, 21, 19, 16, 7, 26, 12, 18, 6, 11, 5, 10, 9]
def tz64Z : List Int := [0, 1, 56, 2, 57, 49, 28, 3, 61, 58, 42, 50, 38, 29, 17, 4, 62, 47, 59, 36, 45, 43, 51, 22, 53, 39, 33, 30, 24, 18, 12, 5, 63, 55, 48, 27, 60, 41, 37, 16, 46, 35, 44, 21, 52, 32, 23, 11, 54, 26, 40, 15, 34, 20, 31, 10, 25, 14, 19, 9, 13, 8, 7, 6]
def pow10Z : List Int := [1, 10, 100, 1000, 10000, 100000, 1000000, 10000000, 100000000, 1000000000, 10000000000, 100000000000, 1000000000000, 10000000000000, 100000000000000, 1000000000000000, 10000000000000000, 100000000000000000, 1000000000000000000, 10000000000000000000]
def layCells (cs : Array Value) : Obj → Obj
  | .cells _ t frozen => .cells cs t frozen
  | o => o
end Go.Proofs.YtpmlgnbbkpplhaaGreatDoor
end
section
namespace Go.Proofs.YtpmlgnbbkpplhaaGreatDoor
set_option linter.unusedSimpArgs false
set_option linter.unusedVariables false
set_option maxRecDepth 20000
open Go.ChangeShapes Go.WideShapes Go.RowKit
noncomputable def low2 : Nat := (World.holding Tryz.prog default ⟨#[], #[], []⟩).heap.size
def rangeT : List UInt8 := [118, 97, 108, 117, 101, 32, 111, 117, 116, 32, 111, 102, 32, 114, 97, 110, 103, 101]
def syntaxT : List UInt8 := [105, 110, 118, 97, 108, 105, 100, 32, 115, 121, 110, 116, 97, 120]
noncomputable def laidWorld2 (os : Os) (args : Array Value) : World :=
  { World.holding Tryz.prog os ⟨#[.cells #[.string ⟨rangeT.toArray⟩] 299, .cells #[.string ⟨syntaxT.toArray⟩] 299], args, []⟩ with heap := (((((((World.holding Tryz.prog os ⟨#[.cells #[.string ⟨rangeT.toArray⟩] 299, .cells #[.string ⟨syntaxT.toArray⟩] 299], args, []⟩).heap.modify 1 (layCells firstCells)).modify 2 (layCells (tabCells .u8 rangeZ))).modify 6 (layCells (tabCells .u8 tz32Z))).modify 7 (layCells (tabCells .u8 tz64Z))).modify 3 (layCells (tabCells .u64 pow10Z))).modify 5 (layCells #[.iface 297 (.pointer (some ⟨low2, 0, none⟩))])).modify 4 (layCells #[.iface 297 (.pointer (some ⟨low2 + 1, 0, none⟩))]) }
end Go.Proofs.YtpmlgnbbkpplhaaGreatDoor
end
