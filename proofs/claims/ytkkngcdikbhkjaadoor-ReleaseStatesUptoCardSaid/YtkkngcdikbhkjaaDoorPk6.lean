/- Part 6, merged by a program. ReadState, the reference's StateRead, and the law on states. Condition: the words of the kinds and the powers of ten lie in memory. A world in which the listed tables of Go's and the words of the kinds hold what their text says; what a row's condition says of them. No condition. Events opened: from the form's reading to 'Evt.Ok'. No condition. -/
import Derived.Test.YtkkngcdikbhkjaaDoorIns
import Derived.Test.YtkkngcdikbhkjaaDoorCards
import Derived.Test.YtkkngcdikbhkjaaDoorTie
import Derived.Deep.DeepHandedRow
import Derived.Lib.LaidTab
import Derived.Stop.LaidErr
import Derived.ProofKit
import Derived.OpenShut
import Derived.Test.YtkkngcdikbhkjaaDoorOpen
import Derived.Test.YtkkngcdikbhkjaaDoorPk5
section
namespace Go.Proofs.YtkkngcdikbhkjaaDoor
set_option linter.unusedSimpArgs false
set_option linter.unusedVariables false
set_option maxRecDepth 20000
open Go.RowKit Go.Eng
def stZero : PSt := ⟨0, 0, [], false, 0, 0, 0, 0⟩
def rsNo (t : List UInt8) : Int := (readW (splitC 32 t)).elim 8 stNo
def rsSt (t : List UInt8) : PSt := if rsNo t = 0 then (readW (splitC 32 t)).getD stZero else stZero
theorem splC_ne (c : UInt8) (s : List UInt8) : splitC c s ≠ [] := fun h => by
  have := splitC_len c s
  rw [h] at this; simp at this
theorem splC_le (c : UInt8) : ∀ (s x : List UInt8), x ∈ splitC c s → x.length ≤ s.length
  | [], x, h => by simp [splitC] at h; subst h; simp
  | a :: r, x, h => by
    rw [splitC] at h
    split at h
    · rcases List.mem_cons.1 h with rfl | h
      · exact Nat.zero_le _
      · exact Nat.le_succ_of_le (splC_le c r x h)
    · cases hs : splitC c r with
      | nil => rw [hs] at h; simp at h; subst h; simp
      | cons b t =>
        rw [hs] at h
        rcases List.mem_cons.1 h with rfl | h
        · have := splC_le c r b (by rw [hs]; exact List.mem_cons_self ..)
          simpa using this
        · exact Nat.le_succ_of_le (splC_le c r x (by rw [hs]; exact List.mem_cons_of_mem _ h))
theorem rs_none {t : List UInt8} (h : readW (splitC 32 t) = none) : rsNo t = 8 ∧ rsSt t = stZero := by
  have e : rsNo t = 8 := by rw [rsNo, h]; rfl
  exact ⟨e, if_neg (by rw [e]; decide)⟩
theorem rs_bad {t : List UInt8} {s : PSt} (h : readW (splitC 32 t) = some s) (hn : ¬ stNo s = 0) : rsNo t = stNo s ∧ rsSt t = stZero := by
  have e : rsNo t = stNo s := by rw [rsNo, h]; rfl
  exact ⟨e, if_neg (by rw [e]; exact hn)⟩
theorem rs_good {t : List UInt8} {s : PSt} (h : readW (splitC 32 t) = some s) (hn : stNo s = 0) : rsNo t = 0 ∧ rsSt t = s := by
  have e : rsNo t = 0 := by rw [rsNo, h]; exact hn
  exact ⟨e, by rw [rsSt, if_pos e, h]; rfl⟩
theorem stEnd_def (z : StR) : stEnd z = if (z.2.1 && decide (((z.2.2.length : Nat) : Int) = 0)) = true then some z.1 else none := rfl
theorem readW_if (W : List (List UInt8)) {z : StR} (hz : z = stZ W) : readW W = if (z.2.1 && decide (((z.2.2.length : Nat) : Int) = 0)) = true then some z.1 else none := by
  have h : readW W = stEnd (stZ W) := by unfold readW; exact Eq.refl _
  rw [h, ← hz]; exact stEnd_def z
theorem readStateZ_any (s : SS) (z : StR) (w : World) (hzz : z = stZ s.l) (hs : s.Ok strE 1 w) (h0 : 0 < s.q) (hz : ∀ x ∈ s.l, x.length ≤ 1000000000) (hK : KW w) :
    Calls Tryd.prog 29 #[.slice s.A s.q s.c] w fun e w' => e = .returned (.tuple #[z.1.val, .bool (z.2.1 && decide (((z.2.2.length : Nat) : Int) = 0))]) ∧ Below w.heap.size w w' := by
  rw [hzz]; exact readState_any s w hs h0 hz hK
theorem ReadState_any (t : List UInt8) (w : World) (ht : t.length ≤ 1000000000) (hK : KW w) :
    Calls Tryd.prog 14 #[str t] w fun e w' => e = .returned (.tuple #[(rsSt t).val, .int .i64 (rsNo t)]) ∧ Below w.heap.size w w' := by
  have hz : ∀ x ∈ splitC 32 t, x.length ≤ 1000000000 := fun x hx => by have := splC_le 32 t x hx; omega
  have h0 : 0 < (splitC 32 t).length := List.length_pos_iff.2 (splC_ne 32 t)
  obtain ⟨z, hzz⟩ : ∃ z, z = stZ (splitC 32 t) := ⟨_, rfl⟩
  have hif := readW_if _ hzz
  refine enter_args (args := [str t]) (F := _) Tryd.func14 rfl Tryd.ntmps14 rfl rfl ?_
  intro Rb hRb hRn
  refine T_seq ?_
  refine T_region ?_
  refine S_alloc 2 2 rfl rfl rfl rfl z40 ?_
  intro b2
  refine S_ 3 rfl rfl rfl _ (y_assign rfl rfl) ?_
  refine S_go (fun _ _ h => h) ?_
  refine T_seq ?_
  refine T_region ?_
  refine S_ 8 rfl rfl rfl _ (y_move rfl rfl) ?_
  refine S_callOwn 9 9 rfl rfl rfl rfl rfl rfl rfl cf30 (fun A c => .slice A ((splitC 32 t).length) c) 9 1 ((splitC 32 t).length) ((splitC 32 t).flatMap strE) (fun w hM => Split1_any t 32 ht w) ?_
  intro A9 c9
  refine S_ 10 rfl rfl rfl _ (y_call rfl rfl rfl cf29 (fun _ w hM => readStateZ_any ⟨A9, (splitC 32 t).length, c9, splitC 32 t⟩ z w hzz (owned_ok (enc := strE) hM rfl (i := 9) rfl) h0 hz (hK.below hM.below))) ?_
  refine S_ 7 rfl rfl rfl _ (y_move rfl rfl) ?_
  refine S_ 11 rfl rfl rfl _ (y_extract rfl rfl rfl) ?_
  refine S_ 12 rfl rfl rfl _ (y_extract rfl rfl rfl) ?_
  refine S_alloc 4 4 rfl rfl rfl rfl z40 ?_
  intro b4
  refine S_store 4 rfl rfl rfl rfl rfl rfl sz40 rfl rfl ?_
  refine S_ 5 rfl rfl rfl _ (y_assign rfl rfl) ?_
  refine S_go (fun _ _ h => h) ?_
  refine T_seq ?_
  refine T_seq ?_
  refine T_region ?_
  refine S_ 13 rfl rfl rfl _ (y_move rfl rfl) ?_
  refine S_ 14 rfl rfl rfl _ (y_not rfl rfl) ?_
  refine S_go (fun _ _ h => h) ?_
  refine T_cond rfl (fun h14 => ?_) (fun h14 => ?_)
  · skip
    rw [if_neg (fun h => by rw [h] at h14; cases h14)] at hif
    have hr : readW (splitC 32 t) = none := hif
    obtain ⟨e1, e2⟩ := rs_none hr
    refine T_seq ?_
    refine T_region ?_
    refine S_ 15 rfl rfl rfl _ (y_build (zv := .agg #[.int .i64 0, .int .i64 0, .string ⟨#[]⟩, .bool false, .int .i64 0, .int .i64 0, .int .i64 0, .int .i64 0]) (pl := [(0, 1), (1, 1), (2, 1), (3, 1), (4, 1), (5, 1), (6, 1), (7, 1)]) (out := [.int .i64 0, .int .i64 0, .string ⟨#[]⟩, .bool false, .int .i64 0, .int .i64 0, .int .i64 0, .int .i64 0]) rfl rfl Tryd.underlying40 z40 (by kernel_rfl) rfl) ?_
    refine S_store 2 rfl rfl rfl rfl rfl rfl sz40 rfl rfl ?_
    refine S_ 3 rfl rfl rfl _ (y_assign rfl rfl) ?_
    refine S_go (fun _ _ h => h) ?_
    refine T_ret (fun a w hF hM => hRb a w (post_cell 2 rfl rfl rfl rfl Tryd.underlying40 rfl (by exact sz40) (fun w hM => ?_) a w hF hM))
    exact ⟨by rw [e1, e2]; rfl, hM.below⟩
  · skip
    rw [if_pos ((Bool.eq_false_or_eq_true _).resolve_right fun h => by rw [h] at h14; cases h14)] at hif
    have hr : readW (splitC 32 t) = some z.1 := hif
    refine T_skip_go (fun _ _ h => h) ?_
    refine T_seq ?_
    refine T_seq ?_
    refine T_region ?_
    refine S_ 16 rfl rfl rfl _ (y_loadA 4 rfl rfl rfl Tryd.underlying40 rfl sz40) ?_
    refine S_ 17 rfl rfl rfl _ (y_call rfl rfl rfl cf12 (fun _ w hM => CheckState_any z.1 w)) ?_
    refine S_ 6 rfl rfl rfl _ (y_assign rfl rfl) ?_
    refine S_go (fun _ _ h => h) ?_
    refine T_seq ?_
    refine T_region ?_
    refine S_ 18 rfl rfl rfl _ (y_move rfl rfl) ?_
    refine S_ 19 rfl rfl rfl _ (y_bin rfl rfl rfl (fun _ => b_neq)) ?_
    refine S_go (fun _ _ h => h) ?_
    refine T_cond rfl (fun h19 => ?_) (fun h19 => ?_)
    · try simp only [decide_eq_true_eq, decide_eq_false_iff_not, Bool.or_eq_true, Bool.or_eq_false_iff, Bool.and_eq_true, Bool.and_eq_false_iff, Bool.not_eq_true', Bool.not_eq_false', Bool.not_eq_true, Bool.not_eq_false, Bool.not_true, Bool.not_false, Int.not_lt, Int.not_le, not_or, not_and, Classical.not_not] at h19
      refine T_seq ?_
      refine T_region ?_
      refine S_ 20 rfl rfl rfl _ (y_build (zv := .agg #[.int .i64 0, .int .i64 0, .string ⟨#[]⟩, .bool false, .int .i64 0, .int .i64 0, .int .i64 0, .int .i64 0]) (pl := [(0, 1), (1, 1), (2, 1), (3, 1), (4, 1), (5, 1), (6, 1), (7, 1)]) (out := [.int .i64 0, .int .i64 0, .string ⟨#[]⟩, .bool false, .int .i64 0, .int .i64 0, .int .i64 0, .int .i64 0]) rfl rfl Tryd.underlying40 z40 (by kernel_rfl) rfl) ?_
      refine S_ 21 rfl rfl rfl _ (y_move rfl rfl) ?_
      refine S_store 2 rfl rfl rfl rfl rfl rfl sz40 rfl rfl ?_
      refine S_ 3 rfl rfl rfl _ (y_assign rfl rfl) ?_
      refine S_go (fun _ _ h => h) ?_
      refine T_ret (fun a w hF hM => hRb a w (post_cell 2 rfl rfl rfl rfl Tryd.underlying40 rfl (by exact sz40) (fun w hM => ?_) a w hF hM))
      obtain ⟨e1, e2⟩ := rs_bad hr h19
      exact ⟨by rw [e1, e2]; rfl, hM.below⟩
    · try simp only [decide_eq_true_eq, decide_eq_false_iff_not, Bool.or_eq_true, Bool.or_eq_false_iff, Bool.and_eq_true, Bool.and_eq_false_iff, Bool.not_eq_true', Bool.not_eq_false', Bool.not_eq_true, Bool.not_eq_false, Bool.not_true, Bool.not_false, Int.not_lt, Int.not_le, not_or, not_and, Classical.not_not] at h19
      refine T_skip_go (fun _ _ h => h) ?_
      refine T_seq ?_
      refine T_region ?_
      refine S_ 22 rfl rfl rfl _ (y_loadA 4 rfl rfl rfl Tryd.underlying40 rfl sz40) ?_
      refine S_store 2 rfl rfl rfl rfl rfl rfl sz40 rfl rfl ?_
      refine S_ 3 rfl rfl rfl _ (y_assign rfl rfl) ?_
      refine S_go (fun _ _ h => h) ?_
      refine T_ret (fun a w hF hM => hRb a w (post_cell 2 rfl rfl rfl rfl Tryd.underlying40 rfl (by exact sz40) (fun w hM => ?_) a w hF hM))
      obtain ⟨e1, e2⟩ := rs_good hr h19
      exact ⟨by rw [e1, e2]; rfl, hM.below⟩
/-! ### The reference -/
def offK (k : Int) : Nat := if k = 0 then 1 else if k = 3 then 4 else if k = 4 then 5 else if k = 5 then 6 else 7
def manP (b : Nat) : List (Int × Value) := [(0, .pointer (some ⟨b, 1, none⟩)), (3, .pointer (some ⟨b, 4, none⟩)), (4, .pointer (some ⟨b, 5, none⟩)), (5, .pointer (some ⟨b, 6, none⟩)), (6, .pointer (some ⟨b, 7, none⟩))]
theorem man_ptr {k : Int} {z : Value} (b : Nat) (h : k = 0 ∨ k = 3 ∨ k = 4 ∨ k = 5 ∨ k = 6) : (mget (manP b) k).getD z = .pointer (some ⟨b, offK k, none⟩) := by
  rcases h with rfl | rfl | rfl | rfl | rfl <;> rfl
theorem spl_off {k : Int} (st : PSt) (n : Int) (h : k = 0 ∨ k = 3 ∨ k = 4 ∨ k = 5 ∨ k = 6) : spl st.enc (offK k) [.int .i64 n] = (setK k st n).enc := by
  rcases h with rfl | rfl | rfl | rfl | rfl <;> rfl
theorem fit_off {k : Int} (st : PSt) (h : k = 0 ∨ k = 3 ∨ k = 4 ∨ k = 5 ∨ k = 6) : Nat.ble (offK k + 1) st.enc.length = true := by
  rcases h with rfl | rfl | rfl | rfl | rfl <;> rfl
theorem key_le (w : List UInt8) : -1 ≤ keyK w ∧ keyK w ≤ 6 := by
  unfold keyK
  simp only [idxF]
  repeat' split
  all_goals omega
theorem two_at {W : List (List UInt8)} {i : Nat} (h : i + 2 ≤ W.length) : ∃ w x, W.drop i = w :: x :: W.drop (i + 2) ∧ W[i]? = some w ∧ W[i + 1]? = some x := by
  refine ⟨W[i], W[i + 1], ?_, by simp, by simp⟩
  rw [List.drop_eq_getElem_cons (by omega), List.drop_eq_getElem_cons (by omega)]
theorem loop_end {last : Int} {f : Bool} {s : PSt} : loopK [] last f s = if last < 0 then none else some s := rfl
def rrRest (W : List (List UInt8)) : Option PSt := loopK (W.drop 1) (-1) true (st0 (idxF (W.getD 0 []) [[], wdOpen, wdRes, wdIgn] 0))
theorem StateRead_any (t : List UInt8) (w : World) (ht : t.length ≤ 1000000000) :
    Calls Tryd.prog 15 #[str t] w fun e w' => e = .returned (.tuple #[(rsSt t).val, .int .i64 (rsNo t)]) ∧ Below w.heap.size w w' := by
  obtain ⟨W, hW⟩ : ∃ W, W = splitC 32 t := ⟨_, rfl⟩
  have hz : ∀ x ∈ W, x.length ≤ 1000000000 := fun x hx => by rw [hW] at hx; have := splC_le 32 t x hx; omega
  have h0 : 0 < W.length := List.length_pos_iff.2 (by rw [hW]; exact splC_ne 32 t)
  have hlW : W.length ≤ 1000000001 := by
    have h1 := splitC_len 32 t
    have h2 : t.count 32 ≤ t.length := List.count_le_length
    rw [hW]; omega
  have hsame : readR W = readW W := read_same W (by rw [hW]; exact splC_ne 32 t)
  refine enter_args (args := [str t]) (F := _) Tryd.func15 rfl Tryd.ntmps15 rfl rfl ?_
  intro Rb hRb hRn
  refine T_seq ?_
  refine T_region ?_
  refine S_alloc 2 2 rfl rfl rfl rfl z40 ?_
  intro b2
  refine S_ 3 rfl rfl rfl _ (y_assign rfl rfl) ?_
  refine S_go (fun _ _ h => h) ?_
  refine T_seq ?_
  refine T_region ?_
  refine S_ 11 rfl rfl rfl _ (y_move rfl rfl) ?_
  refine S_callOwn 12 12 rfl rfl rfl rfl rfl rfl rfl cf30 (fun A c => .slice A (W.length) c) 9 1 (W.length) (W.flatMap strE) (fun w hM => by have h := Split1_any t 32 ht w; rw [← hW] at h; exact h) ?_
  intro A12 c12
  refine S_ 4 rfl rfl rfl _ (y_assign rfl rfl) ?_
  refine S_go (fun _ _ h => h) ?_
  refine T_seq ?_
  refine T_region ?_
  refine S_buildSlice 13 13 rfl rfl rfl rfl rfl Tryd.underlying46 inf9 rfl (by decide) (by decide) rfl rfl (by decide) rfl ([[], wdOpen, wdRes, wdIgn].flatMap strE) ?_ ?_
  · rfl
  intro b13
  refine S_ 14 rfl rfl rfl _ (y_move rfl rfl) ?_
  refine S_ 15 rfl rfl rfl _ (y_indexOwnI (j := 0) 12 rfl rfl rfl (fun _ => rfl) rfl Tryd.underlying46 sz9 (fun _ => h0)) ?_
  refine S_ 16 rfl rfl rfl _ (y_loadO1 12 (val := (fun l : List UInt8 => str l)) rfl rfl rfl rfl (fun _ => at_D h0) Tryd.underlying9 rfl) ?_
  refine S_ 17 rfl rfl rfl _ (y_call rfl rfl rfl cf31 (fun _ w hM => IndexT_any _ _ _ [[], wdOpen, wdRes, wdIgn] _ w (owned_T (enc := strE) (l := [[], wdOpen, wdRes, wdIgn]) hM rfl (i := 13) rfl) (by decide))) ?_
  refine S_ 18 rfl rfl rfl _ (y_build (zv := .agg #[.int .i64 0, .int .i64 0, .string ⟨#[]⟩, .bool false, .int .i64 0, .int .i64 0, .int .i64 0, .int .i64 0]) (pl := [(0, 1), (1, 1), (2, 1), (3, 1), (4, 1), (5, 1), (6, 1), (7, 1)]) (out := [_, .int .i64 0, .string ⟨#[]⟩, .bool false, _, _, _, .int .i64 0]) rfl rfl Tryd.underlying40 z40 (by kernel_rfl) rfl) ?_
  refine S_store 2 rfl rfl rfl rfl rfl rfl sz40 rfl rfl ?_
  refine S_go (fun _ _ h => h) ?_
  refine T_seq ?_
  refine T_seq ?_
  refine T_region ?_
  refine S_ 19 rfl rfl rfl _ (y_fieldAddr rfl rfl fa40_0) ?_
  refine S_ 20 rfl rfl rfl _ (y_load 2 rfl rfl rfl rfl Tryd.underlying3 rfl) ?_
  refine S_ 21 rfl rfl rfl _ (y_bin rfl rfl rfl (fun _ => b_lss)) ?_
  refine S_ 22 rfl rfl rfl _ (y_move rfl rfl) ?_
  refine Sg_ 23 rfl rfl rfl rfl rfl rfl _ (y_move rfl rfl) ?_
  refine Sg_ 24 rfl rfl rfl rfl rfl rfl _ (y_len_slice rfl rfl Tryd.underlying46) ?_
  refine Sg_ 25 rfl rfl rfl rfl rfl rfl _ (y_as (v' := .int .i64 (((W.length : Nat) : Int) % 2)) (by exact rfl) (y_bin rfl rfl rfl (fun hg => b_rem (by simp only [Bool.true_and, Bool.and_eq_true, beq_iff_eq, decide_eq_true_eq, decide_eq_false_iff_not, Int.not_lt, Int.not_le] at hg; omega) (by simp only [Bool.true_and, Bool.and_eq_true, beq_iff_eq, decide_eq_true_eq, decide_eq_false_iff_not, Int.not_lt, Int.not_le] at hg; omega) (by simp only [Bool.true_and, Bool.and_eq_true, beq_iff_eq, decide_eq_true_eq, decide_eq_false_iff_not, Int.not_lt, Int.not_le] at hg; omega)))) ?_
  refine Sg_ 26 rfl rfl rfl rfl rfl rfl _ (y_bin rfl rfl rfl (fun _ => b_eql)) ?_
  refine S_ 27 rfl rfl rfl _ (y_or rfl rfl rfl) ?_
  refine S_go (fun _ _ h => h) ?_
  refine T_cond rfl (fun h27 => ?_) (fun h27 => ?_)
  · skip
    have hr : readW (splitC 32 t) = none := by rw [← hW, ← hsame]; exact if_pos h27
    refine T_seq ?_
    refine T_region ?_
    refine S_ 28 rfl rfl rfl _ (y_build (zv := .agg #[.int .i64 0, .int .i64 0, .string ⟨#[]⟩, .bool false, .int .i64 0, .int .i64 0, .int .i64 0, .int .i64 0]) (pl := [(0, 1), (1, 1), (2, 1), (3, 1), (4, 1), (5, 1), (6, 1), (7, 1)]) (out := [.int .i64 0, .int .i64 0, .string ⟨#[]⟩, .bool false, .int .i64 0, .int .i64 0, .int .i64 0, .int .i64 0]) rfl rfl Tryd.underlying40 z40 (by kernel_rfl) rfl) ?_
    refine S_store 2 rfl rfl rfl rfl rfl rfl sz40 rfl rfl ?_
    refine S_ 3 rfl rfl rfl _ (y_assign rfl rfl) ?_
    refine S_go (fun _ _ h => h) ?_
    refine T_ret (fun a w hF hM => hRb a w (post_cell 2 rfl rfl rfl rfl Tryd.underlying40 rfl (by exact sz40) (fun w hM => ?_) a w hF hM))
    obtain ⟨e1, e2⟩ := rs_none hr
    exact ⟨by rw [e1, e2]; rfl, hM.below⟩
  · skip
    have hr0 : readW (splitC 32 t) = rrRest W := by rw [← hW, ← hsame]; exact if_neg (by rw [h27]; simp)
    have hodd : W.length % 2 = 1 := by simp only [Bool.or_eq_false_iff, decide_eq_false_iff_not] at h27; omega
    refine T_skip_go (fun _ _ h => h) ?_
    refine T_seq ?_
    refine T_region ?_
    refine S_ 5 rfl rfl rfl _ (y_assign rfl rfl) ?_
    refine S_go (fun _ _ h => h) ?_
    refine T_seq ?_
    refine T_seq ?_
    refine T_region ?_
    refine S_ 6 rfl rfl rfl _ (y_assign rfl rfl) ?_
    refine S_go (fun _ _ h => h) ?_
    refine T_block ?_
    refine T_loopK3 (kf := [(3, 3), (5, 9), (29, 115)]) (kl := [(2, 3), (5, 9), (29, 115)]) (fun (i : Nat) (last : Int) (st : PSt) => [(6, true, .int .i64 ((i : Nat) : Int)), (5, true, .int .i64 last)]) (fun (i : Nat) (last : Int) (st : PSt) => [(2, iS b2 st)]) (fun (i : Nat) (last : Int) (st : PSt) => i ≤ W.length ∧ loopK (W.drop i) last (decide (((i : Nat) : Int) = 1)) st = rrRest W ∧ i % 2 = 1) (fun (i : Nat) (last : Int) (st : PSt) => W.length - i) 1 (-1) (st0 (idxF (W.getD 0 []) [[], wdOpen, wdRes, wdIgn] 0)) (by repeat (first | exact kf_nil | (apply kf_in; focus rfl) | (apply kf_out; focus rfl))) (by repeat (first | exact kl_nil | exact kl_rest (by assumption) rfl | (apply kl_in; focus rfl) | (apply kl_out; focus rfl))) ?_ ?_ ?_ ?_
    · exact ⟨by omega, rfl, rfl⟩
    · exact ⟨rfl, rfl, trivial⟩
    · exact ⟨rfl, trivial⟩
    rintro i last st ⟨hp1, hp2, hp3⟩
    refine T_seq ?_
    refine T_seq ?_
    refine T_region ?_
    refine S_ 29 rfl rfl rfl _ (y_move rfl rfl) ?_
    refine S_ 30 rfl rfl rfl _ (y_move rfl rfl) ?_
    refine S_ 31 rfl rfl rfl _ (y_len_slice rfl rfl Tryd.underlying46) ?_
    refine S_ 32 rfl rfl rfl _ (y_bin rfl rfl rfl (fun _ => b_lss)) ?_
    refine S_go (fun _ _ h => h) ?_
    refine T_cond rfl (fun h32 => ?_) (fun h32 => ?_)
    · try simp only [decide_eq_true_eq, decide_eq_false_iff_not, Bool.or_eq_true, Bool.or_eq_false_iff, Bool.and_eq_true, Bool.and_eq_false_iff, Bool.not_eq_true', Bool.not_eq_false', Bool.not_eq_true, Bool.not_eq_false, Bool.not_true, Bool.not_false, Int.not_lt, Int.not_le, not_or, not_and, Classical.not_not] at h32
      obtain ⟨v, x, hd, hx1, hx2⟩ := two_at (W := W) (i := i) (by omega)
      have hkl := key_le v
      rw [hd] at hp2
      refine T_skip_go (fun _ _ h => h) ?_
      refine T_seq ?_
      refine T_block ?_
      refine T_seq ?_
      refine T_region ?_
      refine S_buildSlice 35 35 rfl rfl rfl rfl rfl Tryd.underlying46 inf9 rfl (by decide) (by decide) rfl rfl (by decide) rfl ([wdAt, wdIn, wdAfter, wdTill, wdMore, wdPpl, wdAgain].flatMap strE) ?_ ?_
      · rfl
      intro b35
      refine S_ 36 rfl rfl rfl _ (y_move rfl rfl) ?_
      refine S_ 37 rfl rfl rfl _ (y_move rfl rfl) ?_
      refine S_ 38 rfl rfl rfl _ (y_indexOwn 12 rfl rfl rfl rfl Tryd.underlying46 sz9 (fun _ => by omega)) ?_
      refine S_ 39 rfl rfl rfl _ (y_loadO1 12 (val := (fun l : List UInt8 => str l)) rfl rfl rfl rfl (fun _ => hx1) Tryd.underlying9 rfl) ?_
      refine S_ 40 rfl rfl rfl _ (y_as (v' := .int .i64 (keyK v)) (by exact rfl) (y_call rfl rfl rfl cf31 (fun _ w hM => IndexT_any _ _ _ [wdAt, wdIn, wdAfter, wdTill, wdMore, wdPpl, wdAgain] _ w (owned_T (enc := strE) (l := [wdAt, wdIn, wdAfter, wdTill, wdMore, wdPpl, wdAgain]) hM rfl (i := 35) rfl) (by decide)))) ?_
      refine S_ 7 rfl rfl rfl _ (y_assign rfl rfl) ?_
      refine S_go (fun _ _ h => h) ?_
      refine T_seq ?_
      refine T_seq ?_
      refine T_region ?_
      refine S_ 41 rfl rfl rfl _ (y_move rfl rfl) ?_
      refine S_ 42 rfl rfl rfl _ (y_bin rfl rfl rfl (fun _ => b_lss)) ?_
      refine S_ 43 rfl rfl rfl _ (y_move rfl rfl) ?_
      refine Sg_ 44 rfl rfl rfl rfl rfl rfl _ (y_move rfl rfl) ?_
      refine Sg_ 45 rfl rfl rfl rfl rfl rfl _ (y_move rfl rfl) ?_
      refine Sg_ 46 rfl rfl rfl rfl rfl rfl _ (y_bin rfl rfl rfl (fun _ => b_leq)) ?_
      refine S_ 47 rfl rfl rfl _ (y_or rfl rfl rfl) ?_
      refine S_ 48 rfl rfl rfl _ (y_move rfl rfl) ?_
      refine Sg_ 49 rfl rfl rfl rfl rfl rfl _ (y_move rfl rfl) ?_
      refine Sg_ 50 rfl rfl rfl rfl rfl rfl _ (y_bin rfl rfl rfl (fun _ => b_eql)) ?_
      refine Sg_ 51 rfl rfl rfl rfl rfl rfl _ (y_move rfl rfl) ?_
      refine Sg_ 52 rfl rfl rfl rfl rfl rfl _ (y_move rfl rfl) ?_
      refine Sg_ 53 rfl rfl rfl rfl rfl rfl _ (y_bin rfl rfl rfl (fun _ => b_eql)) ?_
      refine Sg_ 54 rfl rfl rfl rfl rfl rfl _ (y_and rfl rfl rfl) ?_
      refine S_ 55 rfl rfl rfl _ (y_or rfl rfl rfl) ?_
      refine S_ 56 rfl rfl rfl _ (y_move rfl rfl) ?_
      refine Sg_ 57 rfl rfl rfl rfl rfl rfl _ (y_move rfl rfl) ?_
      refine Sg_ 58 rfl rfl rfl rfl rfl rfl _ (y_bin rfl rfl rfl (fun _ => b_eql)) ?_
      refine Sg_ 59 rfl rfl rfl rfl rfl rfl _ (y_move rfl rfl) ?_
      refine Sg_ 60 rfl rfl rfl rfl rfl rfl _ (y_move rfl rfl) ?_
      refine Sg_ 61 rfl rfl rfl rfl rfl rfl _ (y_bin rfl rfl rfl (fun _ => b_neq)) ?_
      refine Sg_ 62 rfl rfl rfl rfl rfl rfl _ (y_and rfl rfl rfl) ?_
      refine S_ 63 rfl rfl rfl _ (y_as (v' := .bool (badK (keyK v) last (decide (((i : Nat) : Int) = 1)))) (by exact rfl) (y_or rfl rfl rfl)) ?_
      refine S_go (fun _ _ h => h) ?_
      refine T_cond rfl (fun h63 => ?_) (fun h63 => ?_)
      · skip
        rw [loop_bad h63] at hp2
        have hr : readW (splitC 32 t) = none := by rw [hr0]; exact hp2.symm
        refine T_seq ?_
        refine T_region ?_
        refine S_ 64 rfl rfl rfl _ (y_build (zv := .agg #[.int .i64 0, .int .i64 0, .string ⟨#[]⟩, .bool false, .int .i64 0, .int .i64 0, .int .i64 0, .int .i64 0]) (pl := [(0, 1), (1, 1), (2, 1), (3, 1), (4, 1), (5, 1), (6, 1), (7, 1)]) (out := [.int .i64 0, .int .i64 0, .string ⟨#[]⟩, .bool false, .int .i64 0, .int .i64 0, .int .i64 0, .int .i64 0]) rfl rfl Tryd.underlying40 z40 (by kernel_rfl) rfl) ?_
        refine S_store 2 rfl rfl rfl rfl rfl rfl sz40 rfl rfl ?_
        refine S_ 3 rfl rfl rfl _ (y_assign rfl rfl) ?_
        refine S_go (fun _ _ h => h) ?_
        refine T_ret (fun a w hF hM => hRb a w (post_cell 2 rfl rfl rfl rfl Tryd.underlying40 rfl (by exact sz40) (fun w hM => ?_) a w hF hM))
        obtain ⟨e1, e2⟩ := rs_none hr
        exact ⟨by rw [e1, e2]; rfl, hM.below⟩
      · skip
        refine T_skip_go (fun _ _ h => h) ?_
        refine T_seq ?_
        refine T_region ?_
        refine S_ 65 rfl rfl rfl _ (y_move rfl rfl) ?_
        refine S_ 5 rfl rfl rfl _ (y_assign rfl rfl) ?_
        refine S_go (fun _ _ h => h) ?_
        refine T_seq ?_
        refine T_seq ?_
        refine T_region ?_
        refine S_ 66 rfl rfl rfl _ (y_move rfl rfl) ?_
        refine S_ 67 rfl rfl rfl _ (y_bin rfl rfl rfl (fun _ => b_eql)) ?_
        refine S_ 68 rfl rfl rfl _ (y_move rfl rfl) ?_
        refine Sg_ 69 rfl rfl rfl rfl rfl rfl _ (y_move rfl rfl) ?_
        refine Sg_ 70 rfl rfl rfl rfl rfl rfl _ (y_bin rfl rfl rfl (fun _ => b_eql)) ?_
        refine S_ 71 rfl rfl rfl _ (y_or rfl rfl rfl) ?_
        refine S_go (fun _ _ h => h) ?_
        refine T_cond rfl (fun h71 => ?_) (fun h71 => ?_)
        · skip
          have hk12 : keyK v = 1 ∨ keyK v = 2 := by simpa using h71
          rw [loop_in h63 hk12] at hp2
          refine T_seq ?_
          refine T_seq ?_
          refine T_region ?_
          refine S_ 72 rfl rfl rfl _ (y_move rfl rfl) ?_
          refine S_ 73 rfl rfl rfl _ (y_move rfl rfl) ?_
          refine S_ 74 rfl rfl rfl _ (y_bin rfl rfl rfl (fun hg => b_add (by omega))) ?_
          refine S_ 75 rfl rfl rfl _ (y_indexOwnI (j := i + 1) 12 rfl rfl rfl (fun _ => rfl) rfl Tryd.underlying46 sz9 (fun _ => by omega)) ?_
          refine S_ 76 rfl rfl rfl _ (y_loadO1 12 (val := (fun l : List UInt8 => str l)) rfl rfl rfl rfl (fun _ => hx2) Tryd.underlying9 rfl) ?_
          refine S_ 77 rfl rfl rfl _ (y_move rfl rfl) ?_
          refine S_ 78 rfl rfl rfl _ (y_bin rfl rfl rfl (fun _ => b_eql)) ?_
          refine S_ 79 rfl rfl rfl _ (y_fieldAddr rfl rfl fa40_2) ?_
          refine S_store 2 rfl rfl rfl rfl rfl rfl sz9 rfl rfl ?_
          refine S_ 80 rfl rfl rfl _ (y_fieldAddr rfl rfl fa40_3) ?_
          refine S_store 2 rfl rfl rfl rfl rfl rfl sz4 rfl rfl ?_
          refine S_go (fun _ _ h => h) ?_
          refine T_seq ?_
          refine T_region ?_
          refine S_ 81 rfl rfl rfl _ (y_fieldAddr rfl rfl fa40_2) ?_
          refine S_ 82 rfl rfl rfl _ (y_load 2 rfl rfl rfl rfl Tryd.underlying9 rfl) ?_
          refine S_ 83 rfl rfl rfl _ (y_bin rfl rfl rfl (fun _ => b_eqls)) ?_
          refine S_go (fun _ _ h => h) ?_
          refine T_cond rfl (fun h83 => ?_) (fun h83 => ?_)
          · try simp only [decide_eq_true_eq, decide_eq_false_iff_not, Bool.or_eq_true, Bool.or_eq_false_iff, Bool.and_eq_true, Bool.and_eq_false_iff, Bool.not_eq_true', Bool.not_eq_false', Bool.not_eq_true, Bool.not_eq_false, Bool.not_true, Bool.not_false, Int.not_lt, Int.not_le, not_or, not_and, Classical.not_not] at h83
            have hxe : x = [] := h83
            rw [if_pos hxe] at hp2
            have hr : readW (splitC 32 t) = none := by rw [hr0]; exact hp2.symm
            refine T_seq ?_
            refine T_region ?_
            refine S_ 84 rfl rfl rfl _ (y_build (zv := .agg #[.int .i64 0, .int .i64 0, .string ⟨#[]⟩, .bool false, .int .i64 0, .int .i64 0, .int .i64 0, .int .i64 0]) (pl := [(0, 1), (1, 1), (2, 1), (3, 1), (4, 1), (5, 1), (6, 1), (7, 1)]) (out := [.int .i64 0, .int .i64 0, .string ⟨#[]⟩, .bool false, .int .i64 0, .int .i64 0, .int .i64 0, .int .i64 0]) rfl rfl Tryd.underlying40 z40 (by kernel_rfl) rfl) ?_
            refine S_store 2 rfl rfl rfl rfl rfl rfl sz40 rfl rfl ?_
            refine S_ 3 rfl rfl rfl _ (y_assign rfl rfl) ?_
            refine S_go (fun _ _ h => h) ?_
            refine T_ret (fun a w hF hM => hRb a w (post_cell 2 rfl rfl rfl rfl Tryd.underlying40 rfl (by exact sz40) (fun w hM => ?_) a w hF hM))
            obtain ⟨e1, e2⟩ := rs_none hr
            exact ⟨by rw [e1, e2]; rfl, hM.below⟩
          · try simp only [decide_eq_true_eq, decide_eq_false_iff_not, Bool.or_eq_true, Bool.or_eq_false_iff, Bool.and_eq_true, Bool.and_eq_false_iff, Bool.not_eq_true', Bool.not_eq_false', Bool.not_eq_true, Bool.not_eq_false, Bool.not_true, Bool.not_false, Int.not_lt, Int.not_le, not_or, not_and, Classical.not_not] at h83
            have hxe : ¬ x = [] := h83
            rw [if_neg hxe] at hp2
            refine T_skip_go (fun _ _ h => h) ?_
            refine T_exit_go (fun _ _ h => h) ?_
            refine T_region ?_
            refine S_ 33 rfl rfl rfl _ (y_move rfl rfl) ?_
            refine S_ 34 rfl rfl rfl _ (y_bin rfl rfl rfl (fun hg => b_add (by omega))) ?_
            refine S_ 6 rfl rfl rfl _ (y_assign rfl rfl) ?_
            refine S_nil (nextK3 (kf := [(3, 3), (5, 9), (29, 115)]) (kl := [(2, 3), (5, 9), (29, 115)]) (i + 2) (keyK v) { st with inn := x, nx := decide (keyK v = 2) } (by repeat (first | exact kf_nil | (apply kf_in; focus rfl) | (apply kf_out; focus rfl))) (by repeat (first | exact kl_nil | exact kl_rest (by assumption) rfl | (apply kl_in; focus rfl) | (apply kl_out; focus rfl))) ?_ ?_ ?_ ?_)
            · omega
            · exact ⟨by omega, by rw [show decide ((((i + 2 : Nat)) : Int) = 1) = false from decide_eq_false (by omega)]; exact hp2, by omega⟩
            · exact ⟨rfl, rfl, trivial⟩
            · exact ⟨rfl, trivial⟩
        · skip
          have hk12 : ¬ (keyK v = 1 ∨ keyK v = 2) := by simpa using h71
          rw [loop_num h63 hk12] at hp2
          refine T_skip_go (fun _ _ h => h) ?_
          refine T_seq ?_
          refine T_region ?_
          refine S_ 86 rfl rfl rfl _ (y_move rfl rfl) ?_
          refine S_ 87 rfl rfl rfl _ (y_move rfl rfl) ?_
          refine S_ 88 rfl rfl rfl _ (y_bin rfl rfl rfl (fun hg => b_add (by omega))) ?_
          refine S_ 89 rfl rfl rfl _ (y_indexOwnI (j := i + 1) 12 rfl rfl rfl (fun _ => rfl) rfl Tryd.underlying46 sz9 (fun _ => by omega)) ?_
          refine S_ 90 rfl rfl rfl _ (y_loadO1 12 (val := (fun l : List UInt8 => str l)) rfl rfl rfl rfl (fun _ => hx2) Tryd.underlying9 rfl) ?_
          refine S_ 91 rfl rfl rfl _ (y_call rfl rfl rfl cf32 (fun _ w _ => whole_any x 10 (by decide) (hz x (List.mem_of_getElem? hx2)) w)) ?_
          refine S_ 85 rfl rfl rfl _ (y_move rfl rfl) ?_
          refine S_ 92 rfl rfl rfl _ (y_as (v' := .int .i64 (sNum x)) (by exact rfl) (y_extract rfl rfl rfl)) ?_
          refine S_ 93 rfl rfl rfl _ (y_extract rfl rfl rfl) ?_
          refine S_ 8 rfl rfl rfl _ (y_assign rfl rfl) ?_
          refine S_ 9 rfl rfl rfl _ (y_assign rfl rfl) ?_
          refine S_go (fun _ _ h => h) ?_
          refine T_seq ?_
          refine T_seq ?_
          refine T_region ?_
          refine S_ 94 rfl rfl rfl _ (y_move rfl rfl) ?_
          refine S_ 95 rfl rfl rfl _ (y_not rfl rfl) ?_
          refine S_ 96 rfl rfl rfl _ (y_move rfl rfl) ?_
          refine Sg_ 97 rfl rfl rfl rfl rfl rfl _ (y_move rfl rfl) ?_
          refine Sg_ 98 rfl rfl rfl rfl rfl rfl _ (y_bin rfl rfl rfl (fun _ => b_eql)) ?_
          refine Sg_ 99 rfl rfl rfl rfl rfl rfl _ (y_move rfl rfl) ?_
          refine Sg_ 100 rfl rfl rfl rfl rfl rfl _ (y_move rfl rfl) ?_
          refine Sg_ 101 rfl rfl rfl rfl rfl rfl _ (y_bin rfl rfl rfl (fun _ => b_eql)) ?_
          refine Sg_ 102 rfl rfl rfl rfl rfl rfl _ (y_and rfl rfl rfl) ?_
          refine S_ 103 rfl rfl rfl _ (y_as (v' := .bool (!plainOk x 10 || (decide (keyK v = 6) && decide (sNum x = 0)))) (by exact rfl) (y_or rfl rfl rfl)) ?_
          refine S_go (fun _ _ h => h) ?_
          refine T_cond rfl (fun h103 => ?_) (fun h103 => ?_)
          · skip
            rw [if_pos h103] at hp2
            have hr : readW (splitC 32 t) = none := by rw [hr0]; exact hp2.symm
            refine T_seq ?_
            refine T_region ?_
            refine S_ 104 rfl rfl rfl _ (y_build (zv := .agg #[.int .i64 0, .int .i64 0, .string ⟨#[]⟩, .bool false, .int .i64 0, .int .i64 0, .int .i64 0, .int .i64 0]) (pl := [(0, 1), (1, 1), (2, 1), (3, 1), (4, 1), (5, 1), (6, 1), (7, 1)]) (out := [.int .i64 0, .int .i64 0, .string ⟨#[]⟩, .bool false, .int .i64 0, .int .i64 0, .int .i64 0, .int .i64 0]) rfl rfl Tryd.underlying40 z40 (by kernel_rfl) rfl) ?_
            refine S_store 2 rfl rfl rfl rfl rfl rfl sz40 rfl rfl ?_
            refine S_ 3 rfl rfl rfl _ (y_assign rfl rfl) ?_
            refine S_go (fun _ _ h => h) ?_
            refine T_ret (fun a w hF hM => hRb a w (post_cell 2 rfl rfl rfl rfl Tryd.underlying40 rfl (by exact sz40) (fun w hM => ?_) a w hF hM))
            obtain ⟨e1, e2⟩ := rs_none hr
            exact ⟨by rw [e1, e2]; rfl, hM.below⟩
          · skip
            rw [if_neg (by rw [h103]; simp)] at hp2
            have hkn : ¬ keyK v < 0 := fun h => by rw [badK, decide_eq_true h] at h63; simp at h63
            have hkk : keyK v = 0 ∨ keyK v = 3 ∨ keyK v = 4 ∨ keyK v = 5 ∨ keyK v = 6 := by omega
            refine T_skip_go (fun _ _ h => h) ?_
            refine T_region ?_
            refine S_makeMap 105 105 (fun n : Int => Value.int .i64 n) rfl rfl rfl rfl ?_
            intro b105
            refine S_ 106 rfl rfl rfl _ (y_fieldAddr rfl rfl fa40_1) ?_
            refine S_insert 105 (enc := fun n : Int => Value.int .i64 n) rfl rfl rfl rfl rfl rfl rfl Tryd.underlying75 Tryd.underlying3 rfl (same_int _) (fits_int _) (rfl) ?_
            refine S_ 107 rfl rfl rfl _ (y_fieldAddr rfl rfl fa40_4) ?_
            refine S_insert 105 (enc := fun n : Int => Value.int .i64 n) rfl rfl rfl rfl rfl rfl rfl Tryd.underlying75 Tryd.underlying3 rfl (same_int _) (fits_int _) (rfl) ?_
            refine S_ 108 rfl rfl rfl _ (y_fieldAddr rfl rfl fa40_5) ?_
            refine S_insert 105 (enc := fun n : Int => Value.int .i64 n) rfl rfl rfl rfl rfl rfl rfl Tryd.underlying75 Tryd.underlying3 rfl (same_int _) (fits_int _) (rfl) ?_
            refine S_ 109 rfl rfl rfl _ (y_fieldAddr rfl rfl fa40_6) ?_
            refine S_insert 105 (enc := fun n : Int => Value.int .i64 n) rfl rfl rfl rfl rfl rfl rfl Tryd.underlying75 Tryd.underlying3 rfl (same_int _) (fits_int _) (rfl) ?_
            refine S_ 110 rfl rfl rfl _ (y_fieldAddr rfl rfl fa40_7) ?_
            refine S_insert 105 (enc := fun n : Int => Value.int .i64 n) rfl rfl rfl rfl rfl rfl rfl Tryd.underlying75 Tryd.underlying3 rfl (same_int _) (fits_int _) (rfl) ?_
            refine S_ 111 rfl rfl rfl _ (y_move rfl rfl) ?_
            refine S_ 112 rfl rfl rfl _ (y_move rfl rfl) ?_
            refine S_ 113 rfl rfl rfl _ (y_as (v' := .pointer (some ⟨b2, offK (keyK v), none⟩)) (by exact man_ptr b2 hkk) (y_lookup 105 (enc := fun n : Int => Value.int .i64 n) rfl rfl rfl rfl Tryd.underlying75 Tryd.underlying3 rfl (same_int _) z74)) ?_
            refine S_ 114 rfl rfl rfl _ (y_move rfl rfl) ?_
            refine S_ 115 rfl rfl rfl _ (y_nilCheck rfl rfl) ?_
            refine S_store 2 rfl rfl rfl rfl rfl rfl sz3 rfl (fit_off st hkk) ?_
            rw [show spl st.enc (offK (keyK v)) (Value.int .i64 (sNum x)).cells.toList = (setK (keyK v) st (sNum x)).enc from spl_off st (sNum x) hkk]
            refine S_go (fun _ _ h => h) ?_
            refine T_region ?_
            refine S_ 33 rfl rfl rfl _ (y_move rfl rfl) ?_
            refine S_ 34 rfl rfl rfl _ (y_bin rfl rfl rfl (fun hg => b_add (by omega))) ?_
            refine S_ 6 rfl rfl rfl _ (y_assign rfl rfl) ?_
            refine S_nil (nextK3 (kf := [(3, 3), (5, 9), (29, 115)]) (kl := [(2, 3), (5, 9), (29, 115)]) (i + 2) (keyK v) (setK (keyK v) st (sNum x)) (by repeat (first | exact kf_nil | (apply kf_in; focus rfl) | (apply kf_out; focus rfl))) (by repeat (first | exact kl_nil | exact kl_rest (by assumption) rfl | (apply kl_in; focus rfl) | (apply kl_out; focus rfl))) ?_ ?_ ?_ ?_)
            · omega
            · exact ⟨by omega, by rw [show decide ((((i + 2 : Nat)) : Int) = 1) = false from decide_eq_false (by omega)]; exact hp2, by omega⟩
            · exact ⟨rfl, rfl, trivial⟩
            · exact ⟨rfl, trivial⟩
    · try simp only [decide_eq_true_eq, decide_eq_false_iff_not, Bool.or_eq_true, Bool.or_eq_false_iff, Bool.and_eq_true, Bool.and_eq_false_iff, Bool.not_eq_true', Bool.not_eq_false', Bool.not_eq_true, Bool.not_eq_false, Bool.not_true, Bool.not_false, Int.not_lt, Int.not_le, not_or, not_and, Classical.not_not] at h32
      have he : W.drop i = [] := List.drop_eq_nil_of_le (by omega)
      rw [he, loop_end] at hp2
      refine T_exit_go (fun _ _ h => h) ?_
      refine T_seq ?_
      refine T_seq ?_
      refine T_region ?_
      refine S_ 116 rfl rfl rfl _ (y_move rfl rfl) ?_
      refine S_ 117 rfl rfl rfl _ (y_bin rfl rfl rfl (fun _ => b_lss)) ?_
      refine S_go (fun _ _ h => h) ?_
      refine T_cond rfl (fun h117 => ?_) (fun h117 => ?_)
      · try simp only [decide_eq_true_eq, decide_eq_false_iff_not, Bool.or_eq_true, Bool.or_eq_false_iff, Bool.and_eq_true, Bool.and_eq_false_iff, Bool.not_eq_true', Bool.not_eq_false', Bool.not_eq_true, Bool.not_eq_false, Bool.not_true, Bool.not_false, Int.not_lt, Int.not_le, not_or, not_and, Classical.not_not] at h117
        have h117 : last < 0 := h117
        rw [if_pos h117] at hp2
        have hr : readW (splitC 32 t) = none := by rw [hr0]; exact hp2.symm
        refine T_seq ?_
        refine T_region ?_
        refine S_ 118 rfl rfl rfl _ (y_build (zv := .agg #[.int .i64 0, .int .i64 0, .string ⟨#[]⟩, .bool false, .int .i64 0, .int .i64 0, .int .i64 0, .int .i64 0]) (pl := [(0, 1), (1, 1), (2, 1), (3, 1), (4, 1), (5, 1), (6, 1), (7, 1)]) (out := [.int .i64 0, .int .i64 0, .string ⟨#[]⟩, .bool false, .int .i64 0, .int .i64 0, .int .i64 0, .int .i64 0]) rfl rfl Tryd.underlying40 z40 (by kernel_rfl) rfl) ?_
        refine S_store 2 rfl rfl rfl rfl rfl rfl sz40 rfl rfl ?_
        refine S_ 3 rfl rfl rfl _ (y_assign rfl rfl) ?_
        refine S_go (fun _ _ h => h) ?_
        refine T_ret (fun a w hF hM => hRb a w (post_cell 2 rfl rfl rfl rfl Tryd.underlying40 rfl (by exact sz40) (fun w hM => ?_) a w hF hM))
        obtain ⟨e1, e2⟩ := rs_none hr
        exact ⟨by rw [e1, e2]; rfl, hM.below⟩
      · try simp only [decide_eq_true_eq, decide_eq_false_iff_not, Bool.or_eq_true, Bool.or_eq_false_iff, Bool.and_eq_true, Bool.and_eq_false_iff, Bool.not_eq_true', Bool.not_eq_false', Bool.not_eq_true, Bool.not_eq_false, Bool.not_true, Bool.not_false, Int.not_lt, Int.not_le, not_or, not_and, Classical.not_not] at h117
        rw [if_neg (show ¬ last < 0 by omega)] at hp2
        have hr : readW (splitC 32 t) = some st := by rw [hr0]; exact hp2.symm
        refine T_skip_go (fun _ _ h => h) ?_
        refine T_seq ?_
        refine T_seq ?_
        refine T_region ?_
        refine S_ 119 rfl rfl rfl _ (y_loadA 2 rfl rfl rfl Tryd.underlying40 rfl sz40) ?_
        refine S_ 120 rfl rfl rfl _ (y_call rfl rfl rfl cf9 (fun _ w _ => StateFault_any st w)) ?_
        refine S_ 10 rfl rfl rfl _ (y_assign rfl rfl) ?_
        refine S_go (fun _ _ h => h) ?_
        refine T_seq ?_
        refine T_region ?_
        refine S_ 121 rfl rfl rfl _ (y_move rfl rfl) ?_
        refine S_ 122 rfl rfl rfl _ (y_bin rfl rfl rfl (fun _ => b_neq)) ?_
        refine S_go (fun _ _ h => h) ?_
        refine T_cond rfl (fun h122 => ?_) (fun h122 => ?_)
        · try simp only [decide_eq_true_eq, decide_eq_false_iff_not, Bool.or_eq_true, Bool.or_eq_false_iff, Bool.and_eq_true, Bool.and_eq_false_iff, Bool.not_eq_true', Bool.not_eq_false', Bool.not_eq_true, Bool.not_eq_false, Bool.not_true, Bool.not_false, Int.not_lt, Int.not_le, not_or, not_and, Classical.not_not] at h122
          refine T_seq ?_
          refine T_region ?_
          refine S_ 123 rfl rfl rfl _ (y_build (zv := .agg #[.int .i64 0, .int .i64 0, .string ⟨#[]⟩, .bool false, .int .i64 0, .int .i64 0, .int .i64 0, .int .i64 0]) (pl := [(0, 1), (1, 1), (2, 1), (3, 1), (4, 1), (5, 1), (6, 1), (7, 1)]) (out := [.int .i64 0, .int .i64 0, .string ⟨#[]⟩, .bool false, .int .i64 0, .int .i64 0, .int .i64 0, .int .i64 0]) rfl rfl Tryd.underlying40 z40 (by kernel_rfl) rfl) ?_
          refine S_ 124 rfl rfl rfl _ (y_move rfl rfl) ?_
          refine S_store 2 rfl rfl rfl rfl rfl rfl sz40 rfl rfl ?_
          refine S_ 3 rfl rfl rfl _ (y_assign rfl rfl) ?_
          refine S_go (fun _ _ h => h) ?_
          refine T_ret (fun a w hF hM => hRb a w (post_cell 2 rfl rfl rfl rfl Tryd.underlying40 rfl (by exact sz40) (fun w hM => ?_) a w hF hM))
          obtain ⟨e1, e2⟩ := rs_bad hr h122
          exact ⟨by rw [e1, e2]; rfl, hM.below⟩
        · try simp only [decide_eq_true_eq, decide_eq_false_iff_not, Bool.or_eq_true, Bool.or_eq_false_iff, Bool.and_eq_true, Bool.and_eq_false_iff, Bool.not_eq_true', Bool.not_eq_false', Bool.not_eq_true, Bool.not_eq_false, Bool.not_true, Bool.not_false, Int.not_lt, Int.not_le, not_or, not_and, Classical.not_not] at h122
          refine T_skip_go (fun _ _ h => h) ?_
          refine T_seq ?_
          refine T_region ?_
          refine S_ 125 rfl rfl rfl _ (y_loadA 2 rfl rfl rfl Tryd.underlying40 rfl sz40) ?_
          refine S_store 2 rfl rfl rfl rfl rfl rfl sz40 rfl rfl ?_
          refine S_ 3 rfl rfl rfl _ (y_assign rfl rfl) ?_
          refine S_go (fun _ _ h => h) ?_
          refine T_ret (fun a w hF hM => hRb a w (post_cell 2 rfl rfl rfl rfl Tryd.underlying40 rfl (by exact sz40) (fun w hM => ?_) a w hF hM))
          obtain ⟨e1, e2⟩ := rs_good hr h122
          exact ⟨by rw [e1, e2]; rfl, hM.below⟩
/-! ### The law -/
def PSt.eqB (a b : PSt) : Bool := decide (a.k = b.k) && (decide (a.at_ = b.at_) && (decide (a.inn = b.inn) && ((a.nx == b.nx) && (decide (a.till = b.till) && (decide (a.more = b.more) && (decide (a.ppl = b.ppl) && decide (a.again = b.again)))))))
theorem PSt.eqB_self (a : PSt) : PSt.eqB a a = true := by simp [PSt.eqB]
theorem toldS_any (a b : PSt) (e f : Int) (w : World) :
    Calls Tryd.prog 16 #[a.val, .int .i64 e, b.val, .int .i64 f] w fun en w' => en = .returned (.bool (PSt.eqB a (if f = 0 then b else stZero) && decide (e = f))) ∧ Below w.heap.size w w' := by
  refine enter_args (args := [.agg #[.int .i64 a.k, .int .i64 a.at_, str a.inn, .bool a.nx, .int .i64 a.till, .int .i64 a.more, .int .i64 a.ppl, .int .i64 a.again], .int .i64 e, .agg #[.int .i64 b.k, .int .i64 b.at_, str b.inn, .bool b.nx, .int .i64 b.till, .int .i64 b.more, .int .i64 b.ppl, .int .i64 b.again], .int .i64 f]) (F := _) Tryd.func16 rfl Tryd.ntmps16 rfl rfl ?_
  intro Rb hRb hRn
  refine T_seq ?_
  refine T_region ?_
  refine S_box 4 4 rfl rfl rfl rfl rfl ?_
  intro b4
  refine S_box 6 6 rfl rfl rfl rfl rfl ?_
  intro b6
  refine S_ 8 rfl rfl rfl _ (y_assign rfl rfl) ?_
  refine S_go (fun _ _ h => h) ?_
  refine T_seq ?_
  refine T_region ?_
  refine S_alloc 9 9 rfl rfl rfl rfl z40 ?_
  intro b9
  refine S_go (fun _ _ h => h) ?_
  refine T_seq ?_
  refine T_seq ?_
  refine T_region ?_
  refine S_ 10 rfl rfl rfl _ (y_move rfl rfl) ?_
  refine S_ 11 rfl rfl rfl _ (y_bin rfl rfl rfl (fun _ => b_neq)) ?_
  refine S_go (fun _ _ h => h) ?_
  refine T_cond rfl (fun h11 => ?_) (fun h11 => ?_)
  · try simp only [decide_eq_true_eq, decide_eq_false_iff_not, Bool.or_eq_true, Bool.or_eq_false_iff, Bool.and_eq_true, Bool.and_eq_false_iff, Bool.not_eq_true', Bool.not_eq_false', Bool.not_eq_true, Bool.not_eq_false, Bool.not_true, Bool.not_false, Int.not_lt, Int.not_le, not_or, not_and, Classical.not_not] at h11
    refine T_region ?_
    refine S_ 12 rfl rfl rfl _ (y_loadA 9 rfl rfl rfl Tryd.underlying40 rfl sz40) ?_
    refine S_store 6 rfl rfl rfl rfl rfl rfl sz40 rfl rfl ?_
    refine S_go (fun _ _ h => h) ?_
    refine T_seq ?_
    refine T_region ?_
    refine S_ 13 rfl rfl rfl _ (y_loadA 4 rfl rfl rfl Tryd.underlying40 rfl sz40) ?_
    refine S_ 14 rfl rfl rfl _ (y_loadA 6 rfl rfl rfl Tryd.underlying40 rfl sz40) ?_
    refine S_ 15 rfl rfl rfl _ (y_as (v' := .bool (PSt.eqB a stZero)) (by simp [PSt.eqB, str, stZero]; rfl) (y_bin rfl rfl rfl (fun _ => b_eqlA (rs := [_, _, _, _, _, _, _, _]) Tryd.underlying40 (by kernel_rfl) (by kernel_rfl) ⟨by decide, ⟨_, Tryd.underlying3, rfl, _, _, rfl, rfl, rfl⟩, by decide, ⟨_, Tryd.underlying3, rfl, _, _, rfl, rfl, rfl⟩, by decide, ⟨_, Tryd.underlying9, rfl, _, _, rfl, rfl, rfl⟩, by decide, ⟨_, Tryd.underlying4, rfl, _, _, rfl, rfl, rfl⟩, by decide, ⟨_, Tryd.underlying3, rfl, _, _, rfl, rfl, rfl⟩, by decide, ⟨_, Tryd.underlying3, rfl, _, _, rfl, rfl, rfl⟩, by decide, ⟨_, Tryd.underlying3, rfl, _, _, rfl, rfl, rfl⟩, by decide, ⟨_, Tryd.underlying3, rfl, _, _, rfl, rfl, rfl⟩, trivial⟩))) ?_
    refine S_ 16 rfl rfl rfl _ (y_move rfl rfl) ?_
    refine Sg_ 17 rfl rfl rfl rfl rfl rfl _ (y_move rfl rfl) ?_
    refine Sg_ 18 rfl rfl rfl rfl rfl rfl _ (y_move rfl rfl) ?_
    refine Sg_ 19 rfl rfl rfl rfl rfl rfl _ (y_bin rfl rfl rfl (fun _ => b_eql)) ?_
    refine S_ 20 rfl rfl rfl _ (y_and rfl rfl rfl) ?_
    refine S_ 8 rfl rfl rfl _ (y_assign rfl rfl) ?_
    refine S_go (fun _ _ h => h) ?_
    refine T_ret (fun a w hF hM => hRb a w (post1 rfl rfl (fun w hM => ?_) a w hF hM))
    exact ⟨by rw [if_neg h11], hM.below⟩
  · try simp only [decide_eq_true_eq, decide_eq_false_iff_not, Bool.or_eq_true, Bool.or_eq_false_iff, Bool.and_eq_true, Bool.and_eq_false_iff, Bool.not_eq_true', Bool.not_eq_false', Bool.not_eq_true, Bool.not_eq_false, Bool.not_true, Bool.not_false, Int.not_lt, Int.not_le, not_or, not_and, Classical.not_not] at h11
    refine T_skip_go (fun _ _ h => h) ?_
    refine T_seq ?_
    refine T_region ?_
    refine S_ 13 rfl rfl rfl _ (y_loadA 4 rfl rfl rfl Tryd.underlying40 rfl sz40) ?_
    refine S_ 14 rfl rfl rfl _ (y_loadA 6 rfl rfl rfl Tryd.underlying40 rfl sz40) ?_
    refine S_ 15 rfl rfl rfl _ (y_as (v' := .bool (PSt.eqB a b)) (by simp [PSt.eqB, str]) (y_bin rfl rfl rfl (fun _ => b_eqlA (rs := [_, _, _, _, _, _, _, _]) Tryd.underlying40 (by kernel_rfl) (by kernel_rfl) ⟨by decide, ⟨_, Tryd.underlying3, rfl, _, _, rfl, rfl, rfl⟩, by decide, ⟨_, Tryd.underlying3, rfl, _, _, rfl, rfl, rfl⟩, by decide, ⟨_, Tryd.underlying9, rfl, _, _, rfl, rfl, rfl⟩, by decide, ⟨_, Tryd.underlying4, rfl, _, _, rfl, rfl, rfl⟩, by decide, ⟨_, Tryd.underlying3, rfl, _, _, rfl, rfl, rfl⟩, by decide, ⟨_, Tryd.underlying3, rfl, _, _, rfl, rfl, rfl⟩, by decide, ⟨_, Tryd.underlying3, rfl, _, _, rfl, rfl, rfl⟩, by decide, ⟨_, Tryd.underlying3, rfl, _, _, rfl, rfl, rfl⟩, trivial⟩))) ?_
    refine S_ 16 rfl rfl rfl _ (y_move rfl rfl) ?_
    refine Sg_ 17 rfl rfl rfl rfl rfl rfl _ (y_move rfl rfl) ?_
    refine Sg_ 18 rfl rfl rfl rfl rfl rfl _ (y_move rfl rfl) ?_
    refine Sg_ 19 rfl rfl rfl rfl rfl rfl _ (y_bin rfl rfl rfl (fun _ => b_eql)) ?_
    refine S_ 20 rfl rfl rfl _ (y_and rfl rfl rfl) ?_
    refine S_ 8 rfl rfl rfl _ (y_assign rfl rfl) ?_
    refine S_go (fun _ _ h => h) ?_
    refine T_ret (fun a w hF hM => hRb a w (post1 rfl rfl (fun w hM => ?_) a w hF hM))
    exact ⟨by rw [if_pos h11], hM.below⟩
theorem told_any (v want : List UInt8) (e f : Int) (w : World) :
    Calls Tryd.prog 13 #[str v, .int .i64 e, str want, .int .i64 f] w fun en w' => en = .returned (.bool (decide (v = if f = 0 then want else []) && decide (e = f))) ∧ Below w.heap.size w w' := by
  refine enter_args (args := [str v, .int .i64 e, str want, .int .i64 f]) (F := _) Tryd.func13 rfl Tryd.ntmps13 rfl rfl ?_
  intro Rb hRb hRn
  refine T_seq ?_
  refine T_region ?_
  refine S_ 8 rfl rfl rfl _ (y_assign rfl rfl) ?_
  refine S_go (fun _ _ h => h) ?_
  refine T_seq ?_
  refine T_region ?_
  refine S_ 9 rfl rfl rfl _ (y_assign rfl rfl) ?_
  refine S_go (fun _ _ h => h) ?_
  refine T_seq ?_
  refine T_seq ?_
  refine T_region ?_
  refine S_ 10 rfl rfl rfl _ (y_move rfl rfl) ?_
  refine S_ 11 rfl rfl rfl _ (y_bin rfl rfl rfl (fun _ => b_neq)) ?_
  refine S_go (fun _ _ h => h) ?_
  refine T_cond rfl (fun h11 => ?_) (fun h11 => ?_)
  · try simp only [decide_eq_true_eq, decide_eq_false_iff_not, Bool.or_eq_true, Bool.or_eq_false_iff, Bool.and_eq_true, Bool.and_eq_false_iff, Bool.not_eq_true', Bool.not_eq_false', Bool.not_eq_true, Bool.not_eq_false, Bool.not_true, Bool.not_false, Int.not_lt, Int.not_le, not_or, not_and, Classical.not_not] at h11
    refine T_region ?_
    refine S_ 12 rfl rfl rfl _ (y_move rfl rfl) ?_
    refine S_ 2 rfl rfl rfl _ (y_assign rfl rfl) ?_
    refine S_go (fun _ _ h => h) ?_
    refine T_seq ?_
    refine T_region ?_
    refine S_ 13 rfl rfl rfl _ (y_move rfl rfl) ?_
    refine S_ 14 rfl rfl rfl _ (y_move rfl rfl) ?_
    refine S_ 15 rfl rfl rfl _ (y_bin rfl rfl rfl (fun _ => b_eqls)) ?_
    refine S_ 16 rfl rfl rfl _ (y_move rfl rfl) ?_
    refine Sg_ 17 rfl rfl rfl rfl rfl rfl _ (y_move rfl rfl) ?_
    refine Sg_ 18 rfl rfl rfl rfl rfl rfl _ (y_move rfl rfl) ?_
    refine Sg_ 19 rfl rfl rfl rfl rfl rfl _ (y_bin rfl rfl rfl (fun _ => b_eql)) ?_
    refine S_ 20 rfl rfl rfl _ (y_and rfl rfl rfl) ?_
    refine S_ 8 rfl rfl rfl _ (y_assign rfl rfl) ?_
    refine S_go (fun _ _ h => h) ?_
    refine T_ret (fun a w hF hM => hRb a w (post1 rfl rfl (fun w hM => ?_) a w hF hM))
    exact ⟨by rw [if_neg h11], hM.below⟩
  · try simp only [decide_eq_true_eq, decide_eq_false_iff_not, Bool.or_eq_true, Bool.or_eq_false_iff, Bool.and_eq_true, Bool.and_eq_false_iff, Bool.not_eq_true', Bool.not_eq_false', Bool.not_eq_true, Bool.not_eq_false, Bool.not_true, Bool.not_false, Int.not_lt, Int.not_le, not_or, not_and, Classical.not_not] at h11
    refine T_skip_go (fun _ _ h => h) ?_
    refine T_seq ?_
    refine T_region ?_
    refine S_ 13 rfl rfl rfl _ (y_move rfl rfl) ?_
    refine S_ 14 rfl rfl rfl _ (y_move rfl rfl) ?_
    refine S_ 15 rfl rfl rfl _ (y_bin rfl rfl rfl (fun _ => b_eqls)) ?_
    refine S_ 16 rfl rfl rfl _ (y_move rfl rfl) ?_
    refine Sg_ 17 rfl rfl rfl rfl rfl rfl _ (y_move rfl rfl) ?_
    refine Sg_ 18 rfl rfl rfl rfl rfl rfl _ (y_move rfl rfl) ?_
    refine Sg_ 19 rfl rfl rfl rfl rfl rfl _ (y_bin rfl rfl rfl (fun _ => b_eql)) ?_
    refine S_ 20 rfl rfl rfl _ (y_and rfl rfl rfl) ?_
    refine S_ 8 rfl rfl rfl _ (y_assign rfl rfl) ?_
    refine S_go (fun _ _ h => h) ?_
    refine T_ret (fun a w hF hM => hRb a w (post1 rfl rfl (fun w hM => ?_) a w hF hM))
    exact ⟨by rw [if_pos h11], hM.below⟩
theorem rs_zero {t : List UInt8} (h : ¬ rsNo t = 0) : rsSt t = stZero := if_neg h
theorem tw2 {i : Nat} (a b : List UInt8) (h : i < 2) : [str a, str b][i]? = some (str ([a, b].getD i [])) := by
  match i, h with
  | 0, _ => rfl
  | 1, _ => rfl
theorem tw_len {i : Nat} {a b : List UInt8} {n : Nat} (ha : a.length ≤ n) (hb : b.length ≤ n) : ([a, b].getD i []).length ≤ n := by
  match i with
  | 0 => exact ha
  | 1 => exact hb
  | _ + 2 => simp
theorem stTxt_le {s : PSt} (h : stNo s = 0) : (stTxt s).length ≤ 1000 := by
  obtain ⟨⟨hk1, hk3⟩, hin, hb, hnx⟩ := st_parts h
  have hkw := kwd_len s.k.toNat
  have ha := Lib.itoa_length_le s.at_ (by omega) (by omega)
  have ht := Lib.itoa_length_le s.till (by omega) (by omega)
  have hm := Lib.itoa_length_le s.more (by omega) (by omega)
  have hp := Lib.itoa_length_le s.ppl (by omega) (by omega)
  have hg := Lib.itoa_length_le s.again (by omega) (by omega)
  have ho : ∀ (w : List UInt8) (b : Bool) (n : Int), w.length ≤ 10 → (Lib.itoa n).length ≤ 40 → (optT w b n).length ≤ 50 := fun w b n h1 h2 => by
    unfold optT; split
    · rw [List.length_append]; omega
    · simp
  have hi : (inT s).length ≤ 60 := by
    unfold inT
    repeat' split
    all_goals simp
    all_goals omega
  have h1 := ho wTill (!decide (s.till = -1)) s.till (by decide) (by omega)
  have h2 := ho wMore (!decide (s.more = -1)) s.more (by decide) (by omega)
  have h3 := ho wPpl (!decide (s.ppl = -1)) s.ppl (by decide) (by omega)
  have h4 := ho wAgain (!decide (s.again = 0)) s.again (by decide) (by omega)
  simp only [stTxt, List.length_append, List.length_cons, List.length_nil]
  omega
theorem ReleaseStates_any (s : PSt) (t : List UInt8) (w : World) (ht : t.length ≤ 1000000000) (hP : P10 w) (hK : KW w) :
    Calls Tryd.prog 4 #[s.val, str t] w fun e w' => e = .returned (.bool true) ∧ Below w.heap.size w w' := by
  refine enter_args (args := [.agg #[.int .i64 s.k, .int .i64 s.at_, str s.inn, .bool s.nx, .int .i64 s.till, .int .i64 s.more, .int .i64 s.ppl, .int .i64 s.again], str t]) (F := _) Tryd.func4 rfl Tryd.ntmps4 rfl rfl ?_
  intro Rb hRb hRn
  refine T_seq ?_
  refine T_region ?_
  refine S_box 2 2 rfl rfl rfl rfl rfl ?_
  intro b2
  refine S_ 4 rfl rfl rfl _ (y_assign rfl rfl) ?_
  refine S_go (fun _ _ h => h) ?_
  refine T_seq ?_
  refine T_region ?_
  refine S_ 15 rfl rfl rfl _ (y_loadA 2 rfl rfl rfl Tryd.underlying40 rfl sz40) ?_
  refine S_ 16 rfl rfl rfl _ (y_call rfl rfl rfl cf9 (fun _ w _ => StateFault_any s w)) ?_
  refine S_ 5 rfl rfl rfl _ (y_assign rfl rfl) ?_
  refine S_go (fun _ _ h => h) ?_
  refine T_seq ?_
  refine T_region ?_
  refine S_ 6 rfl rfl rfl _ (y_assign rfl rfl) ?_
  refine S_go (fun _ _ h => h) ?_
  refine T_seq ?_
  refine T_seq ?_
  refine T_region ?_
  refine S_ 17 rfl rfl rfl _ (y_move rfl rfl) ?_
  refine S_ 18 rfl rfl rfl _ (y_bin rfl rfl rfl (fun _ => b_eql)) ?_
  refine S_go (fun _ _ h => h) ?_
  refine T_cond rfl (fun h18 => ?_) (fun h18 => ?_)
  · try simp only [decide_eq_true_eq, decide_eq_false_iff_not, Bool.or_eq_true, Bool.or_eq_false_iff, Bool.and_eq_true, Bool.and_eq_false_iff, Bool.not_eq_true', Bool.not_eq_false', Bool.not_eq_true, Bool.not_eq_false, Bool.not_true, Bool.not_false, Int.not_lt, Int.not_le, not_or, not_and, Classical.not_not] at h18
    have hW : (stTxt s).length ≤ 1000000000 := Nat.le_trans (stTxt_le h18) (by decide)
    refine T_region ?_
    refine S_ 19 rfl rfl rfl _ (y_loadA 2 rfl rfl rfl Tryd.underlying40 rfl sz40) ?_
    refine S_ 20 rfl rfl rfl _ (y_call rfl rfl rfl cf10 (fun _ w hM => StateWords_any s w (hP.below hM.below) h18)) ?_
    refine S_ 6 rfl rfl rfl _ (y_assign rfl rfl) ?_
    refine S_go (fun _ _ h => h) ?_
    refine T_seq ?_
    refine T_region ?_
    refine S_ 22 rfl rfl rfl _ (y_loadA 2 rfl rfl rfl Tryd.underlying40 rfl sz40) ?_
    refine S_ 23 rfl rfl rfl _ (y_call rfl rfl rfl cf11 (fun _ w hM => StateText_any s w (hP.below hM.below) (hK.below hM.below))) ?_
    refine S_ 21 rfl rfl rfl _ (y_move rfl rfl) ?_
    refine S_ 24 rfl rfl rfl _ (y_extract rfl rfl rfl) ?_
    refine S_ 25 rfl rfl rfl _ (y_extract rfl rfl rfl) ?_
    refine S_ 7 rfl rfl rfl _ (y_assign rfl rfl) ?_
    refine S_ 8 rfl rfl rfl _ (y_assign rfl rfl) ?_
    refine S_go (fun _ _ h => h) ?_
    refine T_seq ?_
    refine T_seq ?_
    refine T_region ?_
    refine S_ 26 rfl rfl rfl _ (y_loadA 2 rfl rfl rfl Tryd.underlying40 rfl sz40) ?_
    refine S_ 27 rfl rfl rfl _ (y_call rfl rfl rfl cf12 (fun _ w _ => CheckState_any s w)) ?_
    refine S_ 28 rfl rfl rfl _ (y_move rfl rfl) ?_
    refine S_ 29 rfl rfl rfl _ (y_bin rfl rfl rfl (fun _ => b_neq)) ?_
    refine S_ 30 rfl rfl rfl _ (y_move rfl rfl) ?_
    refine Sg_ 31 rfl rfl rfl rfl rfl rfl _ (y_move rfl rfl) ?_
    refine Sg_ 32 rfl rfl rfl rfl rfl rfl _ (y_move rfl rfl) ?_
    refine Sg_ 33 rfl rfl rfl rfl rfl rfl _ (y_move rfl rfl) ?_
    refine Sg_ 34 rfl rfl rfl rfl rfl rfl _ (y_move rfl rfl) ?_
    refine Sg_ 35 rfl rfl rfl rfl rfl rfl _ (y_call rfl rfl rfl cf13 (fun _ w _ => told_any _ _ _ _ w)) ?_
    refine Sg_ 36 rfl rfl rfl rfl rfl rfl _ (y_not rfl rfl) ?_
    refine S_ 37 rfl rfl rfl _ (y_or rfl rfl rfl) ?_
    refine S_go (fun _ _ h => h) ?_
    refine T_cond rfl (fun h37 => ?_) (fun h37 => ?_)
    · skip
      exfalso
      revert h37
      simp [h18]
    · skip
      refine T_skip_go (fun _ _ h => h) ?_
      refine T_seq ?_
      refine T_seq ?_
      refine T_region ?_
      refine S_ 38 rfl rfl rfl _ (y_move rfl rfl) ?_
      refine S_ 39 rfl rfl rfl _ (y_move rfl rfl) ?_
      refine S_buildSlice 40 40 rfl rfl rfl rfl rfl Tryd.underlying46 inf9 rfl (by decide) (by decide) rfl rfl (by decide) rfl (_) rfl ?_
      intro b40
      refine S_ 41 rfl rfl rfl _ (y_len_slice rfl rfl Tryd.underlying46) ?_
      refine S_ 42 rfl rfl rfl _ (y_move rfl rfl) ?_
      refine S_go (fun _ _ h => h) ?_
      refine T_block ?_
      refine T_loopK1 (kf := [(4, 4), (10, 14), (42, 62)]) (kl := [(4, 4), (10, 14), (42, 62)]) (fun (i : Nat) => [(42, true, .int .i64 (i : Int))]) (fun (i : Nat) => []) (fun (i : Nat) => i ≤ 2) (fun (i : Nat) => 2 - i) 0 (by repeat (first | exact kf_nil | (apply kf_in; focus rfl) | (apply kf_out; focus rfl))) (by repeat (first | exact kl_nil | exact kl_rest (by assumption) rfl | (apply kl_in; focus rfl) | (apply kl_out; focus rfl))) ?_ ?_ ?_ ?_
      · omega
      · exact ⟨rfl, trivial⟩
      · exact trivial
      rintro i hp1
      refine T_seq ?_
      refine T_region ?_
      refine S_ 43 rfl rfl rfl _ (y_bin rfl rfl rfl (fun _ => b_lss)) ?_
      refine S_go (fun _ _ h => h) ?_
      refine T_seq ?_
      refine T_cond rfl (fun h43 => ?_) (fun h43 => ?_)
      · try simp only [decide_eq_true_eq, decide_eq_false_iff_not, Bool.or_eq_true, Bool.or_eq_false_iff, Bool.and_eq_true, Bool.and_eq_false_iff, Bool.not_eq_true', Bool.not_eq_false', Bool.not_eq_true, Bool.not_eq_false, Bool.not_true, Bool.not_false, Int.not_lt, Int.not_le, not_or, not_and, Classical.not_not] at h43
        refine T_skip_go (fun _ _ h => h) ?_
        refine T_seq ?_
        refine T_block ?_
        refine T_seq ?_
        refine T_region ?_
        refine S_ 44 rfl rfl rfl _ (y_indexOwn 40 rfl rfl rfl rfl Tryd.underlying46 sz9 (fun _ => by omega)) ?_
        refine S_ 45 rfl rfl rfl _ (y_load_own 40 rfl rfl rfl (fun _ => by omega) (fun _ => tw2 _ _ (by omega)) Tryd.underlying9 rfl) ?_
        have hx9 := tw_len (i := i) ht hW
        generalize List.getD _ i [] = x at hx9 ⊢
        refine S_ 10 rfl rfl rfl _ (y_assign rfl rfl) ?_
        refine S_go (fun _ _ h => h) ?_
        refine T_seq ?_
        refine T_region ?_
        refine S_ 47 rfl rfl rfl _ (y_move rfl rfl) ?_
        refine S_ 48 rfl rfl rfl _ (y_call rfl rfl rfl cf14 (fun _ w hM => ReadState_any x w hx9 (hK.below hM.below))) ?_
        refine S_ 46 rfl rfl rfl _ (y_move rfl rfl) ?_
        refine S_ 49 rfl rfl rfl _ (y_extract rfl rfl rfl) ?_
        refine S_ 50 rfl rfl rfl _ (y_extract rfl rfl rfl) ?_
        refine S_alloc 11 11 rfl rfl rfl rfl z40 ?_
        intro b11
        refine S_store 11 rfl rfl rfl rfl rfl rfl sz40 rfl rfl ?_
        refine S_ 12 rfl rfl rfl _ (y_assign rfl rfl) ?_
        refine S_go (fun _ _ h => h) ?_
        refine T_seq ?_
        refine T_region ?_
        refine S_ 52 rfl rfl rfl _ (y_move rfl rfl) ?_
        refine S_ 53 rfl rfl rfl _ (y_call rfl rfl rfl cf15 (fun _ w _ => StateRead_any x w hx9)) ?_
        refine S_ 51 rfl rfl rfl _ (y_move rfl rfl) ?_
        refine S_ 54 rfl rfl rfl _ (y_extract rfl rfl rfl) ?_
        refine S_ 55 rfl rfl rfl _ (y_extract rfl rfl rfl) ?_
        refine S_alloc 13 13 rfl rfl rfl rfl z40 ?_
        intro b13
        refine S_store 13 rfl rfl rfl rfl rfl rfl sz40 rfl rfl ?_
        refine S_ 14 rfl rfl rfl _ (y_assign rfl rfl) ?_
        refine S_go (fun _ _ h => h) ?_
        refine T_seq ?_
        refine T_region ?_
        refine S_ 56 rfl rfl rfl _ (y_loadA 11 rfl rfl rfl Tryd.underlying40 rfl sz40) ?_
        refine S_ 57 rfl rfl rfl _ (y_move rfl rfl) ?_
        refine S_ 58 rfl rfl rfl _ (y_loadA 13 rfl rfl rfl Tryd.underlying40 rfl sz40) ?_
        refine S_ 59 rfl rfl rfl _ (y_move rfl rfl) ?_
        refine S_ 60 rfl rfl rfl _ (y_call rfl rfl rfl cf16 (fun _ w _ => toldS_any (rsSt x) (rsSt x) _ _ w)) ?_
        refine S_ 61 rfl rfl rfl _ (y_not rfl rfl) ?_
        refine S_go (fun _ _ h => h) ?_
        refine T_cond rfl (fun h61 => ?_) (fun h61 => ?_)
        · skip
          exfalso
          revert h61
          by_cases hn : rsNo x = 0
          · simp [hn, PSt.eqB_self]
          · simp [hn, rs_zero hn, PSt.eqB_self]
        · skip
          refine T_skip_go (fun _ _ h => h) ?_
          refine T_region ?_
          refine S_ 62 rfl rfl rfl _ (y_bin rfl rfl rfl (fun hg => b_add (by omega))) ?_
          refine S_ 42 rfl rfl rfl _ (y_move rfl rfl) ?_
          refine S_nil (nextK1 (kf := [(4, 4), (10, 14), (42, 62)]) (kl := [(4, 4), (10, 14), (42, 62)]) (i + 1) (by repeat (first | exact kf_nil | (apply kf_in; focus rfl) | (apply kf_out; focus rfl))) (by repeat (first | exact kl_nil | exact kl_rest (by assumption) rfl | (apply kl_in; focus rfl) | (apply kl_out; focus rfl))) ?_ ?_ ?_ ?_)
          · omega
          · omega
          · exact ⟨rfl, trivial⟩
          · exact trivial
      · try simp only [decide_eq_true_eq, decide_eq_false_iff_not, Bool.or_eq_true, Bool.or_eq_false_iff, Bool.and_eq_true, Bool.and_eq_false_iff, Bool.not_eq_true', Bool.not_eq_false', Bool.not_eq_true, Bool.not_eq_false, Bool.not_true, Bool.not_false, Int.not_lt, Int.not_le, not_or, not_and, Classical.not_not] at h43
        refine T_exit_go (fun _ _ h => h) ?_
        refine T_seq ?_
        refine T_region ?_
        refine S_ 4 rfl rfl rfl _ (y_assign rfl rfl) ?_
        refine S_go (fun _ _ h => h) ?_
        refine T_ret (fun a w hF hM => hRb a w (post1 rfl rfl (fun w hM => ?_) a w hF hM))
        exact ⟨rfl, hM.below⟩
  · try simp only [decide_eq_true_eq, decide_eq_false_iff_not, Bool.or_eq_true, Bool.or_eq_false_iff, Bool.and_eq_true, Bool.and_eq_false_iff, Bool.not_eq_true', Bool.not_eq_false', Bool.not_eq_true, Bool.not_eq_false, Bool.not_true, Bool.not_false, Int.not_lt, Int.not_le, not_or, not_and, Classical.not_not] at h18
    have hW : ([] : List UInt8).length ≤ 1000000000 := by simp
    refine T_skip_go (fun _ _ h => h) ?_
    refine T_seq ?_
    refine T_region ?_
    refine S_ 22 rfl rfl rfl _ (y_loadA 2 rfl rfl rfl Tryd.underlying40 rfl sz40) ?_
    refine S_ 23 rfl rfl rfl _ (y_call rfl rfl rfl cf11 (fun _ w hM => StateText_any s w (hP.below hM.below) (hK.below hM.below))) ?_
    refine S_ 21 rfl rfl rfl _ (y_move rfl rfl) ?_
    refine S_ 24 rfl rfl rfl _ (y_extract rfl rfl rfl) ?_
    refine S_ 25 rfl rfl rfl _ (y_extract rfl rfl rfl) ?_
    refine S_ 7 rfl rfl rfl _ (y_assign rfl rfl) ?_
    refine S_ 8 rfl rfl rfl _ (y_assign rfl rfl) ?_
    refine S_go (fun _ _ h => h) ?_
    refine T_seq ?_
    refine T_seq ?_
    refine T_region ?_
    refine S_ 26 rfl rfl rfl _ (y_loadA 2 rfl rfl rfl Tryd.underlying40 rfl sz40) ?_
    refine S_ 27 rfl rfl rfl _ (y_call rfl rfl rfl cf12 (fun _ w _ => CheckState_any s w)) ?_
    refine S_ 28 rfl rfl rfl _ (y_move rfl rfl) ?_
    refine S_ 29 rfl rfl rfl _ (y_bin rfl rfl rfl (fun _ => b_neq)) ?_
    refine S_ 30 rfl rfl rfl _ (y_move rfl rfl) ?_
    refine Sg_ 31 rfl rfl rfl rfl rfl rfl _ (y_move rfl rfl) ?_
    refine Sg_ 32 rfl rfl rfl rfl rfl rfl _ (y_move rfl rfl) ?_
    refine Sg_ 33 rfl rfl rfl rfl rfl rfl _ (y_move rfl rfl) ?_
    refine Sg_ 34 rfl rfl rfl rfl rfl rfl _ (y_move rfl rfl) ?_
    refine Sg_ 35 rfl rfl rfl rfl rfl rfl _ (y_call rfl rfl rfl cf13 (fun _ w _ => told_any _ _ _ _ w)) ?_
    refine Sg_ 36 rfl rfl rfl rfl rfl rfl _ (y_not rfl rfl) ?_
    refine S_ 37 rfl rfl rfl _ (y_or rfl rfl rfl) ?_
    refine S_go (fun _ _ h => h) ?_
    refine T_cond rfl (fun h37 => ?_) (fun h37 => ?_)
    · skip
      exfalso
      revert h37
      simp [h18]
    · skip
      refine T_skip_go (fun _ _ h => h) ?_
      refine T_seq ?_
      refine T_seq ?_
      refine T_region ?_
      refine S_ 38 rfl rfl rfl _ (y_move rfl rfl) ?_
      refine S_ 39 rfl rfl rfl _ (y_move rfl rfl) ?_
      refine S_buildSlice 40 40 rfl rfl rfl rfl rfl Tryd.underlying46 inf9 rfl (by decide) (by decide) rfl rfl (by decide) rfl (_) rfl ?_
      intro b40
      refine S_ 41 rfl rfl rfl _ (y_len_slice rfl rfl Tryd.underlying46) ?_
      refine S_ 42 rfl rfl rfl _ (y_move rfl rfl) ?_
      refine S_go (fun _ _ h => h) ?_
      refine T_block ?_
      refine T_loopK1 (kf := [(4, 4), (10, 14), (42, 62)]) (kl := [(4, 4), (10, 14), (42, 62)]) (fun (i : Nat) => [(42, true, .int .i64 (i : Int))]) (fun (i : Nat) => []) (fun (i : Nat) => i ≤ 2) (fun (i : Nat) => 2 - i) 0 (by repeat (first | exact kf_nil | (apply kf_in; focus rfl) | (apply kf_out; focus rfl))) (by repeat (first | exact kl_nil | exact kl_rest (by assumption) rfl | (apply kl_in; focus rfl) | (apply kl_out; focus rfl))) ?_ ?_ ?_ ?_
      · omega
      · exact ⟨rfl, trivial⟩
      · exact trivial
      rintro i hp1
      refine T_seq ?_
      refine T_region ?_
      refine S_ 43 rfl rfl rfl _ (y_bin rfl rfl rfl (fun _ => b_lss)) ?_
      refine S_go (fun _ _ h => h) ?_
      refine T_seq ?_
      refine T_cond rfl (fun h43 => ?_) (fun h43 => ?_)
      · try simp only [decide_eq_true_eq, decide_eq_false_iff_not, Bool.or_eq_true, Bool.or_eq_false_iff, Bool.and_eq_true, Bool.and_eq_false_iff, Bool.not_eq_true', Bool.not_eq_false', Bool.not_eq_true, Bool.not_eq_false, Bool.not_true, Bool.not_false, Int.not_lt, Int.not_le, not_or, not_and, Classical.not_not] at h43
        refine T_skip_go (fun _ _ h => h) ?_
        refine T_seq ?_
        refine T_block ?_
        refine T_seq ?_
        refine T_region ?_
        refine S_ 44 rfl rfl rfl _ (y_indexOwn 40 rfl rfl rfl rfl Tryd.underlying46 sz9 (fun _ => by omega)) ?_
        refine S_ 45 rfl rfl rfl _ (y_load_own 40 rfl rfl rfl (fun _ => by omega) (fun _ => tw2 _ _ (by omega)) Tryd.underlying9 rfl) ?_
        have hx9 := tw_len (i := i) ht hW
        generalize List.getD _ i [] = x at hx9 ⊢
        refine S_ 10 rfl rfl rfl _ (y_assign rfl rfl) ?_
        refine S_go (fun _ _ h => h) ?_
        refine T_seq ?_
        refine T_region ?_
        refine S_ 47 rfl rfl rfl _ (y_move rfl rfl) ?_
        refine S_ 48 rfl rfl rfl _ (y_call rfl rfl rfl cf14 (fun _ w hM => ReadState_any x w hx9 (hK.below hM.below))) ?_
        refine S_ 46 rfl rfl rfl _ (y_move rfl rfl) ?_
        refine S_ 49 rfl rfl rfl _ (y_extract rfl rfl rfl) ?_
        refine S_ 50 rfl rfl rfl _ (y_extract rfl rfl rfl) ?_
        refine S_alloc 11 11 rfl rfl rfl rfl z40 ?_
        intro b11
        refine S_store 11 rfl rfl rfl rfl rfl rfl sz40 rfl rfl ?_
        refine S_ 12 rfl rfl rfl _ (y_assign rfl rfl) ?_
        refine S_go (fun _ _ h => h) ?_
        refine T_seq ?_
        refine T_region ?_
        refine S_ 52 rfl rfl rfl _ (y_move rfl rfl) ?_
        refine S_ 53 rfl rfl rfl _ (y_call rfl rfl rfl cf15 (fun _ w _ => StateRead_any x w hx9)) ?_
        refine S_ 51 rfl rfl rfl _ (y_move rfl rfl) ?_
        refine S_ 54 rfl rfl rfl _ (y_extract rfl rfl rfl) ?_
        refine S_ 55 rfl rfl rfl _ (y_extract rfl rfl rfl) ?_
        refine S_alloc 13 13 rfl rfl rfl rfl z40 ?_
        intro b13
        refine S_store 13 rfl rfl rfl rfl rfl rfl sz40 rfl rfl ?_
        refine S_ 14 rfl rfl rfl _ (y_assign rfl rfl) ?_
        refine S_go (fun _ _ h => h) ?_
        refine T_seq ?_
        refine T_region ?_
        refine S_ 56 rfl rfl rfl _ (y_loadA 11 rfl rfl rfl Tryd.underlying40 rfl sz40) ?_
        refine S_ 57 rfl rfl rfl _ (y_move rfl rfl) ?_
        refine S_ 58 rfl rfl rfl _ (y_loadA 13 rfl rfl rfl Tryd.underlying40 rfl sz40) ?_
        refine S_ 59 rfl rfl rfl _ (y_move rfl rfl) ?_
        refine S_ 60 rfl rfl rfl _ (y_call rfl rfl rfl cf16 (fun _ w _ => toldS_any (rsSt x) (rsSt x) _ _ w)) ?_
        refine S_ 61 rfl rfl rfl _ (y_not rfl rfl) ?_
        refine S_go (fun _ _ h => h) ?_
        refine T_cond rfl (fun h61 => ?_) (fun h61 => ?_)
        · skip
          exfalso
          revert h61
          by_cases hn : rsNo x = 0
          · simp [hn, PSt.eqB_self]
          · simp [hn, rs_zero hn, PSt.eqB_self]
        · skip
          refine T_skip_go (fun _ _ h => h) ?_
          refine T_region ?_
          refine S_ 62 rfl rfl rfl _ (y_bin rfl rfl rfl (fun hg => b_add (by omega))) ?_
          refine S_ 42 rfl rfl rfl _ (y_move rfl rfl) ?_
          refine S_nil (nextK1 (kf := [(4, 4), (10, 14), (42, 62)]) (kl := [(4, 4), (10, 14), (42, 62)]) (i + 1) (by repeat (first | exact kf_nil | (apply kf_in; focus rfl) | (apply kf_out; focus rfl))) (by repeat (first | exact kl_nil | exact kl_rest (by assumption) rfl | (apply kl_in; focus rfl) | (apply kl_out; focus rfl))) ?_ ?_ ?_ ?_)
          · omega
          · omega
          · exact ⟨rfl, trivial⟩
          · exact trivial
      · try simp only [decide_eq_true_eq, decide_eq_false_iff_not, Bool.or_eq_true, Bool.or_eq_false_iff, Bool.and_eq_true, Bool.and_eq_false_iff, Bool.not_eq_true', Bool.not_eq_false', Bool.not_eq_true, Bool.not_eq_false, Bool.not_true, Bool.not_false, Int.not_lt, Int.not_le, not_or, not_and, Classical.not_not] at h43
        refine T_exit_go (fun _ _ h => h) ?_
        refine T_seq ?_
        refine T_region ?_
        refine S_ 4 rfl rfl rfl _ (y_assign rfl rfl) ?_
        refine S_go (fun _ _ h => h) ?_
        refine T_ret (fun a w hF hM => hRb a w (post1 rfl rfl (fun w hM => ?_) a w hF hM))
        exact ⟨rfl, hM.below⟩
end Go.Proofs.YtkkngcdikbhkjaaDoor
end
section
namespace Go.Proofs.YtkkngcdikbhkjaaDoor
set_option linter.unusedSimpArgs false
set_option linter.unusedVariables false
set_option maxRecDepth 20000
open Go.ChangeShapes Go.WideShapes Go.RowKit Go.Eng
theorem ownNone : ownKnob Tryd.prog.godebug = none := by kernel_rfl
theorem laidOut : laidOutB Tryd.prog = true := by kernel_rfl
def firstCells : Array Value := (Go.Pinned.utf8FirstZ.map fun n : Nat => Value.int .u8 (n : Int)).toArray
def tabCells (k : IntKind) (zs : List Int) : Array Value := (zs.map fun n => Value.int k n).toArray
def rangeZ : List Int := [128, 191, 160, 191, 128, 159, 144, 191, 128, 143, 0, 0, 0, 0, 0, 0, 0, 0, 0, 0, 0, 0, 0, 0, 0, 0, 0, 0, 0, 0, 0, 0]
def tz32Z : List Int := [0, 1, 28, 2, 29, 14, 24, 3, 30, 22, 20, 15, 25, 17, 4, 8, 31, 27, 13, 23, 21, 19, 16, 7, 26, 12, 18, 6, 11, 5, 10, 9]
def tz64Z : List Int := [0, 1, 56, 2, 57, 49, 28, 3, 61, 58, 42, 50, 38, 29, 17, 4, 62, 47, 59, 36, 45, 43, 51, 22, 53, 39, 33, 30, 24, 18, 12, 5, 63, 55, 48, 27, 60, 41, 37, 16, 46, 35, 44, 21, 52, 32, 23, 11, 54, 26, 40, 15, 34, 20, 31, 10, 25, 14, 19, 9, 13, 8, 7, 6]
def pow10Z : List Int := [1, 10, 100, 1000, 10000, 100000, 1000000, 10000000, 100000000, 1000000000, 10000000000, 100000000000, 1000000000000, 10000000000000, 100000000000000, 1000000000000000, 10000000000000000, 100000000000000000, 1000000000000000000, 10000000000000000000]
def layCells (cs : Array Value) : Obj → Obj
  | .cells _ t frozen => .cells cs t frozen
  | o => o
noncomputable def low2 : Nat := (World.holding Tryd.prog default ⟨#[], #[], []⟩).heap.size
def rangeT : List UInt8 := [118, 97, 108, 117, 101, 32, 111, 117, 116, 32, 111, 102, 32, 114, 97, 110, 103, 101]
def syntaxT : List UInt8 := [105, 110, 118, 97, 108, 105, 100, 32, 115, 121, 110, 116, 97, 120]
noncomputable def laidWorld2 (os : Os) (args : Array Value) : World :=
  { World.holding Tryd.prog os ⟨#[.cells #[.string ⟨rangeT.toArray⟩] 187, .cells #[.string ⟨syntaxT.toArray⟩] 187], args, []⟩ with heap := (((((((World.holding Tryd.prog os ⟨#[.cells #[.string ⟨rangeT.toArray⟩] 187, .cells #[.string ⟨syntaxT.toArray⟩] 187], args, []⟩).heap.modify 5 (layCells firstCells)).modify 6 (layCells (tabCells .u8 rangeZ))).modify 7 (layCells (tabCells .u8 tz32Z))).modify 8 (layCells (tabCells .u8 tz64Z))).modify 2 (layCells (tabCells .u64 pow10Z))).modify 4 (layCells #[.iface 185 (.pointer (some ⟨low2, 0, none⟩))])).modify 3 (layCells #[.iface 185 (.pointer (some ⟨low2 + 1, 0, none⟩))]) }
def kindCells : Array Value := #[str [], str wdOpen, str wdRes, str wdIgn]
noncomputable def laidWorld3 (os : Os) (args : Array Value) : World :=
  { laidWorld2 os args with heap := (laidWorld2 os args).heap.modify 0 (layCells kindCells) }
def strsData {H : Type} (l : List (List UInt8)) : DataW H := .agg (l.map fun s => .lit (.string s))
/-- an array of strings that reads as these words holds them -/
theorem cells_of_strs {H : Type} {enc : TypeId × Value → H} {P : Program} {w : World} {base : Nat} {sp : Nat → Bool} {held : Bool} {fuel : Nat} {t e : TypeId} {n : Nat} {cs : List Value} {zs : List (List UInt8)} {p : List MemPlace}
    (ht : P.underlying t = some (.array n e)) (he : P.underlying e = some .string) (hce : P.cellsOf e = 1) (hct : P.cellsOf t = n)
    (h : DataW.trod enc P w base sp held fuel t cs = some (strsData zs, p)) : cs = zs.map str := by
  cases fuel with
  | zero => simp [DataW.trod] at h
  | succ fuel =>
    simp only [DataW.trod, ht, hce, hct, Nat.mul_one] at h
    split at h
    · rename_i hl
      obtain ⟨xs, hm, hx⟩ := Option.map_eq_some_iff.1 h
      have hxs : xs.map (·.1) = zs.map fun z => (DataW.lit (.string z) : DataW H) := by
        have := congrArg Prod.fst hx
        simpa [strsData] using this
      have hxl : xs.length = n := by simpa using Lib.mapM_length hm
      have hzl : zs.length = n := by
        have := congrArg List.length hxs
        simp at this
        omega
      apply List.ext_getElem?
      intro i
      by_cases hi : i < n
      · obtain ⟨b, hb, hf⟩ := Lib.mapM_at hm i i (by simp [hi])
        obtain ⟨z, hc, rfl, _⟩ := DataW.trod_string he hf
        have h1 : cs[i]? = some (.string z) := by
          have := congrArg (·[0]?) hc
          simpa [List.getElem?_take, List.getElem?_drop] using this
        have h2 : (xs.map (·.1))[i]? = some (DataW.lit (.string z.data.toList) : DataW H) := by simp [hb]
        rw [hxs] at h2
        simp only [List.getElem?_map, Option.map_eq_some_iff, DataW.lit.injEq, Lit.string.injEq] at h2
        obtain ⟨z', hz', rfl⟩ := h2
        rw [h1, List.getElem?_map, hz']
        simp [str]
      · rw [List.getElem?_eq_none (by omega), List.getElem?_eq_none (by simp; omega)]
    · cases h
theorem kw_of {W : World} {rest : List (String × DataW Unit)} (h : laidMet Tryd.prog (("inquest/release.kindWords", Rows.laid_inquest_release_kindWords) :: rest) W) : KW W := by
  have h' : laidMet Tryd.prog (("inquest/release.kindWords", strsData [[], wdOpen, wdRes, wdIgn]) :: rest) W := h
  obtain ⟨ps, ⟨g', t', cs, fuel, p, q, hg', ht', hvar, hd, _, _⟩, _⟩ := h'
  have hg : Tryd.prog.globalNamed "inquest/release.kindWords" = some 0 := by kernel_rfl
  have hty : (Tryd.prog.globals[0]?).map (·.type) = some 64 := by kernel_rfl
  obtain rfl := Option.some.inj (hg.symm.trans hg')
  obtain rfl := Option.some.inj (hty.symm.trans ht')
  have hcs := cells_of_strs Tryd.underlying64 Tryd.underlying9 (by kernel_rfl) (by kernel_rfl) hd
  have hcell : ∀ i, W.cell? ⟨0, i, none⟩ = cs[i]? := fun i => World.var?_cell hg hvar i
  have hat : ∀ j : Nat, j < 4 → W.cell? ⟨0, j, none⟩ = some (str (kwd j)) := fun j hj => by
    rw [hcell, ← Array.getElem?_toList, hcs, List.getElem?_map, kw_at hj]; rfl
  refine ⟨hat, ?_⟩
  have h2 := hat 0 (by decide)
  unfold World.cell? at h2
  cases hg : W.heap[0]? with
  | none => rw [hg] at h2; cases h2
  | some o => exact (Array.getElem?_eq_some_iff.1 hg).1
theorem p10_of {x y : String × DataW Unit} {rest : List (String × DataW Unit)} {W : World} (h : laidMet Tryd.prog (x :: y :: ("internal/strconv.uint64pow10", Rows.laid_internal_strconv_uint64pow10) :: rest) W) : P10 W := by
  have h0 : laidMet Tryd.prog (("internal/strconv.uint64pow10", Lib.tabData .u64 Lib.pow10Tab) :: rest) W := h.tail.tail
  have h1 := Lib.tabIs_of_head (P := Tryd.prog) (g := 2) (by kernel_rfl) (by kernel_rfl) Tryd.underlying167 Tryd.underlying150 (by kernel_rfl) (by kernel_rfl) h0
  have h2 := h1.cell (g := 2) (by kernel_rfl) 0 (by decide)
  refine ⟨h1, ?_⟩
  unfold World.cell? at h2
  cases hg : W.heap[2]? with
  | none => rw [hg] at h2; cases h2
  | some o => exact (Array.getElem?_eq_some_iff.1 hg).1
end Go.Proofs.YtkkngcdikbhkjaaDoor
end
section
namespace Go.Proofs.YtkkngcdikbhkjaaDoor
set_option linter.unusedSimpArgs false
set_option linter.unusedVariables false
set_option maxRecDepth 20000
open Go.RowKit Go.Eng
section
variable {H : Type} {enc : TypeId × Value → H} {w : World}
def IntOk (n : Int) : Prop := (Lit.int .i64 n).wf = true
def ShortS (s : List UInt8) : Prop := s.length ≤ reachBytes
theorem reach_len : reachBytes ≤ 4611686018427387904 := by decide
def strEnc (l : List UInt8) : List Value := [str l]
theorem op_s : Opn enc Tryd.prog w 9 strEnc ShortS (fun l d => d = .lit (.string l)) := opn_str Tryd.underlying9
theorem op_i : Opn enc Tryd.prog w 3 (fun n : Int => [Value.int .i64 n]) IntOk (fun n d => d = .lit (.int .i64 n)) := opn_int Tryd.underlying3
theorem op_b : Opn enc Tryd.prog w 4 (fun b : Bool => [Value.bool b]) (fun _ => True) (fun b d => d = .lit (.bool b)) := opn_bool Tryd.underlying4
end
end Go.Proofs.YtkkngcdikbhkjaaDoor
end
