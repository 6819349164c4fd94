/- The reference's glob, anywhere, PathFits, OwnersFor walked. Conditions: those of each theorem. -/
import Derived.Test.YtoeipmepmlikcaaDoorROwr
import Derived.Test.YtoeipmepmlikcaaDoorMov
namespace Go.Proofs.YtoeipmepmlikcaaDoor
set_option linter.unusedSimpArgs false
set_option linter.unusedVariables false
set_option maxRecDepth 20000
open Go.RowKit Go.Eng
theorem T_isome {P : Program} {w0 : World} {n : Nat} {k : Code} {F : FL} {L : HL} {Q : Exit → Act → World → Prop} (i : Nat) {e : TypeId} {size q c : Nat} {A : Option Addr} {xs : List Value} (hL : L.get i = some (.own e size (.slice A q c) q xs)) (h : (0 < q → A.isSome = true) → T P w0 n k F L Q) : T P w0 n k F L Q :=
  fun a w hF hM => h (fun h0 => SlR.isSome (own_reads hM hL) h0) a w hF hM
theorem TrimLeft1_any (s : List UInt8) (w : World) : Calls Tryd.prog 146 #[str s, str [42]] w fun e w' => e = .returned (str (Lib.trimLeftB s 42)) ∧ Below w.heap.size w w' :=
  (Tryd.strings_TrimLeft_one ⟨s.toArray⟩ 42 (by decide) w).mono fun e w' h => ⟨by rw [h.1], h.2 ▸ Below.refl _ _⟩
theorem step_q {path : List UInt8} {at_ : List Bool} {i : Nat} : ((decide ((0 : Int) < (i : Int)) && at_.getD (i - 1) false) && !decide ((((path.getD (i - 1) 0).toNat : Nat) : Int) = 47)) = stepF path [63] at_ i := by
  have e : ∀ c : UInt8, decide (((c.toNat : Nat) : Int) = 47) = decide (c = 47) := fun c => u8_eq (b := 47)
  rw [e]
  cases i with
  | zero => simp [stepF]
  | succ k =>
    rw [stepF, if_neg (by decide), if_neg (by decide), Nat.add_sub_cancel]
    simp only [Int.natCast_add, Int.natCast_one]
    rw [show decide ((0 : Int) < (k : Int) + 1) = true from decide_eq_true (by omega), Bool.true_and]
    cases hc : decide (path.getD k 0 = 47) with
    | true =>
      have h47 : path.getD k 0 = 47 := of_decide_eq_true hc
      rw [h47]; simp
    | false => simp
theorem step_one {path : List UInt8} {at_ : List Bool} {i : Nat} {x : UInt8} (h1 : x ≠ 42) (h2 : x ≠ 63) : ((decide ((0 : Int) < (i : Int)) && at_.getD (i - 1) false) && decide ((((path.getD (i - 1) 0).toNat : Nat) : Int) = ((x.toNat : Nat) : Int))) = stepF path [x] at_ i := by
  rw [u8_eq]
  cases i with
  | zero => rw [stepF, if_neg (by simpa using h1)]; simp
  | succ k =>
    rw [stepF, if_neg (by simpa using h1), if_neg (by simpa using h1), Nat.add_sub_cancel]
    simp only [Int.natCast_add, Int.natCast_one]
    rw [show decide ((0 : Int) < (k : Int) + 1) = true from decide_eq_true (by omega), Bool.true_and, decide_eq_false (show ¬ [x] = [63] by simpa using h2), Bool.false_and, Bool.or_false]
    rfl
theorem e0_set {z : Value} (hz : z = .bool false) (n : Nat) : ((madeCells z.cells ((n + 1) * 1)).toList).set 0 (.bool true) = (e0L n).flatMap boolE := by
  rw [made_bool z hz, bools_flat, bools_flat, e0L, List.replicate_succ]; rfl
set_option maxHeartbeats 1600000 in
theorem glob_any (p path : List UInt8) (hp : p.length ≤ 140737488351234) (hqm : path.length ≤ 140737488351232) (w : World) :
    Calls Tryd.prog 76 #[str p, str path] w fun e w' => e = .returned (.bool (globB p path)) ∧ Below w.heap.size w w' := by
  refine enter_args (args := [str p, str path]) (F := _) Tryd.func76 rfl Tryd.ntmps76 rfl rfl ?_
  intro Rb hRb hRn
  refine T_seq ?_
  refine T_region ?_
  refine S_ 4 rfl rfl rfl _ (y_assign rfl rfl) ?_
  refine S_go (fun _ _ h => h) ?_
  refine T_seq ?_
  refine T_region ?_
  refine S_ 10 rfl rfl rfl _ (y_move rfl rfl) ?_
  refine S_ 11 rfl rfl rfl _ (y_len_str rfl rfl Tryd.underlying9) ?_
  refine S_ 12 rfl rfl rfl _ (y_bin rfl rfl rfl (fun hg => b_addv (((path.length + 1 : Nat) : Int)) (by omega) (by omega))) ?_
  obtain ⟨i13, hi13, hz13, hs13, hy13⟩ := info_parts inf4
  refine S_makeSlice 13 13 rfl rfl rfl rfl rfl rfl Tryd.underlying115 hi13 hz13 hs13 (by rw [hy13]; omega) ((by simp only [maxLen]; omega)) rfl ?_
  intro b13
  refine S_ 5 rfl rfl rfl _ (y_assign rfl rfl) ?_
  refine S_go (fun _ _ h => h) ?_
  refine T_seq ?_
  refine T_region ?_
  refine S_ 14 rfl rfl rfl _ (y_move rfl rfl) ?_
  refine S_ 15 rfl rfl rfl _ (y_indexOwnI (j := 0) 13 rfl rfl rfl (fun _ => rfl) rfl Tryd.underlying115 sz4 (fun _ => by omega)) ?_
  refine S_storeOwn 13 rfl rfl rfl rfl rfl rfl sz4 rfl rfl ?_ (xs' := (e0L path.length).flatMap boolE) ?_ ?_
  · (rw [made_bool _ rfl, bools_len, List.length_replicate]; omega)
  · exact e0_set rfl path.length
  refine S_go (fun _ _ h => h) ?_
  refine T_seq ?_
  refine T_block ?_
  refine T_loopK5 (kf := [(0, 0), (5, 9), (16, 129)]) (kl := [(0, 0), (5, 9), (13, 13), (16, 129)]) (fun (pat : List UInt8) (at_ : List Bool) (A : Option Addr) (c : Nat) (k : Nat) => [(0, true, str pat), (5, true, .slice A (path.length + 1) c)]) (fun (pat : List UInt8) (at_ : List Bool) (A : Option Addr) (c : Nat) (k : Nat) => [(13, .own 4 1 (.slice A (path.length + 1) c) (path.length + 1) (at_.flatMap boolE))]) (fun (pat : List UInt8) (at_ : List Bool) (A : Option Addr) (c : Nat) (k : Nat) => at_.length = path.length + 1 ∧ pat.length ≤ k ∧ fitsGo path k pat at_ = fitsGo path p.length p (e0L path.length) ∧ pat.length ≤ p.length) (fun (pat : List UInt8) (at_ : List Bool) (A : Option Addr) (c : Nat) (k : Nat) => pat.length) p (e0L path.length) (some ⟨b13, 0, none⟩) (path.length + 1) p.length (by repeat (first | exact kf_nil | (apply kf_in; focus rfl) | (apply kf_out; focus rfl))) (by repeat (first | exact kl_nil | exact kl_rest (by assumption) rfl | (apply kl_in; focus rfl) | (apply kl_out; focus rfl))) ?_ ?_ ?_ ?_
  · exact ⟨by simp [e0L], Nat.le_refl _, rfl, Nat.le_refl _⟩
  · exact ⟨rfl, rfl, trivial⟩
  · exact ⟨rfl, trivial⟩
  rintro pat at_ A c k ⟨hr1, hr2, hr3, hr4⟩
  refine T_seq ?_
  refine T_seq ?_
  refine T_region ?_
  refine S_ 16 rfl rfl rfl _ (y_move rfl rfl) ?_
  refine S_ 17 rfl rfl rfl _ (y_bin rfl rfl rfl (fun _ => b_neqs)) ?_
  refine S_go (fun _ _ h => h) ?_
  refine T_cond rfl (fun h17 => ?_) (fun h17 => ?_)
  · try simp only [decide_eq_true_eq, decide_eq_false_iff_not, Bool.or_eq_true, Bool.or_eq_false_iff, Bool.and_eq_true, Bool.and_eq_false_iff, Bool.not_eq_true', Bool.not_eq_false', Bool.not_eq_true, Bool.not_eq_false, Bool.not_true, Bool.not_false, Int.not_lt, Int.not_le, not_or, not_and, Classical.not_not] at h17
    have hpat0 : pat ≠ [] := h17
    have hpatl : 0 < pat.length := List.length_pos_iff.2 hpat0
    have hst : (Lib.trimLeftB pat 42).length = pat.length - starsN pat := tl_len pat
    have hsl : starsN pat ≤ pat.length := takeWhile_le pat
    obtain ⟨pt, hpt⟩ : ∃ pt, pt = pat.take (runN pat) := ⟨_, rfl⟩
    have hrl : runN pat ≤ pat.length ∧ 1 ≤ runN pat := by rw [run_stars hpat0]; omega
    refine T_skip_go (fun _ _ h => h) ?_
    refine T_block ?_
    refine T_seq ?_
    refine T_region ?_
    refine S_ 18 rfl rfl rfl _ (y_move rfl rfl) ?_
    refine S_ 19 rfl rfl rfl _ (y_len_str rfl rfl Tryd.underlying9) ?_
    refine S_ 20 rfl rfl rfl _ (y_move rfl rfl) ?_
    refine S_ 21 rfl rfl rfl _ (y_call rfl rfl rfl cf146 (fun _ w _ => TrimLeft1_any pat w)) ?_
    refine S_ 22 rfl rfl rfl _ (y_len_str rfl rfl Tryd.underlying9) ?_
    refine S_ 23 rfl rfl rfl _ (y_bin rfl rfl rfl (fun hg => b_subv (((starsN pat : Nat) : Int)) (by omega) (by omega))) ?_
    refine S_ 6 rfl rfl rfl _ (y_assign rfl rfl) ?_
    refine S_go (fun _ _ h => h) ?_
    refine T_seq ?_
    refine T_region ?_
    refine S_ 24 rfl rfl rfl _ (y_move rfl rfl) ?_
    refine S_ 25 rfl rfl rfl _ (y_len_str rfl rfl Tryd.underlying9) ?_
    refine S_ 26 rfl rfl rfl _ (y_bin rfl rfl rfl (fun hg => b_addv (((path.length + 1 : Nat) : Int)) (by omega) (by omega))) ?_
    obtain ⟨i27, hi27, hz27, hs27, hy27⟩ := info_parts inf4
    refine S_makeSlice 27 27 rfl rfl rfl rfl rfl rfl Tryd.underlying115 hi27 hz27 hs27 (by rw [hy27]; omega) ((by simp only [maxLen]; omega)) rfl ?_
    intro b27
    refine S_ 7 rfl rfl rfl _ (y_assign rfl rfl) ?_
    refine S_go (fun _ _ h => h) ?_
    refine T_seq ?_
    refine T_seq ?_
    refine T_region ?_
    refine S_ 28 rfl rfl rfl _ (y_move rfl rfl) ?_
    refine S_ 29 rfl rfl rfl _ (y_len_slice rfl rfl Tryd.underlying115) ?_
    refine S_ 30 rfl rfl rfl _ (y_move rfl rfl) ?_
    refine S_go (fun _ _ h => h) ?_
    refine T_block ?_
    refine T_loopK1 (kf := [(8, 9), (30, 124)]) (kl := [(8, 9), (27, 27), (30, 124)]) (fun (i : Nat) => [(30, true, .int .i64 (i : Int))]) (fun (i : Nat) => [(27, .own 4 1 (.slice (some ⟨b27, 0, none⟩) (path.length + 1) (path.length + 1)) (path.length + 1) ((bfill (stepF path pt at_) (path.length + 1) i).flatMap boolE))]) (fun (i : Nat) => i ≤ path.length + 1) (fun (i : Nat) => path.length + 1 - i) 0 (by repeat (first | exact kf_nil | (apply kf_in; focus rfl) | (apply kf_out; focus rfl))) (by repeat (first | exact kl_nil | exact kl_rest (by assumption) rfl | (apply kl_in; focus rfl) | (apply kl_out; focus rfl))) ?_ ?_ ?_ ?_
    · omega
    · exact ⟨rfl, trivial⟩
    · exact ⟨by rw [bfill_0, ← made_bool _ rfl]; rfl, trivial⟩
    rintro i hq1
    refine T_seq ?_
    refine T_region ?_
    refine S_ 31 rfl rfl rfl _ (y_bin rfl rfl rfl (fun _ => b_lss)) ?_
    refine S_go (fun _ _ h => h) ?_
    refine T_seq ?_
    refine T_cond rfl (fun h31 => ?_) (fun h31 => ?_)
    · try simp only [decide_eq_true_eq, decide_eq_false_iff_not, Bool.or_eq_true, Bool.or_eq_false_iff, Bool.and_eq_true, Bool.and_eq_false_iff, Bool.not_eq_true', Bool.not_eq_false', Bool.not_eq_true, Bool.not_eq_false, Bool.not_true, Bool.not_false, Int.not_lt, Int.not_le, not_or, not_and, Classical.not_not] at h31
      refine T_isome 27 rfl fun hA27 => ?_
      refine T_isome 13 rfl fun hA13 => ?_
      refine T_skip_go (fun _ _ h => h) ?_
      refine T_seq ?_
      refine T_block ?_
      refine T_seq ?_
      refine T_region ?_
      refine S_ 32 rfl rfl rfl _ (y_move rfl rfl) ?_
      refine S_ 8 rfl rfl rfl _ (y_assign rfl rfl) ?_
      refine S_go (fun _ _ h => h) ?_
      refine T_seq ?_
      refine T_region ?_
      refine S_ 33 rfl rfl rfl _ (y_move rfl rfl) ?_
      refine S_ 34 rfl rfl rfl _ (y_bin rfl rfl rfl (fun _ => b_gtr)) ?_
      refine S_ 9 rfl rfl rfl _ (y_assign rfl rfl) ?_
      refine S_go (fun _ _ h => h) ?_
      refine T_block ?_
      refine T_seq ?_
      refine T_region ?_
      refine S_ 56 rfl rfl rfl _ (y_move rfl rfl) ?_
      refine S_ 57 rfl rfl rfl _ (y_bin rfl rfl rfl (fun _ => b_geq)) ?_
      refine S_ 55 rfl rfl rfl _ (y_assign rfl rfl) ?_
      refine S_go (fun _ _ h => h) ?_
      refine T_cond rfl (fun h55 => ?_) (fun h55 => ?_)
      · skip
        have h55 : 2 ≤ starsN pat := by simp only [decide_eq_true_eq] at h55; omega
        have hrs : runN pat = starsN pat := by rw [run_stars hpat0]; omega
        have hp2 : pt.getD 0 0 = 42 := by rw [hpt, hrs]; exact take_stars (by omega)
        have hp1 : pt ≠ [42] := fun e => by have := congrArg List.length e; rw [hpt, List.length_take, hrs, List.length_singleton] at this; omega
        refine T_region ?_
        refine S_ 58 rfl rfl rfl _ (y_move rfl rfl) ?_
        refine S_ 59 rfl rfl rfl _ (y_move rfl rfl) ?_
        refine S_ 60 rfl rfl rfl _ (y_move rfl rfl) ?_
        refine S_ 61 rfl rfl rfl _ (y_move rfl rfl) ?_
        refine S_ 62 rfl rfl rfl _ (y_indexAddr rfl rfl rfl Tryd.underlying115 sz4 (fun hg => hA13 (by omega)) (fun _ => by omega)) ?_
        refine S_ 63 rfl rfl rfl _ (y_loadO1 13 (val := (fun b : Bool => Value.bool b)) rfl rfl rfl (by omega) (fun _ => getD_at (by omega)) Tryd.underlying4 rfl) ?_
        refine S_ 64 rfl rfl rfl _ (y_move rfl rfl) ?_
        refine Sg_ 65 rfl rfl rfl rfl rfl rfl _ (y_move rfl rfl) ?_
        refine Sg_ 66 rfl rfl rfl rfl rfl rfl _ (y_move rfl rfl) ?_
        refine Sg_ 67 rfl rfl rfl rfl rfl rfl _ (y_move rfl rfl) ?_
        refine Sg_ 68 rfl rfl rfl rfl rfl rfl _ (y_move rfl rfl) ?_
        refine Sg_ 69 rfl rfl rfl rfl rfl rfl _ (y_bin rfl rfl rfl (fun hg => b_subv (((i - 1 : Nat) : Int)) (by simp only [Bool.true_and, Bool.and_eq_true, beq_iff_eq, decide_eq_true_eq, decide_eq_false_iff_not, Int.not_lt, Int.not_le] at hg; omega) (by simp only [Bool.true_and, Bool.and_eq_true, beq_iff_eq, decide_eq_true_eq, decide_eq_false_iff_not, Int.not_lt, Int.not_le] at hg; omega))) ?_
        refine Sg_ 70 rfl rfl rfl rfl rfl rfl _ (y_indexAddr rfl rfl rfl Tryd.underlying115 sz4 (fun hg => hA27 (by simp only [Bool.true_and, Bool.and_eq_true, beq_iff_eq, decide_eq_true_eq, decide_eq_false_iff_not, Int.not_lt, Int.not_le] at hg; omega)) (fun hg => by simp only [Bool.true_and, Bool.and_eq_true, beq_iff_eq, decide_eq_true_eq, decide_eq_false_iff_not, Int.not_lt, Int.not_le] at hg; omega)) ?_
        refine Sg_ 71 rfl rfl rfl rfl rfl rfl _ (y_loadO1 27 (val := (fun b : Bool => Value.bool b)) rfl rfl rfl (bfill_len (by omega)) (fun hg => bfill_at (j := i - 1) (by simp only [Bool.true_and, Bool.and_eq_true, beq_iff_eq, decide_eq_true_eq, decide_eq_false_iff_not, Int.not_lt, Int.not_le] at hg; omega)) Tryd.underlying4 rfl) ?_
        refine Sg_ 72 rfl rfl rfl rfl rfl rfl _ (y_and rfl rfl rfl) ?_
        refine S_ 73 rfl rfl rfl _ (y_as (v' := .bool (stepF path pt at_ i)) (by exact congrArg Value.bool (step_stars hp1 hp2)) (y_or rfl rfl rfl)) ?_
        refine S_ 74 rfl rfl rfl _ (y_indexAddr rfl rfl rfl Tryd.underlying115 sz4 (fun hg => hA27 (by omega)) (fun _ => by omega)) ?_
        refine S_storeOwn 27 rfl rfl rfl rfl rfl rfl sz4 rfl rfl ?_ (xs' := (bfill (stepF path pt at_) (path.length + 1) (i + 1)).flatMap boolE) ?_ ?_
        · (rw [bools_len, bfill_len (by omega)]; omega)
        · exact bfill_set (by omega)
        refine S_go (fun _ _ h => h) ?_
        refine T_region ?_
        refine S_ 124 rfl rfl rfl _ (y_bin rfl rfl rfl (fun hg => b_add (by omega))) ?_
        refine S_ 30 rfl rfl rfl _ (y_move rfl rfl) ?_
        refine S_nil (nextK1 (kf := [(8, 9), (30, 124)]) (kl := [(8, 9), (27, 27), (30, 124)]) (i + 1) (by repeat (first | exact kf_nil | (apply kf_in; focus rfl) | (apply kf_out; focus rfl))) (by repeat (first | exact kl_nil | exact kl_rest (by assumption) rfl | (apply kl_in; focus rfl) | (apply kl_out; focus rfl))) ?_ ?_ ?_ ?_)
        · omega
        · omega
        · exact ⟨rfl, trivial⟩
        · exact ⟨rfl, trivial⟩
      · skip
        have h55 : starsN pat < 2 := by simp only [decide_eq_false_iff_not] at h55; omega
        have hrs : runN pat = 1 := by rw [run_stars hpat0]; omega
        rw [hrs, take_one hpat0] at hpt
        refine T_seq ?_
        refine T_region ?_
        refine S_ 76 rfl rfl rfl _ (y_move rfl rfl) ?_
        refine S_ 77 rfl rfl rfl _ (y_bin rfl rfl rfl (fun _ => b_eql)) ?_
        refine S_ 75 rfl rfl rfl _ (y_assign rfl rfl) ?_
        refine S_go (fun _ _ h => h) ?_
        refine T_cond rfl (fun h75 => ?_) (fun h75 => ?_)
        · skip
          have h75 : starsN pat = 1 := by simp only [decide_eq_true_eq] at h75; omega
          have hx : pat.getD 0 0 = 42 := takeWhile_at pat 0 (show 0 < starsN pat by omega)
          rw [hx] at hpt
          subst hpt
          refine T_region ?_
          refine S_ 78 rfl rfl rfl _ (y_move rfl rfl) ?_
          refine S_ 79 rfl rfl rfl _ (y_move rfl rfl) ?_
          refine S_ 80 rfl rfl rfl _ (y_move rfl rfl) ?_
          refine S_ 81 rfl rfl rfl _ (y_move rfl rfl) ?_
          refine S_ 82 rfl rfl rfl _ (y_indexAddr rfl rfl rfl Tryd.underlying115 sz4 (fun hg => hA13 (by omega)) (fun _ => by omega)) ?_
          refine S_ 83 rfl rfl rfl _ (y_loadO1 13 (val := (fun b : Bool => Value.bool b)) rfl rfl rfl (by omega) (fun _ => getD_at (by omega)) Tryd.underlying4 rfl) ?_
          refine S_ 84 rfl rfl rfl _ (y_move rfl rfl) ?_
          refine Sg_ 85 rfl rfl rfl rfl rfl rfl _ (y_move rfl rfl) ?_
          refine Sg_ 86 rfl rfl rfl rfl rfl rfl _ (y_move rfl rfl) ?_
          refine Sg_ 87 rfl rfl rfl rfl rfl rfl _ (y_move rfl rfl) ?_
          refine Sg_ 88 rfl rfl rfl rfl rfl rfl _ (y_move rfl rfl) ?_
          refine Sg_ 89 rfl rfl rfl rfl rfl rfl _ (y_bin rfl rfl rfl (fun hg => b_subv (((i - 1 : Nat) : Int)) (by simp only [Bool.true_and, Bool.and_eq_true, beq_iff_eq, decide_eq_true_eq, decide_eq_false_iff_not, Int.not_lt, Int.not_le] at hg; omega) (by simp only [Bool.true_and, Bool.and_eq_true, beq_iff_eq, decide_eq_true_eq, decide_eq_false_iff_not, Int.not_lt, Int.not_le] at hg; omega))) ?_
          refine Sg_ 90 rfl rfl rfl rfl rfl rfl _ (y_indexAddr rfl rfl rfl Tryd.underlying115 sz4 (fun hg => hA27 (by simp only [Bool.true_and, Bool.and_eq_true, beq_iff_eq, decide_eq_true_eq, decide_eq_false_iff_not, Int.not_lt, Int.not_le] at hg; omega)) (fun hg => by simp only [Bool.true_and, Bool.and_eq_true, beq_iff_eq, decide_eq_true_eq, decide_eq_false_iff_not, Int.not_lt, Int.not_le] at hg; omega)) ?_
          refine Sg_ 91 rfl rfl rfl rfl rfl rfl _ (y_loadO1 27 (val := (fun b : Bool => Value.bool b)) rfl rfl rfl (bfill_len (by omega)) (fun hg => bfill_at (j := i - 1) (by simp only [Bool.true_and, Bool.and_eq_true, beq_iff_eq, decide_eq_true_eq, decide_eq_false_iff_not, Int.not_lt, Int.not_le] at hg; omega)) Tryd.underlying4 rfl) ?_
          refine Sg_ 92 rfl rfl rfl rfl rfl rfl _ (y_and rfl rfl rfl) ?_
          refine Sg_ 93 rfl rfl rfl rfl rfl rfl _ (y_move rfl rfl) ?_
          refine Sg_ 94 rfl rfl rfl rfl rfl rfl _ (y_move rfl rfl) ?_
          refine Sg_ 95 rfl rfl rfl rfl rfl rfl _ (y_move rfl rfl) ?_
          refine Sg_ 96 rfl rfl rfl rfl rfl rfl _ (y_bin rfl rfl rfl (fun hg => b_subv (((i - 1 : Nat) : Int)) (by simp only [Bool.true_and, Bool.and_eq_true, beq_iff_eq, decide_eq_true_eq, decide_eq_false_iff_not, Int.not_lt, Int.not_le] at hg; omega) (by simp only [Bool.true_and, Bool.and_eq_true, beq_iff_eq, decide_eq_true_eq, decide_eq_false_iff_not, Int.not_lt, Int.not_le] at hg; omega))) ?_
          refine Sg_ 97 rfl rfl rfl rfl rfl rfl _ (y_index_str rfl rfl rfl Tryd.underlying9 (fun hg => by simp only [Bool.true_and, Bool.and_eq_true, beq_iff_eq, decide_eq_true_eq, decide_eq_false_iff_not, Int.not_lt, Int.not_le] at hg; omega)) ?_
          refine Sg_ 98 rfl rfl rfl rfl rfl rfl _ (y_bin rfl rfl rfl (fun _ => b_neq)) ?_
          refine Sg_ 99 rfl rfl rfl rfl rfl rfl _ (y_and rfl rfl rfl) ?_
          refine S_ 100 rfl rfl rfl _ (y_as (v' := .bool (stepF path [42] at_ i)) (by exact congrArg Value.bool step_star) (y_or rfl rfl rfl)) ?_
          refine S_ 101 rfl rfl rfl _ (y_indexAddr rfl rfl rfl Tryd.underlying115 sz4 (fun hg => hA27 (by omega)) (fun _ => by omega)) ?_
          refine S_storeOwn 27 rfl rfl rfl rfl rfl rfl sz4 rfl rfl ?_ (xs' := (bfill (stepF path [42] at_) (path.length + 1) (i + 1)).flatMap boolE) ?_ ?_
          · (rw [bools_len, bfill_len (by omega)]; omega)
          · exact bfill_set (by omega)
          refine S_go (fun _ _ h => h) ?_
          refine T_region ?_
          refine S_ 124 rfl rfl rfl _ (y_bin rfl rfl rfl (fun hg => b_add (by omega))) ?_
          refine S_ 30 rfl rfl rfl _ (y_move rfl rfl) ?_
          refine S_nil (nextK1 (kf := [(8, 9), (30, 124)]) (kl := [(8, 9), (27, 27), (30, 124)]) (i + 1) (by repeat (first | exact kf_nil | (apply kf_in; focus rfl) | (apply kf_out; focus rfl))) (by repeat (first | exact kl_nil | exact kl_rest (by assumption) rfl | (apply kl_in; focus rfl) | (apply kl_out; focus rfl))) ?_ ?_ ?_ ?_)
          · omega
          · omega
          · exact ⟨rfl, trivial⟩
          · exact ⟨rfl, trivial⟩
        · skip
          have h75 : starsN pat = 0 := by simp only [decide_eq_false_iff_not] at h75; omega
          have hx42 : pat.getD 0 0 ≠ 42 := by have := takeWhile_end pat (show starsN pat < _ by omega); rwa [show (pat.takeWhile fun c => c == 42).length = 0 from h75] at this
          refine T_seq ?_
          refine T_region ?_
          refine S_ 103 rfl rfl rfl _ (y_move rfl rfl) ?_
          refine S_ 104 rfl rfl rfl _ (y_index_str (j := 0) rfl rfl rfl Tryd.underlying9 (fun _ => hpatl)) ?_
          refine S_ 105 rfl rfl rfl _ (y_bin rfl rfl rfl (fun _ => b_eql)) ?_
          refine S_ 102 rfl rfl rfl _ (y_assign rfl rfl) ?_
          refine S_go (fun _ _ h => h) ?_
          refine T_cond rfl (fun h102 => ?_) (fun h102 => ?_)
          · skip
            have hx : pat.getD 0 0 = 63 := by simp only [decide_eq_true_eq] at h102; exact UInt8.toNat_inj.1 (show (pat.getD 0 0).toNat = 63 by omega)
            rw [hx] at hpt
            subst hpt
            refine T_region ?_
            refine S_ 106 rfl rfl rfl _ (y_move rfl rfl) ?_
            refine S_ 107 rfl rfl rfl _ (y_move rfl rfl) ?_
            refine S_ 108 rfl rfl rfl _ (y_move rfl rfl) ?_
            refine S_ 109 rfl rfl rfl _ (y_move rfl rfl) ?_
            refine Sg_ 110 rfl rfl rfl rfl rfl rfl _ (y_move rfl rfl) ?_
            refine Sg_ 111 rfl rfl rfl rfl rfl rfl _ (y_move rfl rfl) ?_
            refine Sg_ 112 rfl rfl rfl rfl rfl rfl _ (y_bin rfl rfl rfl (fun hg => b_subv (((i - 1 : Nat) : Int)) (by simp only [Bool.true_and, Bool.and_eq_true, beq_iff_eq, decide_eq_true_eq, decide_eq_false_iff_not, Int.not_lt, Int.not_le] at hg; omega) (by simp only [Bool.true_and, Bool.and_eq_true, beq_iff_eq, decide_eq_true_eq, decide_eq_false_iff_not, Int.not_lt, Int.not_le] at hg; omega))) ?_
            refine Sg_ 113 rfl rfl rfl rfl rfl rfl _ (y_indexAddr rfl rfl rfl Tryd.underlying115 sz4 (fun hg => hA13 (by simp only [Bool.true_and, Bool.and_eq_true, beq_iff_eq, decide_eq_true_eq, decide_eq_false_iff_not, Int.not_lt, Int.not_le] at hg; omega)) (fun hg => by simp only [Bool.true_and, Bool.and_eq_true, beq_iff_eq, decide_eq_true_eq, decide_eq_false_iff_not, Int.not_lt, Int.not_le] at hg; omega)) ?_
            refine Sg_ 114 rfl rfl rfl rfl rfl rfl _ (y_loadO1 13 (val := (fun b : Bool => Value.bool b)) rfl rfl rfl (by omega) (fun hg => getD_at (by simp only [Bool.true_and, Bool.and_eq_true, beq_iff_eq, decide_eq_true_eq, decide_eq_false_iff_not, Int.not_lt, Int.not_le] at hg; omega)) Tryd.underlying4 rfl) ?_
            refine S_ 115 rfl rfl rfl _ (y_and rfl rfl rfl) ?_
            refine S_ 116 rfl rfl rfl _ (y_move rfl rfl) ?_
            refine Sg_ 117 rfl rfl rfl rfl rfl rfl _ (y_move rfl rfl) ?_
            refine Sg_ 118 rfl rfl rfl rfl rfl rfl _ (y_move rfl rfl) ?_
            refine Sg_ 119 rfl rfl rfl rfl rfl rfl _ (y_bin rfl rfl rfl (fun hg => b_subv (((i - 1 : Nat) : Int)) (by simp only [Bool.true_and, Bool.and_eq_true, beq_iff_eq, decide_eq_true_eq, decide_eq_false_iff_not, Int.not_lt, Int.not_le] at hg; omega) (by simp only [Bool.true_and, Bool.and_eq_true, beq_iff_eq, decide_eq_true_eq, decide_eq_false_iff_not, Int.not_lt, Int.not_le] at hg; omega))) ?_
            refine Sg_ 120 rfl rfl rfl rfl rfl rfl _ (y_index_str rfl rfl rfl Tryd.underlying9 (fun hg => by simp only [Bool.true_and, Bool.and_eq_true, beq_iff_eq, decide_eq_true_eq, decide_eq_false_iff_not, Int.not_lt, Int.not_le] at hg; omega)) ?_
            refine Sg_ 121 rfl rfl rfl rfl rfl rfl _ (y_bin rfl rfl rfl (fun _ => b_neq)) ?_
            refine S_ 122 rfl rfl rfl _ (y_as (v' := .bool (stepF path [63] at_ i)) (by exact congrArg Value.bool step_q) (y_and rfl rfl rfl)) ?_
            refine S_ 123 rfl rfl rfl _ (y_indexAddr rfl rfl rfl Tryd.underlying115 sz4 (fun hg => hA27 (by omega)) (fun _ => by omega)) ?_
            refine S_storeOwn 27 rfl rfl rfl rfl rfl rfl sz4 rfl rfl ?_ (xs' := (bfill (stepF path [63] at_) (path.length + 1) (i + 1)).flatMap boolE) ?_ ?_
            · (rw [bools_len, bfill_len (by omega)]; omega)
            · exact bfill_set (by omega)
            refine S_go (fun _ _ h => h) ?_
            refine T_region ?_
            refine S_ 124 rfl rfl rfl _ (y_bin rfl rfl rfl (fun hg => b_add (by omega))) ?_
            refine S_ 30 rfl rfl rfl _ (y_move rfl rfl) ?_
            refine S_nil (nextK1 (kf := [(8, 9), (30, 124)]) (kl := [(8, 9), (27, 27), (30, 124)]) (i + 1) (by repeat (first | exact kf_nil | (apply kf_in; focus rfl) | (apply kf_out; focus rfl))) (by repeat (first | exact kl_nil | exact kl_rest (by assumption) rfl | (apply kl_in; focus rfl) | (apply kl_out; focus rfl))) ?_ ?_ ?_ ?_)
            · omega
            · omega
            · exact ⟨rfl, trivial⟩
            · exact ⟨rfl, trivial⟩
          · skip
            have hx63 : pat.getD 0 0 ≠ 63 := fun e => by rw [e] at h102; simp at h102
            subst hpt
            refine T_drawsTail 20 (by kernel_rfl) (by kernel_rfl) ?_
            refine D_ 35 rfl rfl rfl _ (y_move rfl rfl) ?_
            refine D_ 36 rfl rfl rfl _ (y_move rfl rfl) ?_
            refine D_ 37 rfl rfl rfl _ (y_move rfl rfl) ?_
            refine D_ 38 rfl rfl rfl _ (y_move rfl rfl) ?_
            refine Dg_ 39 rfl rfl rfl rfl rfl rfl _ (y_move rfl rfl) ?_
            refine Dg_ 40 rfl rfl rfl rfl rfl rfl _ (y_move rfl rfl) ?_
            refine Dg_ 41 rfl rfl rfl rfl rfl rfl _ (y_bin rfl rfl rfl (fun hg => b_subv (((i - 1 : Nat) : Int)) (by simp only [Bool.true_and, Bool.and_eq_true, beq_iff_eq, decide_eq_true_eq, decide_eq_false_iff_not, Int.not_lt, Int.not_le] at hg; omega) (by simp only [Bool.true_and, Bool.and_eq_true, beq_iff_eq, decide_eq_true_eq, decide_eq_false_iff_not, Int.not_lt, Int.not_le] at hg; omega))) ?_
            refine Dg_ 42 rfl rfl rfl rfl rfl rfl _ (y_indexAddr rfl rfl rfl Tryd.underlying115 sz4 (fun hg => hA13 (by simp only [Bool.true_and, Bool.and_eq_true, beq_iff_eq, decide_eq_true_eq, decide_eq_false_iff_not, Int.not_lt, Int.not_le] at hg; omega)) (fun hg => by simp only [Bool.true_and, Bool.and_eq_true, beq_iff_eq, decide_eq_true_eq, decide_eq_false_iff_not, Int.not_lt, Int.not_le] at hg; omega)) ?_
            refine Dg_ 43 rfl rfl rfl rfl rfl rfl _ (y_loadO1 13 (val := (fun b : Bool => Value.bool b)) rfl rfl rfl (by omega) (fun hg => getD_at (by simp only [Bool.true_and, Bool.and_eq_true, beq_iff_eq, decide_eq_true_eq, decide_eq_false_iff_not, Int.not_lt, Int.not_le] at hg; omega)) Tryd.underlying4 rfl) ?_
            refine D_ 44 rfl rfl rfl _ (y_and rfl rfl rfl) ?_
            refine D_ 45 rfl rfl rfl _ (y_move rfl rfl) ?_
            refine Dg_ 46 rfl rfl rfl rfl rfl rfl _ (y_move rfl rfl) ?_
            refine Dg_ 47 rfl rfl rfl rfl rfl rfl _ (y_move rfl rfl) ?_
            refine Dg_ 48 rfl rfl rfl rfl rfl rfl _ (y_bin rfl rfl rfl (fun hg => b_subv (((i - 1 : Nat) : Int)) (by simp only [Bool.true_and, Bool.and_eq_true, beq_iff_eq, decide_eq_true_eq, decide_eq_false_iff_not, Int.not_lt, Int.not_le] at hg; omega) (by simp only [Bool.true_and, Bool.and_eq_true, beq_iff_eq, decide_eq_true_eq, decide_eq_false_iff_not, Int.not_lt, Int.not_le] at hg; omega))) ?_
            refine Dg_ 49 rfl rfl rfl rfl rfl rfl _ (y_index_str rfl rfl rfl Tryd.underlying9 (fun hg => by simp only [Bool.true_and, Bool.and_eq_true, beq_iff_eq, decide_eq_true_eq, decide_eq_false_iff_not, Int.not_lt, Int.not_le] at hg; omega)) ?_
            refine Dg_ 50 rfl rfl rfl rfl rfl rfl _ (y_move rfl rfl) ?_
            refine Dg_ 51 rfl rfl rfl rfl rfl rfl _ (y_index_str (j := 0) rfl rfl rfl Tryd.underlying9 (fun _ => hpatl)) ?_
            refine Dg_ 52 rfl rfl rfl rfl rfl rfl _ (y_bin rfl rfl rfl (fun _ => b_eql)) ?_
            refine D_ 53 rfl rfl rfl _ (y_as (v' := .bool (stepF path [pat.getD 0 0] at_ i)) (by exact congrArg Value.bool (step_one hx42 hx63)) (y_and rfl rfl rfl)) ?_
            refine D_ 54 rfl rfl rfl _ (y_indexAddr rfl rfl rfl Tryd.underlying115 sz4 (fun hg => hA27 (by omega)) (fun _ => by omega)) ?_
            refine D_tail ?_
            refine S_storeOwn 27 rfl rfl rfl rfl rfl rfl sz4 rfl rfl ?_ (xs' := (bfill (stepF path [pat.getD 0 0] at_) (path.length + 1) (i + 1)).flatMap boolE) ?_ ?_
            · (rw [bools_len, bfill_len (by omega)]; omega)
            · exact bfill_set (by omega)
            refine S_go (fun _ _ h => h) ?_
            refine T_region ?_
            refine S_ 124 rfl rfl rfl _ (y_bin rfl rfl rfl (fun hg => b_add (by omega))) ?_
            refine S_ 30 rfl rfl rfl _ (y_move rfl rfl) ?_
            refine S_nil (nextK1 (kf := [(8, 9), (30, 124)]) (kl := [(8, 9), (27, 27), (30, 124)]) (i + 1) (by repeat (first | exact kf_nil | (apply kf_in; focus rfl) | (apply kf_out; focus rfl))) (by repeat (first | exact kl_nil | exact kl_rest (by assumption) rfl | (apply kl_in; focus rfl) | (apply kl_out; focus rfl))) ?_ ?_ ?_ ?_)
            · omega
            · omega
            · exact ⟨rfl, trivial⟩
            · exact ⟨rfl, trivial⟩
    · try simp only [decide_eq_true_eq, decide_eq_false_iff_not, Bool.or_eq_true, Bool.or_eq_false_iff, Bool.and_eq_true, Bool.and_eq_false_iff, Bool.not_eq_true', Bool.not_eq_false', Bool.not_eq_true, Bool.not_eq_false, Bool.not_true, Bool.not_false, Int.not_lt, Int.not_le, not_or, not_and, Classical.not_not] at h31
      rw [bfill_end (by omega) hq1, show (List.range (path.length + 1)).map (stepF path pt at_) = stepL path pt at_ from by rw [stepL, hr1]]
      refine T_exit_go (fun _ _ h => h) ?_
      refine T_seq ?_
      refine T_region ?_
      refine S_ 125 rfl rfl rfl _ (y_move rfl rfl) ?_
      refine S_ 5 rfl rfl rfl _ (y_assign rfl rfl) ?_
      refine S_go (fun _ _ h => h) ?_
      refine T_region ?_
      refine S_ 126 rfl rfl rfl _ (y_move rfl rfl) ?_
      refine S_ 127 rfl rfl rfl _ (y_move rfl rfl) ?_
      refine S_ 128 rfl rfl rfl _ (y_as (v' := .int .i64 ((runN pat : Nat) : Int)) (by congr 1; rw [run_stars hpat0]; split <;> omega) (y_max rfl rfl rfl)) ?_
      refine S_ 129 rfl rfl rfl _ (y_strFrom rfl rfl rfl Tryd.underlying9 (fun _ => by omega)) ?_
      refine S_ 0 rfl rfl rfl _ (y_assign rfl rfl) ?_
      refine S_move [(13, 13), (27, 27)] 13 27 rfl rfl (by repeat (first | exact kl_nil | exact kl_rest (by assumption) rfl | (apply kl_in; focus rfl) | (apply kl_out; focus rfl))) ?_
      refine S_nil (nextK5 (kf := [(0, 0), (5, 9), (16, 129)]) (kl := [(0, 0), (5, 9), (13, 13), (16, 129)]) (pat.drop (runN pat)) (stepL path pt at_) (some ⟨b27, 0, none⟩) (path.length + 1) (k - 1) (by repeat (first | exact kf_nil | (apply kf_in; focus rfl) | (apply kf_out; focus rfl))) (by repeat (first | exact kl_nil | exact kl_rest (by assumption) rfl | (apply kl_in; focus rfl) | (apply kl_out; focus rfl))) ?_ ?_ ?_ ?_)
      · rw [List.length_drop]; omega
      · exact ⟨by rw [stepL_len, hr1], by rw [List.length_drop]; omega, by rw [← hr3]; obtain ⟨k1, rfl⟩ : ∃ k1, k = k1 + 1 := ⟨k - 1, by omega⟩; rw [fitsGo, if_neg hpat0, hpt]; rfl, by rw [List.length_drop]; omega⟩
      · exact ⟨rfl, rfl, trivial⟩
      · exact ⟨rfl, trivial⟩
  · try simp only [decide_eq_true_eq, decide_eq_false_iff_not, Bool.or_eq_true, Bool.or_eq_false_iff, Bool.and_eq_true, Bool.and_eq_false_iff, Bool.not_eq_true', Bool.not_eq_false', Bool.not_eq_true, Bool.not_eq_false, Bool.not_true, Bool.not_false, Int.not_lt, Int.not_le, not_or, not_and, Classical.not_not] at h17
    have hpat0 : pat = [] := by simpa using h17
    have hfin := hr3
    rw [hpat0, fitsGo_nil] at hfin
    refine T_isome 13 rfl fun hA13 => ?_
    refine T_exit_go (fun _ _ h => h) ?_
    refine T_seq ?_
    refine T_region ?_
    refine S_ 130 rfl rfl rfl _ (y_move rfl rfl) ?_
    refine S_ 131 rfl rfl rfl _ (y_move rfl rfl) ?_
    refine S_ 132 rfl rfl rfl _ (y_len_str rfl rfl Tryd.underlying9) ?_
    refine S_ 133 rfl rfl rfl _ (y_indexAddr rfl rfl rfl Tryd.underlying115 sz4 (fun hg => hA13 (by omega)) (fun _ => by omega)) ?_
    refine S_ 134 rfl rfl rfl _ (y_loadO1 13 (val := (fun b : Bool => Value.bool b)) rfl rfl rfl (by omega) (fun _ => getD_at (by omega)) Tryd.underlying4 rfl) ?_
    refine S_ 4 rfl rfl rfl _ (y_assign rfl rfl) ?_
    refine S_go (fun _ _ h => h) ?_
    refine T_ret (fun a w hF hM => hRb a w (post1 rfl rfl (fun w hM => ?_) a w hF hM))
    exact ⟨by rw [globB, ← hfin], hM.below⟩
theorem anywhere_any (p path : List UInt8) (hp : p.length ≤ 140737488351234) (hqm : path.length ≤ 140737488351232) (w : World) :
    Calls Tryd.prog 77 #[str p, str path] w fun e w' => e = .returned (.bool (anyB p path)) ∧ Below w.heap.size w w' := by
  refine enter_args (args := [str p, str path]) (F := _) Tryd.func77 rfl Tryd.ntmps77 rfl rfl ?_
  intro Rb hRb hRn
  refine T_seq ?_
  refine T_region ?_
  refine S_ 4 rfl rfl rfl _ (y_assign rfl rfl) ?_
  refine S_go (fun _ _ h => h) ?_
  refine T_seq ?_
  refine T_seq ?_
  refine T_region ?_
  refine S_ 6 rfl rfl rfl _ (y_move rfl rfl) ?_
  refine S_ 7 rfl rfl rfl _ (y_len_str rfl rfl Tryd.underlying9) ?_
  refine S_ 8 rfl rfl rfl _ (y_move rfl rfl) ?_
  refine S_go (fun _ _ h => h) ?_
  refine T_block ?_
  refine T_loopK1 (kf := [(4, 5), (8, 23)]) (kl := [(4, 5), (8, 23)]) (fun (i : Nat) => [(8, true, .int .i64 (i : Int))]) (fun (i : Nat) => []) (fun (i : Nat) => i ≤ path.length ∧ ∀ j, j < i → (decide ((((path.getD j 0).toNat : Nat) : Int) = 47) && globB p (path.drop (j + 1))) = false) (fun (i : Nat) => path.length - i) 0 (by repeat (first | exact kf_nil | (apply kf_in; focus rfl) | (apply kf_out; focus rfl))) (by repeat (first | exact kl_nil | exact kl_rest (by assumption) rfl | (apply kl_in; focus rfl) | (apply kl_out; focus rfl))) ?_ ?_ ?_ ?_
  · exact ⟨by omega, fun j h => absurd h (by omega)⟩
  · exact ⟨rfl, trivial⟩
  · exact trivial
  rintro i ⟨hp1, hp2⟩
  refine T_seq ?_
  refine T_region ?_
  refine S_ 9 rfl rfl rfl _ (y_bin rfl rfl rfl (fun _ => b_lss)) ?_
  refine S_go (fun _ _ h => h) ?_
  refine T_seq ?_
  refine T_cond rfl (fun h9 => ?_) (fun h9 => ?_)
  · try simp only [decide_eq_true_eq, decide_eq_false_iff_not, Bool.or_eq_true, Bool.or_eq_false_iff, Bool.and_eq_true, Bool.and_eq_false_iff, Bool.not_eq_true', Bool.not_eq_false', Bool.not_eq_true, Bool.not_eq_false, Bool.not_true, Bool.not_false, Int.not_lt, Int.not_le, not_or, not_and, Classical.not_not] at h9
    refine T_skip_go (fun _ _ h => h) ?_
    refine T_seq ?_
    refine T_block ?_
    refine T_seq ?_
    refine T_region ?_
    refine S_ 10 rfl rfl rfl _ (y_move rfl rfl) ?_
    refine S_ 5 rfl rfl rfl _ (y_assign rfl rfl) ?_
    refine S_go (fun _ _ h => h) ?_
    refine T_seq ?_
    refine T_region ?_
    refine S_ 11 rfl rfl rfl _ (y_move rfl rfl) ?_
    refine S_ 12 rfl rfl rfl _ (y_move rfl rfl) ?_
    refine S_ 13 rfl rfl rfl _ (y_index_str rfl rfl rfl Tryd.underlying9 (fun _ => by omega)) ?_
    refine S_ 14 rfl rfl rfl _ (y_bin rfl rfl rfl (fun _ => b_eql)) ?_
    refine S_ 15 rfl rfl rfl _ (y_move rfl rfl) ?_
    refine Sg_ 16 rfl rfl rfl rfl rfl rfl _ (y_move rfl rfl) ?_
    refine Sg_ 17 rfl rfl rfl rfl rfl rfl _ (y_move rfl rfl) ?_
    refine Sg_ 18 rfl rfl rfl rfl rfl rfl _ (y_move rfl rfl) ?_
    refine Sg_ 19 rfl rfl rfl rfl rfl rfl _ (y_bin rfl rfl rfl (fun hg => b_addv (((i + 1 : Nat) : Int)) (by simp only [Bool.true_and, Bool.and_eq_true, beq_iff_eq, decide_eq_true_eq, decide_eq_false_iff_not, Int.not_lt, Int.not_le] at hg; omega) (by simp only [Bool.true_and, Bool.and_eq_true, beq_iff_eq, decide_eq_true_eq, decide_eq_false_iff_not, Int.not_lt, Int.not_le] at hg; omega))) ?_
    refine Sg_ 20 rfl rfl rfl rfl rfl rfl _ (y_as (v' := str (path.drop (i + 1))) (by rfl) (y_strFrom rfl rfl rfl Tryd.underlying9 (fun hg => by omega))) ?_
    refine Sg_ 21 rfl rfl rfl rfl rfl rfl _ (y_call rfl rfl rfl cf76 (fun _ w _ => glob_any p (path.drop (i + 1)) hp (by rw [List.length_drop]; omega) w)) ?_
    refine S_ 22 rfl rfl rfl _ (y_and rfl rfl rfl) ?_
    refine S_go (fun _ _ h => h) ?_
    refine T_cond rfl (fun h22 => ?_) (fun h22 => ?_)
    · skip
      refine T_seq ?_
      refine T_region ?_
      refine S_ 4 rfl rfl rfl _ (y_assign rfl rfl) ?_
      refine S_go (fun _ _ h => h) ?_
      refine T_ret (fun a w hF hM => hRb a w (post1 rfl rfl (fun w hM => ?_) a w hF hM))
      exact ⟨by rw [show anyB p path = true from List.any_eq_true.2 ⟨i, List.mem_range.2 (by omega), h22⟩], hM.below⟩
    · skip
      refine T_skip_go (fun _ _ h => h) ?_
      refine T_region ?_
      refine S_ 23 rfl rfl rfl _ (y_bin rfl rfl rfl (fun hg => b_add (by omega))) ?_
      refine S_ 8 rfl rfl rfl _ (y_move rfl rfl) ?_
      refine S_nil (nextK1 (kf := [(4, 5), (8, 23)]) (kl := [(4, 5), (8, 23)]) (i + 1) (by repeat (first | exact kf_nil | (apply kf_in; focus rfl) | (apply kf_out; focus rfl))) (by repeat (first | exact kl_nil | exact kl_rest (by assumption) rfl | (apply kl_in; focus rfl) | (apply kl_out; focus rfl))) ?_ ?_ ?_ ?_)
      · omega
      · exact ⟨by omega, fun j hj => by
          rcases Nat.lt_or_ge j i with h | h
          · exact hp2 j h
          · obtain rfl : j = i := by omega
            exact h22⟩
      · exact ⟨rfl, trivial⟩
      · exact trivial
  · try simp only [decide_eq_true_eq, decide_eq_false_iff_not, Bool.or_eq_true, Bool.or_eq_false_iff, Bool.and_eq_true, Bool.and_eq_false_iff, Bool.not_eq_true', Bool.not_eq_false', Bool.not_eq_true, Bool.not_eq_false, Bool.not_true, Bool.not_false, Int.not_lt, Int.not_le, not_or, not_and, Classical.not_not] at h9
    refine T_exit_go (fun _ _ h => h) ?_
    refine T_seq ?_
    refine T_region ?_
    refine S_ 4 rfl rfl rfl _ (y_assign rfl rfl) ?_
    refine S_go (fun _ _ h => h) ?_
    refine T_ret (fun a w hF hM => hRb a w (post1 rfl rfl (fun w hM => ?_) a w hF hM))
    exact ⟨by rw [show anyB p path = false from List.any_eq_false.2 fun j hj => by rw [hp2 j (by have := List.mem_range.1 hj; omega)]; exact Bool.false_ne_true], hM.below⟩
theorem PathFits_any (p path : List UInt8) (hp : p.length ≤ 140737488351232) (hqm : path.length ≤ 140737488351232) (w : World) :
    Calls Tryd.prog 20 #[str p, str path] w fun e w' => e = .returned (.bool (fitsB p path)) ∧ Below w.heap.size w w' := by
  rw [← pf_eq]
  have hpl : (p ++ [42, 42]).length ≤ 140737488351234 := by simp; omega
  refine enter_args (args := [str p, str path]) (F := _) Tryd.func20 rfl Tryd.ntmps20 rfl rfl ?_
  intro Rb hRb hRn
  refine T_seq ?_
  refine T_region ?_
  refine S_ 4 rfl rfl rfl _ (y_assign rfl rfl) ?_
  refine S_go (fun _ _ h => h) ?_
  refine T_seq ?_
  refine T_seq ?_
  refine T_region ?_
  refine S_ 5 rfl rfl rfl _ (y_move rfl rfl) ?_
  refine S_ 6 rfl rfl rfl _ (y_call rfl rfl rfl cf74 (fun _ w _ => HasSuffix_any p [47] (by omega) w)) ?_
  refine S_go (fun _ _ h => h) ?_
  refine T_cond rfl (fun h6 => ?_) (fun h6 => ?_)
  · skip
    refine T_seq ?_
    refine T_region ?_
    refine S_ 7 rfl rfl rfl _ (y_move rfl rfl) ?_
    refine S_ 8 rfl rfl rfl _ (y_bin rfl rfl rfl (fun hg => b_adds (by first | omega | (simp only [List.length_append, List.length_cons, List.length_nil]; omega)))) ?_
    refine S_ 0 rfl rfl rfl _ (y_assign rfl rfl) ?_
    refine S_go (fun _ _ h => h) ?_
    refine T_seq ?_
    refine T_region ?_
    refine S_ 9 rfl rfl rfl _ (y_move rfl rfl) ?_
    refine S_ 10 rfl rfl rfl _ (y_move rfl rfl) ?_
    refine S_ 11 rfl rfl rfl _ (y_call rfl rfl rfl cf76 (fun _ w _ => glob_any (p ++ [42, 42]) path hpl hqm w)) ?_
    refine S_ 12 rfl rfl rfl _ (y_move rfl rfl) ?_
    refine Sg_ 13 rfl rfl rfl rfl rfl rfl _ (y_move rfl rfl) ?_
    refine Sg_ 14 rfl rfl rfl rfl rfl rfl _ (y_call rfl rfl rfl cf73 (fun _ w _ => TrimSuffix_any (p ++ [42, 42]) [47, 42, 42] (by omega) w)) ?_
    refine Sg_ 15 rfl rfl rfl rfl rfl rfl _ (y_call rfl rfl rfl cf72 (fun _ w _ => Contains1_any _ 47 w)) ?_
    refine Sg_ 16 rfl rfl rfl rfl rfl rfl _ (y_not rfl rfl) ?_
    refine Sg_ 17 rfl rfl rfl rfl rfl rfl _ (y_move rfl rfl) ?_
    refine Sg_ 18 rfl rfl rfl rfl rfl rfl _ (y_move rfl rfl) ?_
    refine Sg_ 19 rfl rfl rfl rfl rfl rfl _ (y_move rfl rfl) ?_
    refine Sg_ 20 rfl rfl rfl rfl rfl rfl _ (y_call rfl rfl rfl cf77 (fun _ w _ => anywhere_any (p ++ [42, 42]) path hpl hqm w)) ?_
    refine Sg_ 21 rfl rfl rfl rfl rfl rfl _ (y_and rfl rfl rfl) ?_
    refine S_ 22 rfl rfl rfl _ (y_or rfl rfl rfl) ?_
    refine S_ 4 rfl rfl rfl _ (y_assign rfl rfl) ?_
    refine S_go (fun _ _ h => h) ?_
    refine T_ret (fun a w hF hM => hRb a w (post1 rfl rfl (fun w hM => ?_) a w hF hM))
    exact ⟨by rw [pfB, if_pos h6], hM.below⟩
  · skip
    refine T_skip_go (fun _ _ h => h) ?_
    refine T_seq ?_
    refine T_region ?_
    refine S_ 23 rfl rfl rfl _ (y_move rfl rfl) ?_
    refine S_ 24 rfl rfl rfl _ (y_move rfl rfl) ?_
    refine S_ 25 rfl rfl rfl _ (y_call rfl rfl rfl cf76 (fun _ w _ => glob_any p path (by omega) hqm w)) ?_
    refine S_ 26 rfl rfl rfl _ (y_move rfl rfl) ?_
    refine Sg_ 27 rfl rfl rfl rfl rfl rfl _ (y_move rfl rfl) ?_
    refine Sg_ 28 rfl rfl rfl rfl rfl rfl _ (y_call rfl rfl rfl cf72 (fun _ w _ => Contains1_any p 47 w)) ?_
    refine Sg_ 29 rfl rfl rfl rfl rfl rfl _ (y_not rfl rfl) ?_
    refine Sg_ 30 rfl rfl rfl rfl rfl rfl _ (y_move rfl rfl) ?_
    refine Sg_ 31 rfl rfl rfl rfl rfl rfl _ (y_move rfl rfl) ?_
    refine Sg_ 32 rfl rfl rfl rfl rfl rfl _ (y_move rfl rfl) ?_
    refine Sg_ 33 rfl rfl rfl rfl rfl rfl _ (y_call rfl rfl rfl cf77 (fun _ w _ => anywhere_any p path (by omega) hqm w)) ?_
    refine Sg_ 34 rfl rfl rfl rfl rfl rfl _ (y_and rfl rfl rfl) ?_
    refine S_ 35 rfl rfl rfl _ (y_or rfl rfl rfl) ?_
    refine S_ 4 rfl rfl rfl _ (y_assign rfl rfl) ?_
    refine S_go (fun _ _ h => h) ?_
    refine T_ret (fun a w hF hM => hRb a w (post1 rfl rfl (fun w hM => ?_) a w hF hM))
    exact ⟨by rw [pfB, if_neg (by rw [h6]; exact Bool.false_ne_true)], hM.below⟩
def forV (o : Option SOwner) : Value := match o with
  | some x => .slice x.w.A x.w.q x.w.c
  | none => .slice none 0 0
def forRes (l : Sl SOwner) (path : List UInt8) : Option SOwner × Int := if path = [] then (none, 1) else if (200 : Int) < path.length then (none, 4) else match lastFit path l.l l.q with
  | some o => (some o, 0)
  | none => (none, 7)
theorem OwnersFor_any (l : Sl SOwner) (path : List UInt8) (w : World) (hl : OwnsOk w l) (h0 : ownersNo l = 0) :
    Calls Tryd.prog 14 #[.slice l.A l.q l.c, str path] w fun e w' => e = .returned (.tuple #[forV (forRes l path).1, .int .i64 (forRes l path).2]) ∧ Below w.heap.size w w' := by
  have ht := hl.ok.t
  have hq := hl.q
  have hall : ∀ o ∈ l.l, ownNo o = 0 := owns_parts _ (by
    unfold ownersNo at h0
    split at h0
    · cases h0
    · exact h0)
  refine enter_args (args := [.slice l.A l.q l.c, str path]) (F := _) Tryd.func14 rfl Tryd.ntmps14 rfl rfl ?_
  intro Rb hRb hRn
  refine T_seq ?_
  refine T_region ?_
  refine S_nilSlice 4 (e := 9) (size := 1) ?_
  refine S_ 4 rfl rfl rfl _ (y_assign rfl rfl) ?_
  refine S_ 5 rfl rfl rfl _ (y_assign rfl rfl) ?_
  refine S_go (fun _ _ h => h) ?_
  refine T_seq ?_
  refine T_block ?_
  refine T_seq ?_
  refine T_region ?_
  refine S_ 8 rfl rfl rfl _ (y_move rfl rfl) ?_
  refine S_ 9 rfl rfl rfl _ (y_bin rfl rfl rfl (fun _ => b_eqls)) ?_
  refine S_ 7 rfl rfl rfl _ (y_assign rfl rfl) ?_
  refine S_go (fun _ _ h => h) ?_
  refine T_cond rfl (fun h7 => ?_) (fun h7 => ?_)
  · try simp only [decide_eq_true_eq, decide_eq_false_iff_not, Bool.or_eq_true, Bool.or_eq_false_iff, Bool.and_eq_true, Bool.and_eq_false_iff, Bool.not_eq_true', Bool.not_eq_false', Bool.not_eq_true, Bool.not_eq_false, Bool.not_true, Bool.not_false, Int.not_lt, Int.not_le, not_or, not_and, Classical.not_not] at h7
    refine T_seq ?_
    refine T_region ?_
    refine S_nilSlice 4 (e := 9) (size := 1) ?_
    refine S_ 4 rfl rfl rfl _ (y_assign rfl rfl) ?_
    refine S_ 5 rfl rfl rfl _ (y_assign rfl rfl) ?_
    refine S_go (fun _ _ h => h) ?_
    refine T_ret (fun a w hF hM => hRb a w (post2 rfl rfl rfl (fun w hM => ?_) a w hF hM))
    exact ⟨by rw [forRes, if_pos h7]; rfl, hM.below⟩
  · try simp only [decide_eq_true_eq, decide_eq_false_iff_not, Bool.or_eq_true, Bool.or_eq_false_iff, Bool.and_eq_true, Bool.and_eq_false_iff, Bool.not_eq_true', Bool.not_eq_false', Bool.not_eq_true, Bool.not_eq_false, Bool.not_true, Bool.not_false, Int.not_lt, Int.not_le, not_or, not_and, Classical.not_not] at h7
    refine T_seq ?_
    refine T_region ?_
    refine S_ 11 rfl rfl rfl _ (y_move rfl rfl) ?_
    refine S_ 12 rfl rfl rfl _ (y_len_str rfl rfl Tryd.underlying9) ?_
    refine S_ 13 rfl rfl rfl _ (y_bin rfl rfl rfl (fun _ => b_gtr)) ?_
    refine S_ 10 rfl rfl rfl _ (y_assign rfl rfl) ?_
    refine S_go (fun _ _ h => h) ?_
    refine T_cond rfl (fun h10 => ?_) (fun h10 => ?_)
    · try simp only [decide_eq_true_eq, decide_eq_false_iff_not, Bool.or_eq_true, Bool.or_eq_false_iff, Bool.and_eq_true, Bool.and_eq_false_iff, Bool.not_eq_true', Bool.not_eq_false', Bool.not_eq_true, Bool.not_eq_false, Bool.not_true, Bool.not_false, Int.not_lt, Int.not_le, not_or, not_and, Classical.not_not] at h10
      refine T_seq ?_
      refine T_region ?_
      refine S_nilSlice 4 (e := 9) (size := 1) ?_
      refine S_ 4 rfl rfl rfl _ (y_assign rfl rfl) ?_
      refine S_ 5 rfl rfl rfl _ (y_assign rfl rfl) ?_
      refine S_go (fun _ _ h => h) ?_
      refine T_ret (fun a w hF hM => hRb a w (post2 rfl rfl rfl (fun w hM => ?_) a w hF hM))
      exact ⟨by rw [forRes, if_neg h7, if_pos (by omega)]; rfl, hM.below⟩
    · try simp only [decide_eq_true_eq, decide_eq_false_iff_not, Bool.or_eq_true, Bool.or_eq_false_iff, Bool.and_eq_true, Bool.and_eq_false_iff, Bool.not_eq_true', Bool.not_eq_false', Bool.not_eq_true, Bool.not_eq_false, Bool.not_true, Bool.not_false, Int.not_lt, Int.not_le, not_or, not_and, Classical.not_not] at h10
      refine T_skip_go (fun _ _ h => h) ?_
      refine T_seq ?_
      refine T_seq ?_
      refine T_region ?_
      refine S_ 14 rfl rfl rfl _ (y_move rfl rfl) ?_
      refine S_ 15 rfl rfl rfl _ (y_len_slice rfl rfl Tryd.underlying22) ?_
      refine S_ 16 rfl rfl rfl _ (y_bin rfl rfl rfl (fun hg => b_sub (by omega))) ?_
      refine S_ 6 rfl rfl rfl _ (y_assign rfl rfl) ?_
      refine S_go (fun _ _ h => h) ?_
      refine T_block ?_
      refine T_loopK1 (kf := [(4, 6), (17, 32)]) (kl := [(4, 6), (17, 32)]) (fun (t : Nat) => [(6, true, .int .i64 (((t : Nat) : Int) - 1))]) (fun (t : Nat) => []) (fun (t : Nat) => t ≤ l.q ∧ lastFit path l.l l.q = lastFit path l.l t) (fun (t : Nat) => t) l.q (by repeat (first | exact kf_nil | (apply kf_in; focus rfl) | (apply kf_out; focus rfl))) (by repeat (first | exact kl_nil | exact kl_rest (by assumption) rfl | (apply kl_in; focus rfl) | (apply kl_out; focus rfl))) ?_ ?_ ?_ ?_
      · exact ⟨Nat.le_refl _, rfl⟩
      · exact ⟨rfl, trivial⟩
      · exact trivial
      rintro t ⟨hp1, hp2⟩
      refine T_seq ?_
      refine T_seq ?_
      refine T_region ?_
      refine S_ 17 rfl rfl rfl _ (y_move rfl rfl) ?_
      refine S_ 18 rfl rfl rfl _ (y_bin rfl rfl rfl (fun _ => b_geq)) ?_
      refine S_go (fun _ _ h => h) ?_
      refine T_cond rfl (fun h18 => ?_) (fun h18 => ?_)
      · try simp only [decide_eq_true_eq, decide_eq_false_iff_not, Bool.or_eq_true, Bool.or_eq_false_iff, Bool.and_eq_true, Bool.and_eq_false_iff, Bool.not_eq_true', Bool.not_eq_false', Bool.not_eq_true, Bool.not_eq_false, Bool.not_true, Bool.not_false, Int.not_lt, Int.not_le, not_or, not_and, Classical.not_not] at h18
        obtain ⟨k, rfl⟩ : ∃ k, t = k + 1 := ⟨t - 1, by omega⟩
        obtain ⟨x, hx1, _⟩ := ht.at (i := k) (by omega)
        obtain ⟨hxp, hxw⟩ := own_parts (hall x (mem_at hx1))
        rw [lastFit, hx1] at hp2
        simp only at hp2
        rw [show Value.int IntKind.i64 (((k + 1 : Nat) : Int) - 1) = .int .i64 ((k : Nat) : Int) from by congr 1; omega]
        refine T_skip_go (fun _ _ h => h) ?_
        refine T_seq ?_
        refine T_block ?_
        refine T_seq ?_
        refine T_region ?_
        refine S_ 21 rfl rfl rfl _ (y_move rfl rfl) ?_
        refine S_ 22 rfl rfl rfl _ (y_move rfl rfl) ?_
        refine S_ 23 rfl rfl rfl _ (y_indexAddr rfl rfl rfl Tryd.underlying22 sz89 (fun hg => ht.isSome (by omega)) (fun _ => by omega)) ?_
        refine S_ 24 rfl rfl rfl _ (y_fieldEl rfl rfl ht.rd (fun _ => by omega) fa89_0) ?_
        refine S_ 25 rfl rfl rfl _ (y_load_fT rfl rfl ht (fun _ => rfl) (fun _ => hx1) rfl Tryd.underlying9 rfl) ?_
        refine S_ 26 rfl rfl rfl _ (y_move rfl rfl) ?_
        refine S_ 27 rfl rfl rfl _ (y_call rfl rfl rfl cf20 (fun _ w _ => PathFits_any x.p path (by omega) (by omega) w)) ?_
        refine S_go (fun _ _ h => h) ?_
        refine T_cond rfl (fun h27 => ?_) (fun h27 => ?_)
        · skip
          rw [if_pos h27] at hp2
          refine T_seq ?_
          refine T_region ?_
          refine S_ 28 rfl rfl rfl _ (y_move rfl rfl) ?_
          refine S_ 29 rfl rfl rfl _ (y_move rfl rfl) ?_
          refine S_ 30 rfl rfl rfl _ (y_indexAddr rfl rfl rfl Tryd.underlying22 sz89 (fun hg => ht.isSome (by omega)) (fun _ => by omega)) ?_
          refine S_ 31 rfl rfl rfl _ (y_fieldEl rfl rfl ht.rd (fun _ => by omega) fa89_1) ?_
          refine S_ 32 rfl rfl rfl _ (y_load_fT rfl rfl ht (fun _ => rfl) (fun _ => hx1) rfl Tryd.underlying25 rfl) ?_
          refine S_ 4 rfl rfl rfl _ (y_assign rfl rfl) ?_
          refine S_ 5 rfl rfl rfl _ (y_assign rfl rfl) ?_
          refine S_go (fun _ _ h => h) ?_
          refine T_ret (fun a w hF hM => hRb a w (post2 rfl rfl rfl (fun w hM => ?_) a w hF hM))
          exact ⟨by rw [forRes, if_neg h7, if_neg (by omega), hp2]; rfl, hM.below⟩
        · skip
          rw [if_neg (by rw [h27]; exact Bool.false_ne_true)] at hp2
          refine T_skip_go (fun _ _ h => h) ?_
          refine T_region ?_
          refine S_ 19 rfl rfl rfl _ (y_move rfl rfl) ?_
          refine S_ 20 rfl rfl rfl _ (y_bin rfl rfl rfl (fun hg => b_sub (by omega))) ?_
          refine S_ 6 rfl rfl rfl _ (y_assign rfl rfl) ?_
          refine S_nil (nextK1 (kf := [(4, 6), (17, 32)]) (kl := [(4, 6), (17, 32)]) k (by repeat (first | exact kf_nil | (apply kf_in; focus rfl) | (apply kf_out; focus rfl))) (by repeat (first | exact kl_nil | exact kl_rest (by assumption) rfl | (apply kl_in; focus rfl) | (apply kl_out; focus rfl))) ?_ ?_ ?_ ?_)
          · omega
          · exact ⟨by omega, hp2⟩
          · exact ⟨rfl, trivial⟩
          · exact trivial
      · try simp only [decide_eq_true_eq, decide_eq_false_iff_not, Bool.or_eq_true, Bool.or_eq_false_iff, Bool.and_eq_true, Bool.and_eq_false_iff, Bool.not_eq_true', Bool.not_eq_false', Bool.not_eq_true, Bool.not_eq_false, Bool.not_true, Bool.not_false, Int.not_lt, Int.not_le, not_or, not_and, Classical.not_not] at h18
        have ht0 : t = 0 := by omega
        subst ht0
        refine T_exit_go (fun _ _ h => h) ?_
        refine T_seq ?_
        refine T_region ?_
        refine S_nilSlice 4 (e := 9) (size := 1) ?_
        refine S_ 4 rfl rfl rfl _ (y_assign rfl rfl) ?_
        refine S_ 5 rfl rfl rfl _ (y_assign rfl rfl) ?_
        refine S_go (fun _ _ h => h) ?_
        refine T_ret (fun a w hF hM => hRb a w (post2 rfl rfl rfl (fun w hM => ?_) a w hF hM))
        exact ⟨by rw [forRes, if_neg h7, if_neg (by omega), hp2]; rfl, hM.below⟩
end Go.Proofs.YtoeipmepmlikcaaDoor
