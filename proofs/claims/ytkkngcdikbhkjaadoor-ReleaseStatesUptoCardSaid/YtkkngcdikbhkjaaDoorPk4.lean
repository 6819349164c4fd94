/- Part 4, merged by a program. A state as words. Condition: the words of its kinds and the powers of ten lie in memory. -/
import Derived.Test.YtkkngcdikbhkjaaDoorTree
import Derived.Test.YtkkngcdikbhkjaaDoorPk3
namespace Go.Proofs.YtkkngcdikbhkjaaDoor
set_option linter.unusedSimpArgs false
set_option linter.unusedVariables false
set_option maxRecDepth 20000
open Go.RowKit Go.Eng
def intE9 (n : Int) : List Value := [.int .i64 n]
def numsB (l : List Int) : List UInt8 := l.flatMap fun n => [32] ++ Lib.itoa n
theorem numsB_le : ∀ l : List Int, (∀ n ∈ l, -9223372036854775808 ≤ n ∧ n ≤ 9223372036854775807) → (numsB l).length ≤ l.length * 22
  | [], _ => by simp [numsB]
  | a :: r, h => by
    have h1 := numsB_le r fun n hn => h n (List.mem_cons_of_mem _ hn)
    obtain ⟨h2, h3⟩ := h a (List.mem_cons_self ..)
    have h4 := Lib.itoa_length_le a h2 h3
    have e : numsB (a :: r) = ([32] ++ Lib.itoa a) ++ numsB r := rfl
    rw [e, List.length_append, List.length_append, List.length_cons, List.length_cons, List.length_nil]; omega
theorem numbers_any (A : Option Addr) (q c : Nat) (l : List Int) (w : World) (hl : SlT intE9 1 w A q l) (hq : q ≤ 1000) (hn : ∀ n ∈ l, -9223372036854775808 ≤ n ∧ n ≤ 9223372036854775807) (hP : P10 w) :
    Calls Tryd.prog 25 #[.slice A q c] w fun e w' => e = .returned (str (numsB l)) ∧ Below w.heap.size w w' := by
  have hlen := hl.len
  have hle := numsB_le l hn
  refine enter_args (args := [.slice A q c]) (F := _) Tryd.func25 rfl Tryd.ntmps25 rfl rfl ?_
  intro Rb hRb hRn
  refine T_seq ?_
  refine T_region ?_
  refine S_ 2 rfl rfl rfl _ (y_assign rfl rfl) ?_
  refine S_go (fun _ _ h => h) ?_
  refine T_seq ?_
  refine T_region ?_
  refine S_ 3 rfl rfl rfl _ (y_assign rfl rfl) ?_
  refine S_go (fun _ _ h => h) ?_
  refine T_seq ?_
  refine T_seq ?_
  refine T_region ?_
  refine S_ 6 rfl rfl rfl _ (y_move rfl rfl) ?_
  refine S_ 7 rfl rfl rfl _ (y_len_slice rfl rfl Tryd.underlying107) ?_
  refine S_ 8 rfl rfl rfl _ (y_move rfl rfl) ?_
  refine S_go (fun _ _ h => h) ?_
  refine T_block ?_
  refine T_loopK2 (kf := [(3, 3), (5, 5), (8, 17)]) (kl := [(3, 3), (5, 5), (8, 17)]) (fun (i : Nat) (L : List UInt8) => [(8, true, .int .i64 (i : Int)), (3, true, str L)]) (fun (i : Nat) (L : List UInt8) => []) (fun (i : Nat) (L : List UInt8) => i ≤ q ∧ L ++ numsB (l.drop i) = numsB l) (fun (i : Nat) (L : List UInt8) => q - i) 0 [] (by repeat (first | exact kf_nil | (apply kf_in; focus rfl) | (apply kf_out; focus rfl))) (by repeat (first | exact kl_nil | exact kl_rest (by assumption) rfl | (apply kl_in; focus rfl) | (apply kl_out; focus rfl))) ?_ ?_ ?_ ?_
  · exact ⟨by omega, rfl⟩
  · exact ⟨rfl, rfl, trivial⟩
  · exact trivial
  rintro i L ⟨hp1, hp2⟩
  refine T_seq ?_
  refine T_region ?_
  refine S_ 9 rfl rfl rfl _ (y_bin rfl rfl rfl (fun _ => b_lss)) ?_
  refine S_go (fun _ _ h => h) ?_
  refine T_seq ?_
  refine T_cond rfl (fun h9 => ?_) (fun h9 => ?_)
  · try simp only [decide_eq_true_eq, decide_eq_false_iff_not, Bool.or_eq_true, Bool.or_eq_false_iff, Bool.and_eq_true, Bool.and_eq_false_iff, Bool.not_eq_true', Bool.not_eq_false', Bool.not_eq_true, Bool.not_eq_false, Bool.not_true, Bool.not_false, Int.not_lt, Int.not_le, not_or, not_and, Classical.not_not] at h9
    obtain ⟨x, hx1, hx2⟩ := hl.at (i := i) (by omega)
    have hx3 := hn x (mem_at hx1)
    have hx4 := Lib.itoa_length_le x hx3.1 hx3.2
    have hlx := congrArg List.length hp2
    rw [hx2, show numsB (x :: l.drop (i + 1)) = ([32] ++ Lib.itoa x) ++ numsB (l.drop (i + 1)) from rfl, List.length_append] at hlx
    refine T_skip_go (fun _ _ h => h) ?_
    refine T_seq ?_
    refine T_block ?_
    refine T_seq ?_
    refine T_region ?_
    refine S_ 10 rfl rfl rfl _ (y_indexAddr rfl rfl rfl Tryd.underlying107 sz3 (fun hg => hl.isSome (by omega)) (fun _ => by omega)) ?_
    refine S_ 11 rfl rfl rfl _ (y_loadT1 (val := (fun n : Int => Value.int .i64 n)) rfl rfl hl (fun _ => hx1) Tryd.underlying3 rfl) ?_
    refine S_ 5 rfl rfl rfl _ (y_assign rfl rfl) ?_
    refine S_go (fun _ _ h => h) ?_
    refine T_region ?_
    refine S_ 12 rfl rfl rfl _ (y_move rfl rfl) ?_
    refine S_ 13 rfl rfl rfl _ (y_move rfl rfl) ?_
    refine S_ 14 rfl rfl rfl _ (y_call rfl rfl rfl cf26 (fun _ w hM => Itoa_any x hx3.1 hx3.2 w (hP.below hM.below))) ?_
    refine S_ 15 rfl rfl rfl _ (y_bin rfl rfl rfl (fun hg => b_adds (by first | omega | (simp only [List.length_append, List.length_cons, List.length_nil]; omega)))) ?_
    refine S_ 16 rfl rfl rfl _ (y_bin rfl rfl rfl (fun hg => b_adds (by first | omega | (simp only [List.length_append, List.length_cons, List.length_nil]; omega)))) ?_
    refine S_ 3 rfl rfl rfl _ (y_assign rfl rfl) ?_
    refine S_go (fun _ _ h => h) ?_
    refine T_region ?_
    refine S_ 17 rfl rfl rfl _ (y_bin rfl rfl rfl (fun hg => b_add (by omega))) ?_
    refine S_ 8 rfl rfl rfl _ (y_move rfl rfl) ?_
    refine S_nil (nextK2 (kf := [(3, 3), (5, 5), (8, 17)]) (kl := [(3, 3), (5, 5), (8, 17)]) (i + 1) (L ++ ([32] ++ Lib.itoa x)) (by repeat (first | exact kf_nil | (apply kf_in; focus rfl) | (apply kf_out; focus rfl))) (by repeat (first | exact kl_nil | exact kl_rest (by assumption) rfl | (apply kl_in; focus rfl) | (apply kl_out; focus rfl))) ?_ ?_ ?_ ?_)
    · omega
    · exact ⟨by omega, by rw [← hp2, hx2, List.append_assoc]; rfl⟩
    · exact ⟨rfl, rfl, trivial⟩
    · exact trivial
  · try simp only [decide_eq_true_eq, decide_eq_false_iff_not, Bool.or_eq_true, Bool.or_eq_false_iff, Bool.and_eq_true, Bool.and_eq_false_iff, Bool.not_eq_true', Bool.not_eq_false', Bool.not_eq_true, Bool.not_eq_false, Bool.not_true, Bool.not_false, Int.not_lt, Int.not_le, not_or, not_and, Classical.not_not] at h9
    have e1 : L = numsB l := by rw [hl.end (by omega)] at hp2; simpa [numsB] using hp2
    refine T_exit_go (fun _ _ h => h) ?_
    refine T_seq ?_
    refine T_region ?_
    refine S_ 18 rfl rfl rfl _ (y_move rfl rfl) ?_
    refine S_ 2 rfl rfl rfl _ (y_assign rfl rfl) ?_
    refine S_go (fun _ _ h => h) ?_
    refine T_ret (fun a w hF hM => hRb a w (post1 rfl rfl (fun w hM => ?_) a w hF hM))
    exact ⟨by rw [e1], hM.below⟩
theorem numsB_one (n : Int) : numsB [n] = [32] ++ Lib.itoa n := by simp [numsB]
/-- the words of the kinds -/
def kwd (j : Nat) : List UInt8 := if j = 1 then wdOpen else if j = 2 then wdRes else if j = 3 then wdIgn else []
def KW (w : World) : Prop := (∀ j : Nat, j < 4 → w.cell? ⟨0, j, none⟩ = some (str (kwd j))) ∧ 0 < w.heap.size
theorem KW.below {w w' : World} (h : KW w) (hb : Below w.heap.size w w') : KW w' := by
  refine ⟨fun j hj => ?_, Nat.lt_of_lt_of_le h.2 hb.size⟩
  rw [World.cell?, hb.block _ h.2]; exact h.1 j hj
theorem st_parts {s : PSt} (h : stNo s = 0) : (1 ≤ s.k ∧ s.k ≤ 3) ∧ s.inn.length ≤ 40 ∧ ((0 ≤ s.at_ ∧ s.at_ ≤ 3155759999) ∧ (-1 ≤ s.till ∧ s.till ≤ 3155759999) ∧ (-1 ≤ s.more ∧ s.more ≤ 1000000) ∧ (-1 ≤ s.ppl ∧ s.ppl ≤ 1000000) ∧ 0 ≤ s.again ∧ s.again ≤ 1000000) ∧ (s.inn = [] → s.nx = false) := by
  unfold stNo at h
  split at h
  · cases h
  rename_i h1
  split at h
  · cases h
  rename_i h2
  split at h
  · cases h
  rename_i h3
  split at h
  · cases h
  rename_i h4
  simp only [stBadA, outB, Bool.or_eq_true, decide_eq_true_eq, not_or] at h1 h2
  refine ⟨by omega, ?_, by omega, ?_⟩
  · by_cases hi : s.inn = []
    · rw [hi]; simp
    · have : relOk s.inn = true := by
        cases hr : relOk s.inn with
        | true => rfl
        | false => exact absurd (by simp [hi, hr]) h3
      exact rel_len this
  · intro hi
    cases hn : s.nx with
    | false => rfl
    | true => exact absurd (by simp [stBadB, hi, hn]) h4
def optT (w : List UInt8) (b : Bool) (n : Int) : List UInt8 := if b = true then w ++ Lib.itoa n else []
def wTill : List UInt8 := [32, 116, 105, 108, 108, 32]
def wMore : List UInt8 := [32, 109, 111, 114, 101, 32]
def wPpl : List UInt8 := [32, 112, 101, 111, 112, 108, 101, 32]
def wAgain : List UInt8 := [32, 97, 103, 97, 105, 110, 32]
def inT (s : PSt) : List UInt8 := if s.inn = [] then [] else (if s.nx = true then [32, 97, 102, 116, 101, 114, 32] else [32, 105, 110, 32]) ++ s.inn
def stTxt (s : PSt) : List UInt8 := kwd s.k.toNat ++ [32, 97, 116, 32] ++ Lib.itoa s.at_ ++ inT s ++ optT wTill (!decide (s.till = -1)) s.till ++ optT wMore (!decide (s.more = -1)) s.more ++ optT wPpl (!decide (s.ppl = -1)) s.ppl ++ optT wAgain (!decide (s.again = 0)) s.again
theorem kwd_len (j : Nat) : (kwd j).length ≤ 8 := by
  unfold kwd
  repeat' split
  all_goals decide
set_option maxHeartbeats 3200000 in
theorem StateText_any (s : PSt) (w : World) (hP : P10 w) (hK : KW w) :
    Calls Tryd.prog 11 #[s.val] w fun e w' => e = .returned (.tuple #[str (if stNo s = 0 then stTxt s else []), .int .i64 (stNo s)]) ∧ Below w.heap.size w w' := by
  refine enter_args (args := [.agg #[.int .i64 s.k, .int .i64 s.at_, str s.inn, .bool s.nx, .int .i64 s.till, .int .i64 s.more, .int .i64 s.ppl, .int .i64 s.again]]) (F := _) Tryd.func11 rfl Tryd.ntmps11 rfl rfl ?_
  intro Rb hRb hRn
  refine T_seq ?_
  refine T_region ?_
  refine S_box 1 1 rfl rfl rfl rfl rfl ?_
  intro b1
  refine S_ 2 rfl rfl rfl _ (y_assign rfl rfl) ?_
  refine S_ 3 rfl rfl rfl _ (y_assign rfl rfl) ?_
  refine S_go (fun _ _ h => h) ?_
  refine T_seq ?_
  refine T_seq ?_
  refine T_region ?_
  refine S_ 6 rfl rfl rfl _ (y_loadA 1 rfl rfl rfl Tryd.underlying40 rfl sz40) ?_
  refine S_ 7 rfl rfl rfl _ (y_call rfl rfl rfl cf12 (fun _ w hM => CheckState_any s w)) ?_
  refine S_ 4 rfl rfl rfl _ (y_assign rfl rfl) ?_
  refine S_go (fun _ _ h => h) ?_
  refine T_seq ?_
  refine T_region ?_
  refine S_ 8 rfl rfl rfl _ (y_move rfl rfl) ?_
  refine S_ 9 rfl rfl rfl _ (y_bin rfl rfl rfl (fun _ => b_neq)) ?_
  refine S_go (fun _ _ h => h) ?_
  refine T_cond rfl (fun h9 => ?_) (fun h9 => ?_)
  · try simp only [decide_eq_true_eq, decide_eq_false_iff_not, Bool.or_eq_true, Bool.or_eq_false_iff, Bool.and_eq_true, Bool.and_eq_false_iff, Bool.not_eq_true', Bool.not_eq_false', Bool.not_eq_true, Bool.not_eq_false, Bool.not_true, Bool.not_false, Int.not_lt, Int.not_le, not_or, not_and, Classical.not_not] at h9
    refine T_seq ?_
    refine T_region ?_
    refine S_ 10 rfl rfl rfl _ (y_move rfl rfl) ?_
    refine S_ 2 rfl rfl rfl _ (y_assign rfl rfl) ?_
    refine S_ 3 rfl rfl rfl _ (y_assign rfl rfl) ?_
    refine S_go (fun _ _ h => h) ?_
    refine T_ret (fun a w hF hM => hRb a w (post2 rfl rfl rfl (fun w hM => ?_) a w hF hM))
    exact ⟨by rw [if_neg h9], hM.below⟩
  · try simp only [decide_eq_true_eq, decide_eq_false_iff_not, Bool.or_eq_true, Bool.or_eq_false_iff, Bool.and_eq_true, Bool.and_eq_false_iff, Bool.not_eq_true', Bool.not_eq_false', Bool.not_eq_true, Bool.not_eq_false, Bool.not_true, Bool.not_false, Int.not_lt, Int.not_le, not_or, not_and, Classical.not_not] at h9
    obtain ⟨⟨hk1, hk3⟩, hin, hb, hnx⟩ := st_parts h9
    obtain ⟨j, hj⟩ : ∃ j : Nat, s.k = (j : Int) := ⟨s.k.toNat, by omega⟩
    have hj4 : j < 4 := by omega
    have hkw := kwd_len j
    have ha := Lib.itoa_length_le s.at_ (by omega) (by omega)
    have ht := Lib.itoa_length_le s.till (by omega) (by omega)
    have hm := Lib.itoa_length_le s.more (by omega) (by omega)
    have hp := Lib.itoa_length_le s.ppl (by omega) (by omega)
    have hg := Lib.itoa_length_le s.again (by omega) (by omega)
    refine T_skip_go (fun _ _ h => h) ?_
    refine T_seq ?_
    refine T_draws (by kernel_rfl) (by kernel_rfl) ?_
    refine D_ 11 rfl rfl rfl _ (y_fieldAddr rfl rfl fa40_0) ?_
    refine D_ 12 rfl rfl rfl _ (y_as (v' := .int .i64 (j : Int)) (by rw [hj]) (y_load 1 rfl rfl rfl rfl Tryd.underlying3 rfl)) ?_
    refine D_ 13 rfl rfl rfl _ (y_indexArr (j := j) rfl rfl rfl Tryd.underlying64 (by decide) sz9 (fun _ => by omega)) ?_
    refine D_ 14 rfl rfl rfl _ (y_load_far rfl rfl (hK.1 j (by omega)) hK.2 Tryd.underlying9 rfl) ?_
    refine D_ 15 rfl rfl rfl _ (y_bin rfl rfl rfl (fun hg => b_adds (by first | omega | (simp only [List.length_append, List.length_cons, List.length_nil]; omega)))) ?_
    refine D_ 16 rfl rfl rfl _ (y_fieldAddr rfl rfl fa40_1) ?_
    refine D_ 17 rfl rfl rfl _ (y_load 1 rfl rfl rfl rfl Tryd.underlying3 rfl) ?_
    refine D_ 18 rfl rfl rfl _ (y_call rfl rfl rfl cf26 (fun _ w hM => Itoa_any s.at_ (by omega) (by omega) w (hP.below hM.below))) ?_
    refine D_ 19 rfl rfl rfl _ (y_bin rfl rfl rfl (fun hg => b_adds (by first | omega | (simp only [List.length_append, List.length_cons, List.length_nil]; omega)))) ?_
    refine D_ 5 rfl rfl rfl _ (y_assign rfl rfl) ?_
    refine D_go (fun _ _ h => h) ?_
    refine T_seq ?_
    refine T_block ?_
    refine T_seq ?_
    refine T_region ?_
    refine S_ 21 rfl rfl rfl _ (y_fieldAddr rfl rfl fa40_3) ?_
    refine S_ 22 rfl rfl rfl _ (y_load 1 rfl rfl rfl rfl Tryd.underlying4 rfl) ?_
    refine S_ 20 rfl rfl rfl _ (y_assign rfl rfl) ?_
    refine S_go (fun _ _ h => h) ?_
    refine T_cond rfl (fun h20 => ?_) (fun h20 => ?_)
    · skip
      have hn : s.nx = true := h20
      have hi : ¬ s.inn = [] := fun e => by rw [hnx e] at hn; cases hn
      refine T_region ?_
      refine S_ 23 rfl rfl rfl _ (y_move rfl rfl) ?_
      refine S_ 24 rfl rfl rfl _ (y_fieldAddr rfl rfl fa40_2) ?_
      refine S_ 25 rfl rfl rfl _ (y_load 1 rfl rfl rfl rfl Tryd.underlying9 rfl) ?_
      refine S_ 26 rfl rfl rfl _ (y_bin rfl rfl rfl (fun hg => b_adds (by first | omega | (simp only [List.length_append, List.length_cons, List.length_nil]; omega)))) ?_
      refine S_ 27 rfl rfl rfl _ (y_bin rfl rfl rfl (fun hg => b_adds (by first | omega | (simp only [List.length_append, List.length_cons, List.length_nil]; omega)))) ?_
      refine S_ 5 rfl rfl rfl _ (y_assign rfl rfl) ?_
      refine S_go (fun _ _ h => h) ?_
      refine T_seq ?_
      refine T_seq ?_
      refine T_region ?_
      refine S_ 37 rfl rfl rfl _ (y_fieldAddr rfl rfl fa40_4) ?_
      refine S_ 38 rfl rfl rfl _ (y_load 1 rfl rfl rfl rfl Tryd.underlying3 rfl) ?_
      refine S_ 39 rfl rfl rfl _ (y_bin rfl rfl rfl (fun _ => b_neq)) ?_
      refine S_go (fun _ _ h => h) ?_
      refine T_cond rfl (fun h39 => ?_) (fun h39 => ?_)
      · skip
        refine T_region ?_
        refine S_ 40 rfl rfl rfl _ (y_move rfl rfl) ?_
        refine S_ 41 rfl rfl rfl _ (y_fieldAddr rfl rfl fa40_4) ?_
        refine S_ 42 rfl rfl rfl _ (y_load 1 rfl rfl rfl rfl Tryd.underlying3 rfl) ?_
        refine S_ 43 rfl rfl rfl _ (y_call rfl rfl rfl cf26 (fun _ w hM => Itoa_any s.till (by omega) (by omega) w (hP.below hM.below))) ?_
        refine S_ 44 rfl rfl rfl _ (y_bin rfl rfl rfl (fun hg => b_adds (by first | omega | (simp only [List.length_append, List.length_cons, List.length_nil]; omega)))) ?_
        refine S_ 45 rfl rfl rfl _ (y_bin rfl rfl rfl (fun hg => b_adds (by first | omega | (simp only [List.length_append, List.length_cons, List.length_nil]; omega)))) ?_
        refine S_ 5 rfl rfl rfl _ (y_assign rfl rfl) ?_
        refine S_go (fun _ _ h => h) ?_
        refine T_seq ?_
        refine T_seq ?_
        refine T_region ?_
        refine S_ 46 rfl rfl rfl _ (y_fieldAddr rfl rfl fa40_5) ?_
        refine S_ 47 rfl rfl rfl _ (y_load 1 rfl rfl rfl rfl Tryd.underlying3 rfl) ?_
        refine S_ 48 rfl rfl rfl _ (y_bin rfl rfl rfl (fun _ => b_neq)) ?_
        refine S_go (fun _ _ h => h) ?_
        refine T_cond rfl (fun h48 => ?_) (fun h48 => ?_)
        · skip
          refine T_region ?_
          refine S_ 49 rfl rfl rfl _ (y_move rfl rfl) ?_
          refine S_ 50 rfl rfl rfl _ (y_fieldAddr rfl rfl fa40_5) ?_
          refine S_ 51 rfl rfl rfl _ (y_load 1 rfl rfl rfl rfl Tryd.underlying3 rfl) ?_
          refine S_ 52 rfl rfl rfl _ (y_call rfl rfl rfl cf26 (fun _ w hM => Itoa_any s.more (by omega) (by omega) w (hP.below hM.below))) ?_
          refine S_ 53 rfl rfl rfl _ (y_bin rfl rfl rfl (fun hg => b_adds (by first | omega | (simp only [List.length_append, List.length_cons, List.length_nil]; omega)))) ?_
          refine S_ 54 rfl rfl rfl _ (y_bin rfl rfl rfl (fun hg => b_adds (by first | omega | (simp only [List.length_append, List.length_cons, List.length_nil]; omega)))) ?_
          refine S_ 5 rfl rfl rfl _ (y_assign rfl rfl) ?_
          refine S_go (fun _ _ h => h) ?_
          refine T_seq ?_
          refine T_seq ?_
          refine T_region ?_
          refine S_ 55 rfl rfl rfl _ (y_fieldAddr rfl rfl fa40_6) ?_
          refine S_ 56 rfl rfl rfl _ (y_load 1 rfl rfl rfl rfl Tryd.underlying3 rfl) ?_
          refine S_ 57 rfl rfl rfl _ (y_bin rfl rfl rfl (fun _ => b_neq)) ?_
          refine S_go (fun _ _ h => h) ?_
          refine T_cond rfl (fun h57 => ?_) (fun h57 => ?_)
          · skip
            refine T_region ?_
            refine S_ 58 rfl rfl rfl _ (y_move rfl rfl) ?_
            refine S_ 59 rfl rfl rfl _ (y_fieldAddr rfl rfl fa40_6) ?_
            refine S_ 60 rfl rfl rfl _ (y_load 1 rfl rfl rfl rfl Tryd.underlying3 rfl) ?_
            refine S_ 61 rfl rfl rfl _ (y_call rfl rfl rfl cf26 (fun _ w hM => Itoa_any s.ppl (by omega) (by omega) w (hP.below hM.below))) ?_
            refine S_ 62 rfl rfl rfl _ (y_bin rfl rfl rfl (fun hg => b_adds (by first | omega | (simp only [List.length_append, List.length_cons, List.length_nil]; omega)))) ?_
            refine S_ 63 rfl rfl rfl _ (y_bin rfl rfl rfl (fun hg => b_adds (by first | omega | (simp only [List.length_append, List.length_cons, List.length_nil]; omega)))) ?_
            refine S_ 5 rfl rfl rfl _ (y_assign rfl rfl) ?_
            refine S_go (fun _ _ h => h) ?_
            refine T_seq ?_
            refine T_seq ?_
            refine T_region ?_
            refine S_ 64 rfl rfl rfl _ (y_fieldAddr rfl rfl fa40_7) ?_
            refine S_ 65 rfl rfl rfl _ (y_load 1 rfl rfl rfl rfl Tryd.underlying3 rfl) ?_
            refine S_ 66 rfl rfl rfl _ (y_bin rfl rfl rfl (fun _ => b_neq)) ?_
            refine S_go (fun _ _ h => h) ?_
            refine T_cond rfl (fun h66 => ?_) (fun h66 => ?_)
            · skip
              refine T_region ?_
              refine S_ 67 rfl rfl rfl _ (y_move rfl rfl) ?_
              refine S_ 68 rfl rfl rfl _ (y_fieldAddr rfl rfl fa40_7) ?_
              refine S_ 69 rfl rfl rfl _ (y_load 1 rfl rfl rfl rfl Tryd.underlying3 rfl) ?_
              refine S_ 70 rfl rfl rfl _ (y_call rfl rfl rfl cf26 (fun _ w hM => Itoa_any s.again (by omega) (by omega) w (hP.below hM.below))) ?_
              refine S_ 71 rfl rfl rfl _ (y_bin rfl rfl rfl (fun hg => b_adds (by first | omega | (simp only [List.length_append, List.length_cons, List.length_nil]; omega)))) ?_
              refine S_ 72 rfl rfl rfl _ (y_bin rfl rfl rfl (fun hg => b_adds (by first | omega | (simp only [List.length_append, List.length_cons, List.length_nil]; omega)))) ?_
              refine S_ 5 rfl rfl rfl _ (y_assign rfl rfl) ?_
              refine S_go (fun _ _ h => h) ?_
              refine T_seq ?_
              refine T_region ?_
              refine S_ 73 rfl rfl rfl _ (y_move rfl rfl) ?_
              refine S_ 2 rfl rfl rfl _ (y_assign rfl rfl) ?_
              refine S_ 3 rfl rfl rfl _ (y_assign rfl rfl) ?_
              refine S_go (fun _ _ h => h) ?_
              refine T_ret (fun a w hF hM => hRb a w (post2 rfl rfl rfl (fun w hM => ?_) a w hF hM))
              rw [if_pos h9, h9]
              exact ⟨by simp only [stTxt, inT, optT, hj, Int.toNat_natCast, h39, h48, h57, h66]; simp [wTill, wMore, wPpl, wAgain, *], hM.below⟩
            · skip
              refine T_skip_go (fun _ _ h => h) ?_
              refine T_seq ?_
              refine T_region ?_
              refine S_ 73 rfl rfl rfl _ (y_move rfl rfl) ?_
              refine S_ 2 rfl rfl rfl _ (y_assign rfl rfl) ?_
              refine S_ 3 rfl rfl rfl _ (y_assign rfl rfl) ?_
              refine S_go (fun _ _ h => h) ?_
              refine T_ret (fun a w hF hM => hRb a w (post2 rfl rfl rfl (fun w hM => ?_) a w hF hM))
              rw [if_pos h9, h9]
              exact ⟨by simp only [stTxt, inT, optT, hj, Int.toNat_natCast, h39, h48, h57, h66]; simp [wTill, wMore, wPpl, wAgain, *], hM.below⟩
          · skip
            refine T_skip_go (fun _ _ h => h) ?_
            refine T_seq ?_
            refine T_seq ?_
            refine T_region ?_
            refine S_ 64 rfl rfl rfl _ (y_fieldAddr rfl rfl fa40_7) ?_
            refine S_ 65 rfl rfl rfl _ (y_load 1 rfl rfl rfl rfl Tryd.underlying3 rfl) ?_
            refine S_ 66 rfl rfl rfl _ (y_bin rfl rfl rfl (fun _ => b_neq)) ?_
            refine S_go (fun _ _ h => h) ?_
            refine T_cond rfl (fun h66 => ?_) (fun h66 => ?_)
            · skip
              refine T_region ?_
              refine S_ 67 rfl rfl rfl _ (y_move rfl rfl) ?_
              refine S_ 68 rfl rfl rfl _ (y_fieldAddr rfl rfl fa40_7) ?_
              refine S_ 69 rfl rfl rfl _ (y_load 1 rfl rfl rfl rfl Tryd.underlying3 rfl) ?_
              refine S_ 70 rfl rfl rfl _ (y_call rfl rfl rfl cf26 (fun _ w hM => Itoa_any s.again (by omega) (by omega) w (hP.below hM.below))) ?_
              refine S_ 71 rfl rfl rfl _ (y_bin rfl rfl rfl (fun hg => b_adds (by first | omega | (simp only [List.length_append, List.length_cons, List.length_nil]; omega)))) ?_
              refine S_ 72 rfl rfl rfl _ (y_bin rfl rfl rfl (fun hg => b_adds (by first | omega | (simp only [List.length_append, List.length_cons, List.length_nil]; omega)))) ?_
              refine S_ 5 rfl rfl rfl _ (y_assign rfl rfl) ?_
              refine S_go (fun _ _ h => h) ?_
              refine T_seq ?_
              refine T_region ?_
              refine S_ 73 rfl rfl rfl _ (y_move rfl rfl) ?_
              refine S_ 2 rfl rfl rfl _ (y_assign rfl rfl) ?_
              refine S_ 3 rfl rfl rfl _ (y_assign rfl rfl) ?_
              refine S_go (fun _ _ h => h) ?_
              refine T_ret (fun a w hF hM => hRb a w (post2 rfl rfl rfl (fun w hM => ?_) a w hF hM))
              rw [if_pos h9, h9]
              exact ⟨by simp only [stTxt, inT, optT, hj, Int.toNat_natCast, h39, h48, h57, h66]; simp [wTill, wMore, wPpl, wAgain, *], hM.below⟩
            · skip
              refine T_skip_go (fun _ _ h => h) ?_
              refine T_seq ?_
              refine T_region ?_
              refine S_ 73 rfl rfl rfl _ (y_move rfl rfl) ?_
              refine S_ 2 rfl rfl rfl _ (y_assign rfl rfl) ?_
              refine S_ 3 rfl rfl rfl _ (y_assign rfl rfl) ?_
              refine S_go (fun _ _ h => h) ?_
              refine T_ret (fun a w hF hM => hRb a w (post2 rfl rfl rfl (fun w hM => ?_) a w hF hM))
              rw [if_pos h9, h9]
              exact ⟨by simp only [stTxt, inT, optT, hj, Int.toNat_natCast, h39, h48, h57, h66]; simp [wTill, wMore, wPpl, wAgain, *], hM.below⟩
        · skip
          refine T_skip_go (fun _ _ h => h) ?_
          refine T_seq ?_
          refine T_seq ?_
          refine T_region ?_
          refine S_ 55 rfl rfl rfl _ (y_fieldAddr rfl rfl fa40_6) ?_
          refine S_ 56 rfl rfl rfl _ (y_load 1 rfl rfl rfl rfl Tryd.underlying3 rfl) ?_
          refine S_ 57 rfl rfl rfl _ (y_bin rfl rfl rfl (fun _ => b_neq)) ?_
          refine S_go (fun _ _ h => h) ?_
          refine T_cond rfl (fun h57 => ?_) (fun h57 => ?_)
          · skip
            refine T_region ?_
            refine S_ 58 rfl rfl rfl _ (y_move rfl rfl) ?_
            refine S_ 59 rfl rfl rfl _ (y_fieldAddr rfl rfl fa40_6) ?_
            refine S_ 60 rfl rfl rfl _ (y_load 1 rfl rfl rfl rfl Tryd.underlying3 rfl) ?_
            refine S_ 61 rfl rfl rfl _ (y_call rfl rfl rfl cf26 (fun _ w hM => Itoa_any s.ppl (by omega) (by omega) w (hP.below hM.below))) ?_
            refine S_ 62 rfl rfl rfl _ (y_bin rfl rfl rfl (fun hg => b_adds (by first | omega | (simp only [List.length_append, List.length_cons, List.length_nil]; omega)))) ?_
            refine S_ 63 rfl rfl rfl _ (y_bin rfl rfl rfl (fun hg => b_adds (by first | omega | (simp only [List.length_append, List.length_cons, List.length_nil]; omega)))) ?_
            refine S_ 5 rfl rfl rfl _ (y_assign rfl rfl) ?_
            refine S_go (fun _ _ h => h) ?_
            refine T_seq ?_
            refine T_seq ?_
            refine T_region ?_
            refine S_ 64 rfl rfl rfl _ (y_fieldAddr rfl rfl fa40_7) ?_
            refine S_ 65 rfl rfl rfl _ (y_load 1 rfl rfl rfl rfl Tryd.underlying3 rfl) ?_
            refine S_ 66 rfl rfl rfl _ (y_bin rfl rfl rfl (fun _ => b_neq)) ?_
            refine S_go (fun _ _ h => h) ?_
            refine T_cond rfl (fun h66 => ?_) (fun h66 => ?_)
            · skip
              refine T_region ?_
              refine S_ 67 rfl rfl rfl _ (y_move rfl rfl) ?_
              refine S_ 68 rfl rfl rfl _ (y_fieldAddr rfl rfl fa40_7) ?_
              refine S_ 69 rfl rfl rfl _ (y_load 1 rfl rfl rfl rfl Tryd.underlying3 rfl) ?_
              refine S_ 70 rfl rfl rfl _ (y_call rfl rfl rfl cf26 (fun _ w hM => Itoa_any s.again (by omega) (by omega) w (hP.below hM.below))) ?_
              refine S_ 71 rfl rfl rfl _ (y_bin rfl rfl rfl (fun hg => b_adds (by first | omega | (simp only [List.length_append, List.length_cons, List.length_nil]; omega)))) ?_
              refine S_ 72 rfl rfl rfl _ (y_bin rfl rfl rfl (fun hg => b_adds (by first | omega | (simp only [List.length_append, List.length_cons, List.length_nil]; omega)))) ?_
              refine S_ 5 rfl rfl rfl _ (y_assign rfl rfl) ?_
              refine S_go (fun _ _ h => h) ?_
              refine T_seq ?_
              refine T_region ?_
              refine S_ 73 rfl rfl rfl _ (y_move rfl rfl) ?_
              refine S_ 2 rfl rfl rfl _ (y_assign rfl rfl) ?_
              refine S_ 3 rfl rfl rfl _ (y_assign rfl rfl) ?_
              refine S_go (fun _ _ h => h) ?_
              refine T_ret (fun a w hF hM => hRb a w (post2 rfl rfl rfl (fun w hM => ?_) a w hF hM))
              rw [if_pos h9, h9]
              exact ⟨by simp only [stTxt, inT, optT, hj, Int.toNat_natCast, h39, h48, h57, h66]; simp [wTill, wMore, wPpl, wAgain, *], hM.below⟩
            · skip
              refine T_skip_go (fun _ _ h => h) ?_
              refine T_seq ?_
              refine T_region ?_
              refine S_ 73 rfl rfl rfl _ (y_move rfl rfl) ?_
              refine S_ 2 rfl rfl rfl _ (y_assign rfl rfl) ?_
              refine S_ 3 rfl rfl rfl _ (y_assign rfl rfl) ?_
              refine S_go (fun _ _ h => h) ?_
              refine T_ret (fun a w hF hM => hRb a w (post2 rfl rfl rfl (fun w hM => ?_) a w hF hM))
              rw [if_pos h9, h9]
              exact ⟨by simp only [stTxt, inT, optT, hj, Int.toNat_natCast, h39, h48, h57, h66]; simp [wTill, wMore, wPpl, wAgain, *], hM.below⟩
          · skip
            refine T_skip_go (fun _ _ h => h) ?_
            refine T_seq ?_
            refine T_seq ?_
            refine T_region ?_
            refine S_ 64 rfl rfl rfl _ (y_fieldAddr rfl rfl fa40_7) ?_
            refine S_ 65 rfl rfl rfl _ (y_load 1 rfl rfl rfl rfl Tryd.underlying3 rfl) ?_
            refine S_ 66 rfl rfl rfl _ (y_bin rfl rfl rfl (fun _ => b_neq)) ?_
            refine S_go (fun _ _ h => h) ?_
            refine T_cond rfl (fun h66 => ?_) (fun h66 => ?_)
            · skip
              refine T_region ?_
              refine S_ 67 rfl rfl rfl _ (y_move rfl rfl) ?_
              refine S_ 68 rfl rfl rfl _ (y_fieldAddr rfl rfl fa40_7) ?_
              refine S_ 69 rfl rfl rfl _ (y_load 1 rfl rfl rfl rfl Tryd.underlying3 rfl) ?_
              refine S_ 70 rfl rfl rfl _ (y_call rfl rfl rfl cf26 (fun _ w hM => Itoa_any s.again (by omega) (by omega) w (hP.below hM.below))) ?_
              refine S_ 71 rfl rfl rfl _ (y_bin rfl rfl rfl (fun hg => b_adds (by first | omega | (simp only [List.length_append, List.length_cons, List.length_nil]; omega)))) ?_
              refine S_ 72 rfl rfl rfl _ (y_bin rfl rfl rfl (fun hg => b_adds (by first | omega | (simp only [List.length_append, List.length_cons, List.length_nil]; omega)))) ?_
              refine S_ 5 rfl rfl rfl _ (y_assign rfl rfl) ?_
              refine S_go (fun _ _ h => h) ?_
              refine T_seq ?_
              refine T_region ?_
              refine S_ 73 rfl rfl rfl _ (y_move rfl rfl) ?_
              refine S_ 2 rfl rfl rfl _ (y_assign rfl rfl) ?_
              refine S_ 3 rfl rfl rfl _ (y_assign rfl rfl) ?_
              refine S_go (fun _ _ h => h) ?_
              refine T_ret (fun a w hF hM => hRb a w (post2 rfl rfl rfl (fun w hM => ?_) a w hF hM))
              rw [if_pos h9, h9]
              exact ⟨by simp only [stTxt, inT, optT, hj, Int.toNat_natCast, h39, h48, h57, h66]; simp [wTill, wMore, wPpl, wAgain, *], hM.below⟩
            · skip
              refine T_skip_go (fun _ _ h => h) ?_
              refine T_seq ?_
              refine T_region ?_
              refine S_ 73 rfl rfl rfl _ (y_move rfl rfl) ?_
              refine S_ 2 rfl rfl rfl _ (y_assign rfl rfl) ?_
              refine S_ 3 rfl rfl rfl _ (y_assign rfl rfl) ?_
              refine S_go (fun _ _ h => h) ?_
              refine T_ret (fun a w hF hM => hRb a w (post2 rfl rfl rfl (fun w hM => ?_) a w hF hM))
              rw [if_pos h9, h9]
              exact ⟨by simp only [stTxt, inT, optT, hj, Int.toNat_natCast, h39, h48, h57, h66]; simp [wTill, wMore, wPpl, wAgain, *], hM.below⟩
      · skip
        refine T_skip_go (fun _ _ h => h) ?_
        refine T_seq ?_
        refine T_seq ?_
        refine T_region ?_
        refine S_ 46 rfl rfl rfl _ (y_fieldAddr rfl rfl fa40_5) ?_
        refine S_ 47 rfl rfl rfl _ (y_load 1 rfl rfl rfl rfl Tryd.underlying3 rfl) ?_
        refine S_ 48 rfl rfl rfl _ (y_bin rfl rfl rfl (fun _ => b_neq)) ?_
        refine S_go (fun _ _ h => h) ?_
        refine T_cond rfl (fun h48 => ?_) (fun h48 => ?_)
        · skip
          refine T_region ?_
          refine S_ 49 rfl rfl rfl _ (y_move rfl rfl) ?_
          refine S_ 50 rfl rfl rfl _ (y_fieldAddr rfl rfl fa40_5) ?_
          refine S_ 51 rfl rfl rfl _ (y_load 1 rfl rfl rfl rfl Tryd.underlying3 rfl) ?_
          refine S_ 52 rfl rfl rfl _ (y_call rfl rfl rfl cf26 (fun _ w hM => Itoa_any s.more (by omega) (by omega) w (hP.below hM.below))) ?_
          refine S_ 53 rfl rfl rfl _ (y_bin rfl rfl rfl (fun hg => b_adds (by first | omega | (simp only [List.length_append, List.length_cons, List.length_nil]; omega)))) ?_
          refine S_ 54 rfl rfl rfl _ (y_bin rfl rfl rfl (fun hg => b_adds (by first | omega | (simp only [List.length_append, List.length_cons, List.length_nil]; omega)))) ?_
          refine S_ 5 rfl rfl rfl _ (y_assign rfl rfl) ?_
          refine S_go (fun _ _ h => h) ?_
          refine T_seq ?_
          refine T_seq ?_
          refine T_region ?_
          refine S_ 55 rfl rfl rfl _ (y_fieldAddr rfl rfl fa40_6) ?_
          refine S_ 56 rfl rfl rfl _ (y_load 1 rfl rfl rfl rfl Tryd.underlying3 rfl) ?_
          refine S_ 57 rfl rfl rfl _ (y_bin rfl rfl rfl (fun _ => b_neq)) ?_
          refine S_go (fun _ _ h => h) ?_
          refine T_cond rfl (fun h57 => ?_) (fun h57 => ?_)
          · skip
            refine T_region ?_
            refine S_ 58 rfl rfl rfl _ (y_move rfl rfl) ?_
            refine S_ 59 rfl rfl rfl _ (y_fieldAddr rfl rfl fa40_6) ?_
            refine S_ 60 rfl rfl rfl _ (y_load 1 rfl rfl rfl rfl Tryd.underlying3 rfl) ?_
            refine S_ 61 rfl rfl rfl _ (y_call rfl rfl rfl cf26 (fun _ w hM => Itoa_any s.ppl (by omega) (by omega) w (hP.below hM.below))) ?_
            refine S_ 62 rfl rfl rfl _ (y_bin rfl rfl rfl (fun hg => b_adds (by first | omega | (simp only [List.length_append, List.length_cons, List.length_nil]; omega)))) ?_
            refine S_ 63 rfl rfl rfl _ (y_bin rfl rfl rfl (fun hg => b_adds (by first | omega | (simp only [List.length_append, List.length_cons, List.length_nil]; omega)))) ?_
            refine S_ 5 rfl rfl rfl _ (y_assign rfl rfl) ?_
            refine S_go (fun _ _ h => h) ?_
            refine T_seq ?_
            refine T_seq ?_
            refine T_region ?_
            refine S_ 64 rfl rfl rfl _ (y_fieldAddr rfl rfl fa40_7) ?_
            refine S_ 65 rfl rfl rfl _ (y_load 1 rfl rfl rfl rfl Tryd.underlying3 rfl) ?_
            refine S_ 66 rfl rfl rfl _ (y_bin rfl rfl rfl (fun _ => b_neq)) ?_
            refine S_go (fun _ _ h => h) ?_
            refine T_cond rfl (fun h66 => ?_) (fun h66 => ?_)
            · skip
              refine T_region ?_
              refine S_ 67 rfl rfl rfl _ (y_move rfl rfl) ?_
              refine S_ 68 rfl rfl rfl _ (y_fieldAddr rfl rfl fa40_7) ?_
              refine S_ 69 rfl rfl rfl _ (y_load 1 rfl rfl rfl rfl Tryd.underlying3 rfl) ?_
              refine S_ 70 rfl rfl rfl _ (y_call rfl rfl rfl cf26 (fun _ w hM => Itoa_any s.again (by omega) (by omega) w (hP.below hM.below))) ?_
              refine S_ 71 rfl rfl rfl _ (y_bin rfl rfl rfl (fun hg => b_adds (by first | omega | (simp only [List.length_append, List.length_cons, List.length_nil]; omega)))) ?_
              refine S_ 72 rfl rfl rfl _ (y_bin rfl rfl rfl (fun hg => b_adds (by first | omega | (simp only [List.length_append, List.length_cons, List.length_nil]; omega)))) ?_
              refine S_ 5 rfl rfl rfl _ (y_assign rfl rfl) ?_
              refine S_go (fun _ _ h => h) ?_
              refine T_seq ?_
              refine T_region ?_
              refine S_ 73 rfl rfl rfl _ (y_move rfl rfl) ?_
              refine S_ 2 rfl rfl rfl _ (y_assign rfl rfl) ?_
              refine S_ 3 rfl rfl rfl _ (y_assign rfl rfl) ?_
              refine S_go (fun _ _ h => h) ?_
              refine T_ret (fun a w hF hM => hRb a w (post2 rfl rfl rfl (fun w hM => ?_) a w hF hM))
              rw [if_pos h9, h9]
              exact ⟨by simp only [stTxt, inT, optT, hj, Int.toNat_natCast, h39, h48, h57, h66]; simp [wTill, wMore, wPpl, wAgain, *], hM.below⟩
            · skip
              refine T_skip_go (fun _ _ h => h) ?_
              refine T_seq ?_
              refine T_region ?_
              refine S_ 73 rfl rfl rfl _ (y_move rfl rfl) ?_
              refine S_ 2 rfl rfl rfl _ (y_assign rfl rfl) ?_
              refine S_ 3 rfl rfl rfl _ (y_assign rfl rfl) ?_
              refine S_go (fun _ _ h => h) ?_
              refine T_ret (fun a w hF hM => hRb a w (post2 rfl rfl rfl (fun w hM => ?_) a w hF hM))
              rw [if_pos h9, h9]
              exact ⟨by simp only [stTxt, inT, optT, hj, Int.toNat_natCast, h39, h48, h57, h66]; simp [wTill, wMore, wPpl, wAgain, *], hM.below⟩
          · skip
            refine T_skip_go (fun _ _ h => h) ?_
            refine T_seq ?_
            refine T_seq ?_
            refine T_region ?_
            refine S_ 64 rfl rfl rfl _ (y_fieldAddr rfl rfl fa40_7) ?_
            refine S_ 65 rfl rfl rfl _ (y_load 1 rfl rfl rfl rfl Tryd.underlying3 rfl) ?_
            refine S_ 66 rfl rfl rfl _ (y_bin rfl rfl rfl (fun _ => b_neq)) ?_
            refine S_go (fun _ _ h => h) ?_
            refine T_cond rfl (fun h66 => ?_) (fun h66 => ?_)
            · skip
              refine T_region ?_
              refine S_ 67 rfl rfl rfl _ (y_move rfl rfl) ?_
              refine S_ 68 rfl rfl rfl _ (y_fieldAddr rfl rfl fa40_7) ?_
              refine S_ 69 rfl rfl rfl _ (y_load 1 rfl rfl rfl rfl Tryd.underlying3 rfl) ?_
              refine S_ 70 rfl rfl rfl _ (y_call rfl rfl rfl cf26 (fun _ w hM => Itoa_any s.again (by omega) (by omega) w (hP.below hM.below))) ?_
              refine S_ 71 rfl rfl rfl _ (y_bin rfl rfl rfl (fun hg => b_adds (by first | omega | (simp only [List.length_append, List.length_cons, List.length_nil]; omega)))) ?_
              refine S_ 72 rfl rfl rfl _ (y_bin rfl rfl rfl (fun hg => b_adds (by first | omega | (simp only [List.length_append, List.length_cons, List.length_nil]; omega)))) ?_
              refine S_ 5 rfl rfl rfl _ (y_assign rfl rfl) ?_
              refine S_go (fun _ _ h => h) ?_
              refine T_seq ?_
              refine T_region ?_
              refine S_ 73 rfl rfl rfl _ (y_move rfl rfl) ?_
              refine S_ 2 rfl rfl rfl _ (y_assign rfl rfl) ?_
              refine S_ 3 rfl rfl rfl _ (y_assign rfl rfl) ?_
              refine S_go (fun _ _ h => h) ?_
              refine T_ret (fun a w hF hM => hRb a w (post2 rfl rfl rfl (fun w hM => ?_) a w hF hM))
              rw [if_pos h9, h9]
              exact ⟨by simp only [stTxt, inT, optT, hj, Int.toNat_natCast, h39, h48, h57, h66]; simp [wTill, wMore, wPpl, wAgain, *], hM.below⟩
            · skip
              refine T_skip_go (fun _ _ h => h) ?_
              refine T_seq ?_
              refine T_region ?_
              refine S_ 73 rfl rfl rfl _ (y_move rfl rfl) ?_
              refine S_ 2 rfl rfl rfl _ (y_assign rfl rfl) ?_
              refine S_ 3 rfl rfl rfl _ (y_assign rfl rfl) ?_
              refine S_go (fun _ _ h => h) ?_
              refine T_ret (fun a w hF hM => hRb a w (post2 rfl rfl rfl (fun w hM => ?_) a w hF hM))
              rw [if_pos h9, h9]
              exact ⟨by simp only [stTxt, inT, optT, hj, Int.toNat_natCast, h39, h48, h57, h66]; simp [wTill, wMore, wPpl, wAgain, *], hM.below⟩
        · skip
          refine T_skip_go (fun _ _ h => h) ?_
          refine T_seq ?_
          refine T_seq ?_
          refine T_region ?_
          refine S_ 55 rfl rfl rfl _ (y_fieldAddr rfl rfl fa40_6) ?_
          refine S_ 56 rfl rfl rfl _ (y_load 1 rfl rfl rfl rfl Tryd.underlying3 rfl) ?_
          refine S_ 57 rfl rfl rfl _ (y_bin rfl rfl rfl (fun _ => b_neq)) ?_
          refine S_go (fun _ _ h => h) ?_
          refine T_cond rfl (fun h57 => ?_) (fun h57 => ?_)
          · skip
            refine T_region ?_
            refine S_ 58 rfl rfl rfl _ (y_move rfl rfl) ?_
            refine S_ 59 rfl rfl rfl _ (y_fieldAddr rfl rfl fa40_6) ?_
            refine S_ 60 rfl rfl rfl _ (y_load 1 rfl rfl rfl rfl Tryd.underlying3 rfl) ?_
            refine S_ 61 rfl rfl rfl _ (y_call rfl rfl rfl cf26 (fun _ w hM => Itoa_any s.ppl (by omega) (by omega) w (hP.below hM.below))) ?_
            refine S_ 62 rfl rfl rfl _ (y_bin rfl rfl rfl (fun hg => b_adds (by first | omega | (simp only [List.length_append, List.length_cons, List.length_nil]; omega)))) ?_
            refine S_ 63 rfl rfl rfl _ (y_bin rfl rfl rfl (fun hg => b_adds (by first | omega | (simp only [List.length_append, List.length_cons, List.length_nil]; omega)))) ?_
            refine S_ 5 rfl rfl rfl _ (y_assign rfl rfl) ?_
            refine S_go (fun _ _ h => h) ?_
            refine T_seq ?_
            refine T_seq ?_
            refine T_region ?_
            refine S_ 64 rfl rfl rfl _ (y_fieldAddr rfl rfl fa40_7) ?_
            refine S_ 65 rfl rfl rfl _ (y_load 1 rfl rfl rfl rfl Tryd.underlying3 rfl) ?_
            refine S_ 66 rfl rfl rfl _ (y_bin rfl rfl rfl (fun _ => b_neq)) ?_
            refine S_go (fun _ _ h => h) ?_
            refine T_cond rfl (fun h66 => ?_) (fun h66 => ?_)
            · skip
              refine T_region ?_
              refine S_ 67 rfl rfl rfl _ (y_move rfl rfl) ?_
              refine S_ 68 rfl rfl rfl _ (y_fieldAddr rfl rfl fa40_7) ?_
              refine S_ 69 rfl rfl rfl _ (y_load 1 rfl rfl rfl rfl Tryd.underlying3 rfl) ?_
              refine S_ 70 rfl rfl rfl _ (y_call rfl rfl rfl cf26 (fun _ w hM => Itoa_any s.again (by omega) (by omega) w (hP.below hM.below))) ?_
              refine S_ 71 rfl rfl rfl _ (y_bin rfl rfl rfl (fun hg => b_adds (by first | omega | (simp only [List.length_append, List.length_cons, List.length_nil]; omega)))) ?_
              refine S_ 72 rfl rfl rfl _ (y_bin rfl rfl rfl (fun hg => b_adds (by first | omega | (simp only [List.length_append, List.length_cons, List.length_nil]; omega)))) ?_
              refine S_ 5 rfl rfl rfl _ (y_assign rfl rfl) ?_
              refine S_go (fun _ _ h => h) ?_
              refine T_seq ?_
              refine T_region ?_
              refine S_ 73 rfl rfl rfl _ (y_move rfl rfl) ?_
              refine S_ 2 rfl rfl rfl _ (y_assign rfl rfl) ?_
              refine S_ 3 rfl rfl rfl _ (y_assign rfl rfl) ?_
              refine S_go (fun _ _ h => h) ?_
              refine T_ret (fun a w hF hM => hRb a w (post2 rfl rfl rfl (fun w hM => ?_) a w hF hM))
              rw [if_pos h9, h9]
              exact ⟨by simp only [stTxt, inT, optT, hj, Int.toNat_natCast, h39, h48, h57, h66]; simp [wTill, wMore, wPpl, wAgain, *], hM.below⟩
            · skip
              refine T_skip_go (fun _ _ h => h) ?_
              refine T_seq ?_
              refine T_region ?_
              refine S_ 73 rfl rfl rfl _ (y_move rfl rfl) ?_
              refine S_ 2 rfl rfl rfl _ (y_assign rfl rfl) ?_
              refine S_ 3 rfl rfl rfl _ (y_assign rfl rfl) ?_
              refine S_go (fun _ _ h => h) ?_
              refine T_ret (fun a w hF hM => hRb a w (post2 rfl rfl rfl (fun w hM => ?_) a w hF hM))
              rw [if_pos h9, h9]
              exact ⟨by simp only [stTxt, inT, optT, hj, Int.toNat_natCast, h39, h48, h57, h66]; simp [wTill, wMore, wPpl, wAgain, *], hM.below⟩
          · skip
            refine T_skip_go (fun _ _ h => h) ?_
            refine T_seq ?_
            refine T_seq ?_
            refine T_region ?_
            refine S_ 64 rfl rfl rfl _ (y_fieldAddr rfl rfl fa40_7) ?_
            refine S_ 65 rfl rfl rfl _ (y_load 1 rfl rfl rfl rfl Tryd.underlying3 rfl) ?_
            refine S_ 66 rfl rfl rfl _ (y_bin rfl rfl rfl (fun _ => b_neq)) ?_
            refine S_go (fun _ _ h => h) ?_
            refine T_cond rfl (fun h66 => ?_) (fun h66 => ?_)
            · skip
              refine T_region ?_
              refine S_ 67 rfl rfl rfl _ (y_move rfl rfl) ?_
              refine S_ 68 rfl rfl rfl _ (y_fieldAddr rfl rfl fa40_7) ?_
              refine S_ 69 rfl rfl rfl _ (y_load 1 rfl rfl rfl rfl Tryd.underlying3 rfl) ?_
              refine S_ 70 rfl rfl rfl _ (y_call rfl rfl rfl cf26 (fun _ w hM => Itoa_any s.again (by omega) (by omega) w (hP.below hM.below))) ?_
              refine S_ 71 rfl rfl rfl _ (y_bin rfl rfl rfl (fun hg => b_adds (by first | omega | (simp only [List.length_append, List.length_cons, List.length_nil]; omega)))) ?_
              refine S_ 72 rfl rfl rfl _ (y_bin rfl rfl rfl (fun hg => b_adds (by first | omega | (simp only [List.length_append, List.length_cons, List.length_nil]; omega)))) ?_
              refine S_ 5 rfl rfl rfl _ (y_assign rfl rfl) ?_
              refine S_go (fun _ _ h => h) ?_
              refine T_seq ?_
              refine T_region ?_
              refine S_ 73 rfl rfl rfl _ (y_move rfl rfl) ?_
              refine S_ 2 rfl rfl rfl _ (y_assign rfl rfl) ?_
              refine S_ 3 rfl rfl rfl _ (y_assign rfl rfl) ?_
              refine S_go (fun _ _ h => h) ?_
              refine T_ret (fun a w hF hM => hRb a w (post2 rfl rfl rfl (fun w hM => ?_) a w hF hM))
              rw [if_pos h9, h9]
              exact ⟨by simp only [stTxt, inT, optT, hj, Int.toNat_natCast, h39, h48, h57, h66]; simp [wTill, wMore, wPpl, wAgain, *], hM.below⟩
            · skip
              refine T_skip_go (fun _ _ h => h) ?_
              refine T_seq ?_
              refine T_region ?_
              refine S_ 73 rfl rfl rfl _ (y_move rfl rfl) ?_
              refine S_ 2 rfl rfl rfl _ (y_assign rfl rfl) ?_
              refine S_ 3 rfl rfl rfl _ (y_assign rfl rfl) ?_
              refine S_go (fun _ _ h => h) ?_
              refine T_ret (fun a w hF hM => hRb a w (post2 rfl rfl rfl (fun w hM => ?_) a w hF hM))
              rw [if_pos h9, h9]
              exact ⟨by simp only [stTxt, inT, optT, hj, Int.toNat_natCast, h39, h48, h57, h66]; simp [wTill, wMore, wPpl, wAgain, *], hM.below⟩
    · skip
      have hn : s.nx = false := h20
      refine T_seq ?_
      refine T_region ?_
      refine S_ 29 rfl rfl rfl _ (y_fieldAddr rfl rfl fa40_2) ?_
      refine S_ 30 rfl rfl rfl _ (y_load 1 rfl rfl rfl rfl Tryd.underlying9 rfl) ?_
      refine S_ 31 rfl rfl rfl _ (y_bin rfl rfl rfl (fun _ => b_neqs)) ?_
      refine S_ 28 rfl rfl rfl _ (y_assign rfl rfl) ?_
      refine S_go (fun _ _ h => h) ?_
      refine T_cond rfl (fun h28 => ?_) (fun h28 => ?_)
      · skip
        have hi : ¬ s.inn = [] := by simpa using h28
        refine T_region ?_
        refine S_ 32 rfl rfl rfl _ (y_move rfl rfl) ?_
        refine S_ 33 rfl rfl rfl _ (y_fieldAddr rfl rfl fa40_2) ?_
        refine S_ 34 rfl rfl rfl _ (y_load 1 rfl rfl rfl rfl Tryd.underlying9 rfl) ?_
        refine S_ 35 rfl rfl rfl _ (y_bin rfl rfl rfl (fun hg => b_adds (by first | omega | (simp only [List.length_append, List.length_cons, List.length_nil]; omega)))) ?_
        refine S_ 36 rfl rfl rfl _ (y_bin rfl rfl rfl (fun hg => b_adds (by first | omega | (simp only [List.length_append, List.length_cons, List.length_nil]; omega)))) ?_
        refine S_ 5 rfl rfl rfl _ (y_assign rfl rfl) ?_
        refine S_go (fun _ _ h => h) ?_
        refine T_seq ?_
        refine T_seq ?_
        refine T_region ?_
        refine S_ 37 rfl rfl rfl _ (y_fieldAddr rfl rfl fa40_4) ?_
        refine S_ 38 rfl rfl rfl _ (y_load 1 rfl rfl rfl rfl Tryd.underlying3 rfl) ?_
        refine S_ 39 rfl rfl rfl _ (y_bin rfl rfl rfl (fun _ => b_neq)) ?_
        refine S_go (fun _ _ h => h) ?_
        refine T_cond rfl (fun h39 => ?_) (fun h39 => ?_)
        · skip
          refine T_region ?_
          refine S_ 40 rfl rfl rfl _ (y_move rfl rfl) ?_
          refine S_ 41 rfl rfl rfl _ (y_fieldAddr rfl rfl fa40_4) ?_
          refine S_ 42 rfl rfl rfl _ (y_load 1 rfl rfl rfl rfl Tryd.underlying3 rfl) ?_
          refine S_ 43 rfl rfl rfl _ (y_call rfl rfl rfl cf26 (fun _ w hM => Itoa_any s.till (by omega) (by omega) w (hP.below hM.below))) ?_
          refine S_ 44 rfl rfl rfl _ (y_bin rfl rfl rfl (fun hg => b_adds (by first | omega | (simp only [List.length_append, List.length_cons, List.length_nil]; omega)))) ?_
          refine S_ 45 rfl rfl rfl _ (y_bin rfl rfl rfl (fun hg => b_adds (by first | omega | (simp only [List.length_append, List.length_cons, List.length_nil]; omega)))) ?_
          refine S_ 5 rfl rfl rfl _ (y_assign rfl rfl) ?_
          refine S_go (fun _ _ h => h) ?_
          refine T_seq ?_
          refine T_seq ?_
          refine T_region ?_
          refine S_ 46 rfl rfl rfl _ (y_fieldAddr rfl rfl fa40_5) ?_
          refine S_ 47 rfl rfl rfl _ (y_load 1 rfl rfl rfl rfl Tryd.underlying3 rfl) ?_
          refine S_ 48 rfl rfl rfl _ (y_bin rfl rfl rfl (fun _ => b_neq)) ?_
          refine S_go (fun _ _ h => h) ?_
          refine T_cond rfl (fun h48 => ?_) (fun h48 => ?_)
          · skip
            refine T_region ?_
            refine S_ 49 rfl rfl rfl _ (y_move rfl rfl) ?_
            refine S_ 50 rfl rfl rfl _ (y_fieldAddr rfl rfl fa40_5) ?_
            refine S_ 51 rfl rfl rfl _ (y_load 1 rfl rfl rfl rfl Tryd.underlying3 rfl) ?_
            refine S_ 52 rfl rfl rfl _ (y_call rfl rfl rfl cf26 (fun _ w hM => Itoa_any s.more (by omega) (by omega) w (hP.below hM.below))) ?_
            refine S_ 53 rfl rfl rfl _ (y_bin rfl rfl rfl (fun hg => b_adds (by first | omega | (simp only [List.length_append, List.length_cons, List.length_nil]; omega)))) ?_
            refine S_ 54 rfl rfl rfl _ (y_bin rfl rfl rfl (fun hg => b_adds (by first | omega | (simp only [List.length_append, List.length_cons, List.length_nil]; omega)))) ?_
            refine S_ 5 rfl rfl rfl _ (y_assign rfl rfl) ?_
            refine S_go (fun _ _ h => h) ?_
            refine T_seq ?_
            refine T_seq ?_
            refine T_region ?_
            refine S_ 55 rfl rfl rfl _ (y_fieldAddr rfl rfl fa40_6) ?_
            refine S_ 56 rfl rfl rfl _ (y_load 1 rfl rfl rfl rfl Tryd.underlying3 rfl) ?_
            refine S_ 57 rfl rfl rfl _ (y_bin rfl rfl rfl (fun _ => b_neq)) ?_
            refine S_go (fun _ _ h => h) ?_
            refine T_cond rfl (fun h57 => ?_) (fun h57 => ?_)
            · skip
              refine T_region ?_
              refine S_ 58 rfl rfl rfl _ (y_move rfl rfl) ?_
              refine S_ 59 rfl rfl rfl _ (y_fieldAddr rfl rfl fa40_6) ?_
              refine S_ 60 rfl rfl rfl _ (y_load 1 rfl rfl rfl rfl Tryd.underlying3 rfl) ?_
              refine S_ 61 rfl rfl rfl _ (y_call rfl rfl rfl cf26 (fun _ w hM => Itoa_any s.ppl (by omega) (by omega) w (hP.below hM.below))) ?_
              refine S_ 62 rfl rfl rfl _ (y_bin rfl rfl rfl (fun hg => b_adds (by first | omega | (simp only [List.length_append, List.length_cons, List.length_nil]; omega)))) ?_
              refine S_ 63 rfl rfl rfl _ (y_bin rfl rfl rfl (fun hg => b_adds (by first | omega | (simp only [List.length_append, List.length_cons, List.length_nil]; omega)))) ?_
              refine S_ 5 rfl rfl rfl _ (y_assign rfl rfl) ?_
              refine S_go (fun _ _ h => h) ?_
              refine T_seq ?_
              refine T_seq ?_
              refine T_region ?_
              refine S_ 64 rfl rfl rfl _ (y_fieldAddr rfl rfl fa40_7) ?_
              refine S_ 65 rfl rfl rfl _ (y_load 1 rfl rfl rfl rfl Tryd.underlying3 rfl) ?_
              refine S_ 66 rfl rfl rfl _ (y_bin rfl rfl rfl (fun _ => b_neq)) ?_
              refine S_go (fun _ _ h => h) ?_
              refine T_cond rfl (fun h66 => ?_) (fun h66 => ?_)
              · skip
                refine T_region ?_
                refine S_ 67 rfl rfl rfl _ (y_move rfl rfl) ?_
                refine S_ 68 rfl rfl rfl _ (y_fieldAddr rfl rfl fa40_7) ?_
                refine S_ 69 rfl rfl rfl _ (y_load 1 rfl rfl rfl rfl Tryd.underlying3 rfl) ?_
                refine S_ 70 rfl rfl rfl _ (y_call rfl rfl rfl cf26 (fun _ w hM => Itoa_any s.again (by omega) (by omega) w (hP.below hM.below))) ?_
                refine S_ 71 rfl rfl rfl _ (y_bin rfl rfl rfl (fun hg => b_adds (by first | omega | (simp only [List.length_append, List.length_cons, List.length_nil]; omega)))) ?_
                refine S_ 72 rfl rfl rfl _ (y_bin rfl rfl rfl (fun hg => b_adds (by first | omega | (simp only [List.length_append, List.length_cons, List.length_nil]; omega)))) ?_
                refine S_ 5 rfl rfl rfl _ (y_assign rfl rfl) ?_
                refine S_go (fun _ _ h => h) ?_
                refine T_seq ?_
                refine T_region ?_
                refine S_ 73 rfl rfl rfl _ (y_move rfl rfl) ?_
                refine S_ 2 rfl rfl rfl _ (y_assign rfl rfl) ?_
                refine S_ 3 rfl rfl rfl _ (y_assign rfl rfl) ?_
                refine S_go (fun _ _ h => h) ?_
                refine T_ret (fun a w hF hM => hRb a w (post2 rfl rfl rfl (fun w hM => ?_) a w hF hM))
                rw [if_pos h9, h9]
                exact ⟨by simp only [stTxt, inT, optT, hj, Int.toNat_natCast, h39, h48, h57, h66]; simp [wTill, wMore, wPpl, wAgain, *], hM.below⟩
              · skip
                refine T_skip_go (fun _ _ h => h) ?_
                refine T_seq ?_
                refine T_region ?_
                refine S_ 73 rfl rfl rfl _ (y_move rfl rfl) ?_
                refine S_ 2 rfl rfl rfl _ (y_assign rfl rfl) ?_
                refine S_ 3 rfl rfl rfl _ (y_assign rfl rfl) ?_
                refine S_go (fun _ _ h => h) ?_
                refine T_ret (fun a w hF hM => hRb a w (post2 rfl rfl rfl (fun w hM => ?_) a w hF hM))
                rw [if_pos h9, h9]
                exact ⟨by simp only [stTxt, inT, optT, hj, Int.toNat_natCast, h39, h48, h57, h66]; simp [wTill, wMore, wPpl, wAgain, *], hM.below⟩
            · skip
              refine T_skip_go (fun _ _ h => h) ?_
              refine T_seq ?_
              refine T_seq ?_
              refine T_region ?_
              refine S_ 64 rfl rfl rfl _ (y_fieldAddr rfl rfl fa40_7) ?_
              refine S_ 65 rfl rfl rfl _ (y_load 1 rfl rfl rfl rfl Tryd.underlying3 rfl) ?_
              refine S_ 66 rfl rfl rfl _ (y_bin rfl rfl rfl (fun _ => b_neq)) ?_
              refine S_go (fun _ _ h => h) ?_
              refine T_cond rfl (fun h66 => ?_) (fun h66 => ?_)
              · skip
                refine T_region ?_
                refine S_ 67 rfl rfl rfl _ (y_move rfl rfl) ?_
                refine S_ 68 rfl rfl rfl _ (y_fieldAddr rfl rfl fa40_7) ?_
                refine S_ 69 rfl rfl rfl _ (y_load 1 rfl rfl rfl rfl Tryd.underlying3 rfl) ?_
                refine S_ 70 rfl rfl rfl _ (y_call rfl rfl rfl cf26 (fun _ w hM => Itoa_any s.again (by omega) (by omega) w (hP.below hM.below))) ?_
                refine S_ 71 rfl rfl rfl _ (y_bin rfl rfl rfl (fun hg => b_adds (by first | omega | (simp only [List.length_append, List.length_cons, List.length_nil]; omega)))) ?_
                refine S_ 72 rfl rfl rfl _ (y_bin rfl rfl rfl (fun hg => b_adds (by first | omega | (simp only [List.length_append, List.length_cons, List.length_nil]; omega)))) ?_
                refine S_ 5 rfl rfl rfl _ (y_assign rfl rfl) ?_
                refine S_go (fun _ _ h => h) ?_
                refine T_seq ?_
                refine T_region ?_
                refine S_ 73 rfl rfl rfl _ (y_move rfl rfl) ?_
                refine S_ 2 rfl rfl rfl _ (y_assign rfl rfl) ?_
                refine S_ 3 rfl rfl rfl _ (y_assign rfl rfl) ?_
                refine S_go (fun _ _ h => h) ?_
                refine T_ret (fun a w hF hM => hRb a w (post2 rfl rfl rfl (fun w hM => ?_) a w hF hM))
                rw [if_pos h9, h9]
                exact ⟨by simp only [stTxt, inT, optT, hj, Int.toNat_natCast, h39, h48, h57, h66]; simp [wTill, wMore, wPpl, wAgain, *], hM.below⟩
              · skip
                refine T_skip_go (fun _ _ h => h) ?_
                refine T_seq ?_
                refine T_region ?_
                refine S_ 73 rfl rfl rfl _ (y_move rfl rfl) ?_
                refine S_ 2 rfl rfl rfl _ (y_assign rfl rfl) ?_
                refine S_ 3 rfl rfl rfl _ (y_assign rfl rfl) ?_
                refine S_go (fun _ _ h => h) ?_
                refine T_ret (fun a w hF hM => hRb a w (post2 rfl rfl rfl (fun w hM => ?_) a w hF hM))
                rw [if_pos h9, h9]
                exact ⟨by simp only [stTxt, inT, optT, hj, Int.toNat_natCast, h39, h48, h57, h66]; simp [wTill, wMore, wPpl, wAgain, *], hM.below⟩
          · skip
            refine T_skip_go (fun _ _ h => h) ?_
            refine T_seq ?_
            refine T_seq ?_
            refine T_region ?_
            refine S_ 55 rfl rfl rfl _ (y_fieldAddr rfl rfl fa40_6) ?_
            refine S_ 56 rfl rfl rfl _ (y_load 1 rfl rfl rfl rfl Tryd.underlying3 rfl) ?_
            refine S_ 57 rfl rfl rfl _ (y_bin rfl rfl rfl (fun _ => b_neq)) ?_
            refine S_go (fun _ _ h => h) ?_
            refine T_cond rfl (fun h57 => ?_) (fun h57 => ?_)
            · skip
              refine T_region ?_
              refine S_ 58 rfl rfl rfl _ (y_move rfl rfl) ?_
              refine S_ 59 rfl rfl rfl _ (y_fieldAddr rfl rfl fa40_6) ?_
              refine S_ 60 rfl rfl rfl _ (y_load 1 rfl rfl rfl rfl Tryd.underlying3 rfl) ?_
              refine S_ 61 rfl rfl rfl _ (y_call rfl rfl rfl cf26 (fun _ w hM => Itoa_any s.ppl (by omega) (by omega) w (hP.below hM.below))) ?_
              refine S_ 62 rfl rfl rfl _ (y_bin rfl rfl rfl (fun hg => b_adds (by first | omega | (simp only [List.length_append, List.length_cons, List.length_nil]; omega)))) ?_
              refine S_ 63 rfl rfl rfl _ (y_bin rfl rfl rfl (fun hg => b_adds (by first | omega | (simp only [List.length_append, List.length_cons, List.length_nil]; omega)))) ?_
              refine S_ 5 rfl rfl rfl _ (y_assign rfl rfl) ?_
              refine S_go (fun _ _ h => h) ?_
              refine T_seq ?_
              refine T_seq ?_
              refine T_region ?_
              refine S_ 64 rfl rfl rfl _ (y_fieldAddr rfl rfl fa40_7) ?_
              refine S_ 65 rfl rfl rfl _ (y_load 1 rfl rfl rfl rfl Tryd.underlying3 rfl) ?_
              refine S_ 66 rfl rfl rfl _ (y_bin rfl rfl rfl (fun _ => b_neq)) ?_
              refine S_go (fun _ _ h => h) ?_
              refine T_cond rfl (fun h66 => ?_) (fun h66 => ?_)
              · skip
                refine T_region ?_
                refine S_ 67 rfl rfl rfl _ (y_move rfl rfl) ?_
                refine S_ 68 rfl rfl rfl _ (y_fieldAddr rfl rfl fa40_7) ?_
                refine S_ 69 rfl rfl rfl _ (y_load 1 rfl rfl rfl rfl Tryd.underlying3 rfl) ?_
                refine S_ 70 rfl rfl rfl _ (y_call rfl rfl rfl cf26 (fun _ w hM => Itoa_any s.again (by omega) (by omega) w (hP.below hM.below))) ?_
                refine S_ 71 rfl rfl rfl _ (y_bin rfl rfl rfl (fun hg => b_adds (by first | omega | (simp only [List.length_append, List.length_cons, List.length_nil]; omega)))) ?_
                refine S_ 72 rfl rfl rfl _ (y_bin rfl rfl rfl (fun hg => b_adds (by first | omega | (simp only [List.length_append, List.length_cons, List.length_nil]; omega)))) ?_
                refine S_ 5 rfl rfl rfl _ (y_assign rfl rfl) ?_
                refine S_go (fun _ _ h => h) ?_
                refine T_seq ?_
                refine T_region ?_
                refine S_ 73 rfl rfl rfl _ (y_move rfl rfl) ?_
                refine S_ 2 rfl rfl rfl _ (y_assign rfl rfl) ?_
                refine S_ 3 rfl rfl rfl _ (y_assign rfl rfl) ?_
                refine S_go (fun _ _ h => h) ?_
                refine T_ret (fun a w hF hM => hRb a w (post2 rfl rfl rfl (fun w hM => ?_) a w hF hM))
                rw [if_pos h9, h9]
                exact ⟨by simp only [stTxt, inT, optT, hj, Int.toNat_natCast, h39, h48, h57, h66]; simp [wTill, wMore, wPpl, wAgain, *], hM.below⟩
              · skip
                refine T_skip_go (fun _ _ h => h) ?_
                refine T_seq ?_
                refine T_region ?_
                refine S_ 73 rfl rfl rfl _ (y_move rfl rfl) ?_
                refine S_ 2 rfl rfl rfl _ (y_assign rfl rfl) ?_
                refine S_ 3 rfl rfl rfl _ (y_assign rfl rfl) ?_
                refine S_go (fun _ _ h => h) ?_
                refine T_ret (fun a w hF hM => hRb a w (post2 rfl rfl rfl (fun w hM => ?_) a w hF hM))
                rw [if_pos h9, h9]
                exact ⟨by simp only [stTxt, inT, optT, hj, Int.toNat_natCast, h39, h48, h57, h66]; simp [wTill, wMore, wPpl, wAgain, *], hM.below⟩
            · skip
              refine T_skip_go (fun _ _ h => h) ?_
              refine T_seq ?_
              refine T_seq ?_
              refine T_region ?_
              refine S_ 64 rfl rfl rfl _ (y_fieldAddr rfl rfl fa40_7) ?_
              refine S_ 65 rfl rfl rfl _ (y_load 1 rfl rfl rfl rfl Tryd.underlying3 rfl) ?_
              refine S_ 66 rfl rfl rfl _ (y_bin rfl rfl rfl (fun _ => b_neq)) ?_
              refine S_go (fun _ _ h => h) ?_
              refine T_cond rfl (fun h66 => ?_) (fun h66 => ?_)
              · skip
                refine T_region ?_
                refine S_ 67 rfl rfl rfl _ (y_move rfl rfl) ?_
                refine S_ 68 rfl rfl rfl _ (y_fieldAddr rfl rfl fa40_7) ?_
                refine S_ 69 rfl rfl rfl _ (y_load 1 rfl rfl rfl rfl Tryd.underlying3 rfl) ?_
                refine S_ 70 rfl rfl rfl _ (y_call rfl rfl rfl cf26 (fun _ w hM => Itoa_any s.again (by omega) (by omega) w (hP.below hM.below))) ?_
                refine S_ 71 rfl rfl rfl _ (y_bin rfl rfl rfl (fun hg => b_adds (by first | omega | (simp only [List.length_append, List.length_cons, List.length_nil]; omega)))) ?_
                refine S_ 72 rfl rfl rfl _ (y_bin rfl rfl rfl (fun hg => b_adds (by first | omega | (simp only [List.length_append, List.length_cons, List.length_nil]; omega)))) ?_
                refine S_ 5 rfl rfl rfl _ (y_assign rfl rfl) ?_
                refine S_go (fun _ _ h => h) ?_
                refine T_seq ?_
                refine T_region ?_
                refine S_ 73 rfl rfl rfl _ (y_move rfl rfl) ?_
                refine S_ 2 rfl rfl rfl _ (y_assign rfl rfl) ?_
                refine S_ 3 rfl rfl rfl _ (y_assign rfl rfl) ?_
                refine S_go (fun _ _ h => h) ?_
                refine T_ret (fun a w hF hM => hRb a w (post2 rfl rfl rfl (fun w hM => ?_) a w hF hM))
                rw [if_pos h9, h9]
                exact ⟨by simp only [stTxt, inT, optT, hj, Int.toNat_natCast, h39, h48, h57, h66]; simp [wTill, wMore, wPpl, wAgain, *], hM.below⟩
              · skip
                refine T_skip_go (fun _ _ h => h) ?_
                refine T_seq ?_
                refine T_region ?_
                refine S_ 73 rfl rfl rfl _ (y_move rfl rfl) ?_
                refine S_ 2 rfl rfl rfl _ (y_assign rfl rfl) ?_
                refine S_ 3 rfl rfl rfl _ (y_assign rfl rfl) ?_
                refine S_go (fun _ _ h => h) ?_
                refine T_ret (fun a w hF hM => hRb a w (post2 rfl rfl rfl (fun w hM => ?_) a w hF hM))
                rw [if_pos h9, h9]
                exact ⟨by simp only [stTxt, inT, optT, hj, Int.toNat_natCast, h39, h48, h57, h66]; simp [wTill, wMore, wPpl, wAgain, *], hM.below⟩
        · skip
          refine T_skip_go (fun _ _ h => h) ?_
          refine T_seq ?_
          refine T_seq ?_
          refine T_region ?_
          refine S_ 46 rfl rfl rfl _ (y_fieldAddr rfl rfl fa40_5) ?_
          refine S_ 47 rfl rfl rfl _ (y_load 1 rfl rfl rfl rfl Tryd.underlying3 rfl) ?_
          refine S_ 48 rfl rfl rfl _ (y_bin rfl rfl rfl (fun _ => b_neq)) ?_
          refine S_go (fun _ _ h => h) ?_
          refine T_cond rfl (fun h48 => ?_) (fun h48 => ?_)
          · skip
            refine T_region ?_
            refine S_ 49 rfl rfl rfl _ (y_move rfl rfl) ?_
            refine S_ 50 rfl rfl rfl _ (y_fieldAddr rfl rfl fa40_5) ?_
            refine S_ 51 rfl rfl rfl _ (y_load 1 rfl rfl rfl rfl Tryd.underlying3 rfl) ?_
            refine S_ 52 rfl rfl rfl _ (y_call rfl rfl rfl cf26 (fun _ w hM => Itoa_any s.more (by omega) (by omega) w (hP.below hM.below))) ?_
            refine S_ 53 rfl rfl rfl _ (y_bin rfl rfl rfl (fun hg => b_adds (by first | omega | (simp only [List.length_append, List.length_cons, List.length_nil]; omega)))) ?_
            refine S_ 54 rfl rfl rfl _ (y_bin rfl rfl rfl (fun hg => b_adds (by first | omega | (simp only [List.length_append, List.length_cons, List.length_nil]; omega)))) ?_
            refine S_ 5 rfl rfl rfl _ (y_assign rfl rfl) ?_
            refine S_go (fun _ _ h => h) ?_
            refine T_seq ?_
            refine T_seq ?_
            refine T_region ?_
            refine S_ 55 rfl rfl rfl _ (y_fieldAddr rfl rfl fa40_6) ?_
            refine S_ 56 rfl rfl rfl _ (y_load 1 rfl rfl rfl rfl Tryd.underlying3 rfl) ?_
            refine S_ 57 rfl rfl rfl _ (y_bin rfl rfl rfl (fun _ => b_neq)) ?_
            refine S_go (fun _ _ h => h) ?_
            refine T_cond rfl (fun h57 => ?_) (fun h57 => ?_)
            · skip
              refine T_region ?_
              refine S_ 58 rfl rfl rfl _ (y_move rfl rfl) ?_
              refine S_ 59 rfl rfl rfl _ (y_fieldAddr rfl rfl fa40_6) ?_
              refine S_ 60 rfl rfl rfl _ (y_load 1 rfl rfl rfl rfl Tryd.underlying3 rfl) ?_
              refine S_ 61 rfl rfl rfl _ (y_call rfl rfl rfl cf26 (fun _ w hM => Itoa_any s.ppl (by omega) (by omega) w (hP.below hM.below))) ?_
              refine S_ 62 rfl rfl rfl _ (y_bin rfl rfl rfl (fun hg => b_adds (by first | omega | (simp only [List.length_append, List.length_cons, List.length_nil]; omega)))) ?_
              refine S_ 63 rfl rfl rfl _ (y_bin rfl rfl rfl (fun hg => b_adds (by first | omega | (simp only [List.length_append, List.length_cons, List.length_nil]; omega)))) ?_
              refine S_ 5 rfl rfl rfl _ (y_assign rfl rfl) ?_
              refine S_go (fun _ _ h => h) ?_
              refine T_seq ?_
              refine T_seq ?_
              refine T_region ?_
              refine S_ 64 rfl rfl rfl _ (y_fieldAddr rfl rfl fa40_7) ?_
              refine S_ 65 rfl rfl rfl _ (y_load 1 rfl rfl rfl rfl Tryd.underlying3 rfl) ?_
              refine S_ 66 rfl rfl rfl _ (y_bin rfl rfl rfl (fun _ => b_neq)) ?_
              refine S_go (fun _ _ h => h) ?_
              refine T_cond rfl (fun h66 => ?_) (fun h66 => ?_)
              · skip
                refine T_region ?_
                refine S_ 67 rfl rfl rfl _ (y_move rfl rfl) ?_
                refine S_ 68 rfl rfl rfl _ (y_fieldAddr rfl rfl fa40_7) ?_
                refine S_ 69 rfl rfl rfl _ (y_load 1 rfl rfl rfl rfl Tryd.underlying3 rfl) ?_
                refine S_ 70 rfl rfl rfl _ (y_call rfl rfl rfl cf26 (fun _ w hM => Itoa_any s.again (by omega) (by omega) w (hP.below hM.below))) ?_
                refine S_ 71 rfl rfl rfl _ (y_bin rfl rfl rfl (fun hg => b_adds (by first | omega | (simp only [List.length_append, List.length_cons, List.length_nil]; omega)))) ?_
                refine S_ 72 rfl rfl rfl _ (y_bin rfl rfl rfl (fun hg => b_adds (by first | omega | (simp only [List.length_append, List.length_cons, List.length_nil]; omega)))) ?_
                refine S_ 5 rfl rfl rfl _ (y_assign rfl rfl) ?_
                refine S_go (fun _ _ h => h) ?_
                refine T_seq ?_
                refine T_region ?_
                refine S_ 73 rfl rfl rfl _ (y_move rfl rfl) ?_
                refine S_ 2 rfl rfl rfl _ (y_assign rfl rfl) ?_
                refine S_ 3 rfl rfl rfl _ (y_assign rfl rfl) ?_
                refine S_go (fun _ _ h => h) ?_
                refine T_ret (fun a w hF hM => hRb a w (post2 rfl rfl rfl (fun w hM => ?_) a w hF hM))
                rw [if_pos h9, h9]
                exact ⟨by simp only [stTxt, inT, optT, hj, Int.toNat_natCast, h39, h48, h57, h66]; simp [wTill, wMore, wPpl, wAgain, *], hM.below⟩
              · skip
                refine T_skip_go (fun _ _ h => h) ?_
                refine T_seq ?_
                refine T_region ?_
                refine S_ 73 rfl rfl rfl _ (y_move rfl rfl) ?_
                refine S_ 2 rfl rfl rfl _ (y_assign rfl rfl) ?_
                refine S_ 3 rfl rfl rfl _ (y_assign rfl rfl) ?_
                refine S_go (fun _ _ h => h) ?_
                refine T_ret (fun a w hF hM => hRb a w (post2 rfl rfl rfl (fun w hM => ?_) a w hF hM))
                rw [if_pos h9, h9]
                exact ⟨by simp only [stTxt, inT, optT, hj, Int.toNat_natCast, h39, h48, h57, h66]; simp [wTill, wMore, wPpl, wAgain, *], hM.below⟩
            · skip
              refine T_skip_go (fun _ _ h => h) ?_
              refine T_seq ?_
              refine T_seq ?_
              refine T_region ?_
              refine S_ 64 rfl rfl rfl _ (y_fieldAddr rfl rfl fa40_7) ?_
              refine S_ 65 rfl rfl rfl _ (y_load 1 rfl rfl rfl rfl Tryd.underlying3 rfl) ?_
              refine S_ 66 rfl rfl rfl _ (y_bin rfl rfl rfl (fun _ => b_neq)) ?_
              refine S_go (fun _ _ h => h) ?_
              refine T_cond rfl (fun h66 => ?_) (fun h66 => ?_)
              · skip
                refine T_region ?_
                refine S_ 67 rfl rfl rfl _ (y_move rfl rfl) ?_
                refine S_ 68 rfl rfl rfl _ (y_fieldAddr rfl rfl fa40_7) ?_
                refine S_ 69 rfl rfl rfl _ (y_load 1 rfl rfl rfl rfl Tryd.underlying3 rfl) ?_
                refine S_ 70 rfl rfl rfl _ (y_call rfl rfl rfl cf26 (fun _ w hM => Itoa_any s.again (by omega) (by omega) w (hP.below hM.below))) ?_
                refine S_ 71 rfl rfl rfl _ (y_bin rfl rfl rfl (fun hg => b_adds (by first | omega | (simp only [List.length_append, List.length_cons, List.length_nil]; omega)))) ?_
                refine S_ 72 rfl rfl rfl _ (y_bin rfl rfl rfl (fun hg => b_adds (by first | omega | (simp only [List.length_append, List.length_cons, List.length_nil]; omega)))) ?_
                refine S_ 5 rfl rfl rfl _ (y_assign rfl rfl) ?_
                refine S_go (fun _ _ h => h) ?_
                refine T_seq ?_
                refine T_region ?_
                refine S_ 73 rfl rfl rfl _ (y_move rfl rfl) ?_
                refine S_ 2 rfl rfl rfl _ (y_assign rfl rfl) ?_
                refine S_ 3 rfl rfl rfl _ (y_assign rfl rfl) ?_
                refine S_go (fun _ _ h => h) ?_
                refine T_ret (fun a w hF hM => hRb a w (post2 rfl rfl rfl (fun w hM => ?_) a w hF hM))
                rw [if_pos h9, h9]
                exact ⟨by simp only [stTxt, inT, optT, hj, Int.toNat_natCast, h39, h48, h57, h66]; simp [wTill, wMore, wPpl, wAgain, *], hM.below⟩
              · skip
                refine T_skip_go (fun _ _ h => h) ?_
                refine T_seq ?_
                refine T_region ?_
                refine S_ 73 rfl rfl rfl _ (y_move rfl rfl) ?_
                refine S_ 2 rfl rfl rfl _ (y_assign rfl rfl) ?_
                refine S_ 3 rfl rfl rfl _ (y_assign rfl rfl) ?_
                refine S_go (fun _ _ h => h) ?_
                refine T_ret (fun a w hF hM => hRb a w (post2 rfl rfl rfl (fun w hM => ?_) a w hF hM))
                rw [if_pos h9, h9]
                exact ⟨by simp only [stTxt, inT, optT, hj, Int.toNat_natCast, h39, h48, h57, h66]; simp [wTill, wMore, wPpl, wAgain, *], hM.below⟩
          · skip
            refine T_skip_go (fun _ _ h => h) ?_
            refine T_seq ?_
            refine T_seq ?_
            refine T_region ?_
            refine S_ 55 rfl rfl rfl _ (y_fieldAddr rfl rfl fa40_6) ?_
            refine S_ 56 rfl rfl rfl _ (y_load 1 rfl rfl rfl rfl Tryd.underlying3 rfl) ?_
            refine S_ 57 rfl rfl rfl _ (y_bin rfl rfl rfl (fun _ => b_neq)) ?_
            refine S_go (fun _ _ h => h) ?_
            refine T_cond rfl (fun h57 => ?_) (fun h57 => ?_)
            · skip
              refine T_region ?_
              refine S_ 58 rfl rfl rfl _ (y_move rfl rfl) ?_
              refine S_ 59 rfl rfl rfl _ (y_fieldAddr rfl rfl fa40_6) ?_
              refine S_ 60 rfl rfl rfl _ (y_load 1 rfl rfl rfl rfl Tryd.underlying3 rfl) ?_
              refine S_ 61 rfl rfl rfl _ (y_call rfl rfl rfl cf26 (fun _ w hM => Itoa_any s.ppl (by omega) (by omega) w (hP.below hM.below))) ?_
              refine S_ 62 rfl rfl rfl _ (y_bin rfl rfl rfl (fun hg => b_adds (by first | omega | (simp only [List.length_append, List.length_cons, List.length_nil]; omega)))) ?_
              refine S_ 63 rfl rfl rfl _ (y_bin rfl rfl rfl (fun hg => b_adds (by first | omega | (simp only [List.length_append, List.length_cons, List.length_nil]; omega)))) ?_
              refine S_ 5 rfl rfl rfl _ (y_assign rfl rfl) ?_
              refine S_go (fun _ _ h => h) ?_
              refine T_seq ?_
              refine T_seq ?_
              refine T_region ?_
              refine S_ 64 rfl rfl rfl _ (y_fieldAddr rfl rfl fa40_7) ?_
              refine S_ 65 rfl rfl rfl _ (y_load 1 rfl rfl rfl rfl Tryd.underlying3 rfl) ?_
              refine S_ 66 rfl rfl rfl _ (y_bin rfl rfl rfl (fun _ => b_neq)) ?_
              refine S_go (fun _ _ h => h) ?_
              refine T_cond rfl (fun h66 => ?_) (fun h66 => ?_)
              · skip
                refine T_region ?_
                refine S_ 67 rfl rfl rfl _ (y_move rfl rfl) ?_
                refine S_ 68 rfl rfl rfl _ (y_fieldAddr rfl rfl fa40_7) ?_
                refine S_ 69 rfl rfl rfl _ (y_load 1 rfl rfl rfl rfl Tryd.underlying3 rfl) ?_
                refine S_ 70 rfl rfl rfl _ (y_call rfl rfl rfl cf26 (fun _ w hM => Itoa_any s.again (by omega) (by omega) w (hP.below hM.below))) ?_
                refine S_ 71 rfl rfl rfl _ (y_bin rfl rfl rfl (fun hg => b_adds (by first | omega | (simp only [List.length_append, List.length_cons, List.length_nil]; omega)))) ?_
                refine S_ 72 rfl rfl rfl _ (y_bin rfl rfl rfl (fun hg => b_adds (by first | omega | (simp only [List.length_append, List.length_cons, List.length_nil]; omega)))) ?_
                refine S_ 5 rfl rfl rfl _ (y_assign rfl rfl) ?_
                refine S_go (fun _ _ h => h) ?_
                refine T_seq ?_
                refine T_region ?_
                refine S_ 73 rfl rfl rfl _ (y_move rfl rfl) ?_
                refine S_ 2 rfl rfl rfl _ (y_assign rfl rfl) ?_
                refine S_ 3 rfl rfl rfl _ (y_assign rfl rfl) ?_
                refine S_go (fun _ _ h => h) ?_
                refine T_ret (fun a w hF hM => hRb a w (post2 rfl rfl rfl (fun w hM => ?_) a w hF hM))
                rw [if_pos h9, h9]
                exact ⟨by simp only [stTxt, inT, optT, hj, Int.toNat_natCast, h39, h48, h57, h66]; simp [wTill, wMore, wPpl, wAgain, *], hM.below⟩
              · skip
                refine T_skip_go (fun _ _ h => h) ?_
                refine T_seq ?_
                refine T_region ?_
                refine S_ 73 rfl rfl rfl _ (y_move rfl rfl) ?_
                refine S_ 2 rfl rfl rfl _ (y_assign rfl rfl) ?_
                refine S_ 3 rfl rfl rfl _ (y_assign rfl rfl) ?_
                refine S_go (fun _ _ h => h) ?_
                refine T_ret (fun a w hF hM => hRb a w (post2 rfl rfl rfl (fun w hM => ?_) a w hF hM))
                rw [if_pos h9, h9]
                exact ⟨by simp only [stTxt, inT, optT, hj, Int.toNat_natCast, h39, h48, h57, h66]; simp [wTill, wMore, wPpl, wAgain, *], hM.below⟩
            · skip
              refine T_skip_go (fun _ _ h => h) ?_
              refine T_seq ?_
              refine T_seq ?_
              refine T_region ?_
              refine S_ 64 rfl rfl rfl _ (y_fieldAddr rfl rfl fa40_7) ?_
              refine S_ 65 rfl rfl rfl _ (y_load 1 rfl rfl rfl rfl Tryd.underlying3 rfl) ?_
              refine S_ 66 rfl rfl rfl _ (y_bin rfl rfl rfl (fun _ => b_neq)) ?_
              refine S_go (fun _ _ h => h) ?_
              refine T_cond rfl (fun h66 => ?_) (fun h66 => ?_)
              · skip
                refine T_region ?_
                refine S_ 67 rfl rfl rfl _ (y_move rfl rfl) ?_
                refine S_ 68 rfl rfl rfl _ (y_fieldAddr rfl rfl fa40_7) ?_
                refine S_ 69 rfl rfl rfl _ (y_load 1 rfl rfl rfl rfl Tryd.underlying3 rfl) ?_
                refine S_ 70 rfl rfl rfl _ (y_call rfl rfl rfl cf26 (fun _ w hM => Itoa_any s.again (by omega) (by omega) w (hP.below hM.below))) ?_
                refine S_ 71 rfl rfl rfl _ (y_bin rfl rfl rfl (fun hg => b_adds (by first | omega | (simp only [List.length_append, List.length_cons, List.length_nil]; omega)))) ?_
                refine S_ 72 rfl rfl rfl _ (y_bin rfl rfl rfl (fun hg => b_adds (by first | omega | (simp only [List.length_append, List.length_cons, List.length_nil]; omega)))) ?_
                refine S_ 5 rfl rfl rfl _ (y_assign rfl rfl) ?_
                refine S_go (fun _ _ h => h) ?_
                refine T_seq ?_
                refine T_region ?_
                refine S_ 73 rfl rfl rfl _ (y_move rfl rfl) ?_
                refine S_ 2 rfl rfl rfl _ (y_assign rfl rfl) ?_
                refine S_ 3 rfl rfl rfl _ (y_assign rfl rfl) ?_
                refine S_go (fun _ _ h => h) ?_
                refine T_ret (fun a w hF hM => hRb a w (post2 rfl rfl rfl (fun w hM => ?_) a w hF hM))
                rw [if_pos h9, h9]
                exact ⟨by simp only [stTxt, inT, optT, hj, Int.toNat_natCast, h39, h48, h57, h66]; simp [wTill, wMore, wPpl, wAgain, *], hM.below⟩
              · skip
                refine T_skip_go (fun _ _ h => h) ?_
                refine T_seq ?_
                refine T_region ?_
                refine S_ 73 rfl rfl rfl _ (y_move rfl rfl) ?_
                refine S_ 2 rfl rfl rfl _ (y_assign rfl rfl) ?_
                refine S_ 3 rfl rfl rfl _ (y_assign rfl rfl) ?_
                refine S_go (fun _ _ h => h) ?_
                refine T_ret (fun a w hF hM => hRb a w (post2 rfl rfl rfl (fun w hM => ?_) a w hF hM))
                rw [if_pos h9, h9]
                exact ⟨by simp only [stTxt, inT, optT, hj, Int.toNat_natCast, h39, h48, h57, h66]; simp [wTill, wMore, wPpl, wAgain, *], hM.below⟩
      · skip
        have hi : s.inn = [] := by simpa using h28
        refine T_skip_go (fun _ _ h => h) ?_
        refine T_seq ?_
        refine T_seq ?_
        refine T_region ?_
        refine S_ 37 rfl rfl rfl _ (y_fieldAddr rfl rfl fa40_4) ?_
        refine S_ 38 rfl rfl rfl _ (y_load 1 rfl rfl rfl rfl Tryd.underlying3 rfl) ?_
        refine S_ 39 rfl rfl rfl _ (y_bin rfl rfl rfl (fun _ => b_neq)) ?_
        refine S_go (fun _ _ h => h) ?_
        refine T_cond rfl (fun h39 => ?_) (fun h39 => ?_)
        · skip
          refine T_region ?_
          refine S_ 40 rfl rfl rfl _ (y_move rfl rfl) ?_
          refine S_ 41 rfl rfl rfl _ (y_fieldAddr rfl rfl fa40_4) ?_
          refine S_ 42 rfl rfl rfl _ (y_load 1 rfl rfl rfl rfl Tryd.underlying3 rfl) ?_
          refine S_ 43 rfl rfl rfl _ (y_call rfl rfl rfl cf26 (fun _ w hM => Itoa_any s.till (by omega) (by omega) w (hP.below hM.below))) ?_
          refine S_ 44 rfl rfl rfl _ (y_bin rfl rfl rfl (fun hg => b_adds (by first | omega | (simp only [List.length_append, List.length_cons, List.length_nil]; omega)))) ?_
          refine S_ 45 rfl rfl rfl _ (y_bin rfl rfl rfl (fun hg => b_adds (by first | omega | (simp only [List.length_append, List.length_cons, List.length_nil]; omega)))) ?_
          refine S_ 5 rfl rfl rfl _ (y_assign rfl rfl) ?_
          refine S_go (fun _ _ h => h) ?_
          refine T_seq ?_
          refine T_seq ?_
          refine T_region ?_
          refine S_ 46 rfl rfl rfl _ (y_fieldAddr rfl rfl fa40_5) ?_
          refine S_ 47 rfl rfl rfl _ (y_load 1 rfl rfl rfl rfl Tryd.underlying3 rfl) ?_
          refine S_ 48 rfl rfl rfl _ (y_bin rfl rfl rfl (fun _ => b_neq)) ?_
          refine S_go (fun _ _ h => h) ?_
          refine T_cond rfl (fun h48 => ?_) (fun h48 => ?_)
          · skip
            refine T_region ?_
            refine S_ 49 rfl rfl rfl _ (y_move rfl rfl) ?_
            refine S_ 50 rfl rfl rfl _ (y_fieldAddr rfl rfl fa40_5) ?_
            refine S_ 51 rfl rfl rfl _ (y_load 1 rfl rfl rfl rfl Tryd.underlying3 rfl) ?_
            refine S_ 52 rfl rfl rfl _ (y_call rfl rfl rfl cf26 (fun _ w hM => Itoa_any s.more (by omega) (by omega) w (hP.below hM.below))) ?_
            refine S_ 53 rfl rfl rfl _ (y_bin rfl rfl rfl (fun hg => b_adds (by first | omega | (simp only [List.length_append, List.length_cons, List.length_nil]; omega)))) ?_
            refine S_ 54 rfl rfl rfl _ (y_bin rfl rfl rfl (fun hg => b_adds (by first | omega | (simp only [List.length_append, List.length_cons, List.length_nil]; omega)))) ?_
            refine S_ 5 rfl rfl rfl _ (y_assign rfl rfl) ?_
            refine S_go (fun _ _ h => h) ?_
            refine T_seq ?_
            refine T_seq ?_
            refine T_region ?_
            refine S_ 55 rfl rfl rfl _ (y_fieldAddr rfl rfl fa40_6) ?_
            refine S_ 56 rfl rfl rfl _ (y_load 1 rfl rfl rfl rfl Tryd.underlying3 rfl) ?_
            refine S_ 57 rfl rfl rfl _ (y_bin rfl rfl rfl (fun _ => b_neq)) ?_
            refine S_go (fun _ _ h => h) ?_
            refine T_cond rfl (fun h57 => ?_) (fun h57 => ?_)
            · skip
              refine T_region ?_
              refine S_ 58 rfl rfl rfl _ (y_move rfl rfl) ?_
              refine S_ 59 rfl rfl rfl _ (y_fieldAddr rfl rfl fa40_6) ?_
              refine S_ 60 rfl rfl rfl _ (y_load 1 rfl rfl rfl rfl Tryd.underlying3 rfl) ?_
              refine S_ 61 rfl rfl rfl _ (y_call rfl rfl rfl cf26 (fun _ w hM => Itoa_any s.ppl (by omega) (by omega) w (hP.below hM.below))) ?_
              refine S_ 62 rfl rfl rfl _ (y_bin rfl rfl rfl (fun hg => b_adds (by first | omega | (simp only [List.length_append, List.length_cons, List.length_nil]; omega)))) ?_
              refine S_ 63 rfl rfl rfl _ (y_bin rfl rfl rfl (fun hg => b_adds (by first | omega | (simp only [List.length_append, List.length_cons, List.length_nil]; omega)))) ?_
              refine S_ 5 rfl rfl rfl _ (y_assign rfl rfl) ?_
              refine S_go (fun _ _ h => h) ?_
              refine T_seq ?_
              refine T_seq ?_
              refine T_region ?_
              refine S_ 64 rfl rfl rfl _ (y_fieldAddr rfl rfl fa40_7) ?_
              refine S_ 65 rfl rfl rfl _ (y_load 1 rfl rfl rfl rfl Tryd.underlying3 rfl) ?_
              refine S_ 66 rfl rfl rfl _ (y_bin rfl rfl rfl (fun _ => b_neq)) ?_
              refine S_go (fun _ _ h => h) ?_
              refine T_cond rfl (fun h66 => ?_) (fun h66 => ?_)
              · skip
                refine T_region ?_
                refine S_ 67 rfl rfl rfl _ (y_move rfl rfl) ?_
                refine S_ 68 rfl rfl rfl _ (y_fieldAddr rfl rfl fa40_7) ?_
                refine S_ 69 rfl rfl rfl _ (y_load 1 rfl rfl rfl rfl Tryd.underlying3 rfl) ?_
                refine S_ 70 rfl rfl rfl _ (y_call rfl rfl rfl cf26 (fun _ w hM => Itoa_any s.again (by omega) (by omega) w (hP.below hM.below))) ?_
                refine S_ 71 rfl rfl rfl _ (y_bin rfl rfl rfl (fun hg => b_adds (by first | omega | (simp only [List.length_append, List.length_cons, List.length_nil]; omega)))) ?_
                refine S_ 72 rfl rfl rfl _ (y_bin rfl rfl rfl (fun hg => b_adds (by first | omega | (simp only [List.length_append, List.length_cons, List.length_nil]; omega)))) ?_
                refine S_ 5 rfl rfl rfl _ (y_assign rfl rfl) ?_
                refine S_go (fun _ _ h => h) ?_
                refine T_seq ?_
                refine T_region ?_
                refine S_ 73 rfl rfl rfl _ (y_move rfl rfl) ?_
                refine S_ 2 rfl rfl rfl _ (y_assign rfl rfl) ?_
                refine S_ 3 rfl rfl rfl _ (y_assign rfl rfl) ?_
                refine S_go (fun _ _ h => h) ?_
                refine T_ret (fun a w hF hM => hRb a w (post2 rfl rfl rfl (fun w hM => ?_) a w hF hM))
                rw [if_pos h9, h9]
                exact ⟨by simp only [stTxt, inT, optT, hj, Int.toNat_natCast, h39, h48, h57, h66]; simp [wTill, wMore, wPpl, wAgain, *], hM.below⟩
              · skip
                refine T_skip_go (fun _ _ h => h) ?_
                refine T_seq ?_
                refine T_region ?_
                refine S_ 73 rfl rfl rfl _ (y_move rfl rfl) ?_
                refine S_ 2 rfl rfl rfl _ (y_assign rfl rfl) ?_
                refine S_ 3 rfl rfl rfl _ (y_assign rfl rfl) ?_
                refine S_go (fun _ _ h => h) ?_
                refine T_ret (fun a w hF hM => hRb a w (post2 rfl rfl rfl (fun w hM => ?_) a w hF hM))
                rw [if_pos h9, h9]
                exact ⟨by simp only [stTxt, inT, optT, hj, Int.toNat_natCast, h39, h48, h57, h66]; simp [wTill, wMore, wPpl, wAgain, *], hM.below⟩
            · skip
              refine T_skip_go (fun _ _ h => h) ?_
              refine T_seq ?_
              refine T_seq ?_
              refine T_region ?_
              refine S_ 64 rfl rfl rfl _ (y_fieldAddr rfl rfl fa40_7) ?_
              refine S_ 65 rfl rfl rfl _ (y_load 1 rfl rfl rfl rfl Tryd.underlying3 rfl) ?_
              refine S_ 66 rfl rfl rfl _ (y_bin rfl rfl rfl (fun _ => b_neq)) ?_
              refine S_go (fun _ _ h => h) ?_
              refine T_cond rfl (fun h66 => ?_) (fun h66 => ?_)
              · skip
                refine T_region ?_
                refine S_ 67 rfl rfl rfl _ (y_move rfl rfl) ?_
                refine S_ 68 rfl rfl rfl _ (y_fieldAddr rfl rfl fa40_7) ?_
                refine S_ 69 rfl rfl rfl _ (y_load 1 rfl rfl rfl rfl Tryd.underlying3 rfl) ?_
                refine S_ 70 rfl rfl rfl _ (y_call rfl rfl rfl cf26 (fun _ w hM => Itoa_any s.again (by omega) (by omega) w (hP.below hM.below))) ?_
                refine S_ 71 rfl rfl rfl _ (y_bin rfl rfl rfl (fun hg => b_adds (by first | omega | (simp only [List.length_append, List.length_cons, List.length_nil]; omega)))) ?_
                refine S_ 72 rfl rfl rfl _ (y_bin rfl rfl rfl (fun hg => b_adds (by first | omega | (simp only [List.length_append, List.length_cons, List.length_nil]; omega)))) ?_
                refine S_ 5 rfl rfl rfl _ (y_assign rfl rfl) ?_
                refine S_go (fun _ _ h => h) ?_
                refine T_seq ?_
                refine T_region ?_
                refine S_ 73 rfl rfl rfl _ (y_move rfl rfl) ?_
                refine S_ 2 rfl rfl rfl _ (y_assign rfl rfl) ?_
                refine S_ 3 rfl rfl rfl _ (y_assign rfl rfl) ?_
                refine S_go (fun _ _ h => h) ?_
                refine T_ret (fun a w hF hM => hRb a w (post2 rfl rfl rfl (fun w hM => ?_) a w hF hM))
                rw [if_pos h9, h9]
                exact ⟨by simp only [stTxt, inT, optT, hj, Int.toNat_natCast, h39, h48, h57, h66]; simp [wTill, wMore, wPpl, wAgain, *], hM.below⟩
              · skip
                refine T_skip_go (fun _ _ h => h) ?_
                refine T_seq ?_
                refine T_region ?_
                refine S_ 73 rfl rfl rfl _ (y_move rfl rfl) ?_
                refine S_ 2 rfl rfl rfl _ (y_assign rfl rfl) ?_
                refine S_ 3 rfl rfl rfl _ (y_assign rfl rfl) ?_
                refine S_go (fun _ _ h => h) ?_
                refine T_ret (fun a w hF hM => hRb a w (post2 rfl rfl rfl (fun w hM => ?_) a w hF hM))
                rw [if_pos h9, h9]
                exact ⟨by simp only [stTxt, inT, optT, hj, Int.toNat_natCast, h39, h48, h57, h66]; simp [wTill, wMore, wPpl, wAgain, *], hM.below⟩
          · skip
            refine T_skip_go (fun _ _ h => h) ?_
            refine T_seq ?_
            refine T_seq ?_
            refine T_region ?_
            refine S_ 55 rfl rfl rfl _ (y_fieldAddr rfl rfl fa40_6) ?_
            refine S_ 56 rfl rfl rfl _ (y_load 1 rfl rfl rfl rfl Tryd.underlying3 rfl) ?_
            refine S_ 57 rfl rfl rfl _ (y_bin rfl rfl rfl (fun _ => b_neq)) ?_
            refine S_go (fun _ _ h => h) ?_
            refine T_cond rfl (fun h57 => ?_) (fun h57 => ?_)
            · skip
              refine T_region ?_
              refine S_ 58 rfl rfl rfl _ (y_move rfl rfl) ?_
              refine S_ 59 rfl rfl rfl _ (y_fieldAddr rfl rfl fa40_6) ?_
              refine S_ 60 rfl rfl rfl _ (y_load 1 rfl rfl rfl rfl Tryd.underlying3 rfl) ?_
              refine S_ 61 rfl rfl rfl _ (y_call rfl rfl rfl cf26 (fun _ w hM => Itoa_any s.ppl (by omega) (by omega) w (hP.below hM.below))) ?_
              refine S_ 62 rfl rfl rfl _ (y_bin rfl rfl rfl (fun hg => b_adds (by first | omega | (simp only [List.length_append, List.length_cons, List.length_nil]; omega)))) ?_
              refine S_ 63 rfl rfl rfl _ (y_bin rfl rfl rfl (fun hg => b_adds (by first | omega | (simp only [List.length_append, List.length_cons, List.length_nil]; omega)))) ?_
              refine S_ 5 rfl rfl rfl _ (y_assign rfl rfl) ?_
              refine S_go (fun _ _ h => h) ?_
              refine T_seq ?_
              refine T_seq ?_
              refine T_region ?_
              refine S_ 64 rfl rfl rfl _ (y_fieldAddr rfl rfl fa40_7) ?_
              refine S_ 65 rfl rfl rfl _ (y_load 1 rfl rfl rfl rfl Tryd.underlying3 rfl) ?_
              refine S_ 66 rfl rfl rfl _ (y_bin rfl rfl rfl (fun _ => b_neq)) ?_
              refine S_go (fun _ _ h => h) ?_
              refine T_cond rfl (fun h66 => ?_) (fun h66 => ?_)
              · skip
                refine T_region ?_
                refine S_ 67 rfl rfl rfl _ (y_move rfl rfl) ?_
                refine S_ 68 rfl rfl rfl _ (y_fieldAddr rfl rfl fa40_7) ?_
                refine S_ 69 rfl rfl rfl _ (y_load 1 rfl rfl rfl rfl Tryd.underlying3 rfl) ?_
                refine S_ 70 rfl rfl rfl _ (y_call rfl rfl rfl cf26 (fun _ w hM => Itoa_any s.again (by omega) (by omega) w (hP.below hM.below))) ?_
                refine S_ 71 rfl rfl rfl _ (y_bin rfl rfl rfl (fun hg => b_adds (by first | omega | (simp only [List.length_append, List.length_cons, List.length_nil]; omega)))) ?_
                refine S_ 72 rfl rfl rfl _ (y_bin rfl rfl rfl (fun hg => b_adds (by first | omega | (simp only [List.length_append, List.length_cons, List.length_nil]; omega)))) ?_
                refine S_ 5 rfl rfl rfl _ (y_assign rfl rfl) ?_
                refine S_go (fun _ _ h => h) ?_
                refine T_seq ?_
                refine T_region ?_
                refine S_ 73 rfl rfl rfl _ (y_move rfl rfl) ?_
                refine S_ 2 rfl rfl rfl _ (y_assign rfl rfl) ?_
                refine S_ 3 rfl rfl rfl _ (y_assign rfl rfl) ?_
                refine S_go (fun _ _ h => h) ?_
                refine T_ret (fun a w hF hM => hRb a w (post2 rfl rfl rfl (fun w hM => ?_) a w hF hM))
                rw [if_pos h9, h9]
                exact ⟨by simp only [stTxt, inT, optT, hj, Int.toNat_natCast, h39, h48, h57, h66]; simp [wTill, wMore, wPpl, wAgain, *], hM.below⟩
              · skip
                refine T_skip_go (fun _ _ h => h) ?_
                refine T_seq ?_
                refine T_region ?_
                refine S_ 73 rfl rfl rfl _ (y_move rfl rfl) ?_
                refine S_ 2 rfl rfl rfl _ (y_assign rfl rfl) ?_
                refine S_ 3 rfl rfl rfl _ (y_assign rfl rfl) ?_
                refine S_go (fun _ _ h => h) ?_
                refine T_ret (fun a w hF hM => hRb a w (post2 rfl rfl rfl (fun w hM => ?_) a w hF hM))
                rw [if_pos h9, h9]
                exact ⟨by simp only [stTxt, inT, optT, hj, Int.toNat_natCast, h39, h48, h57, h66]; simp [wTill, wMore, wPpl, wAgain, *], hM.below⟩
            · skip
              refine T_skip_go (fun _ _ h => h) ?_
              refine T_seq ?_
              refine T_seq ?_
              refine T_region ?_
              refine S_ 64 rfl rfl rfl _ (y_fieldAddr rfl rfl fa40_7) ?_
              refine S_ 65 rfl rfl rfl _ (y_load 1 rfl rfl rfl rfl Tryd.underlying3 rfl) ?_
              refine S_ 66 rfl rfl rfl _ (y_bin rfl rfl rfl (fun _ => b_neq)) ?_
              refine S_go (fun _ _ h => h) ?_
              refine T_cond rfl (fun h66 => ?_) (fun h66 => ?_)
              · skip
                refine T_region ?_
                refine S_ 67 rfl rfl rfl _ (y_move rfl rfl) ?_
                refine S_ 68 rfl rfl rfl _ (y_fieldAddr rfl rfl fa40_7) ?_
                refine S_ 69 rfl rfl rfl _ (y_load 1 rfl rfl rfl rfl Tryd.underlying3 rfl) ?_
                refine S_ 70 rfl rfl rfl _ (y_call rfl rfl rfl cf26 (fun _ w hM => Itoa_any s.again (by omega) (by omega) w (hP.below hM.below))) ?_
                refine S_ 71 rfl rfl rfl _ (y_bin rfl rfl rfl (fun hg => b_adds (by first | omega | (simp only [List.length_append, List.length_cons, List.length_nil]; omega)))) ?_
                refine S_ 72 rfl rfl rfl _ (y_bin rfl rfl rfl (fun hg => b_adds (by first | omega | (simp only [List.length_append, List.length_cons, List.length_nil]; omega)))) ?_
                refine S_ 5 rfl rfl rfl _ (y_assign rfl rfl) ?_
                refine S_go (fun _ _ h => h) ?_
                refine T_seq ?_
                refine T_region ?_
                refine S_ 73 rfl rfl rfl _ (y_move rfl rfl) ?_
                refine S_ 2 rfl rfl rfl _ (y_assign rfl rfl) ?_
                refine S_ 3 rfl rfl rfl _ (y_assign rfl rfl) ?_
                refine S_go (fun _ _ h => h) ?_
                refine T_ret (fun a w hF hM => hRb a w (post2 rfl rfl rfl (fun w hM => ?_) a w hF hM))
                rw [if_pos h9, h9]
                exact ⟨by simp only [stTxt, inT, optT, hj, Int.toNat_natCast, h39, h48, h57, h66]; simp [wTill, wMore, wPpl, wAgain, *], hM.below⟩
              · skip
                refine T_skip_go (fun _ _ h => h) ?_
                refine T_seq ?_
                refine T_region ?_
                refine S_ 73 rfl rfl rfl _ (y_move rfl rfl) ?_
                refine S_ 2 rfl rfl rfl _ (y_assign rfl rfl) ?_
                refine S_ 3 rfl rfl rfl _ (y_assign rfl rfl) ?_
                refine S_go (fun _ _ h => h) ?_
                refine T_ret (fun a w hF hM => hRb a w (post2 rfl rfl rfl (fun w hM => ?_) a w hF hM))
                rw [if_pos h9, h9]
                exact ⟨by simp only [stTxt, inT, optT, hj, Int.toNat_natCast, h39, h48, h57, h66]; simp [wTill, wMore, wPpl, wAgain, *], hM.below⟩
        · skip
          refine T_skip_go (fun _ _ h => h) ?_
          refine T_seq ?_
          refine T_seq ?_
          refine T_region ?_
          refine S_ 46 rfl rfl rfl _ (y_fieldAddr rfl rfl fa40_5) ?_
          refine S_ 47 rfl rfl rfl _ (y_load 1 rfl rfl rfl rfl Tryd.underlying3 rfl) ?_
          refine S_ 48 rfl rfl rfl _ (y_bin rfl rfl rfl (fun _ => b_neq)) ?_
          refine S_go (fun _ _ h => h) ?_
          refine T_cond rfl (fun h48 => ?_) (fun h48 => ?_)
          · skip
            refine T_region ?_
            refine S_ 49 rfl rfl rfl _ (y_move rfl rfl) ?_
            refine S_ 50 rfl rfl rfl _ (y_fieldAddr rfl rfl fa40_5) ?_
            refine S_ 51 rfl rfl rfl _ (y_load 1 rfl rfl rfl rfl Tryd.underlying3 rfl) ?_
            refine S_ 52 rfl rfl rfl _ (y_call rfl rfl rfl cf26 (fun _ w hM => Itoa_any s.more (by omega) (by omega) w (hP.below hM.below))) ?_
            refine S_ 53 rfl rfl rfl _ (y_bin rfl rfl rfl (fun hg => b_adds (by first | omega | (simp only [List.length_append, List.length_cons, List.length_nil]; omega)))) ?_
            refine S_ 54 rfl rfl rfl _ (y_bin rfl rfl rfl (fun hg => b_adds (by first | omega | (simp only [List.length_append, List.length_cons, List.length_nil]; omega)))) ?_
            refine S_ 5 rfl rfl rfl _ (y_assign rfl rfl) ?_
            refine S_go (fun _ _ h => h) ?_
            refine T_seq ?_
            refine T_seq ?_
            refine T_region ?_
            refine S_ 55 rfl rfl rfl _ (y_fieldAddr rfl rfl fa40_6) ?_
            refine S_ 56 rfl rfl rfl _ (y_load 1 rfl rfl rfl rfl Tryd.underlying3 rfl) ?_
            refine S_ 57 rfl rfl rfl _ (y_bin rfl rfl rfl (fun _ => b_neq)) ?_
            refine S_go (fun _ _ h => h) ?_
            refine T_cond rfl (fun h57 => ?_) (fun h57 => ?_)
            · skip
              refine T_region ?_
              refine S_ 58 rfl rfl rfl _ (y_move rfl rfl) ?_
              refine S_ 59 rfl rfl rfl _ (y_fieldAddr rfl rfl fa40_6) ?_
              refine S_ 60 rfl rfl rfl _ (y_load 1 rfl rfl rfl rfl Tryd.underlying3 rfl) ?_
              refine S_ 61 rfl rfl rfl _ (y_call rfl rfl rfl cf26 (fun _ w hM => Itoa_any s.ppl (by omega) (by omega) w (hP.below hM.below))) ?_
              refine S_ 62 rfl rfl rfl _ (y_bin rfl rfl rfl (fun hg => b_adds (by first | omega | (simp only [List.length_append, List.length_cons, List.length_nil]; omega)))) ?_
              refine S_ 63 rfl rfl rfl _ (y_bin rfl rfl rfl (fun hg => b_adds (by first | omega | (simp only [List.length_append, List.length_cons, List.length_nil]; omega)))) ?_
              refine S_ 5 rfl rfl rfl _ (y_assign rfl rfl) ?_
              refine S_go (fun _ _ h => h) ?_
              refine T_seq ?_
              refine T_seq ?_
              refine T_region ?_
              refine S_ 64 rfl rfl rfl _ (y_fieldAddr rfl rfl fa40_7) ?_
              refine S_ 65 rfl rfl rfl _ (y_load 1 rfl rfl rfl rfl Tryd.underlying3 rfl) ?_
              refine S_ 66 rfl rfl rfl _ (y_bin rfl rfl rfl (fun _ => b_neq)) ?_
              refine S_go (fun _ _ h => h) ?_
              refine T_cond rfl (fun h66 => ?_) (fun h66 => ?_)
              · skip
                refine T_region ?_
                refine S_ 67 rfl rfl rfl _ (y_move rfl rfl) ?_
                refine S_ 68 rfl rfl rfl _ (y_fieldAddr rfl rfl fa40_7) ?_
                refine S_ 69 rfl rfl rfl _ (y_load 1 rfl rfl rfl rfl Tryd.underlying3 rfl) ?_
                refine S_ 70 rfl rfl rfl _ (y_call rfl rfl rfl cf26 (fun _ w hM => Itoa_any s.again (by omega) (by omega) w (hP.below hM.below))) ?_
                refine S_ 71 rfl rfl rfl _ (y_bin rfl rfl rfl (fun hg => b_adds (by first | omega | (simp only [List.length_append, List.length_cons, List.length_nil]; omega)))) ?_
                refine S_ 72 rfl rfl rfl _ (y_bin rfl rfl rfl (fun hg => b_adds (by first | omega | (simp only [List.length_append, List.length_cons, List.length_nil]; omega)))) ?_
                refine S_ 5 rfl rfl rfl _ (y_assign rfl rfl) ?_
                refine S_go (fun _ _ h => h) ?_
                refine T_seq ?_
                refine T_region ?_
                refine S_ 73 rfl rfl rfl _ (y_move rfl rfl) ?_
                refine S_ 2 rfl rfl rfl _ (y_assign rfl rfl) ?_
                refine S_ 3 rfl rfl rfl _ (y_assign rfl rfl) ?_
                refine S_go (fun _ _ h => h) ?_
                refine T_ret (fun a w hF hM => hRb a w (post2 rfl rfl rfl (fun w hM => ?_) a w hF hM))
                rw [if_pos h9, h9]
                exact ⟨by simp only [stTxt, inT, optT, hj, Int.toNat_natCast, h39, h48, h57, h66]; simp [wTill, wMore, wPpl, wAgain, *], hM.below⟩
              · skip
                refine T_skip_go (fun _ _ h => h) ?_
                refine T_seq ?_
                refine T_region ?_
                refine S_ 73 rfl rfl rfl _ (y_move rfl rfl) ?_
                refine S_ 2 rfl rfl rfl _ (y_assign rfl rfl) ?_
                refine S_ 3 rfl rfl rfl _ (y_assign rfl rfl) ?_
                refine S_go (fun _ _ h => h) ?_
                refine T_ret (fun a w hF hM => hRb a w (post2 rfl rfl rfl (fun w hM => ?_) a w hF hM))
                rw [if_pos h9, h9]
                exact ⟨by simp only [stTxt, inT, optT, hj, Int.toNat_natCast, h39, h48, h57, h66]; simp [wTill, wMore, wPpl, wAgain, *], hM.below⟩
            · skip
              refine T_skip_go (fun _ _ h => h) ?_
              refine T_seq ?_
              refine T_seq ?_
              refine T_region ?_
              refine S_ 64 rfl rfl rfl _ (y_fieldAddr rfl rfl fa40_7) ?_
              refine S_ 65 rfl rfl rfl _ (y_load 1 rfl rfl rfl rfl Tryd.underlying3 rfl) ?_
              refine S_ 66 rfl rfl rfl _ (y_bin rfl rfl rfl (fun _ => b_neq)) ?_
              refine S_go (fun _ _ h => h) ?_
              refine T_cond rfl (fun h66 => ?_) (fun h66 => ?_)
              · skip
                refine T_region ?_
                refine S_ 67 rfl rfl rfl _ (y_move rfl rfl) ?_
                refine S_ 68 rfl rfl rfl _ (y_fieldAddr rfl rfl fa40_7) ?_
                refine S_ 69 rfl rfl rfl _ (y_load 1 rfl rfl rfl rfl Tryd.underlying3 rfl) ?_
                refine S_ 70 rfl rfl rfl _ (y_call rfl rfl rfl cf26 (fun _ w hM => Itoa_any s.again (by omega) (by omega) w (hP.below hM.below))) ?_
                refine S_ 71 rfl rfl rfl _ (y_bin rfl rfl rfl (fun hg => b_adds (by first | omega | (simp only [List.length_append, List.length_cons, List.length_nil]; omega)))) ?_
                refine S_ 72 rfl rfl rfl _ (y_bin rfl rfl rfl (fun hg => b_adds (by first | omega | (simp only [List.length_append, List.length_cons, List.length_nil]; omega)))) ?_
                refine S_ 5 rfl rfl rfl _ (y_assign rfl rfl) ?_
                refine S_go (fun _ _ h => h) ?_
                refine T_seq ?_
                refine T_region ?_
                refine S_ 73 rfl rfl rfl _ (y_move rfl rfl) ?_
                refine S_ 2 rfl rfl rfl _ (y_assign rfl rfl) ?_
                refine S_ 3 rfl rfl rfl _ (y_assign rfl rfl) ?_
                refine S_go (fun _ _ h => h) ?_
                refine T_ret (fun a w hF hM => hRb a w (post2 rfl rfl rfl (fun w hM => ?_) a w hF hM))
                rw [if_pos h9, h9]
                exact ⟨by simp only [stTxt, inT, optT, hj, Int.toNat_natCast, h39, h48, h57, h66]; simp [wTill, wMore, wPpl, wAgain, *], hM.below⟩
              · skip
                refine T_skip_go (fun _ _ h => h) ?_
                refine T_seq ?_
                refine T_region ?_
                refine S_ 73 rfl rfl rfl _ (y_move rfl rfl) ?_
                refine S_ 2 rfl rfl rfl _ (y_assign rfl rfl) ?_
                refine S_ 3 rfl rfl rfl _ (y_assign rfl rfl) ?_
                refine S_go (fun _ _ h => h) ?_
                refine T_ret (fun a w hF hM => hRb a w (post2 rfl rfl rfl (fun w hM => ?_) a w hF hM))
                rw [if_pos h9, h9]
                exact ⟨by simp only [stTxt, inT, optT, hj, Int.toNat_natCast, h39, h48, h57, h66]; simp [wTill, wMore, wPpl, wAgain, *], hM.below⟩
          · skip
            refine T_skip_go (fun _ _ h => h) ?_
            refine T_seq ?_
            refine T_seq ?_
            refine T_region ?_
            refine S_ 55 rfl rfl rfl _ (y_fieldAddr rfl rfl fa40_6) ?_
            refine S_ 56 rfl rfl rfl _ (y_load 1 rfl rfl rfl rfl Tryd.underlying3 rfl) ?_
            refine S_ 57 rfl rfl rfl _ (y_bin rfl rfl rfl (fun _ => b_neq)) ?_
            refine S_go (fun _ _ h => h) ?_
            refine T_cond rfl (fun h57 => ?_) (fun h57 => ?_)
            · skip
              refine T_region ?_
              refine S_ 58 rfl rfl rfl _ (y_move rfl rfl) ?_
              refine S_ 59 rfl rfl rfl _ (y_fieldAddr rfl rfl fa40_6) ?_
              refine S_ 60 rfl rfl rfl _ (y_load 1 rfl rfl rfl rfl Tryd.underlying3 rfl) ?_
              refine S_ 61 rfl rfl rfl _ (y_call rfl rfl rfl cf26 (fun _ w hM => Itoa_any s.ppl (by omega) (by omega) w (hP.below hM.below))) ?_
              refine S_ 62 rfl rfl rfl _ (y_bin rfl rfl rfl (fun hg => b_adds (by first | omega | (simp only [List.length_append, List.length_cons, List.length_nil]; omega)))) ?_
              refine S_ 63 rfl rfl rfl _ (y_bin rfl rfl rfl (fun hg => b_adds (by first | omega | (simp only [List.length_append, List.length_cons, List.length_nil]; omega)))) ?_
              refine S_ 5 rfl rfl rfl _ (y_assign rfl rfl) ?_
              refine S_go (fun _ _ h => h) ?_
              refine T_seq ?_
              refine T_seq ?_
              refine T_region ?_
              refine S_ 64 rfl rfl rfl _ (y_fieldAddr rfl rfl fa40_7) ?_
              refine S_ 65 rfl rfl rfl _ (y_load 1 rfl rfl rfl rfl Tryd.underlying3 rfl) ?_
              refine S_ 66 rfl rfl rfl _ (y_bin rfl rfl rfl (fun _ => b_neq)) ?_
              refine S_go (fun _ _ h => h) ?_
              refine T_cond rfl (fun h66 => ?_) (fun h66 => ?_)
              · skip
                refine T_region ?_
                refine S_ 67 rfl rfl rfl _ (y_move rfl rfl) ?_
                refine S_ 68 rfl rfl rfl _ (y_fieldAddr rfl rfl fa40_7) ?_
                refine S_ 69 rfl rfl rfl _ (y_load 1 rfl rfl rfl rfl Tryd.underlying3 rfl) ?_
                refine S_ 70 rfl rfl rfl _ (y_call rfl rfl rfl cf26 (fun _ w hM => Itoa_any s.again (by omega) (by omega) w (hP.below hM.below))) ?_
                refine S_ 71 rfl rfl rfl _ (y_bin rfl rfl rfl (fun hg => b_adds (by first | omega | (simp only [List.length_append, List.length_cons, List.length_nil]; omega)))) ?_
                refine S_ 72 rfl rfl rfl _ (y_bin rfl rfl rfl (fun hg => b_adds (by first | omega | (simp only [List.length_append, List.length_cons, List.length_nil]; omega)))) ?_
                refine S_ 5 rfl rfl rfl _ (y_assign rfl rfl) ?_
                refine S_go (fun _ _ h => h) ?_
                refine T_seq ?_
                refine T_region ?_
                refine S_ 73 rfl rfl rfl _ (y_move rfl rfl) ?_
                refine S_ 2 rfl rfl rfl _ (y_assign rfl rfl) ?_
                refine S_ 3 rfl rfl rfl _ (y_assign rfl rfl) ?_
                refine S_go (fun _ _ h => h) ?_
                refine T_ret (fun a w hF hM => hRb a w (post2 rfl rfl rfl (fun w hM => ?_) a w hF hM))
                rw [if_pos h9, h9]
                exact ⟨by simp only [stTxt, inT, optT, hj, Int.toNat_natCast, h39, h48, h57, h66]; simp [wTill, wMore, wPpl, wAgain, *], hM.below⟩
              · skip
                refine T_skip_go (fun _ _ h => h) ?_
                refine T_seq ?_
                refine T_region ?_
                refine S_ 73 rfl rfl rfl _ (y_move rfl rfl) ?_
                refine S_ 2 rfl rfl rfl _ (y_assign rfl rfl) ?_
                refine S_ 3 rfl rfl rfl _ (y_assign rfl rfl) ?_
                refine S_go (fun _ _ h => h) ?_
                refine T_ret (fun a w hF hM => hRb a w (post2 rfl rfl rfl (fun w hM => ?_) a w hF hM))
                rw [if_pos h9, h9]
                exact ⟨by simp only [stTxt, inT, optT, hj, Int.toNat_natCast, h39, h48, h57, h66]; simp [wTill, wMore, wPpl, wAgain, *], hM.below⟩
            · skip
              refine T_skip_go (fun _ _ h => h) ?_
              refine T_seq ?_
              refine T_seq ?_
              refine T_region ?_
              refine S_ 64 rfl rfl rfl _ (y_fieldAddr rfl rfl fa40_7) ?_
              refine S_ 65 rfl rfl rfl _ (y_load 1 rfl rfl rfl rfl Tryd.underlying3 rfl) ?_
              refine S_ 66 rfl rfl rfl _ (y_bin rfl rfl rfl (fun _ => b_neq)) ?_
              refine S_go (fun _ _ h => h) ?_
              refine T_cond rfl (fun h66 => ?_) (fun h66 => ?_)
              · skip
                refine T_region ?_
                refine S_ 67 rfl rfl rfl _ (y_move rfl rfl) ?_
                refine S_ 68 rfl rfl rfl _ (y_fieldAddr rfl rfl fa40_7) ?_
                refine S_ 69 rfl rfl rfl _ (y_load 1 rfl rfl rfl rfl Tryd.underlying3 rfl) ?_
                refine S_ 70 rfl rfl rfl _ (y_call rfl rfl rfl cf26 (fun _ w hM => Itoa_any s.again (by omega) (by omega) w (hP.below hM.below))) ?_
                refine S_ 71 rfl rfl rfl _ (y_bin rfl rfl rfl (fun hg => b_adds (by first | omega | (simp only [List.length_append, List.length_cons, List.length_nil]; omega)))) ?_
                refine S_ 72 rfl rfl rfl _ (y_bin rfl rfl rfl (fun hg => b_adds (by first | omega | (simp only [List.length_append, List.length_cons, List.length_nil]; omega)))) ?_
                refine S_ 5 rfl rfl rfl _ (y_assign rfl rfl) ?_
                refine S_go (fun _ _ h => h) ?_
                refine T_seq ?_
                refine T_region ?_
                refine S_ 73 rfl rfl rfl _ (y_move rfl rfl) ?_
                refine S_ 2 rfl rfl rfl _ (y_assign rfl rfl) ?_
                refine S_ 3 rfl rfl rfl _ (y_assign rfl rfl) ?_
                refine S_go (fun _ _ h => h) ?_
                refine T_ret (fun a w hF hM => hRb a w (post2 rfl rfl rfl (fun w hM => ?_) a w hF hM))
                rw [if_pos h9, h9]
                exact ⟨by simp only [stTxt, inT, optT, hj, Int.toNat_natCast, h39, h48, h57, h66]; simp [wTill, wMore, wPpl, wAgain, *], hM.below⟩
              · skip
                refine T_skip_go (fun _ _ h => h) ?_
                refine T_seq ?_
                refine T_region ?_
                refine S_ 73 rfl rfl rfl _ (y_move rfl rfl) ?_
                refine S_ 2 rfl rfl rfl _ (y_assign rfl rfl) ?_
                refine S_ 3 rfl rfl rfl _ (y_assign rfl rfl) ?_
                refine S_go (fun _ _ h => h) ?_
                refine T_ret (fun a w hF hM => hRb a w (post2 rfl rfl rfl (fun w hM => ?_) a w hF hM))
                rw [if_pos h9, h9]
                exact ⟨by simp only [stTxt, inT, optT, hj, Int.toNat_natCast, h39, h48, h57, h66]; simp [wTill, wMore, wPpl, wAgain, *], hM.below⟩
theorem kw_at {j : Nat} (h : j < 4) : ([[], wdOpen, wdRes, wdIgn] : List (List UInt8))[j]? = some (kwd j) := by
  match j, h with
  | 0, _ => rfl
  | 1, _ => rfl
  | 2, _ => rfl
  | 3, _ => rfl
set_option maxHeartbeats 3200000 in
theorem StateWords_any (s : PSt) (w : World) (hP : P10 w) (h0 : stNo s = 0) :
    Calls Tryd.prog 10 #[s.val] w fun e w' => e = .returned (str (stTxt s)) ∧ Below w.heap.size w w' := by
  obtain ⟨⟨hk1, hk3⟩, hin, hb, hnx⟩ := st_parts h0
  obtain ⟨j, hj⟩ : ∃ j : Nat, s.k = (j : Int) := ⟨s.k.toNat, by omega⟩
  have hj4 : j < 4 := by omega
  have hkw := kwd_len j
  have ha := Lib.itoa_length_le s.at_ (by omega) (by omega)
  have ht := Lib.itoa_length_le s.till (by omega) (by omega)
  have hm := Lib.itoa_length_le s.more (by omega) (by omega)
  have hp := Lib.itoa_length_le s.ppl (by omega) (by omega)
  have hg := Lib.itoa_length_le s.again (by omega) (by omega)
  have n1 : ∀ n : Int, numsB [n] = [32] ++ Lib.itoa n := numsB_one
  refine enter_args (args := [.agg #[.int .i64 s.k, .int .i64 s.at_, str s.inn, .bool s.nx, .int .i64 s.till, .int .i64 s.more, .int .i64 s.ppl, .int .i64 s.again]]) (F := _) Tryd.func10 rfl Tryd.ntmps10 rfl rfl ?_
  intro Rb hRb hRn
  refine T_seq ?_
  refine T_region ?_
  refine S_box 1 1 rfl rfl rfl rfl rfl ?_
  intro b1
  refine S_ 2 rfl rfl rfl _ (y_assign rfl rfl) ?_
  refine S_go (fun _ _ h => h) ?_
  refine T_seq ?_
  refine T_cut [(1, true, .pointer (some ⟨b1, 0, none⟩)), (3, true, str (kwd j ++ [32, 97, 116] ++ ([32] ++ Lib.itoa s.at_)))] [(1, .blk b1 (IsBox s.enc 40))] ?_ ?_
  · refine T_tree (PTree.one 1 (PTree.one 2 (PTree.one 6 (PTree.one 7 (PTree.two 0 (PTree.two 3 (PTree.two 4 (PTree.two 5 (PTree.one 8 (PTree.one 9 (PTree.one 10 (PTree.one 11 PTree.nil)))) 8 (PTree.two 5 (PTree.one 9 (PTree.one 10 (PTree.one 11 PTree.nil))) 9 (PTree.one 5 (PTree.one 10 (PTree.one 11 PTree.nil))))) 8 (PTree.two 4 (PTree.two 5 (PTree.one 9 (PTree.one 10 (PTree.one 11 PTree.nil))) 9 (PTree.one 5 (PTree.one 10 (PTree.one 11 PTree.nil)))) 9 (PTree.one 4 (PTree.one 5 (PTree.one 10 (PTree.one 11 PTree.nil)))))) 8 (PTree.two 3 (PTree.two 4 (PTree.two 5 (PTree.one 9 (PTree.one 10 (PTree.one 11 PTree.nil))) 9 (PTree.one 5 (PTree.one 10 (PTree.one 11 PTree.nil)))) 9 (PTree.one 4 (PTree.one 5 (PTree.one 10 (PTree.one 11 PTree.nil))))) 9 (PTree.one 3 (PTree.one 4 (PTree.one 5 (PTree.one 10 (PTree.one 11 PTree.nil))))))) 8 (PTree.two 0 (PTree.two 3 (PTree.two 4 (PTree.two 5 (PTree.one 9 (PTree.one 10 (PTree.one 11 PTree.nil))) 9 (PTree.one 5 (PTree.one 10 (PTree.one 11 PTree.nil)))) 9 (PTree.one 4 (PTree.one 5 (PTree.one 10 (PTree.one 11 PTree.nil))))) 9 (PTree.one 3 (PTree.one 4 (PTree.one 5 (PTree.one 10 (PTree.one 11 PTree.nil)))))) 9 (PTree.one 0 (PTree.one 3 (PTree.one 4 (PTree.one 5 (PTree.one 10 (PTree.one 11 PTree.nil)))))))))))) [false, true, true, false, false, false, true, true, false, false, false, true] [0, 0, 2, 7, 15, 31, 0, 64, 192, 448, 1023, 2047] [(2, [1]), (7, [1])] (by kernel_rfl) (by kernel_rfl) (by kernel_rfl) rfl (by kernel_rfl) ?_
    refine R2f_ 1 6 rfl rfl rfl rfl rfl _ trivial (Y.z (y_fieldAddr rfl rfl fa40_0) rfl) ?_
    refine R2f_ 2 7 rfl rfl rfl rfl rfl _ ⟨rfl, trivial⟩ (Y.z (y_as (v' := .int .i64 (j : Int)) (by rw [hj]) (y_load 1 rfl rfl rfl rfl Tryd.underlying3 rfl)) rfl) ?_
    refine R2f_ 6 11 rfl rfl rfl rfl rfl _ trivial (Y.z (y_fieldAddr rfl rfl fa40_1) rfl) ?_
    refine R2f_ 7 12 rfl rfl rfl rfl rfl _ ⟨rfl, trivial⟩ (Y.z (y_load 1 rfl rfl rfl rfl Tryd.underlying3 rfl) rfl) ?_
    refine R2_two rfl rfl ?_ ?_
    · skip
      refine S_buildSlice 5 5 rfl rfl rfl rfl rfl Tryd.underlying46 inf9 rfl (by decide) (by decide) rfl rfl (by decide) rfl ([[], wdOpen, wdRes, wdIgn].flatMap strE) ?_ ?_
      · rfl
      intro b5
      refine R2_next ⟨.inr ⟨rfl, trivial⟩, .inr ⟨rfl, trivial⟩, trivial⟩ ?_
      refine R2_two rfl rfl ?_ ?_
      · skip
        refine S_ 8 rfl rfl rfl _ (y_indexOwn 5 rfl rfl rfl rfl Tryd.underlying46 sz9 (fun _ => hj4)) ?_
        refine R2_next ⟨.inl rfl, .inr ⟨rfl, trivial⟩, trivial⟩ ?_
        refine R2_two rfl rfl ?_ ?_
        · skip
          refine S_ 9 rfl rfl rfl _ (y_loadO1 5 (val := (fun l : List UInt8 => str l)) rfl rfl rfl rfl (fun _ => kw_at hj4) Tryd.underlying9 rfl) ?_
          refine R2_next ⟨.inl rfl, .inr ⟨rfl, trivial⟩, trivial⟩ ?_
          refine R2_two rfl rfl ?_ ?_
          · skip
            refine S_ 10 rfl rfl rfl _ (y_bin rfl rfl rfl (fun hg => b_adds (by first | omega | (simp only [List.length_append, List.length_cons, List.length_nil]; omega)))) ?_
            refine R2_next ⟨.inl rfl, .inr ⟨rfl, trivial⟩, trivial⟩ ?_
            refine R2_chain 8 rfl rfl ?_
            refine S_buildSlice 13 13 rfl rfl rfl rfl rfl Tryd.underlying107 inf3 rfl (by decide) (by decide) rfl rfl (by decide) rfl ([s.at_].flatMap intE9) ?_ ?_
            · rfl
            intro b13
            refine R2_next ⟨.inr ⟨rfl, trivial⟩, .inl rfl, trivial⟩ ?_
            refine R2_chain 9 rfl rfl ?_
            refine S_ 14 rfl rfl rfl _ (y_as (v' := str ([32] ++ Lib.itoa s.at_)) (by rw [numsB_one]) (y_call rfl rfl rfl cf25 (fun hg w1 hM => numbers_any _ 1 _ [s.at_] w1 (owned_ok (enc := intE9) (l := [s.at_]) hM rfl (i := 13) rfl).t (by decide) (fun n hn => by have := List.mem_singleton.1 hn; omega) (hP.below hM.below)))) ?_
            refine R2_next ⟨.inr ⟨rfl, trivial⟩, .inl rfl, trivial⟩ ?_
            refine R2_chain 10 rfl rfl ?_
            refine S_ 15 rfl rfl rfl _ (y_bin rfl rfl rfl (fun hg => b_adds (by first | omega | (simp only [List.length_append, List.length_cons, List.length_nil]; omega)))) ?_
            refine R2_next ⟨.inl rfl, .inl rfl, trivial⟩ ?_
            refine R2f_ 11 3 rfl rfl rfl rfl rfl _ trivial (Y.z (y_assign rfl rfl) rfl) ?_
            exact R2_nil (fun a w hF hM => ⟨hF.sub (by exact ⟨rfl, rfl, trivial⟩), hM.sub (by exact ⟨rfl, trivial⟩)⟩)
          · skip
            refine S_buildSlice 13 13 rfl rfl rfl rfl rfl Tryd.underlying107 inf3 rfl (by decide) (by decide) rfl rfl (by decide) rfl ([s.at_].flatMap intE9) ?_ ?_
            · rfl
            intro b13
            refine R2_next ⟨.inr ⟨rfl, trivial⟩, .inl rfl, trivial⟩ ?_
            refine R2_two rfl rfl ?_ ?_
            · skip
              refine S_ 10 rfl rfl rfl _ (y_bin rfl rfl rfl (fun hg => b_adds (by first | omega | (simp only [List.length_append, List.length_cons, List.length_nil]; omega)))) ?_
              refine R2_next ⟨.inl rfl, .inr ⟨rfl, trivial⟩, trivial⟩ ?_
              refine R2_chain 9 rfl rfl ?_
              refine S_ 14 rfl rfl rfl _ (y_as (v' := str ([32] ++ Lib.itoa s.at_)) (by rw [numsB_one]) (y_call rfl rfl rfl cf25 (fun hg w1 hM => numbers_any _ 1 _ [s.at_] w1 (owned_ok (enc := intE9) (l := [s.at_]) hM rfl (i := 13) rfl).t (by decide) (fun n hn => by have := List.mem_singleton.1 hn; omega) (hP.below hM.below)))) ?_
              refine R2_next ⟨.inr ⟨rfl, trivial⟩, .inl rfl, trivial⟩ ?_
              refine R2_chain 10 rfl rfl ?_
              refine S_ 15 rfl rfl rfl _ (y_bin rfl rfl rfl (fun hg => b_adds (by first | omega | (simp only [List.length_append, List.length_cons, List.length_nil]; omega)))) ?_
              refine R2_next ⟨.inl rfl, .inl rfl, trivial⟩ ?_
              refine R2f_ 11 3 rfl rfl rfl rfl rfl _ trivial (Y.z (y_assign rfl rfl) rfl) ?_
              exact R2_nil (fun a w hF hM => ⟨hF.sub (by exact ⟨rfl, rfl, trivial⟩), hM.sub (by exact ⟨rfl, trivial⟩)⟩)
            · skip
              refine S_ 14 rfl rfl rfl _ (y_as (v' := str ([32] ++ Lib.itoa s.at_)) (by rw [numsB_one]) (y_call rfl rfl rfl cf25 (fun hg w1 hM => numbers_any _ 1 _ [s.at_] w1 (owned_ok (enc := intE9) (l := [s.at_]) hM rfl (i := 13) rfl).t (by decide) (fun n hn => by have := List.mem_singleton.1 hn; omega) (hP.below hM.below)))) ?_
              refine R2_next ⟨.inr ⟨rfl, trivial⟩, .inl rfl, trivial⟩ ?_
              refine R2_chain 5 rfl rfl ?_
              refine S_ 10 rfl rfl rfl _ (y_bin rfl rfl rfl (fun hg => b_adds (by first | omega | (simp only [List.length_append, List.length_cons, List.length_nil]; omega)))) ?_
              refine R2_next ⟨.inl rfl, .inr ⟨rfl, trivial⟩, trivial⟩ ?_
              refine R2_chain 10 rfl rfl ?_
              refine S_ 15 rfl rfl rfl _ (y_bin rfl rfl rfl (fun hg => b_adds (by first | omega | (simp only [List.length_append, List.length_cons, List.length_nil]; omega)))) ?_
              refine R2_next ⟨.inl rfl, .inl rfl, trivial⟩ ?_
              refine R2f_ 11 3 rfl rfl rfl rfl rfl _ trivial (Y.z (y_assign rfl rfl) rfl) ?_
              exact R2_nil (fun a w hF hM => ⟨hF.sub (by exact ⟨rfl, rfl, trivial⟩), hM.sub (by exact ⟨rfl, trivial⟩)⟩)
        · skip
          refine S_buildSlice 13 13 rfl rfl rfl rfl rfl Tryd.underlying107 inf3 rfl (by decide) (by decide) rfl rfl (by decide) rfl ([s.at_].flatMap intE9) ?_ ?_
          · rfl
          intro b13
          refine R2_next ⟨.inr ⟨rfl, trivial⟩, .inl rfl, trivial⟩ ?_
          refine R2_two rfl rfl ?_ ?_
          · skip
            refine S_ 9 rfl rfl rfl _ (y_loadO1 5 (val := (fun l : List UInt8 => str l)) rfl rfl rfl rfl (fun _ => kw_at hj4) Tryd.underlying9 rfl) ?_
            refine R2_next ⟨.inl rfl, .inr ⟨rfl, trivial⟩, trivial⟩ ?_
            refine R2_two rfl rfl ?_ ?_
            · skip
              refine S_ 10 rfl rfl rfl _ (y_bin rfl rfl rfl (fun hg => b_adds (by first | omega | (simp only [List.length_append, List.length_cons, List.length_nil]; omega)))) ?_
              refine R2_next ⟨.inl rfl, .inr ⟨rfl, trivial⟩, trivial⟩ ?_
              refine R2_chain 9 rfl rfl ?_
              refine S_ 14 rfl rfl rfl _ (y_as (v' := str ([32] ++ Lib.itoa s.at_)) (by rw [numsB_one]) (y_call rfl rfl rfl cf25 (fun hg w1 hM => numbers_any _ 1 _ [s.at_] w1 (owned_ok (enc := intE9) (l := [s.at_]) hM rfl (i := 13) rfl).t (by decide) (fun n hn => by have := List.mem_singleton.1 hn; omega) (hP.below hM.below)))) ?_
              refine R2_next ⟨.inr ⟨rfl, trivial⟩, .inl rfl, trivial⟩ ?_
              refine R2_chain 10 rfl rfl ?_
              refine S_ 15 rfl rfl rfl _ (y_bin rfl rfl rfl (fun hg => b_adds (by first | omega | (simp only [List.length_append, List.length_cons, List.length_nil]; omega)))) ?_
              refine R2_next ⟨.inl rfl, .inl rfl, trivial⟩ ?_
              refine R2f_ 11 3 rfl rfl rfl rfl rfl _ trivial (Y.z (y_assign rfl rfl) rfl) ?_
              exact R2_nil (fun a w hF hM => ⟨hF.sub (by exact ⟨rfl, rfl, trivial⟩), hM.sub (by exact ⟨rfl, trivial⟩)⟩)
            · skip
              refine S_ 14 rfl rfl rfl _ (y_as (v' := str ([32] ++ Lib.itoa s.at_)) (by rw [numsB_one]) (y_call rfl rfl rfl cf25 (fun hg w1 hM => numbers_any _ 1 _ [s.at_] w1 (owned_ok (enc := intE9) (l := [s.at_]) hM rfl (i := 13) rfl).t (by decide) (fun n hn => by have := List.mem_singleton.1 hn; omega) (hP.below hM.below)))) ?_
              refine R2_next ⟨.inr ⟨rfl, trivial⟩, .inl rfl, trivial⟩ ?_
              refine R2_chain 5 rfl rfl ?_
              refine S_ 10 rfl rfl rfl _ (y_bin rfl rfl rfl (fun hg => b_adds (by first | omega | (simp only [List.length_append, List.length_cons, List.length_nil]; omega)))) ?_
              refine R2_next ⟨.inl rfl, .inr ⟨rfl, trivial⟩, trivial⟩ ?_
              refine R2_chain 10 rfl rfl ?_
              refine S_ 15 rfl rfl rfl _ (y_bin rfl rfl rfl (fun hg => b_adds (by first | omega | (simp only [List.length_append, List.length_cons, List.length_nil]; omega)))) ?_
              refine R2_next ⟨.inl rfl, .inl rfl, trivial⟩ ?_
              refine R2f_ 11 3 rfl rfl rfl rfl rfl _ trivial (Y.z (y_assign rfl rfl) rfl) ?_
              exact R2_nil (fun a w hF hM => ⟨hF.sub (by exact ⟨rfl, rfl, trivial⟩), hM.sub (by exact ⟨rfl, trivial⟩)⟩)
          · skip
            refine S_ 14 rfl rfl rfl _ (y_as (v' := str ([32] ++ Lib.itoa s.at_)) (by rw [numsB_one]) (y_call rfl rfl rfl cf25 (fun hg w1 hM => numbers_any _ 1 _ [s.at_] w1 (owned_ok (enc := intE9) (l := [s.at_]) hM rfl (i := 13) rfl).t (by decide) (fun n hn => by have := List.mem_singleton.1 hn; omega) (hP.below hM.below)))) ?_
            refine R2_next ⟨.inr ⟨rfl, trivial⟩, .inl rfl, trivial⟩ ?_
            refine R2_chain 4 rfl rfl ?_
            refine S_ 9 rfl rfl rfl _ (y_loadO1 5 (val := (fun l : List UInt8 => str l)) rfl rfl rfl rfl (fun _ => kw_at hj4) Tryd.underlying9 rfl) ?_
            refine R2_next ⟨.inl rfl, .inr ⟨rfl, trivial⟩, trivial⟩ ?_
            refine R2_chain 5 rfl rfl ?_
            refine S_ 10 rfl rfl rfl _ (y_bin rfl rfl rfl (fun hg => b_adds (by first | omega | (simp only [List.length_append, List.length_cons, List.length_nil]; omega)))) ?_
            refine R2_next ⟨.inl rfl, .inr ⟨rfl, trivial⟩, trivial⟩ ?_
            refine R2_chain 10 rfl rfl ?_
            refine S_ 15 rfl rfl rfl _ (y_bin rfl rfl rfl (fun hg => b_adds (by first | omega | (simp only [List.length_append, List.length_cons, List.length_nil]; omega)))) ?_
            refine R2_next ⟨.inl rfl, .inl rfl, trivial⟩ ?_
            refine R2f_ 11 3 rfl rfl rfl rfl rfl _ trivial (Y.z (y_assign rfl rfl) rfl) ?_
            exact R2_nil (fun a w hF hM => ⟨hF.sub (by exact ⟨rfl, rfl, trivial⟩), hM.sub (by exact ⟨rfl, trivial⟩)⟩)
      · skip
        refine S_buildSlice 13 13 rfl rfl rfl rfl rfl Tryd.underlying107 inf3 rfl (by decide) (by decide) rfl rfl (by decide) rfl ([s.at_].flatMap intE9) ?_ ?_
        · rfl
        intro b13
        refine R2_next ⟨.inr ⟨rfl, trivial⟩, .inl rfl, trivial⟩ ?_
        refine R2_two rfl rfl ?_ ?_
        · skip
          refine S_ 8 rfl rfl rfl _ (y_indexOwn 5 rfl rfl rfl rfl Tryd.underlying46 sz9 (fun _ => hj4)) ?_
          refine R2_next ⟨.inl rfl, .inr ⟨rfl, trivial⟩, trivial⟩ ?_
          refine R2_two rfl rfl ?_ ?_
          · skip
            refine S_ 9 rfl rfl rfl _ (y_loadO1 5 (val := (fun l : List UInt8 => str l)) rfl rfl rfl rfl (fun _ => kw_at hj4) Tryd.underlying9 rfl) ?_
            refine R2_next ⟨.inl rfl, .inr ⟨rfl, trivial⟩, trivial⟩ ?_
            refine R2_two rfl rfl ?_ ?_
            · skip
              refine S_ 10 rfl rfl rfl _ (y_bin rfl rfl rfl (fun hg => b_adds (by first | omega | (simp only [List.length_append, List.length_cons, List.length_nil]; omega)))) ?_
              refine R2_next ⟨.inl rfl, .inr ⟨rfl, trivial⟩, trivial⟩ ?_
              refine R2_chain 9 rfl rfl ?_
              refine S_ 14 rfl rfl rfl _ (y_as (v' := str ([32] ++ Lib.itoa s.at_)) (by rw [numsB_one]) (y_call rfl rfl rfl cf25 (fun hg w1 hM => numbers_any _ 1 _ [s.at_] w1 (owned_ok (enc := intE9) (l := [s.at_]) hM rfl (i := 13) rfl).t (by decide) (fun n hn => by have := List.mem_singleton.1 hn; omega) (hP.below hM.below)))) ?_
              refine R2_next ⟨.inr ⟨rfl, trivial⟩, .inl rfl, trivial⟩ ?_
              refine R2_chain 10 rfl rfl ?_
              refine S_ 15 rfl rfl rfl _ (y_bin rfl rfl rfl (fun hg => b_adds (by first | omega | (simp only [List.length_append, List.length_cons, List.length_nil]; omega)))) ?_
              refine R2_next ⟨.inl rfl, .inl rfl, trivial⟩ ?_
              refine R2f_ 11 3 rfl rfl rfl rfl rfl _ trivial (Y.z (y_assign rfl rfl) rfl) ?_
              exact R2_nil (fun a w hF hM => ⟨hF.sub (by exact ⟨rfl, rfl, trivial⟩), hM.sub (by exact ⟨rfl, trivial⟩)⟩)
            · skip
              refine S_ 14 rfl rfl rfl _ (y_as (v' := str ([32] ++ Lib.itoa s.at_)) (by rw [numsB_one]) (y_call rfl rfl rfl cf25 (fun hg w1 hM => numbers_any _ 1 _ [s.at_] w1 (owned_ok (enc := intE9) (l := [s.at_]) hM rfl (i := 13) rfl).t (by decide) (fun n hn => by have := List.mem_singleton.1 hn; omega) (hP.below hM.below)))) ?_
              refine R2_next ⟨.inr ⟨rfl, trivial⟩, .inl rfl, trivial⟩ ?_
              refine R2_chain 5 rfl rfl ?_
              refine S_ 10 rfl rfl rfl _ (y_bin rfl rfl rfl (fun hg => b_adds (by first | omega | (simp only [List.length_append, List.length_cons, List.length_nil]; omega)))) ?_
              refine R2_next ⟨.inl rfl, .inr ⟨rfl, trivial⟩, trivial⟩ ?_
              refine R2_chain 10 rfl rfl ?_
              refine S_ 15 rfl rfl rfl _ (y_bin rfl rfl rfl (fun hg => b_adds (by first | omega | (simp only [List.length_append, List.length_cons, List.length_nil]; omega)))) ?_
              refine R2_next ⟨.inl rfl, .inl rfl, trivial⟩ ?_
              refine R2f_ 11 3 rfl rfl rfl rfl rfl _ trivial (Y.z (y_assign rfl rfl) rfl) ?_
              exact R2_nil (fun a w hF hM => ⟨hF.sub (by exact ⟨rfl, rfl, trivial⟩), hM.sub (by exact ⟨rfl, trivial⟩)⟩)
          · skip
            refine S_ 14 rfl rfl rfl _ (y_as (v' := str ([32] ++ Lib.itoa s.at_)) (by rw [numsB_one]) (y_call rfl rfl rfl cf25 (fun hg w1 hM => numbers_any _ 1 _ [s.at_] w1 (owned_ok (enc := intE9) (l := [s.at_]) hM rfl (i := 13) rfl).t (by decide) (fun n hn => by have := List.mem_singleton.1 hn; omega) (hP.below hM.below)))) ?_
            refine R2_next ⟨.inr ⟨rfl, trivial⟩, .inl rfl, trivial⟩ ?_
            refine R2_chain 4 rfl rfl ?_
            refine S_ 9 rfl rfl rfl _ (y_loadO1 5 (val := (fun l : List UInt8 => str l)) rfl rfl rfl rfl (fun _ => kw_at hj4) Tryd.underlying9 rfl) ?_
            refine R2_next ⟨.inl rfl, .inr ⟨rfl, trivial⟩, trivial⟩ ?_
            refine R2_chain 5 rfl rfl ?_
            refine S_ 10 rfl rfl rfl _ (y_bin rfl rfl rfl (fun hg => b_adds (by first | omega | (simp only [List.length_append, List.length_cons, List.length_nil]; omega)))) ?_
            refine R2_next ⟨.inl rfl, .inr ⟨rfl, trivial⟩, trivial⟩ ?_
            refine R2_chain 10 rfl rfl ?_
            refine S_ 15 rfl rfl rfl _ (y_bin rfl rfl rfl (fun hg => b_adds (by first | omega | (simp only [List.length_append, List.length_cons, List.length_nil]; omega)))) ?_
            refine R2_next ⟨.inl rfl, .inl rfl, trivial⟩ ?_
            refine R2f_ 11 3 rfl rfl rfl rfl rfl _ trivial (Y.z (y_assign rfl rfl) rfl) ?_
            exact R2_nil (fun a w hF hM => ⟨hF.sub (by exact ⟨rfl, rfl, trivial⟩), hM.sub (by exact ⟨rfl, trivial⟩)⟩)
        · skip
          refine S_ 14 rfl rfl rfl _ (y_as (v' := str ([32] ++ Lib.itoa s.at_)) (by rw [numsB_one]) (y_call rfl rfl rfl cf25 (fun hg w1 hM => numbers_any _ 1 _ [s.at_] w1 (owned_ok (enc := intE9) (l := [s.at_]) hM rfl (i := 13) rfl).t (by decide) (fun n hn => by have := List.mem_singleton.1 hn; omega) (hP.below hM.below)))) ?_
          refine R2_next ⟨.inr ⟨rfl, trivial⟩, .inl rfl, trivial⟩ ?_
          refine R2_chain 3 rfl rfl ?_
          refine S_ 8 rfl rfl rfl _ (y_indexOwn 5 rfl rfl rfl rfl Tryd.underlying46 sz9 (fun _ => hj4)) ?_
          refine R2_next ⟨.inl rfl, .inr ⟨rfl, trivial⟩, trivial⟩ ?_
          refine R2_chain 4 rfl rfl ?_
          refine S_ 9 rfl rfl rfl _ (y_loadO1 5 (val := (fun l : List UInt8 => str l)) rfl rfl rfl rfl (fun _ => kw_at hj4) Tryd.underlying9 rfl) ?_
          refine R2_next ⟨.inl rfl, .inr ⟨rfl, trivial⟩, trivial⟩ ?_
          refine R2_chain 5 rfl rfl ?_
          refine S_ 10 rfl rfl rfl _ (y_bin rfl rfl rfl (fun hg => b_adds (by first | omega | (simp only [List.length_append, List.length_cons, List.length_nil]; omega)))) ?_
          refine R2_next ⟨.inl rfl, .inr ⟨rfl, trivial⟩, trivial⟩ ?_
          refine R2_chain 10 rfl rfl ?_
          refine S_ 15 rfl rfl rfl _ (y_bin rfl rfl rfl (fun hg => b_adds (by first | omega | (simp only [List.length_append, List.length_cons, List.length_nil]; omega)))) ?_
          refine R2_next ⟨.inl rfl, .inl rfl, trivial⟩ ?_
          refine R2f_ 11 3 rfl rfl rfl rfl rfl _ trivial (Y.z (y_assign rfl rfl) rfl) ?_
          exact R2_nil (fun a w hF hM => ⟨hF.sub (by exact ⟨rfl, rfl, trivial⟩), hM.sub (by exact ⟨rfl, trivial⟩)⟩)
    · skip
      refine S_buildSlice 13 13 rfl rfl rfl rfl rfl Tryd.underlying107 inf3 rfl (by decide) (by decide) rfl rfl (by decide) rfl ([s.at_].flatMap intE9) ?_ ?_
      · rfl
      intro b13
      refine R2_next ⟨.inr ⟨rfl, trivial⟩, .inl rfl, trivial⟩ ?_
      refine R2_two rfl rfl ?_ ?_
      · skip
        refine S_buildSlice 5 5 rfl rfl rfl rfl rfl Tryd.underlying46 inf9 rfl (by decide) (by decide) rfl rfl (by decide) rfl ([[], wdOpen, wdRes, wdIgn].flatMap strE) ?_ ?_
        · rfl
        intro b5
        refine R2_next ⟨.inr ⟨rfl, trivial⟩, .inr ⟨rfl, trivial⟩, trivial⟩ ?_
        refine R2_two rfl rfl ?_ ?_
        · skip
          refine S_ 8 rfl rfl rfl _ (y_indexOwn 5 rfl rfl rfl rfl Tryd.underlying46 sz9 (fun _ => hj4)) ?_
          refine R2_next ⟨.inl rfl, .inr ⟨rfl, trivial⟩, trivial⟩ ?_
          refine R2_two rfl rfl ?_ ?_
          · skip
            refine S_ 9 rfl rfl rfl _ (y_loadO1 5 (val := (fun l : List UInt8 => str l)) rfl rfl rfl rfl (fun _ => kw_at hj4) Tryd.underlying9 rfl) ?_
            refine R2_next ⟨.inl rfl, .inr ⟨rfl, trivial⟩, trivial⟩ ?_
            refine R2_two rfl rfl ?_ ?_
            · skip
              refine S_ 10 rfl rfl rfl _ (y_bin rfl rfl rfl (fun hg => b_adds (by first | omega | (simp only [List.length_append, List.length_cons, List.length_nil]; omega)))) ?_
              refine R2_next ⟨.inl rfl, .inr ⟨rfl, trivial⟩, trivial⟩ ?_
              refine R2_chain 9 rfl rfl ?_
              refine S_ 14 rfl rfl rfl _ (y_as (v' := str ([32] ++ Lib.itoa s.at_)) (by rw [numsB_one]) (y_call rfl rfl rfl cf25 (fun hg w1 hM => numbers_any _ 1 _ [s.at_] w1 (owned_ok (enc := intE9) (l := [s.at_]) hM rfl (i := 13) rfl).t (by decide) (fun n hn => by have := List.mem_singleton.1 hn; omega) (hP.below hM.below)))) ?_
              refine R2_next ⟨.inr ⟨rfl, trivial⟩, .inl rfl, trivial⟩ ?_
              refine R2_chain 10 rfl rfl ?_
              refine S_ 15 rfl rfl rfl _ (y_bin rfl rfl rfl (fun hg => b_adds (by first | omega | (simp only [List.length_append, List.length_cons, List.length_nil]; omega)))) ?_
              refine R2_next ⟨.inl rfl, .inl rfl, trivial⟩ ?_
              refine R2f_ 11 3 rfl rfl rfl rfl rfl _ trivial (Y.z (y_assign rfl rfl) rfl) ?_
              exact R2_nil (fun a w hF hM => ⟨hF.sub (by exact ⟨rfl, rfl, trivial⟩), hM.sub (by exact ⟨rfl, trivial⟩)⟩)
            · skip
              refine S_ 14 rfl rfl rfl _ (y_as (v' := str ([32] ++ Lib.itoa s.at_)) (by rw [numsB_one]) (y_call rfl rfl rfl cf25 (fun hg w1 hM => numbers_any _ 1 _ [s.at_] w1 (owned_ok (enc := intE9) (l := [s.at_]) hM rfl (i := 13) rfl).t (by decide) (fun n hn => by have := List.mem_singleton.1 hn; omega) (hP.below hM.below)))) ?_
              refine R2_next ⟨.inr ⟨rfl, trivial⟩, .inl rfl, trivial⟩ ?_
              refine R2_chain 5 rfl rfl ?_
              refine S_ 10 rfl rfl rfl _ (y_bin rfl rfl rfl (fun hg => b_adds (by first | omega | (simp only [List.length_append, List.length_cons, List.length_nil]; omega)))) ?_
              refine R2_next ⟨.inl rfl, .inr ⟨rfl, trivial⟩, trivial⟩ ?_
              refine R2_chain 10 rfl rfl ?_
              refine S_ 15 rfl rfl rfl _ (y_bin rfl rfl rfl (fun hg => b_adds (by first | omega | (simp only [List.length_append, List.length_cons, List.length_nil]; omega)))) ?_
              refine R2_next ⟨.inl rfl, .inl rfl, trivial⟩ ?_
              refine R2f_ 11 3 rfl rfl rfl rfl rfl _ trivial (Y.z (y_assign rfl rfl) rfl) ?_
              exact R2_nil (fun a w hF hM => ⟨hF.sub (by exact ⟨rfl, rfl, trivial⟩), hM.sub (by exact ⟨rfl, trivial⟩)⟩)
          · skip
            refine S_ 14 rfl rfl rfl _ (y_as (v' := str ([32] ++ Lib.itoa s.at_)) (by rw [numsB_one]) (y_call rfl rfl rfl cf25 (fun hg w1 hM => numbers_any _ 1 _ [s.at_] w1 (owned_ok (enc := intE9) (l := [s.at_]) hM rfl (i := 13) rfl).t (by decide) (fun n hn => by have := List.mem_singleton.1 hn; omega) (hP.below hM.below)))) ?_
            refine R2_next ⟨.inr ⟨rfl, trivial⟩, .inl rfl, trivial⟩ ?_
            refine R2_chain 4 rfl rfl ?_
            refine S_ 9 rfl rfl rfl _ (y_loadO1 5 (val := (fun l : List UInt8 => str l)) rfl rfl rfl rfl (fun _ => kw_at hj4) Tryd.underlying9 rfl) ?_
            refine R2_next ⟨.inl rfl, .inr ⟨rfl, trivial⟩, trivial⟩ ?_
            refine R2_chain 5 rfl rfl ?_
            refine S_ 10 rfl rfl rfl _ (y_bin rfl rfl rfl (fun hg => b_adds (by first | omega | (simp only [List.length_append, List.length_cons, List.length_nil]; omega)))) ?_
            refine R2_next ⟨.inl rfl, .inr ⟨rfl, trivial⟩, trivial⟩ ?_
            refine R2_chain 10 rfl rfl ?_
            refine S_ 15 rfl rfl rfl _ (y_bin rfl rfl rfl (fun hg => b_adds (by first | omega | (simp only [List.length_append, List.length_cons, List.length_nil]; omega)))) ?_
            refine R2_next ⟨.inl rfl, .inl rfl, trivial⟩ ?_
            refine R2f_ 11 3 rfl rfl rfl rfl rfl _ trivial (Y.z (y_assign rfl rfl) rfl) ?_
            exact R2_nil (fun a w hF hM => ⟨hF.sub (by exact ⟨rfl, rfl, trivial⟩), hM.sub (by exact ⟨rfl, trivial⟩)⟩)
        · skip
          refine S_ 14 rfl rfl rfl _ (y_as (v' := str ([32] ++ Lib.itoa s.at_)) (by rw [numsB_one]) (y_call rfl rfl rfl cf25 (fun hg w1 hM => numbers_any _ 1 _ [s.at_] w1 (owned_ok (enc := intE9) (l := [s.at_]) hM rfl (i := 13) rfl).t (by decide) (fun n hn => by have := List.mem_singleton.1 hn; omega) (hP.below hM.below)))) ?_
          refine R2_next ⟨.inr ⟨rfl, trivial⟩, .inl rfl, trivial⟩ ?_
          refine R2_chain 3 rfl rfl ?_
          refine S_ 8 rfl rfl rfl _ (y_indexOwn 5 rfl rfl rfl rfl Tryd.underlying46 sz9 (fun _ => hj4)) ?_
          refine R2_next ⟨.inl rfl, .inr ⟨rfl, trivial⟩, trivial⟩ ?_
          refine R2_chain 4 rfl rfl ?_
          refine S_ 9 rfl rfl rfl _ (y_loadO1 5 (val := (fun l : List UInt8 => str l)) rfl rfl rfl rfl (fun _ => kw_at hj4) Tryd.underlying9 rfl) ?_
          refine R2_next ⟨.inl rfl, .inr ⟨rfl, trivial⟩, trivial⟩ ?_
          refine R2_chain 5 rfl rfl ?_
          refine S_ 10 rfl rfl rfl _ (y_bin rfl rfl rfl (fun hg => b_adds (by first | omega | (simp only [List.length_append, List.length_cons, List.length_nil]; omega)))) ?_
          refine R2_next ⟨.inl rfl, .inr ⟨rfl, trivial⟩, trivial⟩ ?_
          refine R2_chain 10 rfl rfl ?_
          refine S_ 15 rfl rfl rfl _ (y_bin rfl rfl rfl (fun hg => b_adds (by first | omega | (simp only [List.length_append, List.length_cons, List.length_nil]; omega)))) ?_
          refine R2_next ⟨.inl rfl, .inl rfl, trivial⟩ ?_
          refine R2f_ 11 3 rfl rfl rfl rfl rfl _ trivial (Y.z (y_assign rfl rfl) rfl) ?_
          exact R2_nil (fun a w hF hM => ⟨hF.sub (by exact ⟨rfl, rfl, trivial⟩), hM.sub (by exact ⟨rfl, trivial⟩)⟩)
      · skip
        refine S_ 14 rfl rfl rfl _ (y_as (v' := str ([32] ++ Lib.itoa s.at_)) (by rw [numsB_one]) (y_call rfl rfl rfl cf25 (fun hg w1 hM => numbers_any _ 1 _ [s.at_] w1 (owned_ok (enc := intE9) (l := [s.at_]) hM rfl (i := 13) rfl).t (by decide) (fun n hn => by have := List.mem_singleton.1 hn; omega) (hP.below hM.below)))) ?_
        refine R2_next ⟨.inr ⟨rfl, trivial⟩, .inl rfl, trivial⟩ ?_
        refine R2_chain 0 rfl rfl ?_
        refine S_buildSlice 5 5 rfl rfl rfl rfl rfl Tryd.underlying46 inf9 rfl (by decide) (by decide) rfl rfl (by decide) rfl ([[], wdOpen, wdRes, wdIgn].flatMap strE) ?_ ?_
        · rfl
        intro b5
        refine R2_next ⟨.inr ⟨rfl, trivial⟩, .inr ⟨rfl, trivial⟩, trivial⟩ ?_
        refine R2_chain 3 rfl rfl ?_
        refine S_ 8 rfl rfl rfl _ (y_indexOwn 5 rfl rfl rfl rfl Tryd.underlying46 sz9 (fun _ => hj4)) ?_
        refine R2_next ⟨.inl rfl, .inr ⟨rfl, trivial⟩, trivial⟩ ?_
        refine R2_chain 4 rfl rfl ?_
        refine S_ 9 rfl rfl rfl _ (y_loadO1 5 (val := (fun l : List UInt8 => str l)) rfl rfl rfl rfl (fun _ => kw_at hj4) Tryd.underlying9 rfl) ?_
        refine R2_next ⟨.inl rfl, .inr ⟨rfl, trivial⟩, trivial⟩ ?_
        refine R2_chain 5 rfl rfl ?_
        refine S_ 10 rfl rfl rfl _ (y_bin rfl rfl rfl (fun hg => b_adds (by first | omega | (simp only [List.length_append, List.length_cons, List.length_nil]; omega)))) ?_
        refine R2_next ⟨.inl rfl, .inr ⟨rfl, trivial⟩, trivial⟩ ?_
        refine R2_chain 10 rfl rfl ?_
        refine S_ 15 rfl rfl rfl _ (y_bin rfl rfl rfl (fun hg => b_adds (by first | omega | (simp only [List.length_append, List.length_cons, List.length_nil]; omega)))) ?_
        refine R2_next ⟨.inl rfl, .inl rfl, trivial⟩ ?_
        refine R2f_ 11 3 rfl rfl rfl rfl rfl _ trivial (Y.z (y_assign rfl rfl) rfl) ?_
        exact R2_nil (fun a w hF hM => ⟨hF.sub (by exact ⟨rfl, rfl, trivial⟩), hM.sub (by exact ⟨rfl, trivial⟩)⟩)
  refine S_go (fun _ _ h => h) ?_
  refine T_seq ?_
  refine T_seq ?_
  refine T_region ?_
  refine S_ 16 rfl rfl rfl _ (y_fieldAddr rfl rfl fa40_2) ?_
  refine S_ 17 rfl rfl rfl _ (y_load 1 rfl rfl rfl rfl Tryd.underlying9 rfl) ?_
  refine S_ 18 rfl rfl rfl _ (y_bin rfl rfl rfl (fun _ => b_neqs)) ?_
  refine S_go (fun _ _ h => h) ?_
  refine T_cond rfl (fun h18 => ?_) (fun h18 => ?_)
  · skip
    have hi : ¬ s.inn = [] := by simpa using h18
    refine T_seq ?_
    refine T_region ?_
    refine S_ 4 rfl rfl rfl _ (y_assign rfl rfl) ?_
    refine S_go (fun _ _ h => h) ?_
    refine T_seq ?_
    refine T_seq ?_
    refine T_region ?_
    refine S_ 19 rfl rfl rfl _ (y_fieldAddr rfl rfl fa40_3) ?_
    refine S_ 20 rfl rfl rfl _ (y_load 1 rfl rfl rfl rfl Tryd.underlying4 rfl) ?_
    refine S_go (fun _ _ h => h) ?_
    refine T_cond rfl (fun h20 => ?_) (fun h20 => ?_)
    · skip
      have hn : s.nx = true := h20
      refine T_region ?_
      refine S_ 4 rfl rfl rfl _ (y_assign rfl rfl) ?_
      refine S_go (fun _ _ h => h) ?_
      refine T_region ?_
      refine S_ 21 rfl rfl rfl _ (y_move rfl rfl) ?_
      refine S_ 22 rfl rfl rfl _ (y_move rfl rfl) ?_
      refine S_ 23 rfl rfl rfl _ (y_fieldAddr rfl rfl fa40_2) ?_
      refine S_ 24 rfl rfl rfl _ (y_load 1 rfl rfl rfl rfl Tryd.underlying9 rfl) ?_
      refine S_ 25 rfl rfl rfl _ (y_bin rfl rfl rfl (fun hg => b_adds (by first | omega | (simp only [List.length_append, List.length_cons, List.length_nil]; omega)))) ?_
      refine S_ 26 rfl rfl rfl _ (y_bin rfl rfl rfl (fun hg => b_adds (by first | omega | (simp only [List.length_append, List.length_cons, List.length_nil]; omega)))) ?_
      refine S_ 3 rfl rfl rfl _ (y_assign rfl rfl) ?_
      refine S_go (fun _ _ h => h) ?_
      refine T_seq ?_
      refine T_seq ?_
      refine T_region ?_
      refine S_ 27 rfl rfl rfl _ (y_fieldAddr rfl rfl fa40_4) ?_
      refine S_ 28 rfl rfl rfl _ (y_load 1 rfl rfl rfl rfl Tryd.underlying3 rfl) ?_
      refine S_ 29 rfl rfl rfl _ (y_bin rfl rfl rfl (fun _ => b_neq)) ?_
      refine S_go (fun _ _ h => h) ?_
      refine T_cond rfl (fun h29 => ?_) (fun h29 => ?_)
      · skip
        refine T_region ?_
        refine S_ 30 rfl rfl rfl _ (y_move rfl rfl) ?_
        refine S_ 31 rfl rfl rfl _ (y_fieldAddr rfl rfl fa40_4) ?_
        refine S_ 32 rfl rfl rfl _ (y_load 1 rfl rfl rfl rfl Tryd.underlying3 rfl) ?_
        refine S_buildSlice 33 33 rfl rfl rfl rfl rfl Tryd.underlying107 inf3 rfl (by decide) (by decide) rfl rfl (by decide) rfl ([s.till].flatMap intE9) ?_ ?_
        · rfl
        intro b33
        refine S_ 34 rfl rfl rfl _ (y_as (v' := str ([32] ++ Lib.itoa s.till)) (by rw [numsB_one]) (y_call rfl rfl rfl cf25 (fun hg w1 hM => numbers_any _ 1 _ [s.till] w1 (owned_ok (enc := intE9) (l := [s.till]) hM rfl (i := 33) rfl).t (by decide) (fun n hn => by have := List.mem_singleton.1 hn; omega) (hP.below hM.below)))) ?_
        refine S_ 35 rfl rfl rfl _ (y_bin rfl rfl rfl (fun hg => b_adds (by first | omega | (simp only [List.length_append, List.length_cons, List.length_nil]; omega)))) ?_
        refine S_ 36 rfl rfl rfl _ (y_bin rfl rfl rfl (fun hg => b_adds (by first | omega | (simp only [List.length_append, List.length_cons, List.length_nil]; omega)))) ?_
        refine S_ 3 rfl rfl rfl _ (y_assign rfl rfl) ?_
        refine S_go (fun _ _ h => h) ?_
        refine T_seq ?_
        refine T_seq ?_
        refine T_region ?_
        refine S_ 37 rfl rfl rfl _ (y_fieldAddr rfl rfl fa40_5) ?_
        refine S_ 38 rfl rfl rfl _ (y_load 1 rfl rfl rfl rfl Tryd.underlying3 rfl) ?_
        refine S_ 39 rfl rfl rfl _ (y_bin rfl rfl rfl (fun _ => b_neq)) ?_
        refine S_go (fun _ _ h => h) ?_
        refine T_cond rfl (fun h39 => ?_) (fun h39 => ?_)
        · skip
          refine T_region ?_
          refine S_ 40 rfl rfl rfl _ (y_move rfl rfl) ?_
          refine S_ 41 rfl rfl rfl _ (y_fieldAddr rfl rfl fa40_5) ?_
          refine S_ 42 rfl rfl rfl _ (y_load 1 rfl rfl rfl rfl Tryd.underlying3 rfl) ?_
          refine S_buildSlice 43 43 rfl rfl rfl rfl rfl Tryd.underlying107 inf3 rfl (by decide) (by decide) rfl rfl (by decide) rfl ([s.more].flatMap intE9) ?_ ?_
          · rfl
          intro b43
          refine S_ 44 rfl rfl rfl _ (y_as (v' := str ([32] ++ Lib.itoa s.more)) (by rw [numsB_one]) (y_call rfl rfl rfl cf25 (fun hg w1 hM => numbers_any _ 1 _ [s.more] w1 (owned_ok (enc := intE9) (l := [s.more]) hM rfl (i := 43) rfl).t (by decide) (fun n hn => by have := List.mem_singleton.1 hn; omega) (hP.below hM.below)))) ?_
          refine S_ 45 rfl rfl rfl _ (y_bin rfl rfl rfl (fun hg => b_adds (by first | omega | (simp only [List.length_append, List.length_cons, List.length_nil]; omega)))) ?_
          refine S_ 46 rfl rfl rfl _ (y_bin rfl rfl rfl (fun hg => b_adds (by first | omega | (simp only [List.length_append, List.length_cons, List.length_nil]; omega)))) ?_
          refine S_ 3 rfl rfl rfl _ (y_assign rfl rfl) ?_
          refine S_go (fun _ _ h => h) ?_
          refine T_seq ?_
          refine T_seq ?_
          refine T_region ?_
          refine S_ 47 rfl rfl rfl _ (y_fieldAddr rfl rfl fa40_6) ?_
          refine S_ 48 rfl rfl rfl _ (y_load 1 rfl rfl rfl rfl Tryd.underlying3 rfl) ?_
          refine S_ 49 rfl rfl rfl _ (y_bin rfl rfl rfl (fun _ => b_neq)) ?_
          refine S_go (fun _ _ h => h) ?_
          refine T_cond rfl (fun h49 => ?_) (fun h49 => ?_)
          · skip
            refine T_region ?_
            refine S_ 50 rfl rfl rfl _ (y_move rfl rfl) ?_
            refine S_ 51 rfl rfl rfl _ (y_fieldAddr rfl rfl fa40_6) ?_
            refine S_ 52 rfl rfl rfl _ (y_load 1 rfl rfl rfl rfl Tryd.underlying3 rfl) ?_
            refine S_buildSlice 53 53 rfl rfl rfl rfl rfl Tryd.underlying107 inf3 rfl (by decide) (by decide) rfl rfl (by decide) rfl ([s.ppl].flatMap intE9) ?_ ?_
            · rfl
            intro b53
            refine S_ 54 rfl rfl rfl _ (y_as (v' := str ([32] ++ Lib.itoa s.ppl)) (by rw [numsB_one]) (y_call rfl rfl rfl cf25 (fun hg w1 hM => numbers_any _ 1 _ [s.ppl] w1 (owned_ok (enc := intE9) (l := [s.ppl]) hM rfl (i := 53) rfl).t (by decide) (fun n hn => by have := List.mem_singleton.1 hn; omega) (hP.below hM.below)))) ?_
            refine S_ 55 rfl rfl rfl _ (y_bin rfl rfl rfl (fun hg => b_adds (by first | omega | (simp only [List.length_append, List.length_cons, List.length_nil]; omega)))) ?_
            refine S_ 56 rfl rfl rfl _ (y_bin rfl rfl rfl (fun hg => b_adds (by first | omega | (simp only [List.length_append, List.length_cons, List.length_nil]; omega)))) ?_
            refine S_ 3 rfl rfl rfl _ (y_assign rfl rfl) ?_
            refine S_go (fun _ _ h => h) ?_
            refine T_seq ?_
            refine T_seq ?_
            refine T_region ?_
            refine S_ 57 rfl rfl rfl _ (y_fieldAddr rfl rfl fa40_7) ?_
            refine S_ 58 rfl rfl rfl _ (y_load 1 rfl rfl rfl rfl Tryd.underlying3 rfl) ?_
            refine S_ 59 rfl rfl rfl _ (y_bin rfl rfl rfl (fun _ => b_neq)) ?_
            refine S_go (fun _ _ h => h) ?_
            refine T_cond rfl (fun h59 => ?_) (fun h59 => ?_)
            · skip
              refine T_region ?_
              refine S_ 60 rfl rfl rfl _ (y_move rfl rfl) ?_
              refine S_ 61 rfl rfl rfl _ (y_fieldAddr rfl rfl fa40_7) ?_
              refine S_ 62 rfl rfl rfl _ (y_load 1 rfl rfl rfl rfl Tryd.underlying3 rfl) ?_
              refine S_buildSlice 63 63 rfl rfl rfl rfl rfl Tryd.underlying107 inf3 rfl (by decide) (by decide) rfl rfl (by decide) rfl ([s.again].flatMap intE9) ?_ ?_
              · rfl
              intro b63
              refine S_ 64 rfl rfl rfl _ (y_as (v' := str ([32] ++ Lib.itoa s.again)) (by rw [numsB_one]) (y_call rfl rfl rfl cf25 (fun hg w1 hM => numbers_any _ 1 _ [s.again] w1 (owned_ok (enc := intE9) (l := [s.again]) hM rfl (i := 63) rfl).t (by decide) (fun n hn => by have := List.mem_singleton.1 hn; omega) (hP.below hM.below)))) ?_
              refine S_ 65 rfl rfl rfl _ (y_bin rfl rfl rfl (fun hg => b_adds (by first | omega | (simp only [List.length_append, List.length_cons, List.length_nil]; omega)))) ?_
              refine S_ 66 rfl rfl rfl _ (y_bin rfl rfl rfl (fun hg => b_adds (by first | omega | (simp only [List.length_append, List.length_cons, List.length_nil]; omega)))) ?_
              refine S_ 3 rfl rfl rfl _ (y_assign rfl rfl) ?_
              refine S_go (fun _ _ h => h) ?_
              refine T_seq ?_
              refine T_region ?_
              refine S_ 67 rfl rfl rfl _ (y_move rfl rfl) ?_
              refine S_ 2 rfl rfl rfl _ (y_assign rfl rfl) ?_
              refine S_go (fun _ _ h => h) ?_
              refine T_ret (fun a w hF hM => hRb a w (post1 rfl rfl (fun w hM => ?_) a w hF hM))
              exact ⟨by simp only [stTxt, inT, optT, hj, Int.toNat_natCast, h29, h39, h49, h59]; simp [numsB_one, wTill, wMore, wPpl, wAgain, *], hM.below⟩
            · skip
              refine T_skip_go (fun _ _ h => h) ?_
              refine T_seq ?_
              refine T_region ?_
              refine S_ 67 rfl rfl rfl _ (y_move rfl rfl) ?_
              refine S_ 2 rfl rfl rfl _ (y_assign rfl rfl) ?_
              refine S_go (fun _ _ h => h) ?_
              refine T_ret (fun a w hF hM => hRb a w (post1 rfl rfl (fun w hM => ?_) a w hF hM))
              exact ⟨by simp only [stTxt, inT, optT, hj, Int.toNat_natCast, h29, h39, h49, h59]; simp [numsB_one, wTill, wMore, wPpl, wAgain, *], hM.below⟩
          · skip
            refine T_skip_go (fun _ _ h => h) ?_
            refine T_seq ?_
            refine T_seq ?_
            refine T_region ?_
            refine S_ 57 rfl rfl rfl _ (y_fieldAddr rfl rfl fa40_7) ?_
            refine S_ 58 rfl rfl rfl _ (y_load 1 rfl rfl rfl rfl Tryd.underlying3 rfl) ?_
            refine S_ 59 rfl rfl rfl _ (y_bin rfl rfl rfl (fun _ => b_neq)) ?_
            refine S_go (fun _ _ h => h) ?_
            refine T_cond rfl (fun h59 => ?_) (fun h59 => ?_)
            · skip
              refine T_region ?_
              refine S_ 60 rfl rfl rfl _ (y_move rfl rfl) ?_
              refine S_ 61 rfl rfl rfl _ (y_fieldAddr rfl rfl fa40_7) ?_
              refine S_ 62 rfl rfl rfl _ (y_load 1 rfl rfl rfl rfl Tryd.underlying3 rfl) ?_
              refine S_buildSlice 63 63 rfl rfl rfl rfl rfl Tryd.underlying107 inf3 rfl (by decide) (by decide) rfl rfl (by decide) rfl ([s.again].flatMap intE9) ?_ ?_
              · rfl
              intro b63
              refine S_ 64 rfl rfl rfl _ (y_as (v' := str ([32] ++ Lib.itoa s.again)) (by rw [numsB_one]) (y_call rfl rfl rfl cf25 (fun hg w1 hM => numbers_any _ 1 _ [s.again] w1 (owned_ok (enc := intE9) (l := [s.again]) hM rfl (i := 63) rfl).t (by decide) (fun n hn => by have := List.mem_singleton.1 hn; omega) (hP.below hM.below)))) ?_
              refine S_ 65 rfl rfl rfl _ (y_bin rfl rfl rfl (fun hg => b_adds (by first | omega | (simp only [List.length_append, List.length_cons, List.length_nil]; omega)))) ?_
              refine S_ 66 rfl rfl rfl _ (y_bin rfl rfl rfl (fun hg => b_adds (by first | omega | (simp only [List.length_append, List.length_cons, List.length_nil]; omega)))) ?_
              refine S_ 3 rfl rfl rfl _ (y_assign rfl rfl) ?_
              refine S_go (fun _ _ h => h) ?_
              refine T_seq ?_
              refine T_region ?_
              refine S_ 67 rfl rfl rfl _ (y_move rfl rfl) ?_
              refine S_ 2 rfl rfl rfl _ (y_assign rfl rfl) ?_
              refine S_go (fun _ _ h => h) ?_
              refine T_ret (fun a w hF hM => hRb a w (post1 rfl rfl (fun w hM => ?_) a w hF hM))
              exact ⟨by simp only [stTxt, inT, optT, hj, Int.toNat_natCast, h29, h39, h49, h59]; simp [numsB_one, wTill, wMore, wPpl, wAgain, *], hM.below⟩
            · skip
              refine T_skip_go (fun _ _ h => h) ?_
              refine T_seq ?_
              refine T_region ?_
              refine S_ 67 rfl rfl rfl _ (y_move rfl rfl) ?_
              refine S_ 2 rfl rfl rfl _ (y_assign rfl rfl) ?_
              refine S_go (fun _ _ h => h) ?_
              refine T_ret (fun a w hF hM => hRb a w (post1 rfl rfl (fun w hM => ?_) a w hF hM))
              exact ⟨by simp only [stTxt, inT, optT, hj, Int.toNat_natCast, h29, h39, h49, h59]; simp [numsB_one, wTill, wMore, wPpl, wAgain, *], hM.below⟩
        · skip
          refine T_skip_go (fun _ _ h => h) ?_
          refine T_seq ?_
          refine T_seq ?_
          refine T_region ?_
          refine S_ 47 rfl rfl rfl _ (y_fieldAddr rfl rfl fa40_6) ?_
          refine S_ 48 rfl rfl rfl _ (y_load 1 rfl rfl rfl rfl Tryd.underlying3 rfl) ?_
          refine S_ 49 rfl rfl rfl _ (y_bin rfl rfl rfl (fun _ => b_neq)) ?_
          refine S_go (fun _ _ h => h) ?_
          refine T_cond rfl (fun h49 => ?_) (fun h49 => ?_)
          · skip
            refine T_region ?_
            refine S_ 50 rfl rfl rfl _ (y_move rfl rfl) ?_
            refine S_ 51 rfl rfl rfl _ (y_fieldAddr rfl rfl fa40_6) ?_
            refine S_ 52 rfl rfl rfl _ (y_load 1 rfl rfl rfl rfl Tryd.underlying3 rfl) ?_
            refine S_buildSlice 53 53 rfl rfl rfl rfl rfl Tryd.underlying107 inf3 rfl (by decide) (by decide) rfl rfl (by decide) rfl ([s.ppl].flatMap intE9) ?_ ?_
            · rfl
            intro b53
            refine S_ 54 rfl rfl rfl _ (y_as (v' := str ([32] ++ Lib.itoa s.ppl)) (by rw [numsB_one]) (y_call rfl rfl rfl cf25 (fun hg w1 hM => numbers_any _ 1 _ [s.ppl] w1 (owned_ok (enc := intE9) (l := [s.ppl]) hM rfl (i := 53) rfl).t (by decide) (fun n hn => by have := List.mem_singleton.1 hn; omega) (hP.below hM.below)))) ?_
            refine S_ 55 rfl rfl rfl _ (y_bin rfl rfl rfl (fun hg => b_adds (by first | omega | (simp only [List.length_append, List.length_cons, List.length_nil]; omega)))) ?_
            refine S_ 56 rfl rfl rfl _ (y_bin rfl rfl rfl (fun hg => b_adds (by first | omega | (simp only [List.length_append, List.length_cons, List.length_nil]; omega)))) ?_
            refine S_ 3 rfl rfl rfl _ (y_assign rfl rfl) ?_
            refine S_go (fun _ _ h => h) ?_
            refine T_seq ?_
            refine T_seq ?_
            refine T_region ?_
            refine S_ 57 rfl rfl rfl _ (y_fieldAddr rfl rfl fa40_7) ?_
            refine S_ 58 rfl rfl rfl _ (y_load 1 rfl rfl rfl rfl Tryd.underlying3 rfl) ?_
            refine S_ 59 rfl rfl rfl _ (y_bin rfl rfl rfl (fun _ => b_neq)) ?_
            refine S_go (fun _ _ h => h) ?_
            refine T_cond rfl (fun h59 => ?_) (fun h59 => ?_)
            · skip
              refine T_region ?_
              refine S_ 60 rfl rfl rfl _ (y_move rfl rfl) ?_
              refine S_ 61 rfl rfl rfl _ (y_fieldAddr rfl rfl fa40_7) ?_
              refine S_ 62 rfl rfl rfl _ (y_load 1 rfl rfl rfl rfl Tryd.underlying3 rfl) ?_
              refine S_buildSlice 63 63 rfl rfl rfl rfl rfl Tryd.underlying107 inf3 rfl (by decide) (by decide) rfl rfl (by decide) rfl ([s.again].flatMap intE9) ?_ ?_
              · rfl
              intro b63
              refine S_ 64 rfl rfl rfl _ (y_as (v' := str ([32] ++ Lib.itoa s.again)) (by rw [numsB_one]) (y_call rfl rfl rfl cf25 (fun hg w1 hM => numbers_any _ 1 _ [s.again] w1 (owned_ok (enc := intE9) (l := [s.again]) hM rfl (i := 63) rfl).t (by decide) (fun n hn => by have := List.mem_singleton.1 hn; omega) (hP.below hM.below)))) ?_
              refine S_ 65 rfl rfl rfl _ (y_bin rfl rfl rfl (fun hg => b_adds (by first | omega | (simp only [List.length_append, List.length_cons, List.length_nil]; omega)))) ?_
              refine S_ 66 rfl rfl rfl _ (y_bin rfl rfl rfl (fun hg => b_adds (by first | omega | (simp only [List.length_append, List.length_cons, List.length_nil]; omega)))) ?_
              refine S_ 3 rfl rfl rfl _ (y_assign rfl rfl) ?_
              refine S_go (fun _ _ h => h) ?_
              refine T_seq ?_
              refine T_region ?_
              refine S_ 67 rfl rfl rfl _ (y_move rfl rfl) ?_
              refine S_ 2 rfl rfl rfl _ (y_assign rfl rfl) ?_
              refine S_go (fun _ _ h => h) ?_
              refine T_ret (fun a w hF hM => hRb a w (post1 rfl rfl (fun w hM => ?_) a w hF hM))
              exact ⟨by simp only [stTxt, inT, optT, hj, Int.toNat_natCast, h29, h39, h49, h59]; simp [numsB_one, wTill, wMore, wPpl, wAgain, *], hM.below⟩
            · skip
              refine T_skip_go (fun _ _ h => h) ?_
              refine T_seq ?_
              refine T_region ?_
              refine S_ 67 rfl rfl rfl _ (y_move rfl rfl) ?_
              refine S_ 2 rfl rfl rfl _ (y_assign rfl rfl) ?_
              refine S_go (fun _ _ h => h) ?_
              refine T_ret (fun a w hF hM => hRb a w (post1 rfl rfl (fun w hM => ?_) a w hF hM))
              exact ⟨by simp only [stTxt, inT, optT, hj, Int.toNat_natCast, h29, h39, h49, h59]; simp [numsB_one, wTill, wMore, wPpl, wAgain, *], hM.below⟩
          · skip
            refine T_skip_go (fun _ _ h => h) ?_
            refine T_seq ?_
            refine T_seq ?_
            refine T_region ?_
            refine S_ 57 rfl rfl rfl _ (y_fieldAddr rfl rfl fa40_7) ?_
            refine S_ 58 rfl rfl rfl _ (y_load 1 rfl rfl rfl rfl Tryd.underlying3 rfl) ?_
            refine S_ 59 rfl rfl rfl _ (y_bin rfl rfl rfl (fun _ => b_neq)) ?_
            refine S_go (fun _ _ h => h) ?_
            refine T_cond rfl (fun h59 => ?_) (fun h59 => ?_)
            · skip
              refine T_region ?_
              refine S_ 60 rfl rfl rfl _ (y_move rfl rfl) ?_
              refine S_ 61 rfl rfl rfl _ (y_fieldAddr rfl rfl fa40_7) ?_
              refine S_ 62 rfl rfl rfl _ (y_load 1 rfl rfl rfl rfl Tryd.underlying3 rfl) ?_
              refine S_buildSlice 63 63 rfl rfl rfl rfl rfl Tryd.underlying107 inf3 rfl (by decide) (by decide) rfl rfl (by decide) rfl ([s.again].flatMap intE9) ?_ ?_
              · rfl
              intro b63
              refine S_ 64 rfl rfl rfl _ (y_as (v' := str ([32] ++ Lib.itoa s.again)) (by rw [numsB_one]) (y_call rfl rfl rfl cf25 (fun hg w1 hM => numbers_any _ 1 _ [s.again] w1 (owned_ok (enc := intE9) (l := [s.again]) hM rfl (i := 63) rfl).t (by decide) (fun n hn => by have := List.mem_singleton.1 hn; omega) (hP.below hM.below)))) ?_
              refine S_ 65 rfl rfl rfl _ (y_bin rfl rfl rfl (fun hg => b_adds (by first | omega | (simp only [List.length_append, List.length_cons, List.length_nil]; omega)))) ?_
              refine S_ 66 rfl rfl rfl _ (y_bin rfl rfl rfl (fun hg => b_adds (by first | omega | (simp only [List.length_append, List.length_cons, List.length_nil]; omega)))) ?_
              refine S_ 3 rfl rfl rfl _ (y_assign rfl rfl) ?_
              refine S_go (fun _ _ h => h) ?_
              refine T_seq ?_
              refine T_region ?_
              refine S_ 67 rfl rfl rfl _ (y_move rfl rfl) ?_
              refine S_ 2 rfl rfl rfl _ (y_assign rfl rfl) ?_
              refine S_go (fun _ _ h => h) ?_
              refine T_ret (fun a w hF hM => hRb a w (post1 rfl rfl (fun w hM => ?_) a w hF hM))
              exact ⟨by simp only [stTxt, inT, optT, hj, Int.toNat_natCast, h29, h39, h49, h59]; simp [numsB_one, wTill, wMore, wPpl, wAgain, *], hM.below⟩
            · skip
              refine T_skip_go (fun _ _ h => h) ?_
              refine T_seq ?_
              refine T_region ?_
              refine S_ 67 rfl rfl rfl _ (y_move rfl rfl) ?_
              refine S_ 2 rfl rfl rfl _ (y_assign rfl rfl) ?_
              refine S_go (fun _ _ h => h) ?_
              refine T_ret (fun a w hF hM => hRb a w (post1 rfl rfl (fun w hM => ?_) a w hF hM))
              exact ⟨by simp only [stTxt, inT, optT, hj, Int.toNat_natCast, h29, h39, h49, h59]; simp [numsB_one, wTill, wMore, wPpl, wAgain, *], hM.below⟩
      · skip
        refine T_skip_go (fun _ _ h => h) ?_
        refine T_seq ?_
        refine T_seq ?_
        refine T_region ?_
        refine S_ 37 rfl rfl rfl _ (y_fieldAddr rfl rfl fa40_5) ?_
        refine S_ 38 rfl rfl rfl _ (y_load 1 rfl rfl rfl rfl Tryd.underlying3 rfl) ?_
        refine S_ 39 rfl rfl rfl _ (y_bin rfl rfl rfl (fun _ => b_neq)) ?_
        refine S_go (fun _ _ h => h) ?_
        refine T_cond rfl (fun h39 => ?_) (fun h39 => ?_)
        · skip
          refine T_region ?_
          refine S_ 40 rfl rfl rfl _ (y_move rfl rfl) ?_
          refine S_ 41 rfl rfl rfl _ (y_fieldAddr rfl rfl fa40_5) ?_
          refine S_ 42 rfl rfl rfl _ (y_load 1 rfl rfl rfl rfl Tryd.underlying3 rfl) ?_
          refine S_buildSlice 43 43 rfl rfl rfl rfl rfl Tryd.underlying107 inf3 rfl (by decide) (by decide) rfl rfl (by decide) rfl ([s.more].flatMap intE9) ?_ ?_
          · rfl
          intro b43
          refine S_ 44 rfl rfl rfl _ (y_as (v' := str ([32] ++ Lib.itoa s.more)) (by rw [numsB_one]) (y_call rfl rfl rfl cf25 (fun hg w1 hM => numbers_any _ 1 _ [s.more] w1 (owned_ok (enc := intE9) (l := [s.more]) hM rfl (i := 43) rfl).t (by decide) (fun n hn => by have := List.mem_singleton.1 hn; omega) (hP.below hM.below)))) ?_
          refine S_ 45 rfl rfl rfl _ (y_bin rfl rfl rfl (fun hg => b_adds (by first | omega | (simp only [List.length_append, List.length_cons, List.length_nil]; omega)))) ?_
          refine S_ 46 rfl rfl rfl _ (y_bin rfl rfl rfl (fun hg => b_adds (by first | omega | (simp only [List.length_append, List.length_cons, List.length_nil]; omega)))) ?_
          refine S_ 3 rfl rfl rfl _ (y_assign rfl rfl) ?_
          refine S_go (fun _ _ h => h) ?_
          refine T_seq ?_
          refine T_seq ?_
          refine T_region ?_
          refine S_ 47 rfl rfl rfl _ (y_fieldAddr rfl rfl fa40_6) ?_
          refine S_ 48 rfl rfl rfl _ (y_load 1 rfl rfl rfl rfl Tryd.underlying3 rfl) ?_
          refine S_ 49 rfl rfl rfl _ (y_bin rfl rfl rfl (fun _ => b_neq)) ?_
          refine S_go (fun _ _ h => h) ?_
          refine T_cond rfl (fun h49 => ?_) (fun h49 => ?_)
          · skip
            refine T_region ?_
            refine S_ 50 rfl rfl rfl _ (y_move rfl rfl) ?_
            refine S_ 51 rfl rfl rfl _ (y_fieldAddr rfl rfl fa40_6) ?_
            refine S_ 52 rfl rfl rfl _ (y_load 1 rfl rfl rfl rfl Tryd.underlying3 rfl) ?_
            refine S_buildSlice 53 53 rfl rfl rfl rfl rfl Tryd.underlying107 inf3 rfl (by decide) (by decide) rfl rfl (by decide) rfl ([s.ppl].flatMap intE9) ?_ ?_
            · rfl
            intro b53
            refine S_ 54 rfl rfl rfl _ (y_as (v' := str ([32] ++ Lib.itoa s.ppl)) (by rw [numsB_one]) (y_call rfl rfl rfl cf25 (fun hg w1 hM => numbers_any _ 1 _ [s.ppl] w1 (owned_ok (enc := intE9) (l := [s.ppl]) hM rfl (i := 53) rfl).t (by decide) (fun n hn => by have := List.mem_singleton.1 hn; omega) (hP.below hM.below)))) ?_
            refine S_ 55 rfl rfl rfl _ (y_bin rfl rfl rfl (fun hg => b_adds (by first | omega | (simp only [List.length_append, List.length_cons, List.length_nil]; omega)))) ?_
            refine S_ 56 rfl rfl rfl _ (y_bin rfl rfl rfl (fun hg => b_adds (by first | omega | (simp only [List.length_append, List.length_cons, List.length_nil]; omega)))) ?_
            refine S_ 3 rfl rfl rfl _ (y_assign rfl rfl) ?_
            refine S_go (fun _ _ h => h) ?_
            refine T_seq ?_
            refine T_seq ?_
            refine T_region ?_
            refine S_ 57 rfl rfl rfl _ (y_fieldAddr rfl rfl fa40_7) ?_
            refine S_ 58 rfl rfl rfl _ (y_load 1 rfl rfl rfl rfl Tryd.underlying3 rfl) ?_
            refine S_ 59 rfl rfl rfl _ (y_bin rfl rfl rfl (fun _ => b_neq)) ?_
            refine S_go (fun _ _ h => h) ?_
            refine T_cond rfl (fun h59 => ?_) (fun h59 => ?_)
            · skip
              refine T_region ?_
              refine S_ 60 rfl rfl rfl _ (y_move rfl rfl) ?_
              refine S_ 61 rfl rfl rfl _ (y_fieldAddr rfl rfl fa40_7) ?_
              refine S_ 62 rfl rfl rfl _ (y_load 1 rfl rfl rfl rfl Tryd.underlying3 rfl) ?_
              refine S_buildSlice 63 63 rfl rfl rfl rfl rfl Tryd.underlying107 inf3 rfl (by decide) (by decide) rfl rfl (by decide) rfl ([s.again].flatMap intE9) ?_ ?_
              · rfl
              intro b63
              refine S_ 64 rfl rfl rfl _ (y_as (v' := str ([32] ++ Lib.itoa s.again)) (by rw [numsB_one]) (y_call rfl rfl rfl cf25 (fun hg w1 hM => numbers_any _ 1 _ [s.again] w1 (owned_ok (enc := intE9) (l := [s.again]) hM rfl (i := 63) rfl).t (by decide) (fun n hn => by have := List.mem_singleton.1 hn; omega) (hP.below hM.below)))) ?_
              refine S_ 65 rfl rfl rfl _ (y_bin rfl rfl rfl (fun hg => b_adds (by first | omega | (simp only [List.length_append, List.length_cons, List.length_nil]; omega)))) ?_
              refine S_ 66 rfl rfl rfl _ (y_bin rfl rfl rfl (fun hg => b_adds (by first | omega | (simp only [List.length_append, List.length_cons, List.length_nil]; omega)))) ?_
              refine S_ 3 rfl rfl rfl _ (y_assign rfl rfl) ?_
              refine S_go (fun _ _ h => h) ?_
              refine T_seq ?_
              refine T_region ?_
              refine S_ 67 rfl rfl rfl _ (y_move rfl rfl) ?_
              refine S_ 2 rfl rfl rfl _ (y_assign rfl rfl) ?_
              refine S_go (fun _ _ h => h) ?_
              refine T_ret (fun a w hF hM => hRb a w (post1 rfl rfl (fun w hM => ?_) a w hF hM))
              exact ⟨by simp only [stTxt, inT, optT, hj, Int.toNat_natCast, h29, h39, h49, h59]; simp [numsB_one, wTill, wMore, wPpl, wAgain, *], hM.below⟩
            · skip
              refine T_skip_go (fun _ _ h => h) ?_
              refine T_seq ?_
              refine T_region ?_
              refine S_ 67 rfl rfl rfl _ (y_move rfl rfl) ?_
              refine S_ 2 rfl rfl rfl _ (y_assign rfl rfl) ?_
              refine S_go (fun _ _ h => h) ?_
              refine T_ret (fun a w hF hM => hRb a w (post1 rfl rfl (fun w hM => ?_) a w hF hM))
              exact ⟨by simp only [stTxt, inT, optT, hj, Int.toNat_natCast, h29, h39, h49, h59]; simp [numsB_one, wTill, wMore, wPpl, wAgain, *], hM.below⟩
          · skip
            refine T_skip_go (fun _ _ h => h) ?_
            refine T_seq ?_
            refine T_seq ?_
            refine T_region ?_
            refine S_ 57 rfl rfl rfl _ (y_fieldAddr rfl rfl fa40_7) ?_
            refine S_ 58 rfl rfl rfl _ (y_load 1 rfl rfl rfl rfl Tryd.underlying3 rfl) ?_
            refine S_ 59 rfl rfl rfl _ (y_bin rfl rfl rfl (fun _ => b_neq)) ?_
            refine S_go (fun _ _ h => h) ?_
            refine T_cond rfl (fun h59 => ?_) (fun h59 => ?_)
            · skip
              refine T_region ?_
              refine S_ 60 rfl rfl rfl _ (y_move rfl rfl) ?_
              refine S_ 61 rfl rfl rfl _ (y_fieldAddr rfl rfl fa40_7) ?_
              refine S_ 62 rfl rfl rfl _ (y_load 1 rfl rfl rfl rfl Tryd.underlying3 rfl) ?_
              refine S_buildSlice 63 63 rfl rfl rfl rfl rfl Tryd.underlying107 inf3 rfl (by decide) (by decide) rfl rfl (by decide) rfl ([s.again].flatMap intE9) ?_ ?_
              · rfl
              intro b63
              refine S_ 64 rfl rfl rfl _ (y_as (v' := str ([32] ++ Lib.itoa s.again)) (by rw [numsB_one]) (y_call rfl rfl rfl cf25 (fun hg w1 hM => numbers_any _ 1 _ [s.again] w1 (owned_ok (enc := intE9) (l := [s.again]) hM rfl (i := 63) rfl).t (by decide) (fun n hn => by have := List.mem_singleton.1 hn; omega) (hP.below hM.below)))) ?_
              refine S_ 65 rfl rfl rfl _ (y_bin rfl rfl rfl (fun hg => b_adds (by first | omega | (simp only [List.length_append, List.length_cons, List.length_nil]; omega)))) ?_
              refine S_ 66 rfl rfl rfl _ (y_bin rfl rfl rfl (fun hg => b_adds (by first | omega | (simp only [List.length_append, List.length_cons, List.length_nil]; omega)))) ?_
              refine S_ 3 rfl rfl rfl _ (y_assign rfl rfl) ?_
              refine S_go (fun _ _ h => h) ?_
              refine T_seq ?_
              refine T_region ?_
              refine S_ 67 rfl rfl rfl _ (y_move rfl rfl) ?_
              refine S_ 2 rfl rfl rfl _ (y_assign rfl rfl) ?_
              refine S_go (fun _ _ h => h) ?_
              refine T_ret (fun a w hF hM => hRb a w (post1 rfl rfl (fun w hM => ?_) a w hF hM))
              exact ⟨by simp only [stTxt, inT, optT, hj, Int.toNat_natCast, h29, h39, h49, h59]; simp [numsB_one, wTill, wMore, wPpl, wAgain, *], hM.below⟩
            · skip
              refine T_skip_go (fun _ _ h => h) ?_
              refine T_seq ?_
              refine T_region ?_
              refine S_ 67 rfl rfl rfl _ (y_move rfl rfl) ?_
              refine S_ 2 rfl rfl rfl _ (y_assign rfl rfl) ?_
              refine S_go (fun _ _ h => h) ?_
              refine T_ret (fun a w hF hM => hRb a w (post1 rfl rfl (fun w hM => ?_) a w hF hM))
              exact ⟨by simp only [stTxt, inT, optT, hj, Int.toNat_natCast, h29, h39, h49, h59]; simp [numsB_one, wTill, wMore, wPpl, wAgain, *], hM.below⟩
        · skip
          refine T_skip_go (fun _ _ h => h) ?_
          refine T_seq ?_
          refine T_seq ?_
          refine T_region ?_
          refine S_ 47 rfl rfl rfl _ (y_fieldAddr rfl rfl fa40_6) ?_
          refine S_ 48 rfl rfl rfl _ (y_load 1 rfl rfl rfl rfl Tryd.underlying3 rfl) ?_
          refine S_ 49 rfl rfl rfl _ (y_bin rfl rfl rfl (fun _ => b_neq)) ?_
          refine S_go (fun _ _ h => h) ?_
          refine T_cond rfl (fun h49 => ?_) (fun h49 => ?_)
          · skip
            refine T_region ?_
            refine S_ 50 rfl rfl rfl _ (y_move rfl rfl) ?_
            refine S_ 51 rfl rfl rfl _ (y_fieldAddr rfl rfl fa40_6) ?_
            refine S_ 52 rfl rfl rfl _ (y_load 1 rfl rfl rfl rfl Tryd.underlying3 rfl) ?_
            refine S_buildSlice 53 53 rfl rfl rfl rfl rfl Tryd.underlying107 inf3 rfl (by decide) (by decide) rfl rfl (by decide) rfl ([s.ppl].flatMap intE9) ?_ ?_
            · rfl
            intro b53
            refine S_ 54 rfl rfl rfl _ (y_as (v' := str ([32] ++ Lib.itoa s.ppl)) (by rw [numsB_one]) (y_call rfl rfl rfl cf25 (fun hg w1 hM => numbers_any _ 1 _ [s.ppl] w1 (owned_ok (enc := intE9) (l := [s.ppl]) hM rfl (i := 53) rfl).t (by decide) (fun n hn => by have := List.mem_singleton.1 hn; omega) (hP.below hM.below)))) ?_
            refine S_ 55 rfl rfl rfl _ (y_bin rfl rfl rfl (fun hg => b_adds (by first | omega | (simp only [List.length_append, List.length_cons, List.length_nil]; omega)))) ?_
            refine S_ 56 rfl rfl rfl _ (y_bin rfl rfl rfl (fun hg => b_adds (by first | omega | (simp only [List.length_append, List.length_cons, List.length_nil]; omega)))) ?_
            refine S_ 3 rfl rfl rfl _ (y_assign rfl rfl) ?_
            refine S_go (fun _ _ h => h) ?_
            refine T_seq ?_
            refine T_seq ?_
            refine T_region ?_
            refine S_ 57 rfl rfl rfl _ (y_fieldAddr rfl rfl fa40_7) ?_
            refine S_ 58 rfl rfl rfl _ (y_load 1 rfl rfl rfl rfl Tryd.underlying3 rfl) ?_
            refine S_ 59 rfl rfl rfl _ (y_bin rfl rfl rfl (fun _ => b_neq)) ?_
            refine S_go (fun _ _ h => h) ?_
            refine T_cond rfl (fun h59 => ?_) (fun h59 => ?_)
            · skip
              refine T_region ?_
              refine S_ 60 rfl rfl rfl _ (y_move rfl rfl) ?_
              refine S_ 61 rfl rfl rfl _ (y_fieldAddr rfl rfl fa40_7) ?_
              refine S_ 62 rfl rfl rfl _ (y_load 1 rfl rfl rfl rfl Tryd.underlying3 rfl) ?_
              refine S_buildSlice 63 63 rfl rfl rfl rfl rfl Tryd.underlying107 inf3 rfl (by decide) (by decide) rfl rfl (by decide) rfl ([s.again].flatMap intE9) ?_ ?_
              · rfl
              intro b63
              refine S_ 64 rfl rfl rfl _ (y_as (v' := str ([32] ++ Lib.itoa s.again)) (by rw [numsB_one]) (y_call rfl rfl rfl cf25 (fun hg w1 hM => numbers_any _ 1 _ [s.again] w1 (owned_ok (enc := intE9) (l := [s.again]) hM rfl (i := 63) rfl).t (by decide) (fun n hn => by have := List.mem_singleton.1 hn; omega) (hP.below hM.below)))) ?_
              refine S_ 65 rfl rfl rfl _ (y_bin rfl rfl rfl (fun hg => b_adds (by first | omega | (simp only [List.length_append, List.length_cons, List.length_nil]; omega)))) ?_
              refine S_ 66 rfl rfl rfl _ (y_bin rfl rfl rfl (fun hg => b_adds (by first | omega | (simp only [List.length_append, List.length_cons, List.length_nil]; omega)))) ?_
              refine S_ 3 rfl rfl rfl _ (y_assign rfl rfl) ?_
              refine S_go (fun _ _ h => h) ?_
              refine T_seq ?_
              refine T_region ?_
              refine S_ 67 rfl rfl rfl _ (y_move rfl rfl) ?_
              refine S_ 2 rfl rfl rfl _ (y_assign rfl rfl) ?_
              refine S_go (fun _ _ h => h) ?_
              refine T_ret (fun a w hF hM => hRb a w (post1 rfl rfl (fun w hM => ?_) a w hF hM))
              exact ⟨by simp only [stTxt, inT, optT, hj, Int.toNat_natCast, h29, h39, h49, h59]; simp [numsB_one, wTill, wMore, wPpl, wAgain, *], hM.below⟩
            · skip
              refine T_skip_go (fun _ _ h => h) ?_
              refine T_seq ?_
              refine T_region ?_
              refine S_ 67 rfl rfl rfl _ (y_move rfl rfl) ?_
              refine S_ 2 rfl rfl rfl _ (y_assign rfl rfl) ?_
              refine S_go (fun _ _ h => h) ?_
              refine T_ret (fun a w hF hM => hRb a w (post1 rfl rfl (fun w hM => ?_) a w hF hM))
              exact ⟨by simp only [stTxt, inT, optT, hj, Int.toNat_natCast, h29, h39, h49, h59]; simp [numsB_one, wTill, wMore, wPpl, wAgain, *], hM.below⟩
          · skip
            refine T_skip_go (fun _ _ h => h) ?_
            refine T_seq ?_
            refine T_seq ?_
            refine T_region ?_
            refine S_ 57 rfl rfl rfl _ (y_fieldAddr rfl rfl fa40_7) ?_
            refine S_ 58 rfl rfl rfl _ (y_load 1 rfl rfl rfl rfl Tryd.underlying3 rfl) ?_
            refine S_ 59 rfl rfl rfl _ (y_bin rfl rfl rfl (fun _ => b_neq)) ?_
            refine S_go (fun _ _ h => h) ?_
            refine T_cond rfl (fun h59 => ?_) (fun h59 => ?_)
            · skip
              refine T_region ?_
              refine S_ 60 rfl rfl rfl _ (y_move rfl rfl) ?_
              refine S_ 61 rfl rfl rfl _ (y_fieldAddr rfl rfl fa40_7) ?_
              refine S_ 62 rfl rfl rfl _ (y_load 1 rfl rfl rfl rfl Tryd.underlying3 rfl) ?_
              refine S_buildSlice 63 63 rfl rfl rfl rfl rfl Tryd.underlying107 inf3 rfl (by decide) (by decide) rfl rfl (by decide) rfl ([s.again].flatMap intE9) ?_ ?_
              · rfl
              intro b63
              refine S_ 64 rfl rfl rfl _ (y_as (v' := str ([32] ++ Lib.itoa s.again)) (by rw [numsB_one]) (y_call rfl rfl rfl cf25 (fun hg w1 hM => numbers_any _ 1 _ [s.again] w1 (owned_ok (enc := intE9) (l := [s.again]) hM rfl (i := 63) rfl).t (by decide) (fun n hn => by have := List.mem_singleton.1 hn; omega) (hP.below hM.below)))) ?_
              refine S_ 65 rfl rfl rfl _ (y_bin rfl rfl rfl (fun hg => b_adds (by first | omega | (simp only [List.length_append, List.length_cons, List.length_nil]; omega)))) ?_
              refine S_ 66 rfl rfl rfl _ (y_bin rfl rfl rfl (fun hg => b_adds (by first | omega | (simp only [List.length_append, List.length_cons, List.length_nil]; omega)))) ?_
              refine S_ 3 rfl rfl rfl _ (y_assign rfl rfl) ?_
              refine S_go (fun _ _ h => h) ?_
              refine T_seq ?_
              refine T_region ?_
              refine S_ 67 rfl rfl rfl _ (y_move rfl rfl) ?_
              refine S_ 2 rfl rfl rfl _ (y_assign rfl rfl) ?_
              refine S_go (fun _ _ h => h) ?_
              refine T_ret (fun a w hF hM => hRb a w (post1 rfl rfl (fun w hM => ?_) a w hF hM))
              exact ⟨by simp only [stTxt, inT, optT, hj, Int.toNat_natCast, h29, h39, h49, h59]; simp [numsB_one, wTill, wMore, wPpl, wAgain, *], hM.below⟩
            · skip
              refine T_skip_go (fun _ _ h => h) ?_
              refine T_seq ?_
              refine T_region ?_
              refine S_ 67 rfl rfl rfl _ (y_move rfl rfl) ?_
              refine S_ 2 rfl rfl rfl _ (y_assign rfl rfl) ?_
              refine S_go (fun _ _ h => h) ?_
              refine T_ret (fun a w hF hM => hRb a w (post1 rfl rfl (fun w hM => ?_) a w hF hM))
              exact ⟨by simp only [stTxt, inT, optT, hj, Int.toNat_natCast, h29, h39, h49, h59]; simp [numsB_one, wTill, wMore, wPpl, wAgain, *], hM.below⟩
    · skip
      have hn : s.nx = false := h20
      refine T_skip_go (fun _ _ h => h) ?_
      refine T_region ?_
      refine S_ 21 rfl rfl rfl _ (y_move rfl rfl) ?_
      refine S_ 22 rfl rfl rfl _ (y_move rfl rfl) ?_
      refine S_ 23 rfl rfl rfl _ (y_fieldAddr rfl rfl fa40_2) ?_
      refine S_ 24 rfl rfl rfl _ (y_load 1 rfl rfl rfl rfl Tryd.underlying9 rfl) ?_
      refine S_ 25 rfl rfl rfl _ (y_bin rfl rfl rfl (fun hg => b_adds (by first | omega | (simp only [List.length_append, List.length_cons, List.length_nil]; omega)))) ?_
      refine S_ 26 rfl rfl rfl _ (y_bin rfl rfl rfl (fun hg => b_adds (by first | omega | (simp only [List.length_append, List.length_cons, List.length_nil]; omega)))) ?_
      refine S_ 3 rfl rfl rfl _ (y_assign rfl rfl) ?_
      refine S_go (fun _ _ h => h) ?_
      refine T_seq ?_
      refine T_seq ?_
      refine T_region ?_
      refine S_ 27 rfl rfl rfl _ (y_fieldAddr rfl rfl fa40_4) ?_
      refine S_ 28 rfl rfl rfl _ (y_load 1 rfl rfl rfl rfl Tryd.underlying3 rfl) ?_
      refine S_ 29 rfl rfl rfl _ (y_bin rfl rfl rfl (fun _ => b_neq)) ?_
      refine S_go (fun _ _ h => h) ?_
      refine T_cond rfl (fun h29 => ?_) (fun h29 => ?_)
      · skip
        refine T_region ?_
        refine S_ 30 rfl rfl rfl _ (y_move rfl rfl) ?_
        refine S_ 31 rfl rfl rfl _ (y_fieldAddr rfl rfl fa40_4) ?_
        refine S_ 32 rfl rfl rfl _ (y_load 1 rfl rfl rfl rfl Tryd.underlying3 rfl) ?_
        refine S_buildSlice 33 33 rfl rfl rfl rfl rfl Tryd.underlying107 inf3 rfl (by decide) (by decide) rfl rfl (by decide) rfl ([s.till].flatMap intE9) ?_ ?_
        · rfl
        intro b33
        refine S_ 34 rfl rfl rfl _ (y_as (v' := str ([32] ++ Lib.itoa s.till)) (by rw [numsB_one]) (y_call rfl rfl rfl cf25 (fun hg w1 hM => numbers_any _ 1 _ [s.till] w1 (owned_ok (enc := intE9) (l := [s.till]) hM rfl (i := 33) rfl).t (by decide) (fun n hn => by have := List.mem_singleton.1 hn; omega) (hP.below hM.below)))) ?_
        refine S_ 35 rfl rfl rfl _ (y_bin rfl rfl rfl (fun hg => b_adds (by first | omega | (simp only [List.length_append, List.length_cons, List.length_nil]; omega)))) ?_
        refine S_ 36 rfl rfl rfl _ (y_bin rfl rfl rfl (fun hg => b_adds (by first | omega | (simp only [List.length_append, List.length_cons, List.length_nil]; omega)))) ?_
        refine S_ 3 rfl rfl rfl _ (y_assign rfl rfl) ?_
        refine S_go (fun _ _ h => h) ?_
        refine T_seq ?_
        refine T_seq ?_
        refine T_region ?_
        refine S_ 37 rfl rfl rfl _ (y_fieldAddr rfl rfl fa40_5) ?_
        refine S_ 38 rfl rfl rfl _ (y_load 1 rfl rfl rfl rfl Tryd.underlying3 rfl) ?_
        refine S_ 39 rfl rfl rfl _ (y_bin rfl rfl rfl (fun _ => b_neq)) ?_
        refine S_go (fun _ _ h => h) ?_
        refine T_cond rfl (fun h39 => ?_) (fun h39 => ?_)
        · skip
          refine T_region ?_
          refine S_ 40 rfl rfl rfl _ (y_move rfl rfl) ?_
          refine S_ 41 rfl rfl rfl _ (y_fieldAddr rfl rfl fa40_5) ?_
          refine S_ 42 rfl rfl rfl _ (y_load 1 rfl rfl rfl rfl Tryd.underlying3 rfl) ?_
          refine S_buildSlice 43 43 rfl rfl rfl rfl rfl Tryd.underlying107 inf3 rfl (by decide) (by decide) rfl rfl (by decide) rfl ([s.more].flatMap intE9) ?_ ?_
          · rfl
          intro b43
          refine S_ 44 rfl rfl rfl _ (y_as (v' := str ([32] ++ Lib.itoa s.more)) (by rw [numsB_one]) (y_call rfl rfl rfl cf25 (fun hg w1 hM => numbers_any _ 1 _ [s.more] w1 (owned_ok (enc := intE9) (l := [s.more]) hM rfl (i := 43) rfl).t (by decide) (fun n hn => by have := List.mem_singleton.1 hn; omega) (hP.below hM.below)))) ?_
          refine S_ 45 rfl rfl rfl _ (y_bin rfl rfl rfl (fun hg => b_adds (by first | omega | (simp only [List.length_append, List.length_cons, List.length_nil]; omega)))) ?_
          refine S_ 46 rfl rfl rfl _ (y_bin rfl rfl rfl (fun hg => b_adds (by first | omega | (simp only [List.length_append, List.length_cons, List.length_nil]; omega)))) ?_
          refine S_ 3 rfl rfl rfl _ (y_assign rfl rfl) ?_
          refine S_go (fun _ _ h => h) ?_
          refine T_seq ?_
          refine T_seq ?_
          refine T_region ?_
          refine S_ 47 rfl rfl rfl _ (y_fieldAddr rfl rfl fa40_6) ?_
          refine S_ 48 rfl rfl rfl _ (y_load 1 rfl rfl rfl rfl Tryd.underlying3 rfl) ?_
          refine S_ 49 rfl rfl rfl _ (y_bin rfl rfl rfl (fun _ => b_neq)) ?_
          refine S_go (fun _ _ h => h) ?_
          refine T_cond rfl (fun h49 => ?_) (fun h49 => ?_)
          · skip
            refine T_region ?_
            refine S_ 50 rfl rfl rfl _ (y_move rfl rfl) ?_
            refine S_ 51 rfl rfl rfl _ (y_fieldAddr rfl rfl fa40_6) ?_
            refine S_ 52 rfl rfl rfl _ (y_load 1 rfl rfl rfl rfl Tryd.underlying3 rfl) ?_
            refine S_buildSlice 53 53 rfl rfl rfl rfl rfl Tryd.underlying107 inf3 rfl (by decide) (by decide) rfl rfl (by decide) rfl ([s.ppl].flatMap intE9) ?_ ?_
            · rfl
            intro b53
            refine S_ 54 rfl rfl rfl _ (y_as (v' := str ([32] ++ Lib.itoa s.ppl)) (by rw [numsB_one]) (y_call rfl rfl rfl cf25 (fun hg w1 hM => numbers_any _ 1 _ [s.ppl] w1 (owned_ok (enc := intE9) (l := [s.ppl]) hM rfl (i := 53) rfl).t (by decide) (fun n hn => by have := List.mem_singleton.1 hn; omega) (hP.below hM.below)))) ?_
            refine S_ 55 rfl rfl rfl _ (y_bin rfl rfl rfl (fun hg => b_adds (by first | omega | (simp only [List.length_append, List.length_cons, List.length_nil]; omega)))) ?_
            refine S_ 56 rfl rfl rfl _ (y_bin rfl rfl rfl (fun hg => b_adds (by first | omega | (simp only [List.length_append, List.length_cons, List.length_nil]; omega)))) ?_
            refine S_ 3 rfl rfl rfl _ (y_assign rfl rfl) ?_
            refine S_go (fun _ _ h => h) ?_
            refine T_seq ?_
            refine T_seq ?_
            refine T_region ?_
            refine S_ 57 rfl rfl rfl _ (y_fieldAddr rfl rfl fa40_7) ?_
            refine S_ 58 rfl rfl rfl _ (y_load 1 rfl rfl rfl rfl Tryd.underlying3 rfl) ?_
            refine S_ 59 rfl rfl rfl _ (y_bin rfl rfl rfl (fun _ => b_neq)) ?_
            refine S_go (fun _ _ h => h) ?_
            refine T_cond rfl (fun h59 => ?_) (fun h59 => ?_)
            · skip
              refine T_region ?_
              refine S_ 60 rfl rfl rfl _ (y_move rfl rfl) ?_
              refine S_ 61 rfl rfl rfl _ (y_fieldAddr rfl rfl fa40_7) ?_
              refine S_ 62 rfl rfl rfl _ (y_load 1 rfl rfl rfl rfl Tryd.underlying3 rfl) ?_
              refine S_buildSlice 63 63 rfl rfl rfl rfl rfl Tryd.underlying107 inf3 rfl (by decide) (by decide) rfl rfl (by decide) rfl ([s.again].flatMap intE9) ?_ ?_
              · rfl
              intro b63
              refine S_ 64 rfl rfl rfl _ (y_as (v' := str ([32] ++ Lib.itoa s.again)) (by rw [numsB_one]) (y_call rfl rfl rfl cf25 (fun hg w1 hM => numbers_any _ 1 _ [s.again] w1 (owned_ok (enc := intE9) (l := [s.again]) hM rfl (i := 63) rfl).t (by decide) (fun n hn => by have := List.mem_singleton.1 hn; omega) (hP.below hM.below)))) ?_
              refine S_ 65 rfl rfl rfl _ (y_bin rfl rfl rfl (fun hg => b_adds (by first | omega | (simp only [List.length_append, List.length_cons, List.length_nil]; omega)))) ?_
              refine S_ 66 rfl rfl rfl _ (y_bin rfl rfl rfl (fun hg => b_adds (by first | omega | (simp only [List.length_append, List.length_cons, List.length_nil]; omega)))) ?_
              refine S_ 3 rfl rfl rfl _ (y_assign rfl rfl) ?_
              refine S_go (fun _ _ h => h) ?_
              refine T_seq ?_
              refine T_region ?_
              refine S_ 67 rfl rfl rfl _ (y_move rfl rfl) ?_
              refine S_ 2 rfl rfl rfl _ (y_assign rfl rfl) ?_
              refine S_go (fun _ _ h => h) ?_
              refine T_ret (fun a w hF hM => hRb a w (post1 rfl rfl (fun w hM => ?_) a w hF hM))
              exact ⟨by simp only [stTxt, inT, optT, hj, Int.toNat_natCast, h29, h39, h49, h59]; simp [numsB_one, wTill, wMore, wPpl, wAgain, *], hM.below⟩
            · skip
              refine T_skip_go (fun _ _ h => h) ?_
              refine T_seq ?_
              refine T_region ?_
              refine S_ 67 rfl rfl rfl _ (y_move rfl rfl) ?_
              refine S_ 2 rfl rfl rfl _ (y_assign rfl rfl) ?_
              refine S_go (fun _ _ h => h) ?_
              refine T_ret (fun a w hF hM => hRb a w (post1 rfl rfl (fun w hM => ?_) a w hF hM))
              exact ⟨by simp only [stTxt, inT, optT, hj, Int.toNat_natCast, h29, h39, h49, h59]; simp [numsB_one, wTill, wMore, wPpl, wAgain, *], hM.below⟩
          · skip
            refine T_skip_go (fun _ _ h => h) ?_
            refine T_seq ?_
            refine T_seq ?_
            refine T_region ?_
            refine S_ 57 rfl rfl rfl _ (y_fieldAddr rfl rfl fa40_7) ?_
            refine S_ 58 rfl rfl rfl _ (y_load 1 rfl rfl rfl rfl Tryd.underlying3 rfl) ?_
            refine S_ 59 rfl rfl rfl _ (y_bin rfl rfl rfl (fun _ => b_neq)) ?_
            refine S_go (fun _ _ h => h) ?_
            refine T_cond rfl (fun h59 => ?_) (fun h59 => ?_)
            · skip
              refine T_region ?_
              refine S_ 60 rfl rfl rfl _ (y_move rfl rfl) ?_
              refine S_ 61 rfl rfl rfl _ (y_fieldAddr rfl rfl fa40_7) ?_
              refine S_ 62 rfl rfl rfl _ (y_load 1 rfl rfl rfl rfl Tryd.underlying3 rfl) ?_
              refine S_buildSlice 63 63 rfl rfl rfl rfl rfl Tryd.underlying107 inf3 rfl (by decide) (by decide) rfl rfl (by decide) rfl ([s.again].flatMap intE9) ?_ ?_
              · rfl
              intro b63
              refine S_ 64 rfl rfl rfl _ (y_as (v' := str ([32] ++ Lib.itoa s.again)) (by rw [numsB_one]) (y_call rfl rfl rfl cf25 (fun hg w1 hM => numbers_any _ 1 _ [s.again] w1 (owned_ok (enc := intE9) (l := [s.again]) hM rfl (i := 63) rfl).t (by decide) (fun n hn => by have := List.mem_singleton.1 hn; omega) (hP.below hM.below)))) ?_
              refine S_ 65 rfl rfl rfl _ (y_bin rfl rfl rfl (fun hg => b_adds (by first | omega | (simp only [List.length_append, List.length_cons, List.length_nil]; omega)))) ?_
              refine S_ 66 rfl rfl rfl _ (y_bin rfl rfl rfl (fun hg => b_adds (by first | omega | (simp only [List.length_append, List.length_cons, List.length_nil]; omega)))) ?_
              refine S_ 3 rfl rfl rfl _ (y_assign rfl rfl) ?_
              refine S_go (fun _ _ h => h) ?_
              refine T_seq ?_
              refine T_region ?_
              refine S_ 67 rfl rfl rfl _ (y_move rfl rfl) ?_
              refine S_ 2 rfl rfl rfl _ (y_assign rfl rfl) ?_
              refine S_go (fun _ _ h => h) ?_
              refine T_ret (fun a w hF hM => hRb a w (post1 rfl rfl (fun w hM => ?_) a w hF hM))
              exact ⟨by simp only [stTxt, inT, optT, hj, Int.toNat_natCast, h29, h39, h49, h59]; simp [numsB_one, wTill, wMore, wPpl, wAgain, *], hM.below⟩
            · skip
              refine T_skip_go (fun _ _ h => h) ?_
              refine T_seq ?_
              refine T_region ?_
              refine S_ 67 rfl rfl rfl _ (y_move rfl rfl) ?_
              refine S_ 2 rfl rfl rfl _ (y_assign rfl rfl) ?_
              refine S_go (fun _ _ h => h) ?_
              refine T_ret (fun a w hF hM => hRb a w (post1 rfl rfl (fun w hM => ?_) a w hF hM))
              exact ⟨by simp only [stTxt, inT, optT, hj, Int.toNat_natCast, h29, h39, h49, h59]; simp [numsB_one, wTill, wMore, wPpl, wAgain, *], hM.below⟩
        · skip
          refine T_skip_go (fun _ _ h => h) ?_
          refine T_seq ?_
          refine T_seq ?_
          refine T_region ?_
          refine S_ 47 rfl rfl rfl _ (y_fieldAddr rfl rfl fa40_6) ?_
          refine S_ 48 rfl rfl rfl _ (y_load 1 rfl rfl rfl rfl Tryd.underlying3 rfl) ?_
          refine S_ 49 rfl rfl rfl _ (y_bin rfl rfl rfl (fun _ => b_neq)) ?_
          refine S_go (fun _ _ h => h) ?_
          refine T_cond rfl (fun h49 => ?_) (fun h49 => ?_)
          · skip
            refine T_region ?_
            refine S_ 50 rfl rfl rfl _ (y_move rfl rfl) ?_
            refine S_ 51 rfl rfl rfl _ (y_fieldAddr rfl rfl fa40_6) ?_
            refine S_ 52 rfl rfl rfl _ (y_load 1 rfl rfl rfl rfl Tryd.underlying3 rfl) ?_
            refine S_buildSlice 53 53 rfl rfl rfl rfl rfl Tryd.underlying107 inf3 rfl (by decide) (by decide) rfl rfl (by decide) rfl ([s.ppl].flatMap intE9) ?_ ?_
            · rfl
            intro b53
            refine S_ 54 rfl rfl rfl _ (y_as (v' := str ([32] ++ Lib.itoa s.ppl)) (by rw [numsB_one]) (y_call rfl rfl rfl cf25 (fun hg w1 hM => numbers_any _ 1 _ [s.ppl] w1 (owned_ok (enc := intE9) (l := [s.ppl]) hM rfl (i := 53) rfl).t (by decide) (fun n hn => by have := List.mem_singleton.1 hn; omega) (hP.below hM.below)))) ?_
            refine S_ 55 rfl rfl rfl _ (y_bin rfl rfl rfl (fun hg => b_adds (by first | omega | (simp only [List.length_append, List.length_cons, List.length_nil]; omega)))) ?_
            refine S_ 56 rfl rfl rfl _ (y_bin rfl rfl rfl (fun hg => b_adds (by first | omega | (simp only [List.length_append, List.length_cons, List.length_nil]; omega)))) ?_
            refine S_ 3 rfl rfl rfl _ (y_assign rfl rfl) ?_
            refine S_go (fun _ _ h => h) ?_
            refine T_seq ?_
            refine T_seq ?_
            refine T_region ?_
            refine S_ 57 rfl rfl rfl _ (y_fieldAddr rfl rfl fa40_7) ?_
            refine S_ 58 rfl rfl rfl _ (y_load 1 rfl rfl rfl rfl Tryd.underlying3 rfl) ?_
            refine S_ 59 rfl rfl rfl _ (y_bin rfl rfl rfl (fun _ => b_neq)) ?_
            refine S_go (fun _ _ h => h) ?_
            refine T_cond rfl (fun h59 => ?_) (fun h59 => ?_)
            · skip
              refine T_region ?_
              refine S_ 60 rfl rfl rfl _ (y_move rfl rfl) ?_
              refine S_ 61 rfl rfl rfl _ (y_fieldAddr rfl rfl fa40_7) ?_
              refine S_ 62 rfl rfl rfl _ (y_load 1 rfl rfl rfl rfl Tryd.underlying3 rfl) ?_
              refine S_buildSlice 63 63 rfl rfl rfl rfl rfl Tryd.underlying107 inf3 rfl (by decide) (by decide) rfl rfl (by decide) rfl ([s.again].flatMap intE9) ?_ ?_
              · rfl
              intro b63
              refine S_ 64 rfl rfl rfl _ (y_as (v' := str ([32] ++ Lib.itoa s.again)) (by rw [numsB_one]) (y_call rfl rfl rfl cf25 (fun hg w1 hM => numbers_any _ 1 _ [s.again] w1 (owned_ok (enc := intE9) (l := [s.again]) hM rfl (i := 63) rfl).t (by decide) (fun n hn => by have := List.mem_singleton.1 hn; omega) (hP.below hM.below)))) ?_
              refine S_ 65 rfl rfl rfl _ (y_bin rfl rfl rfl (fun hg => b_adds (by first | omega | (simp only [List.length_append, List.length_cons, List.length_nil]; omega)))) ?_
              refine S_ 66 rfl rfl rfl _ (y_bin rfl rfl rfl (fun hg => b_adds (by first | omega | (simp only [List.length_append, List.length_cons, List.length_nil]; omega)))) ?_
              refine S_ 3 rfl rfl rfl _ (y_assign rfl rfl) ?_
              refine S_go (fun _ _ h => h) ?_
              refine T_seq ?_
              refine T_region ?_
              refine S_ 67 rfl rfl rfl _ (y_move rfl rfl) ?_
              refine S_ 2 rfl rfl rfl _ (y_assign rfl rfl) ?_
              refine S_go (fun _ _ h => h) ?_
              refine T_ret (fun a w hF hM => hRb a w (post1 rfl rfl (fun w hM => ?_) a w hF hM))
              exact ⟨by simp only [stTxt, inT, optT, hj, Int.toNat_natCast, h29, h39, h49, h59]; simp [numsB_one, wTill, wMore, wPpl, wAgain, *], hM.below⟩
            · skip
              refine T_skip_go (fun _ _ h => h) ?_
              refine T_seq ?_
              refine T_region ?_
              refine S_ 67 rfl rfl rfl _ (y_move rfl rfl) ?_
              refine S_ 2 rfl rfl rfl _ (y_assign rfl rfl) ?_
              refine S_go (fun _ _ h => h) ?_
              refine T_ret (fun a w hF hM => hRb a w (post1 rfl rfl (fun w hM => ?_) a w hF hM))
              exact ⟨by simp only [stTxt, inT, optT, hj, Int.toNat_natCast, h29, h39, h49, h59]; simp [numsB_one, wTill, wMore, wPpl, wAgain, *], hM.below⟩
          · skip
            refine T_skip_go (fun _ _ h => h) ?_
            refine T_seq ?_
            refine T_seq ?_
            refine T_region ?_
            refine S_ 57 rfl rfl rfl _ (y_fieldAddr rfl rfl fa40_7) ?_
            refine S_ 58 rfl rfl rfl _ (y_load 1 rfl rfl rfl rfl Tryd.underlying3 rfl) ?_
            refine S_ 59 rfl rfl rfl _ (y_bin rfl rfl rfl (fun _ => b_neq)) ?_
            refine S_go (fun _ _ h => h) ?_
            refine T_cond rfl (fun h59 => ?_) (fun h59 => ?_)
            · skip
              refine T_region ?_
              refine S_ 60 rfl rfl rfl _ (y_move rfl rfl) ?_
              refine S_ 61 rfl rfl rfl _ (y_fieldAddr rfl rfl fa40_7) ?_
              refine S_ 62 rfl rfl rfl _ (y_load 1 rfl rfl rfl rfl Tryd.underlying3 rfl) ?_
              refine S_buildSlice 63 63 rfl rfl rfl rfl rfl Tryd.underlying107 inf3 rfl (by decide) (by decide) rfl rfl (by decide) rfl ([s.again].flatMap intE9) ?_ ?_
              · rfl
              intro b63
              refine S_ 64 rfl rfl rfl _ (y_as (v' := str ([32] ++ Lib.itoa s.again)) (by rw [numsB_one]) (y_call rfl rfl rfl cf25 (fun hg w1 hM => numbers_any _ 1 _ [s.again] w1 (owned_ok (enc := intE9) (l := [s.again]) hM rfl (i := 63) rfl).t (by decide) (fun n hn => by have := List.mem_singleton.1 hn; omega) (hP.below hM.below)))) ?_
              refine S_ 65 rfl rfl rfl _ (y_bin rfl rfl rfl (fun hg => b_adds (by first | omega | (simp only [List.length_append, List.length_cons, List.length_nil]; omega)))) ?_
              refine S_ 66 rfl rfl rfl _ (y_bin rfl rfl rfl (fun hg => b_adds (by first | omega | (simp only [List.length_append, List.length_cons, List.length_nil]; omega)))) ?_
              refine S_ 3 rfl rfl rfl _ (y_assign rfl rfl) ?_
              refine S_go (fun _ _ h => h) ?_
              refine T_seq ?_
              refine T_region ?_
              refine S_ 67 rfl rfl rfl _ (y_move rfl rfl) ?_
              refine S_ 2 rfl rfl rfl _ (y_assign rfl rfl) ?_
              refine S_go (fun _ _ h => h) ?_
              refine T_ret (fun a w hF hM => hRb a w (post1 rfl rfl (fun w hM => ?_) a w hF hM))
              exact ⟨by simp only [stTxt, inT, optT, hj, Int.toNat_natCast, h29, h39, h49, h59]; simp [numsB_one, wTill, wMore, wPpl, wAgain, *], hM.below⟩
            · skip
              refine T_skip_go (fun _ _ h => h) ?_
              refine T_seq ?_
              refine T_region ?_
              refine S_ 67 rfl rfl rfl _ (y_move rfl rfl) ?_
              refine S_ 2 rfl rfl rfl _ (y_assign rfl rfl) ?_
              refine S_go (fun _ _ h => h) ?_
              refine T_ret (fun a w hF hM => hRb a w (post1 rfl rfl (fun w hM => ?_) a w hF hM))
              exact ⟨by simp only [stTxt, inT, optT, hj, Int.toNat_natCast, h29, h39, h49, h59]; simp [numsB_one, wTill, wMore, wPpl, wAgain, *], hM.below⟩
      · skip
        refine T_skip_go (fun _ _ h => h) ?_
        refine T_seq ?_
        refine T_seq ?_
        refine T_region ?_
        refine S_ 37 rfl rfl rfl _ (y_fieldAddr rfl rfl fa40_5) ?_
        refine S_ 38 rfl rfl rfl _ (y_load 1 rfl rfl rfl rfl Tryd.underlying3 rfl) ?_
        refine S_ 39 rfl rfl rfl _ (y_bin rfl rfl rfl (fun _ => b_neq)) ?_
        refine S_go (fun _ _ h => h) ?_
        refine T_cond rfl (fun h39 => ?_) (fun h39 => ?_)
        · skip
          refine T_region ?_
          refine S_ 40 rfl rfl rfl _ (y_move rfl rfl) ?_
          refine S_ 41 rfl rfl rfl _ (y_fieldAddr rfl rfl fa40_5) ?_
          refine S_ 42 rfl rfl rfl _ (y_load 1 rfl rfl rfl rfl Tryd.underlying3 rfl) ?_
          refine S_buildSlice 43 43 rfl rfl rfl rfl rfl Tryd.underlying107 inf3 rfl (by decide) (by decide) rfl rfl (by decide) rfl ([s.more].flatMap intE9) ?_ ?_
          · rfl
          intro b43
          refine S_ 44 rfl rfl rfl _ (y_as (v' := str ([32] ++ Lib.itoa s.more)) (by rw [numsB_one]) (y_call rfl rfl rfl cf25 (fun hg w1 hM => numbers_any _ 1 _ [s.more] w1 (owned_ok (enc := intE9) (l := [s.more]) hM rfl (i := 43) rfl).t (by decide) (fun n hn => by have := List.mem_singleton.1 hn; omega) (hP.below hM.below)))) ?_
          refine S_ 45 rfl rfl rfl _ (y_bin rfl rfl rfl (fun hg => b_adds (by first | omega | (simp only [List.length_append, List.length_cons, List.length_nil]; omega)))) ?_
          refine S_ 46 rfl rfl rfl _ (y_bin rfl rfl rfl (fun hg => b_adds (by first | omega | (simp only [List.length_append, List.length_cons, List.length_nil]; omega)))) ?_
          refine S_ 3 rfl rfl rfl _ (y_assign rfl rfl) ?_
          refine S_go (fun _ _ h => h) ?_
          refine T_seq ?_
          refine T_seq ?_
          refine T_region ?_
          refine S_ 47 rfl rfl rfl _ (y_fieldAddr rfl rfl fa40_6) ?_
          refine S_ 48 rfl rfl rfl _ (y_load 1 rfl rfl rfl rfl Tryd.underlying3 rfl) ?_
          refine S_ 49 rfl rfl rfl _ (y_bin rfl rfl rfl (fun _ => b_neq)) ?_
          refine S_go (fun _ _ h => h) ?_
          refine T_cond rfl (fun h49 => ?_) (fun h49 => ?_)
          · skip
            refine T_region ?_
            refine S_ 50 rfl rfl rfl _ (y_move rfl rfl) ?_
            refine S_ 51 rfl rfl rfl _ (y_fieldAddr rfl rfl fa40_6) ?_
            refine S_ 52 rfl rfl rfl _ (y_load 1 rfl rfl rfl rfl Tryd.underlying3 rfl) ?_
            refine S_buildSlice 53 53 rfl rfl rfl rfl rfl Tryd.underlying107 inf3 rfl (by decide) (by decide) rfl rfl (by decide) rfl ([s.ppl].flatMap intE9) ?_ ?_
            · rfl
            intro b53
            refine S_ 54 rfl rfl rfl _ (y_as (v' := str ([32] ++ Lib.itoa s.ppl)) (by rw [numsB_one]) (y_call rfl rfl rfl cf25 (fun hg w1 hM => numbers_any _ 1 _ [s.ppl] w1 (owned_ok (enc := intE9) (l := [s.ppl]) hM rfl (i := 53) rfl).t (by decide) (fun n hn => by have := List.mem_singleton.1 hn; omega) (hP.below hM.below)))) ?_
            refine S_ 55 rfl rfl rfl _ (y_bin rfl rfl rfl (fun hg => b_adds (by first | omega | (simp only [List.length_append, List.length_cons, List.length_nil]; omega)))) ?_
            refine S_ 56 rfl rfl rfl _ (y_bin rfl rfl rfl (fun hg => b_adds (by first | omega | (simp only [List.length_append, List.length_cons, List.length_nil]; omega)))) ?_
            refine S_ 3 rfl rfl rfl _ (y_assign rfl rfl) ?_
            refine S_go (fun _ _ h => h) ?_
            refine T_seq ?_
            refine T_seq ?_
            refine T_region ?_
            refine S_ 57 rfl rfl rfl _ (y_fieldAddr rfl rfl fa40_7) ?_
            refine S_ 58 rfl rfl rfl _ (y_load 1 rfl rfl rfl rfl Tryd.underlying3 rfl) ?_
            refine S_ 59 rfl rfl rfl _ (y_bin rfl rfl rfl (fun _ => b_neq)) ?_
            refine S_go (fun _ _ h => h) ?_
            refine T_cond rfl (fun h59 => ?_) (fun h59 => ?_)
            · skip
              refine T_region ?_
              refine S_ 60 rfl rfl rfl _ (y_move rfl rfl) ?_
              refine S_ 61 rfl rfl rfl _ (y_fieldAddr rfl rfl fa40_7) ?_
              refine S_ 62 rfl rfl rfl _ (y_load 1 rfl rfl rfl rfl Tryd.underlying3 rfl) ?_
              refine S_buildSlice 63 63 rfl rfl rfl rfl rfl Tryd.underlying107 inf3 rfl (by decide) (by decide) rfl rfl (by decide) rfl ([s.again].flatMap intE9) ?_ ?_
              · rfl
              intro b63
              refine S_ 64 rfl rfl rfl _ (y_as (v' := str ([32] ++ Lib.itoa s.again)) (by rw [numsB_one]) (y_call rfl rfl rfl cf25 (fun hg w1 hM => numbers_any _ 1 _ [s.again] w1 (owned_ok (enc := intE9) (l := [s.again]) hM rfl (i := 63) rfl).t (by decide) (fun n hn => by have := List.mem_singleton.1 hn; omega) (hP.below hM.below)))) ?_
              refine S_ 65 rfl rfl rfl _ (y_bin rfl rfl rfl (fun hg => b_adds (by first | omega | (simp only [List.length_append, List.length_cons, List.length_nil]; omega)))) ?_
              refine S_ 66 rfl rfl rfl _ (y_bin rfl rfl rfl (fun hg => b_adds (by first | omega | (simp only [List.length_append, List.length_cons, List.length_nil]; omega)))) ?_
              refine S_ 3 rfl rfl rfl _ (y_assign rfl rfl) ?_
              refine S_go (fun _ _ h => h) ?_
              refine T_seq ?_
              refine T_region ?_
              refine S_ 67 rfl rfl rfl _ (y_move rfl rfl) ?_
              refine S_ 2 rfl rfl rfl _ (y_assign rfl rfl) ?_
              refine S_go (fun _ _ h => h) ?_
              refine T_ret (fun a w hF hM => hRb a w (post1 rfl rfl (fun w hM => ?_) a w hF hM))
              exact ⟨by simp only [stTxt, inT, optT, hj, Int.toNat_natCast, h29, h39, h49, h59]; simp [numsB_one, wTill, wMore, wPpl, wAgain, *], hM.below⟩
            · skip
              refine T_skip_go (fun _ _ h => h) ?_
              refine T_seq ?_
              refine T_region ?_
              refine S_ 67 rfl rfl rfl _ (y_move rfl rfl) ?_
              refine S_ 2 rfl rfl rfl _ (y_assign rfl rfl) ?_
              refine S_go (fun _ _ h => h) ?_
              refine T_ret (fun a w hF hM => hRb a w (post1 rfl rfl (fun w hM => ?_) a w hF hM))
              exact ⟨by simp only [stTxt, inT, optT, hj, Int.toNat_natCast, h29, h39, h49, h59]; simp [numsB_one, wTill, wMore, wPpl, wAgain, *], hM.below⟩
          · skip
            refine T_skip_go (fun _ _ h => h) ?_
            refine T_seq ?_
            refine T_seq ?_
            refine T_region ?_
            refine S_ 57 rfl rfl rfl _ (y_fieldAddr rfl rfl fa40_7) ?_
            refine S_ 58 rfl rfl rfl _ (y_load 1 rfl rfl rfl rfl Tryd.underlying3 rfl) ?_
            refine S_ 59 rfl rfl rfl _ (y_bin rfl rfl rfl (fun _ => b_neq)) ?_
            refine S_go (fun _ _ h => h) ?_
            refine T_cond rfl (fun h59 => ?_) (fun h59 => ?_)
            · skip
              refine T_region ?_
              refine S_ 60 rfl rfl rfl _ (y_move rfl rfl) ?_
              refine S_ 61 rfl rfl rfl _ (y_fieldAddr rfl rfl fa40_7) ?_
              refine S_ 62 rfl rfl rfl _ (y_load 1 rfl rfl rfl rfl Tryd.underlying3 rfl) ?_
              refine S_buildSlice 63 63 rfl rfl rfl rfl rfl Tryd.underlying107 inf3 rfl (by decide) (by decide) rfl rfl (by decide) rfl ([s.again].flatMap intE9) ?_ ?_
              · rfl
              intro b63
              refine S_ 64 rfl rfl rfl _ (y_as (v' := str ([32] ++ Lib.itoa s.again)) (by rw [numsB_one]) (y_call rfl rfl rfl cf25 (fun hg w1 hM => numbers_any _ 1 _ [s.again] w1 (owned_ok (enc := intE9) (l := [s.again]) hM rfl (i := 63) rfl).t (by decide) (fun n hn => by have := List.mem_singleton.1 hn; omega) (hP.below hM.below)))) ?_
              refine S_ 65 rfl rfl rfl _ (y_bin rfl rfl rfl (fun hg => b_adds (by first | omega | (simp only [List.length_append, List.length_cons, List.length_nil]; omega)))) ?_
              refine S_ 66 rfl rfl rfl _ (y_bin rfl rfl rfl (fun hg => b_adds (by first | omega | (simp only [List.length_append, List.length_cons, List.length_nil]; omega)))) ?_
              refine S_ 3 rfl rfl rfl _ (y_assign rfl rfl) ?_
              refine S_go (fun _ _ h => h) ?_
              refine T_seq ?_
              refine T_region ?_
              refine S_ 67 rfl rfl rfl _ (y_move rfl rfl) ?_
              refine S_ 2 rfl rfl rfl _ (y_assign rfl rfl) ?_
              refine S_go (fun _ _ h => h) ?_
              refine T_ret (fun a w hF hM => hRb a w (post1 rfl rfl (fun w hM => ?_) a w hF hM))
              exact ⟨by simp only [stTxt, inT, optT, hj, Int.toNat_natCast, h29, h39, h49, h59]; simp [numsB_one, wTill, wMore, wPpl, wAgain, *], hM.below⟩
            · skip
              refine T_skip_go (fun _ _ h => h) ?_
              refine T_seq ?_
              refine T_region ?_
              refine S_ 67 rfl rfl rfl _ (y_move rfl rfl) ?_
              refine S_ 2 rfl rfl rfl _ (y_assign rfl rfl) ?_
              refine S_go (fun _ _ h => h) ?_
              refine T_ret (fun a w hF hM => hRb a w (post1 rfl rfl (fun w hM => ?_) a w hF hM))
              exact ⟨by simp only [stTxt, inT, optT, hj, Int.toNat_natCast, h29, h39, h49, h59]; simp [numsB_one, wTill, wMore, wPpl, wAgain, *], hM.below⟩
        · skip
          refine T_skip_go (fun _ _ h => h) ?_
          refine T_seq ?_
          refine T_seq ?_
          refine T_region ?_
          refine S_ 47 rfl rfl rfl _ (y_fieldAddr rfl rfl fa40_6) ?_
          refine S_ 48 rfl rfl rfl _ (y_load 1 rfl rfl rfl rfl Tryd.underlying3 rfl) ?_
          refine S_ 49 rfl rfl rfl _ (y_bin rfl rfl rfl (fun _ => b_neq)) ?_
          refine S_go (fun _ _ h => h) ?_
          refine T_cond rfl (fun h49 => ?_) (fun h49 => ?_)
          · skip
            refine T_region ?_
            refine S_ 50 rfl rfl rfl _ (y_move rfl rfl) ?_
            refine S_ 51 rfl rfl rfl _ (y_fieldAddr rfl rfl fa40_6) ?_
            refine S_ 52 rfl rfl rfl _ (y_load 1 rfl rfl rfl rfl Tryd.underlying3 rfl) ?_
            refine S_buildSlice 53 53 rfl rfl rfl rfl rfl Tryd.underlying107 inf3 rfl (by decide) (by decide) rfl rfl (by decide) rfl ([s.ppl].flatMap intE9) ?_ ?_
            · rfl
            intro b53
            refine S_ 54 rfl rfl rfl _ (y_as (v' := str ([32] ++ Lib.itoa s.ppl)) (by rw [numsB_one]) (y_call rfl rfl rfl cf25 (fun hg w1 hM => numbers_any _ 1 _ [s.ppl] w1 (owned_ok (enc := intE9) (l := [s.ppl]) hM rfl (i := 53) rfl).t (by decide) (fun n hn => by have := List.mem_singleton.1 hn; omega) (hP.below hM.below)))) ?_
            refine S_ 55 rfl rfl rfl _ (y_bin rfl rfl rfl (fun hg => b_adds (by first | omega | (simp only [List.length_append, List.length_cons, List.length_nil]; omega)))) ?_
            refine S_ 56 rfl rfl rfl _ (y_bin rfl rfl rfl (fun hg => b_adds (by first | omega | (simp only [List.length_append, List.length_cons, List.length_nil]; omega)))) ?_
            refine S_ 3 rfl rfl rfl _ (y_assign rfl rfl) ?_
            refine S_go (fun _ _ h => h) ?_
            refine T_seq ?_
            refine T_seq ?_
            refine T_region ?_
            refine S_ 57 rfl rfl rfl _ (y_fieldAddr rfl rfl fa40_7) ?_
            refine S_ 58 rfl rfl rfl _ (y_load 1 rfl rfl rfl rfl Tryd.underlying3 rfl) ?_
            refine S_ 59 rfl rfl rfl _ (y_bin rfl rfl rfl (fun _ => b_neq)) ?_
            refine S_go (fun _ _ h => h) ?_
            refine T_cond rfl (fun h59 => ?_) (fun h59 => ?_)
            · skip
              refine T_region ?_
              refine S_ 60 rfl rfl rfl _ (y_move rfl rfl) ?_
              refine S_ 61 rfl rfl rfl _ (y_fieldAddr rfl rfl fa40_7) ?_
              refine S_ 62 rfl rfl rfl _ (y_load 1 rfl rfl rfl rfl Tryd.underlying3 rfl) ?_
              refine S_buildSlice 63 63 rfl rfl rfl rfl rfl Tryd.underlying107 inf3 rfl (by decide) (by decide) rfl rfl (by decide) rfl ([s.again].flatMap intE9) ?_ ?_
              · rfl
              intro b63
              refine S_ 64 rfl rfl rfl _ (y_as (v' := str ([32] ++ Lib.itoa s.again)) (by rw [numsB_one]) (y_call rfl rfl rfl cf25 (fun hg w1 hM => numbers_any _ 1 _ [s.again] w1 (owned_ok (enc := intE9) (l := [s.again]) hM rfl (i := 63) rfl).t (by decide) (fun n hn => by have := List.mem_singleton.1 hn; omega) (hP.below hM.below)))) ?_
              refine S_ 65 rfl rfl rfl _ (y_bin rfl rfl rfl (fun hg => b_adds (by first | omega | (simp only [List.length_append, List.length_cons, List.length_nil]; omega)))) ?_
              refine S_ 66 rfl rfl rfl _ (y_bin rfl rfl rfl (fun hg => b_adds (by first | omega | (simp only [List.length_append, List.length_cons, List.length_nil]; omega)))) ?_
              refine S_ 3 rfl rfl rfl _ (y_assign rfl rfl) ?_
              refine S_go (fun _ _ h => h) ?_
              refine T_seq ?_
              refine T_region ?_
              refine S_ 67 rfl rfl rfl _ (y_move rfl rfl) ?_
              refine S_ 2 rfl rfl rfl _ (y_assign rfl rfl) ?_
              refine S_go (fun _ _ h => h) ?_
              refine T_ret (fun a w hF hM => hRb a w (post1 rfl rfl (fun w hM => ?_) a w hF hM))
              exact ⟨by simp only [stTxt, inT, optT, hj, Int.toNat_natCast, h29, h39, h49, h59]; simp [numsB_one, wTill, wMore, wPpl, wAgain, *], hM.below⟩
            · skip
              refine T_skip_go (fun _ _ h => h) ?_
              refine T_seq ?_
              refine T_region ?_
              refine S_ 67 rfl rfl rfl _ (y_move rfl rfl) ?_
              refine S_ 2 rfl rfl rfl _ (y_assign rfl rfl) ?_
              refine S_go (fun _ _ h => h) ?_
              refine T_ret (fun a w hF hM => hRb a w (post1 rfl rfl (fun w hM => ?_) a w hF hM))
              exact ⟨by simp only [stTxt, inT, optT, hj, Int.toNat_natCast, h29, h39, h49, h59]; simp [numsB_one, wTill, wMore, wPpl, wAgain, *], hM.below⟩
          · skip
            refine T_skip_go (fun _ _ h => h) ?_
            refine T_seq ?_
            refine T_seq ?_
            refine T_region ?_
            refine S_ 57 rfl rfl rfl _ (y_fieldAddr rfl rfl fa40_7) ?_
            refine S_ 58 rfl rfl rfl _ (y_load 1 rfl rfl rfl rfl Tryd.underlying3 rfl) ?_
            refine S_ 59 rfl rfl rfl _ (y_bin rfl rfl rfl (fun _ => b_neq)) ?_
            refine S_go (fun _ _ h => h) ?_
            refine T_cond rfl (fun h59 => ?_) (fun h59 => ?_)
            · skip
              refine T_region ?_
              refine S_ 60 rfl rfl rfl _ (y_move rfl rfl) ?_
              refine S_ 61 rfl rfl rfl _ (y_fieldAddr rfl rfl fa40_7) ?_
              refine S_ 62 rfl rfl rfl _ (y_load 1 rfl rfl rfl rfl Tryd.underlying3 rfl) ?_
              refine S_buildSlice 63 63 rfl rfl rfl rfl rfl Tryd.underlying107 inf3 rfl (by decide) (by decide) rfl rfl (by decide) rfl ([s.again].flatMap intE9) ?_ ?_
              · rfl
              intro b63
              refine S_ 64 rfl rfl rfl _ (y_as (v' := str ([32] ++ Lib.itoa s.again)) (by rw [numsB_one]) (y_call rfl rfl rfl cf25 (fun hg w1 hM => numbers_any _ 1 _ [s.again] w1 (owned_ok (enc := intE9) (l := [s.again]) hM rfl (i := 63) rfl).t (by decide) (fun n hn => by have := List.mem_singleton.1 hn; omega) (hP.below hM.below)))) ?_
              refine S_ 65 rfl rfl rfl _ (y_bin rfl rfl rfl (fun hg => b_adds (by first | omega | (simp only [List.length_append, List.length_cons, List.length_nil]; omega)))) ?_
              refine S_ 66 rfl rfl rfl _ (y_bin rfl rfl rfl (fun hg => b_adds (by first | omega | (simp only [List.length_append, List.length_cons, List.length_nil]; omega)))) ?_
              refine S_ 3 rfl rfl rfl _ (y_assign rfl rfl) ?_
              refine S_go (fun _ _ h => h) ?_
              refine T_seq ?_
              refine T_region ?_
              refine S_ 67 rfl rfl rfl _ (y_move rfl rfl) ?_
              refine S_ 2 rfl rfl rfl _ (y_assign rfl rfl) ?_
              refine S_go (fun _ _ h => h) ?_
              refine T_ret (fun a w hF hM => hRb a w (post1 rfl rfl (fun w hM => ?_) a w hF hM))
              exact ⟨by simp only [stTxt, inT, optT, hj, Int.toNat_natCast, h29, h39, h49, h59]; simp [numsB_one, wTill, wMore, wPpl, wAgain, *], hM.below⟩
            · skip
              refine T_skip_go (fun _ _ h => h) ?_
              refine T_seq ?_
              refine T_region ?_
              refine S_ 67 rfl rfl rfl _ (y_move rfl rfl) ?_
              refine S_ 2 rfl rfl rfl _ (y_assign rfl rfl) ?_
              refine S_go (fun _ _ h => h) ?_
              refine T_ret (fun a w hF hM => hRb a w (post1 rfl rfl (fun w hM => ?_) a w hF hM))
              exact ⟨by simp only [stTxt, inT, optT, hj, Int.toNat_natCast, h29, h39, h49, h59]; simp [numsB_one, wTill, wMore, wPpl, wAgain, *], hM.below⟩
  · skip
    have hi : s.inn = [] := by simpa using h18
    refine T_skip_go (fun _ _ h => h) ?_
    refine T_seq ?_
    refine T_seq ?_
    refine T_region ?_
    refine S_ 27 rfl rfl rfl _ (y_fieldAddr rfl rfl fa40_4) ?_
    refine S_ 28 rfl rfl rfl _ (y_load 1 rfl rfl rfl rfl Tryd.underlying3 rfl) ?_
    refine S_ 29 rfl rfl rfl _ (y_bin rfl rfl rfl (fun _ => b_neq)) ?_
    refine S_go (fun _ _ h => h) ?_
    refine T_cond rfl (fun h29 => ?_) (fun h29 => ?_)
    · skip
      refine T_region ?_
      refine S_ 30 rfl rfl rfl _ (y_move rfl rfl) ?_
      refine S_ 31 rfl rfl rfl _ (y_fieldAddr rfl rfl fa40_4) ?_
      refine S_ 32 rfl rfl rfl _ (y_load 1 rfl rfl rfl rfl Tryd.underlying3 rfl) ?_
      refine S_buildSlice 33 33 rfl rfl rfl rfl rfl Tryd.underlying107 inf3 rfl (by decide) (by decide) rfl rfl (by decide) rfl ([s.till].flatMap intE9) ?_ ?_
      · rfl
      intro b33
      refine S_ 34 rfl rfl rfl _ (y_as (v' := str ([32] ++ Lib.itoa s.till)) (by rw [numsB_one]) (y_call rfl rfl rfl cf25 (fun hg w1 hM => numbers_any _ 1 _ [s.till] w1 (owned_ok (enc := intE9) (l := [s.till]) hM rfl (i := 33) rfl).t (by decide) (fun n hn => by have := List.mem_singleton.1 hn; omega) (hP.below hM.below)))) ?_
      refine S_ 35 rfl rfl rfl _ (y_bin rfl rfl rfl (fun hg => b_adds (by first | omega | (simp only [List.length_append, List.length_cons, List.length_nil]; omega)))) ?_
      refine S_ 36 rfl rfl rfl _ (y_bin rfl rfl rfl (fun hg => b_adds (by first | omega | (simp only [List.length_append, List.length_cons, List.length_nil]; omega)))) ?_
      refine S_ 3 rfl rfl rfl _ (y_assign rfl rfl) ?_
      refine S_go (fun _ _ h => h) ?_
      refine T_seq ?_
      refine T_seq ?_
      refine T_region ?_
      refine S_ 37 rfl rfl rfl _ (y_fieldAddr rfl rfl fa40_5) ?_
      refine S_ 38 rfl rfl rfl _ (y_load 1 rfl rfl rfl rfl Tryd.underlying3 rfl) ?_
      refine S_ 39 rfl rfl rfl _ (y_bin rfl rfl rfl (fun _ => b_neq)) ?_
      refine S_go (fun _ _ h => h) ?_
      refine T_cond rfl (fun h39 => ?_) (fun h39 => ?_)
      · skip
        refine T_region ?_
        refine S_ 40 rfl rfl rfl _ (y_move rfl rfl) ?_
        refine S_ 41 rfl rfl rfl _ (y_fieldAddr rfl rfl fa40_5) ?_
        refine S_ 42 rfl rfl rfl _ (y_load 1 rfl rfl rfl rfl Tryd.underlying3 rfl) ?_
        refine S_buildSlice 43 43 rfl rfl rfl rfl rfl Tryd.underlying107 inf3 rfl (by decide) (by decide) rfl rfl (by decide) rfl ([s.more].flatMap intE9) ?_ ?_
        · rfl
        intro b43
        refine S_ 44 rfl rfl rfl _ (y_as (v' := str ([32] ++ Lib.itoa s.more)) (by rw [numsB_one]) (y_call rfl rfl rfl cf25 (fun hg w1 hM => numbers_any _ 1 _ [s.more] w1 (owned_ok (enc := intE9) (l := [s.more]) hM rfl (i := 43) rfl).t (by decide) (fun n hn => by have := List.mem_singleton.1 hn; omega) (hP.below hM.below)))) ?_
        refine S_ 45 rfl rfl rfl _ (y_bin rfl rfl rfl (fun hg => b_adds (by first | omega | (simp only [List.length_append, List.length_cons, List.length_nil]; omega)))) ?_
        refine S_ 46 rfl rfl rfl _ (y_bin rfl rfl rfl (fun hg => b_adds (by first | omega | (simp only [List.length_append, List.length_cons, List.length_nil]; omega)))) ?_
        refine S_ 3 rfl rfl rfl _ (y_assign rfl rfl) ?_
        refine S_go (fun _ _ h => h) ?_
        refine T_seq ?_
        refine T_seq ?_
        refine T_region ?_
        refine S_ 47 rfl rfl rfl _ (y_fieldAddr rfl rfl fa40_6) ?_
        refine S_ 48 rfl rfl rfl _ (y_load 1 rfl rfl rfl rfl Tryd.underlying3 rfl) ?_
        refine S_ 49 rfl rfl rfl _ (y_bin rfl rfl rfl (fun _ => b_neq)) ?_
        refine S_go (fun _ _ h => h) ?_
        refine T_cond rfl (fun h49 => ?_) (fun h49 => ?_)
        · skip
          refine T_region ?_
          refine S_ 50 rfl rfl rfl _ (y_move rfl rfl) ?_
          refine S_ 51 rfl rfl rfl _ (y_fieldAddr rfl rfl fa40_6) ?_
          refine S_ 52 rfl rfl rfl _ (y_load 1 rfl rfl rfl rfl Tryd.underlying3 rfl) ?_
          refine S_buildSlice 53 53 rfl rfl rfl rfl rfl Tryd.underlying107 inf3 rfl (by decide) (by decide) rfl rfl (by decide) rfl ([s.ppl].flatMap intE9) ?_ ?_
          · rfl
          intro b53
          refine S_ 54 rfl rfl rfl _ (y_as (v' := str ([32] ++ Lib.itoa s.ppl)) (by rw [numsB_one]) (y_call rfl rfl rfl cf25 (fun hg w1 hM => numbers_any _ 1 _ [s.ppl] w1 (owned_ok (enc := intE9) (l := [s.ppl]) hM rfl (i := 53) rfl).t (by decide) (fun n hn => by have := List.mem_singleton.1 hn; omega) (hP.below hM.below)))) ?_
          refine S_ 55 rfl rfl rfl _ (y_bin rfl rfl rfl (fun hg => b_adds (by first | omega | (simp only [List.length_append, List.length_cons, List.length_nil]; omega)))) ?_
          refine S_ 56 rfl rfl rfl _ (y_bin rfl rfl rfl (fun hg => b_adds (by first | omega | (simp only [List.length_append, List.length_cons, List.length_nil]; omega)))) ?_
          refine S_ 3 rfl rfl rfl _ (y_assign rfl rfl) ?_
          refine S_go (fun _ _ h => h) ?_
          refine T_seq ?_
          refine T_seq ?_
          refine T_region ?_
          refine S_ 57 rfl rfl rfl _ (y_fieldAddr rfl rfl fa40_7) ?_
          refine S_ 58 rfl rfl rfl _ (y_load 1 rfl rfl rfl rfl Tryd.underlying3 rfl) ?_
          refine S_ 59 rfl rfl rfl _ (y_bin rfl rfl rfl (fun _ => b_neq)) ?_
          refine S_go (fun _ _ h => h) ?_
          refine T_cond rfl (fun h59 => ?_) (fun h59 => ?_)
          · skip
            refine T_region ?_
            refine S_ 60 rfl rfl rfl _ (y_move rfl rfl) ?_
            refine S_ 61 rfl rfl rfl _ (y_fieldAddr rfl rfl fa40_7) ?_
            refine S_ 62 rfl rfl rfl _ (y_load 1 rfl rfl rfl rfl Tryd.underlying3 rfl) ?_
            refine S_buildSlice 63 63 rfl rfl rfl rfl rfl Tryd.underlying107 inf3 rfl (by decide) (by decide) rfl rfl (by decide) rfl ([s.again].flatMap intE9) ?_ ?_
            · rfl
            intro b63
            refine S_ 64 rfl rfl rfl _ (y_as (v' := str ([32] ++ Lib.itoa s.again)) (by rw [numsB_one]) (y_call rfl rfl rfl cf25 (fun hg w1 hM => numbers_any _ 1 _ [s.again] w1 (owned_ok (enc := intE9) (l := [s.again]) hM rfl (i := 63) rfl).t (by decide) (fun n hn => by have := List.mem_singleton.1 hn; omega) (hP.below hM.below)))) ?_
            refine S_ 65 rfl rfl rfl _ (y_bin rfl rfl rfl (fun hg => b_adds (by first | omega | (simp only [List.length_append, List.length_cons, List.length_nil]; omega)))) ?_
            refine S_ 66 rfl rfl rfl _ (y_bin rfl rfl rfl (fun hg => b_adds (by first | omega | (simp only [List.length_append, List.length_cons, List.length_nil]; omega)))) ?_
            refine S_ 3 rfl rfl rfl _ (y_assign rfl rfl) ?_
            refine S_go (fun _ _ h => h) ?_
            refine T_seq ?_
            refine T_region ?_
            refine S_ 67 rfl rfl rfl _ (y_move rfl rfl) ?_
            refine S_ 2 rfl rfl rfl _ (y_assign rfl rfl) ?_
            refine S_go (fun _ _ h => h) ?_
            refine T_ret (fun a w hF hM => hRb a w (post1 rfl rfl (fun w hM => ?_) a w hF hM))
            exact ⟨by simp only [stTxt, inT, optT, hj, Int.toNat_natCast, h29, h39, h49, h59]; simp [numsB_one, wTill, wMore, wPpl, wAgain, *], hM.below⟩
          · skip
            refine T_skip_go (fun _ _ h => h) ?_
            refine T_seq ?_
            refine T_region ?_
            refine S_ 67 rfl rfl rfl _ (y_move rfl rfl) ?_
            refine S_ 2 rfl rfl rfl _ (y_assign rfl rfl) ?_
            refine S_go (fun _ _ h => h) ?_
            refine T_ret (fun a w hF hM => hRb a w (post1 rfl rfl (fun w hM => ?_) a w hF hM))
            exact ⟨by simp only [stTxt, inT, optT, hj, Int.toNat_natCast, h29, h39, h49, h59]; simp [numsB_one, wTill, wMore, wPpl, wAgain, *], hM.below⟩
        · skip
          refine T_skip_go (fun _ _ h => h) ?_
          refine T_seq ?_
          refine T_seq ?_
          refine T_region ?_
          refine S_ 57 rfl rfl rfl _ (y_fieldAddr rfl rfl fa40_7) ?_
          refine S_ 58 rfl rfl rfl _ (y_load 1 rfl rfl rfl rfl Tryd.underlying3 rfl) ?_
          refine S_ 59 rfl rfl rfl _ (y_bin rfl rfl rfl (fun _ => b_neq)) ?_
          refine S_go (fun _ _ h => h) ?_
          refine T_cond rfl (fun h59 => ?_) (fun h59 => ?_)
          · skip
            refine T_region ?_
            refine S_ 60 rfl rfl rfl _ (y_move rfl rfl) ?_
            refine S_ 61 rfl rfl rfl _ (y_fieldAddr rfl rfl fa40_7) ?_
            refine S_ 62 rfl rfl rfl _ (y_load 1 rfl rfl rfl rfl Tryd.underlying3 rfl) ?_
            refine S_buildSlice 63 63 rfl rfl rfl rfl rfl Tryd.underlying107 inf3 rfl (by decide) (by decide) rfl rfl (by decide) rfl ([s.again].flatMap intE9) ?_ ?_
            · rfl
            intro b63
            refine S_ 64 rfl rfl rfl _ (y_as (v' := str ([32] ++ Lib.itoa s.again)) (by rw [numsB_one]) (y_call rfl rfl rfl cf25 (fun hg w1 hM => numbers_any _ 1 _ [s.again] w1 (owned_ok (enc := intE9) (l := [s.again]) hM rfl (i := 63) rfl).t (by decide) (fun n hn => by have := List.mem_singleton.1 hn; omega) (hP.below hM.below)))) ?_
            refine S_ 65 rfl rfl rfl _ (y_bin rfl rfl rfl (fun hg => b_adds (by first | omega | (simp only [List.length_append, List.length_cons, List.length_nil]; omega)))) ?_
            refine S_ 66 rfl rfl rfl _ (y_bin rfl rfl rfl (fun hg => b_adds (by first | omega | (simp only [List.length_append, List.length_cons, List.length_nil]; omega)))) ?_
            refine S_ 3 rfl rfl rfl _ (y_assign rfl rfl) ?_
            refine S_go (fun _ _ h => h) ?_
            refine T_seq ?_
            refine T_region ?_
            refine S_ 67 rfl rfl rfl _ (y_move rfl rfl) ?_
            refine S_ 2 rfl rfl rfl _ (y_assign rfl rfl) ?_
            refine S_go (fun _ _ h => h) ?_
            refine T_ret (fun a w hF hM => hRb a w (post1 rfl rfl (fun w hM => ?_) a w hF hM))
            exact ⟨by simp only [stTxt, inT, optT, hj, Int.toNat_natCast, h29, h39, h49, h59]; simp [numsB_one, wTill, wMore, wPpl, wAgain, *], hM.below⟩
          · skip
            refine T_skip_go (fun _ _ h => h) ?_
            refine T_seq ?_
            refine T_region ?_
            refine S_ 67 rfl rfl rfl _ (y_move rfl rfl) ?_
            refine S_ 2 rfl rfl rfl _ (y_assign rfl rfl) ?_
            refine S_go (fun _ _ h => h) ?_
            refine T_ret (fun a w hF hM => hRb a w (post1 rfl rfl (fun w hM => ?_) a w hF hM))
            exact ⟨by simp only [stTxt, inT, optT, hj, Int.toNat_natCast, h29, h39, h49, h59]; simp [numsB_one, wTill, wMore, wPpl, wAgain, *], hM.below⟩
      · skip
        refine T_skip_go (fun _ _ h => h) ?_
        refine T_seq ?_
        refine T_seq ?_
        refine T_region ?_
        refine S_ 47 rfl rfl rfl _ (y_fieldAddr rfl rfl fa40_6) ?_
        refine S_ 48 rfl rfl rfl _ (y_load 1 rfl rfl rfl rfl Tryd.underlying3 rfl) ?_
        refine S_ 49 rfl rfl rfl _ (y_bin rfl rfl rfl (fun _ => b_neq)) ?_
        refine S_go (fun _ _ h => h) ?_
        refine T_cond rfl (fun h49 => ?_) (fun h49 => ?_)
        · skip
          refine T_region ?_
          refine S_ 50 rfl rfl rfl _ (y_move rfl rfl) ?_
          refine S_ 51 rfl rfl rfl _ (y_fieldAddr rfl rfl fa40_6) ?_
          refine S_ 52 rfl rfl rfl _ (y_load 1 rfl rfl rfl rfl Tryd.underlying3 rfl) ?_
          refine S_buildSlice 53 53 rfl rfl rfl rfl rfl Tryd.underlying107 inf3 rfl (by decide) (by decide) rfl rfl (by decide) rfl ([s.ppl].flatMap intE9) ?_ ?_
          · rfl
          intro b53
          refine S_ 54 rfl rfl rfl _ (y_as (v' := str ([32] ++ Lib.itoa s.ppl)) (by rw [numsB_one]) (y_call rfl rfl rfl cf25 (fun hg w1 hM => numbers_any _ 1 _ [s.ppl] w1 (owned_ok (enc := intE9) (l := [s.ppl]) hM rfl (i := 53) rfl).t (by decide) (fun n hn => by have := List.mem_singleton.1 hn; omega) (hP.below hM.below)))) ?_
          refine S_ 55 rfl rfl rfl _ (y_bin rfl rfl rfl (fun hg => b_adds (by first | omega | (simp only [List.length_append, List.length_cons, List.length_nil]; omega)))) ?_
          refine S_ 56 rfl rfl rfl _ (y_bin rfl rfl rfl (fun hg => b_adds (by first | omega | (simp only [List.length_append, List.length_cons, List.length_nil]; omega)))) ?_
          refine S_ 3 rfl rfl rfl _ (y_assign rfl rfl) ?_
          refine S_go (fun _ _ h => h) ?_
          refine T_seq ?_
          refine T_seq ?_
          refine T_region ?_
          refine S_ 57 rfl rfl rfl _ (y_fieldAddr rfl rfl fa40_7) ?_
          refine S_ 58 rfl rfl rfl _ (y_load 1 rfl rfl rfl rfl Tryd.underlying3 rfl) ?_
          refine S_ 59 rfl rfl rfl _ (y_bin rfl rfl rfl (fun _ => b_neq)) ?_
          refine S_go (fun _ _ h => h) ?_
          refine T_cond rfl (fun h59 => ?_) (fun h59 => ?_)
          · skip
            refine T_region ?_
            refine S_ 60 rfl rfl rfl _ (y_move rfl rfl) ?_
            refine S_ 61 rfl rfl rfl _ (y_fieldAddr rfl rfl fa40_7) ?_
            refine S_ 62 rfl rfl rfl _ (y_load 1 rfl rfl rfl rfl Tryd.underlying3 rfl) ?_
            refine S_buildSlice 63 63 rfl rfl rfl rfl rfl Tryd.underlying107 inf3 rfl (by decide) (by decide) rfl rfl (by decide) rfl ([s.again].flatMap intE9) ?_ ?_
            · rfl
            intro b63
            refine S_ 64 rfl rfl rfl _ (y_as (v' := str ([32] ++ Lib.itoa s.again)) (by rw [numsB_one]) (y_call rfl rfl rfl cf25 (fun hg w1 hM => numbers_any _ 1 _ [s.again] w1 (owned_ok (enc := intE9) (l := [s.again]) hM rfl (i := 63) rfl).t (by decide) (fun n hn => by have := List.mem_singleton.1 hn; omega) (hP.below hM.below)))) ?_
            refine S_ 65 rfl rfl rfl _ (y_bin rfl rfl rfl (fun hg => b_adds (by first | omega | (simp only [List.length_append, List.length_cons, List.length_nil]; omega)))) ?_
            refine S_ 66 rfl rfl rfl _ (y_bin rfl rfl rfl (fun hg => b_adds (by first | omega | (simp only [List.length_append, List.length_cons, List.length_nil]; omega)))) ?_
            refine S_ 3 rfl rfl rfl _ (y_assign rfl rfl) ?_
            refine S_go (fun _ _ h => h) ?_
            refine T_seq ?_
            refine T_region ?_
            refine S_ 67 rfl rfl rfl _ (y_move rfl rfl) ?_
            refine S_ 2 rfl rfl rfl _ (y_assign rfl rfl) ?_
            refine S_go (fun _ _ h => h) ?_
            refine T_ret (fun a w hF hM => hRb a w (post1 rfl rfl (fun w hM => ?_) a w hF hM))
            exact ⟨by simp only [stTxt, inT, optT, hj, Int.toNat_natCast, h29, h39, h49, h59]; simp [numsB_one, wTill, wMore, wPpl, wAgain, *], hM.below⟩
          · skip
            refine T_skip_go (fun _ _ h => h) ?_
            refine T_seq ?_
            refine T_region ?_
            refine S_ 67 rfl rfl rfl _ (y_move rfl rfl) ?_
            refine S_ 2 rfl rfl rfl _ (y_assign rfl rfl) ?_
            refine S_go (fun _ _ h => h) ?_
            refine T_ret (fun a w hF hM => hRb a w (post1 rfl rfl (fun w hM => ?_) a w hF hM))
            exact ⟨by simp only [stTxt, inT, optT, hj, Int.toNat_natCast, h29, h39, h49, h59]; simp [numsB_one, wTill, wMore, wPpl, wAgain, *], hM.below⟩
        · skip
          refine T_skip_go (fun _ _ h => h) ?_
          refine T_seq ?_
          refine T_seq ?_
          refine T_region ?_
          refine S_ 57 rfl rfl rfl _ (y_fieldAddr rfl rfl fa40_7) ?_
          refine S_ 58 rfl rfl rfl _ (y_load 1 rfl rfl rfl rfl Tryd.underlying3 rfl) ?_
          refine S_ 59 rfl rfl rfl _ (y_bin rfl rfl rfl (fun _ => b_neq)) ?_
          refine S_go (fun _ _ h => h) ?_
          refine T_cond rfl (fun h59 => ?_) (fun h59 => ?_)
          · skip
            refine T_region ?_
            refine S_ 60 rfl rfl rfl _ (y_move rfl rfl) ?_
            refine S_ 61 rfl rfl rfl _ (y_fieldAddr rfl rfl fa40_7) ?_
            refine S_ 62 rfl rfl rfl _ (y_load 1 rfl rfl rfl rfl Tryd.underlying3 rfl) ?_
            refine S_buildSlice 63 63 rfl rfl rfl rfl rfl Tryd.underlying107 inf3 rfl (by decide) (by decide) rfl rfl (by decide) rfl ([s.again].flatMap intE9) ?_ ?_
            · rfl
            intro b63
            refine S_ 64 rfl rfl rfl _ (y_as (v' := str ([32] ++ Lib.itoa s.again)) (by rw [numsB_one]) (y_call rfl rfl rfl cf25 (fun hg w1 hM => numbers_any _ 1 _ [s.again] w1 (owned_ok (enc := intE9) (l := [s.again]) hM rfl (i := 63) rfl).t (by decide) (fun n hn => by have := List.mem_singleton.1 hn; omega) (hP.below hM.below)))) ?_
            refine S_ 65 rfl rfl rfl _ (y_bin rfl rfl rfl (fun hg => b_adds (by first | omega | (simp only [List.length_append, List.length_cons, List.length_nil]; omega)))) ?_
            refine S_ 66 rfl rfl rfl _ (y_bin rfl rfl rfl (fun hg => b_adds (by first | omega | (simp only [List.length_append, List.length_cons, List.length_nil]; omega)))) ?_
            refine S_ 3 rfl rfl rfl _ (y_assign rfl rfl) ?_
            refine S_go (fun _ _ h => h) ?_
            refine T_seq ?_
            refine T_region ?_
            refine S_ 67 rfl rfl rfl _ (y_move rfl rfl) ?_
            refine S_ 2 rfl rfl rfl _ (y_assign rfl rfl) ?_
            refine S_go (fun _ _ h => h) ?_
            refine T_ret (fun a w hF hM => hRb a w (post1 rfl rfl (fun w hM => ?_) a w hF hM))
            exact ⟨by simp only [stTxt, inT, optT, hj, Int.toNat_natCast, h29, h39, h49, h59]; simp [numsB_one, wTill, wMore, wPpl, wAgain, *], hM.below⟩
          · skip
            refine T_skip_go (fun _ _ h => h) ?_
            refine T_seq ?_
            refine T_region ?_
            refine S_ 67 rfl rfl rfl _ (y_move rfl rfl) ?_
            refine S_ 2 rfl rfl rfl _ (y_assign rfl rfl) ?_
            refine S_go (fun _ _ h => h) ?_
            refine T_ret (fun a w hF hM => hRb a w (post1 rfl rfl (fun w hM => ?_) a w hF hM))
            exact ⟨by simp only [stTxt, inT, optT, hj, Int.toNat_natCast, h29, h39, h49, h59]; simp [numsB_one, wTill, wMore, wPpl, wAgain, *], hM.below⟩
    · skip
      refine T_skip_go (fun _ _ h => h) ?_
      refine T_seq ?_
      refine T_seq ?_
      refine T_region ?_
      refine S_ 37 rfl rfl rfl _ (y_fieldAddr rfl rfl fa40_5) ?_
      refine S_ 38 rfl rfl rfl _ (y_load 1 rfl rfl rfl rfl Tryd.underlying3 rfl) ?_
      refine S_ 39 rfl rfl rfl _ (y_bin rfl rfl rfl (fun _ => b_neq)) ?_
      refine S_go (fun _ _ h => h) ?_
      refine T_cond rfl (fun h39 => ?_) (fun h39 => ?_)
      · skip
        refine T_region ?_
        refine S_ 40 rfl rfl rfl _ (y_move rfl rfl) ?_
        refine S_ 41 rfl rfl rfl _ (y_fieldAddr rfl rfl fa40_5) ?_
        refine S_ 42 rfl rfl rfl _ (y_load 1 rfl rfl rfl rfl Tryd.underlying3 rfl) ?_
        refine S_buildSlice 43 43 rfl rfl rfl rfl rfl Tryd.underlying107 inf3 rfl (by decide) (by decide) rfl rfl (by decide) rfl ([s.more].flatMap intE9) ?_ ?_
        · rfl
        intro b43
        refine S_ 44 rfl rfl rfl _ (y_as (v' := str ([32] ++ Lib.itoa s.more)) (by rw [numsB_one]) (y_call rfl rfl rfl cf25 (fun hg w1 hM => numbers_any _ 1 _ [s.more] w1 (owned_ok (enc := intE9) (l := [s.more]) hM rfl (i := 43) rfl).t (by decide) (fun n hn => by have := List.mem_singleton.1 hn; omega) (hP.below hM.below)))) ?_
        refine S_ 45 rfl rfl rfl _ (y_bin rfl rfl rfl (fun hg => b_adds (by first | omega | (simp only [List.length_append, List.length_cons, List.length_nil]; omega)))) ?_
        refine S_ 46 rfl rfl rfl _ (y_bin rfl rfl rfl (fun hg => b_adds (by first | omega | (simp only [List.length_append, List.length_cons, List.length_nil]; omega)))) ?_
        refine S_ 3 rfl rfl rfl _ (y_assign rfl rfl) ?_
        refine S_go (fun _ _ h => h) ?_
        refine T_seq ?_
        refine T_seq ?_
        refine T_region ?_
        refine S_ 47 rfl rfl rfl _ (y_fieldAddr rfl rfl fa40_6) ?_
        refine S_ 48 rfl rfl rfl _ (y_load 1 rfl rfl rfl rfl Tryd.underlying3 rfl) ?_
        refine S_ 49 rfl rfl rfl _ (y_bin rfl rfl rfl (fun _ => b_neq)) ?_
        refine S_go (fun _ _ h => h) ?_
        refine T_cond rfl (fun h49 => ?_) (fun h49 => ?_)
        · skip
          refine T_region ?_
          refine S_ 50 rfl rfl rfl _ (y_move rfl rfl) ?_
          refine S_ 51 rfl rfl rfl _ (y_fieldAddr rfl rfl fa40_6) ?_
          refine S_ 52 rfl rfl rfl _ (y_load 1 rfl rfl rfl rfl Tryd.underlying3 rfl) ?_
          refine S_buildSlice 53 53 rfl rfl rfl rfl rfl Tryd.underlying107 inf3 rfl (by decide) (by decide) rfl rfl (by decide) rfl ([s.ppl].flatMap intE9) ?_ ?_
          · rfl
          intro b53
          refine S_ 54 rfl rfl rfl _ (y_as (v' := str ([32] ++ Lib.itoa s.ppl)) (by rw [numsB_one]) (y_call rfl rfl rfl cf25 (fun hg w1 hM => numbers_any _ 1 _ [s.ppl] w1 (owned_ok (enc := intE9) (l := [s.ppl]) hM rfl (i := 53) rfl).t (by decide) (fun n hn => by have := List.mem_singleton.1 hn; omega) (hP.below hM.below)))) ?_
          refine S_ 55 rfl rfl rfl _ (y_bin rfl rfl rfl (fun hg => b_adds (by first | omega | (simp only [List.length_append, List.length_cons, List.length_nil]; omega)))) ?_
          refine S_ 56 rfl rfl rfl _ (y_bin rfl rfl rfl (fun hg => b_adds (by first | omega | (simp only [List.length_append, List.length_cons, List.length_nil]; omega)))) ?_
          refine S_ 3 rfl rfl rfl _ (y_assign rfl rfl) ?_
          refine S_go (fun _ _ h => h) ?_
          refine T_seq ?_
          refine T_seq ?_
          refine T_region ?_
          refine S_ 57 rfl rfl rfl _ (y_fieldAddr rfl rfl fa40_7) ?_
          refine S_ 58 rfl rfl rfl _ (y_load 1 rfl rfl rfl rfl Tryd.underlying3 rfl) ?_
          refine S_ 59 rfl rfl rfl _ (y_bin rfl rfl rfl (fun _ => b_neq)) ?_
          refine S_go (fun _ _ h => h) ?_
          refine T_cond rfl (fun h59 => ?_) (fun h59 => ?_)
          · skip
            refine T_region ?_
            refine S_ 60 rfl rfl rfl _ (y_move rfl rfl) ?_
            refine S_ 61 rfl rfl rfl _ (y_fieldAddr rfl rfl fa40_7) ?_
            refine S_ 62 rfl rfl rfl _ (y_load 1 rfl rfl rfl rfl Tryd.underlying3 rfl) ?_
            refine S_buildSlice 63 63 rfl rfl rfl rfl rfl Tryd.underlying107 inf3 rfl (by decide) (by decide) rfl rfl (by decide) rfl ([s.again].flatMap intE9) ?_ ?_
            · rfl
            intro b63
            refine S_ 64 rfl rfl rfl _ (y_as (v' := str ([32] ++ Lib.itoa s.again)) (by rw [numsB_one]) (y_call rfl rfl rfl cf25 (fun hg w1 hM => numbers_any _ 1 _ [s.again] w1 (owned_ok (enc := intE9) (l := [s.again]) hM rfl (i := 63) rfl).t (by decide) (fun n hn => by have := List.mem_singleton.1 hn; omega) (hP.below hM.below)))) ?_
            refine S_ 65 rfl rfl rfl _ (y_bin rfl rfl rfl (fun hg => b_adds (by first | omega | (simp only [List.length_append, List.length_cons, List.length_nil]; omega)))) ?_
            refine S_ 66 rfl rfl rfl _ (y_bin rfl rfl rfl (fun hg => b_adds (by first | omega | (simp only [List.length_append, List.length_cons, List.length_nil]; omega)))) ?_
            refine S_ 3 rfl rfl rfl _ (y_assign rfl rfl) ?_
            refine S_go (fun _ _ h => h) ?_
            refine T_seq ?_
            refine T_region ?_
            refine S_ 67 rfl rfl rfl _ (y_move rfl rfl) ?_
            refine S_ 2 rfl rfl rfl _ (y_assign rfl rfl) ?_
            refine S_go (fun _ _ h => h) ?_
            refine T_ret (fun a w hF hM => hRb a w (post1 rfl rfl (fun w hM => ?_) a w hF hM))
            exact ⟨by simp only [stTxt, inT, optT, hj, Int.toNat_natCast, h29, h39, h49, h59]; simp [numsB_one, wTill, wMore, wPpl, wAgain, *], hM.below⟩
          · skip
            refine T_skip_go (fun _ _ h => h) ?_
            refine T_seq ?_
            refine T_region ?_
            refine S_ 67 rfl rfl rfl _ (y_move rfl rfl) ?_
            refine S_ 2 rfl rfl rfl _ (y_assign rfl rfl) ?_
            refine S_go (fun _ _ h => h) ?_
            refine T_ret (fun a w hF hM => hRb a w (post1 rfl rfl (fun w hM => ?_) a w hF hM))
            exact ⟨by simp only [stTxt, inT, optT, hj, Int.toNat_natCast, h29, h39, h49, h59]; simp [numsB_one, wTill, wMore, wPpl, wAgain, *], hM.below⟩
        · skip
          refine T_skip_go (fun _ _ h => h) ?_
          refine T_seq ?_
          refine T_seq ?_
          refine T_region ?_
          refine S_ 57 rfl rfl rfl _ (y_fieldAddr rfl rfl fa40_7) ?_
          refine S_ 58 rfl rfl rfl _ (y_load 1 rfl rfl rfl rfl Tryd.underlying3 rfl) ?_
          refine S_ 59 rfl rfl rfl _ (y_bin rfl rfl rfl (fun _ => b_neq)) ?_
          refine S_go (fun _ _ h => h) ?_
          refine T_cond rfl (fun h59 => ?_) (fun h59 => ?_)
          · skip
            refine T_region ?_
            refine S_ 60 rfl rfl rfl _ (y_move rfl rfl) ?_
            refine S_ 61 rfl rfl rfl _ (y_fieldAddr rfl rfl fa40_7) ?_
            refine S_ 62 rfl rfl rfl _ (y_load 1 rfl rfl rfl rfl Tryd.underlying3 rfl) ?_
            refine S_buildSlice 63 63 rfl rfl rfl rfl rfl Tryd.underlying107 inf3 rfl (by decide) (by decide) rfl rfl (by decide) rfl ([s.again].flatMap intE9) ?_ ?_
            · rfl
            intro b63
            refine S_ 64 rfl rfl rfl _ (y_as (v' := str ([32] ++ Lib.itoa s.again)) (by rw [numsB_one]) (y_call rfl rfl rfl cf25 (fun hg w1 hM => numbers_any _ 1 _ [s.again] w1 (owned_ok (enc := intE9) (l := [s.again]) hM rfl (i := 63) rfl).t (by decide) (fun n hn => by have := List.mem_singleton.1 hn; omega) (hP.below hM.below)))) ?_
            refine S_ 65 rfl rfl rfl _ (y_bin rfl rfl rfl (fun hg => b_adds (by first | omega | (simp only [List.length_append, List.length_cons, List.length_nil]; omega)))) ?_
            refine S_ 66 rfl rfl rfl _ (y_bin rfl rfl rfl (fun hg => b_adds (by first | omega | (simp only [List.length_append, List.length_cons, List.length_nil]; omega)))) ?_
            refine S_ 3 rfl rfl rfl _ (y_assign rfl rfl) ?_
            refine S_go (fun _ _ h => h) ?_
            refine T_seq ?_
            refine T_region ?_
            refine S_ 67 rfl rfl rfl _ (y_move rfl rfl) ?_
            refine S_ 2 rfl rfl rfl _ (y_assign rfl rfl) ?_
            refine S_go (fun _ _ h => h) ?_
            refine T_ret (fun a w hF hM => hRb a w (post1 rfl rfl (fun w hM => ?_) a w hF hM))
            exact ⟨by simp only [stTxt, inT, optT, hj, Int.toNat_natCast, h29, h39, h49, h59]; simp [numsB_one, wTill, wMore, wPpl, wAgain, *], hM.below⟩
          · skip
            refine T_skip_go (fun _ _ h => h) ?_
            refine T_seq ?_
            refine T_region ?_
            refine S_ 67 rfl rfl rfl _ (y_move rfl rfl) ?_
            refine S_ 2 rfl rfl rfl _ (y_assign rfl rfl) ?_
            refine S_go (fun _ _ h => h) ?_
            refine T_ret (fun a w hF hM => hRb a w (post1 rfl rfl (fun w hM => ?_) a w hF hM))
            exact ⟨by simp only [stTxt, inT, optT, hj, Int.toNat_natCast, h29, h39, h49, h59]; simp [numsB_one, wTill, wMore, wPpl, wAgain, *], hM.below⟩
      · skip
        refine T_skip_go (fun _ _ h => h) ?_
        refine T_seq ?_
        refine T_seq ?_
        refine T_region ?_
        refine S_ 47 rfl rfl rfl _ (y_fieldAddr rfl rfl fa40_6) ?_
        refine S_ 48 rfl rfl rfl _ (y_load 1 rfl rfl rfl rfl Tryd.underlying3 rfl) ?_
        refine S_ 49 rfl rfl rfl _ (y_bin rfl rfl rfl (fun _ => b_neq)) ?_
        refine S_go (fun _ _ h => h) ?_
        refine T_cond rfl (fun h49 => ?_) (fun h49 => ?_)
        · skip
          refine T_region ?_
          refine S_ 50 rfl rfl rfl _ (y_move rfl rfl) ?_
          refine S_ 51 rfl rfl rfl _ (y_fieldAddr rfl rfl fa40_6) ?_
          refine S_ 52 rfl rfl rfl _ (y_load 1 rfl rfl rfl rfl Tryd.underlying3 rfl) ?_
          refine S_buildSlice 53 53 rfl rfl rfl rfl rfl Tryd.underlying107 inf3 rfl (by decide) (by decide) rfl rfl (by decide) rfl ([s.ppl].flatMap intE9) ?_ ?_
          · rfl
          intro b53
          refine S_ 54 rfl rfl rfl _ (y_as (v' := str ([32] ++ Lib.itoa s.ppl)) (by rw [numsB_one]) (y_call rfl rfl rfl cf25 (fun hg w1 hM => numbers_any _ 1 _ [s.ppl] w1 (owned_ok (enc := intE9) (l := [s.ppl]) hM rfl (i := 53) rfl).t (by decide) (fun n hn => by have := List.mem_singleton.1 hn; omega) (hP.below hM.below)))) ?_
          refine S_ 55 rfl rfl rfl _ (y_bin rfl rfl rfl (fun hg => b_adds (by first | omega | (simp only [List.length_append, List.length_cons, List.length_nil]; omega)))) ?_
          refine S_ 56 rfl rfl rfl _ (y_bin rfl rfl rfl (fun hg => b_adds (by first | omega | (simp only [List.length_append, List.length_cons, List.length_nil]; omega)))) ?_
          refine S_ 3 rfl rfl rfl _ (y_assign rfl rfl) ?_
          refine S_go (fun _ _ h => h) ?_
          refine T_seq ?_
          refine T_seq ?_
          refine T_region ?_
          refine S_ 57 rfl rfl rfl _ (y_fieldAddr rfl rfl fa40_7) ?_
          refine S_ 58 rfl rfl rfl _ (y_load 1 rfl rfl rfl rfl Tryd.underlying3 rfl) ?_
          refine S_ 59 rfl rfl rfl _ (y_bin rfl rfl rfl (fun _ => b_neq)) ?_
          refine S_go (fun _ _ h => h) ?_
          refine T_cond rfl (fun h59 => ?_) (fun h59 => ?_)
          · skip
            refine T_region ?_
            refine S_ 60 rfl rfl rfl _ (y_move rfl rfl) ?_
            refine S_ 61 rfl rfl rfl _ (y_fieldAddr rfl rfl fa40_7) ?_
            refine S_ 62 rfl rfl rfl _ (y_load 1 rfl rfl rfl rfl Tryd.underlying3 rfl) ?_
            refine S_buildSlice 63 63 rfl rfl rfl rfl rfl Tryd.underlying107 inf3 rfl (by decide) (by decide) rfl rfl (by decide) rfl ([s.again].flatMap intE9) ?_ ?_
            · rfl
            intro b63
            refine S_ 64 rfl rfl rfl _ (y_as (v' := str ([32] ++ Lib.itoa s.again)) (by rw [numsB_one]) (y_call rfl rfl rfl cf25 (fun hg w1 hM => numbers_any _ 1 _ [s.again] w1 (owned_ok (enc := intE9) (l := [s.again]) hM rfl (i := 63) rfl).t (by decide) (fun n hn => by have := List.mem_singleton.1 hn; omega) (hP.below hM.below)))) ?_
            refine S_ 65 rfl rfl rfl _ (y_bin rfl rfl rfl (fun hg => b_adds (by first | omega | (simp only [List.length_append, List.length_cons, List.length_nil]; omega)))) ?_
            refine S_ 66 rfl rfl rfl _ (y_bin rfl rfl rfl (fun hg => b_adds (by first | omega | (simp only [List.length_append, List.length_cons, List.length_nil]; omega)))) ?_
            refine S_ 3 rfl rfl rfl _ (y_assign rfl rfl) ?_
            refine S_go (fun _ _ h => h) ?_
            refine T_seq ?_
            refine T_region ?_
            refine S_ 67 rfl rfl rfl _ (y_move rfl rfl) ?_
            refine S_ 2 rfl rfl rfl _ (y_assign rfl rfl) ?_
            refine S_go (fun _ _ h => h) ?_
            refine T_ret (fun a w hF hM => hRb a w (post1 rfl rfl (fun w hM => ?_) a w hF hM))
            exact ⟨by simp only [stTxt, inT, optT, hj, Int.toNat_natCast, h29, h39, h49, h59]; simp [numsB_one, wTill, wMore, wPpl, wAgain, *], hM.below⟩
          · skip
            refine T_skip_go (fun _ _ h => h) ?_
            refine T_seq ?_
            refine T_region ?_
            refine S_ 67 rfl rfl rfl _ (y_move rfl rfl) ?_
            refine S_ 2 rfl rfl rfl _ (y_assign rfl rfl) ?_
            refine S_go (fun _ _ h => h) ?_
            refine T_ret (fun a w hF hM => hRb a w (post1 rfl rfl (fun w hM => ?_) a w hF hM))
            exact ⟨by simp only [stTxt, inT, optT, hj, Int.toNat_natCast, h29, h39, h49, h59]; simp [numsB_one, wTill, wMore, wPpl, wAgain, *], hM.below⟩
        · skip
          refine T_skip_go (fun _ _ h => h) ?_
          refine T_seq ?_
          refine T_seq ?_
          refine T_region ?_
          refine S_ 57 rfl rfl rfl _ (y_fieldAddr rfl rfl fa40_7) ?_
          refine S_ 58 rfl rfl rfl _ (y_load 1 rfl rfl rfl rfl Tryd.underlying3 rfl) ?_
          refine S_ 59 rfl rfl rfl _ (y_bin rfl rfl rfl (fun _ => b_neq)) ?_
          refine S_go (fun _ _ h => h) ?_
          refine T_cond rfl (fun h59 => ?_) (fun h59 => ?_)
          · skip
            refine T_region ?_
            refine S_ 60 rfl rfl rfl _ (y_move rfl rfl) ?_
            refine S_ 61 rfl rfl rfl _ (y_fieldAddr rfl rfl fa40_7) ?_
            refine S_ 62 rfl rfl rfl _ (y_load 1 rfl rfl rfl rfl Tryd.underlying3 rfl) ?_
            refine S_buildSlice 63 63 rfl rfl rfl rfl rfl Tryd.underlying107 inf3 rfl (by decide) (by decide) rfl rfl (by decide) rfl ([s.again].flatMap intE9) ?_ ?_
            · rfl
            intro b63
            refine S_ 64 rfl rfl rfl _ (y_as (v' := str ([32] ++ Lib.itoa s.again)) (by rw [numsB_one]) (y_call rfl rfl rfl cf25 (fun hg w1 hM => numbers_any _ 1 _ [s.again] w1 (owned_ok (enc := intE9) (l := [s.again]) hM rfl (i := 63) rfl).t (by decide) (fun n hn => by have := List.mem_singleton.1 hn; omega) (hP.below hM.below)))) ?_
            refine S_ 65 rfl rfl rfl _ (y_bin rfl rfl rfl (fun hg => b_adds (by first | omega | (simp only [List.length_append, List.length_cons, List.length_nil]; omega)))) ?_
            refine S_ 66 rfl rfl rfl _ (y_bin rfl rfl rfl (fun hg => b_adds (by first | omega | (simp only [List.length_append, List.length_cons, List.length_nil]; omega)))) ?_
            refine S_ 3 rfl rfl rfl _ (y_assign rfl rfl) ?_
            refine S_go (fun _ _ h => h) ?_
            refine T_seq ?_
            refine T_region ?_
            refine S_ 67 rfl rfl rfl _ (y_move rfl rfl) ?_
            refine S_ 2 rfl rfl rfl _ (y_assign rfl rfl) ?_
            refine S_go (fun _ _ h => h) ?_
            refine T_ret (fun a w hF hM => hRb a w (post1 rfl rfl (fun w hM => ?_) a w hF hM))
            exact ⟨by simp only [stTxt, inT, optT, hj, Int.toNat_natCast, h29, h39, h49, h59]; simp [numsB_one, wTill, wMore, wPpl, wAgain, *], hM.below⟩
          · skip
            refine T_skip_go (fun _ _ h => h) ?_
            refine T_seq ?_
            refine T_region ?_
            refine S_ 67 rfl rfl rfl _ (y_move rfl rfl) ?_
            refine S_ 2 rfl rfl rfl _ (y_assign rfl rfl) ?_
            refine S_go (fun _ _ h => h) ?_
            refine T_ret (fun a w hF hM => hRb a w (post1 rfl rfl (fun w hM => ?_) a w hF hM))
            exact ⟨by simp only [stTxt, inT, optT, hj, Int.toNat_natCast, h29, h39, h49, h59]; simp [numsB_one, wTill, wMore, wPpl, wAgain, *], hM.below⟩
end Go.Proofs.YtkkngcdikbhkjaaDoor
