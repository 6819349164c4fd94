/- Part 5, merged by a program. find.Fits: the greedy search. Condition: the lengths are bounded. The reference's Star: a table of what fits. Condition: the lengths are bounded. Lower letters: fitting without regard to letters is fitting of the lowered. Plain lists; no program in sight. The reference's lower, and FitsText. Condition: the lengths are bounded. Events are compared, and what is asked of one: Same, Tag, Levels, and the reference's. Conditions: those of each theorem. What is made plain is right where the condition was, is plain, is no greater, and holds for the same. Plain trees; no program in sight. Events that are right are small, and what a leaf of a condition asks of an event. No program in sight. A function value that asks something of what it is given, kept for all later worlds; whether one of a list is such. Conditions: those of each theorem. -/
import Derived.Test.YtfmbgaaonfgenaaGreatDoorCopy
import Derived.Test.YtfmbgaaonfgenaaGreatDoorMov
import Derived.Test.YtfmbgaaonfgenaaGreatDoorSwp
import Derived.Test.YtfmbgaaonfgenaaGreatDoorByw
import Derived.Test.YtfmbgaaonfgenaaGreatDoorBxr
import Derived.Test.YtfmbgaaonfgenaaGreatDoorPk4
section
namespace Go.Proofs.YtfmbgaaonfgenaaGreatDoor
set_option linter.unusedSimpArgs false
set_option linter.unusedVariables false
set_option maxRecDepth 20000
open Go.RowKit Go.Eng
def lowN (n : Nat) : Nat := if 65 ≤ n ∧ n ≤ 90 then n + 32 else n
def eqL (a b : UInt8) : Bool := decide (((lowN a.toNat : Nat) : Int) = ((lowN b.toNat : Nat) : Int))
theorem lower_any (n : Nat) (hn : n < 256) (w : World) :
    Calls Tryz.prog 71 #[.int .u8 (n : Int)] w fun e w' => e = .returned (.int .u8 ((lowN n : Nat) : Int)) ∧ Below w.heap.size w w' := by
  refine enter_args (args := [.int .u8 (n : Int)]) (F := _) Tryz.func71 rfl Tryz.ntmps71 rfl rfl ?_
  intro Rb hRb hRn
  refine T_seq ?_
  refine T_region ?_
  refine S_ 2 rfl rfl rfl _ (y_assign rfl rfl) ?_
  refine S_go (fun _ _ h => h) ?_
  refine T_seq ?_
  refine T_seq ?_
  refine T_region ?_
  refine S_ 3 rfl rfl rfl _ (y_move rfl rfl) ?_
  refine S_ 4 rfl rfl rfl _ (y_bin rfl rfl rfl (fun _ => b_geq)) ?_
  refine S_ 5 rfl rfl rfl _ (y_move rfl rfl) ?_
  refine Sg_ 6 rfl rfl rfl rfl rfl rfl _ (y_move rfl rfl) ?_
  refine Sg_ 7 rfl rfl rfl rfl rfl rfl _ (y_bin rfl rfl rfl (fun _ => b_leq)) ?_
  refine S_ 8 rfl rfl rfl _ (y_and rfl rfl rfl) ?_
  refine S_go (fun _ _ h => h) ?_
  refine T_cond rfl (fun h8 => ?_) (fun h8 => ?_)
  · skip
    have h8 : 65 ≤ n ∧ n ≤ 90 := by simp only [Bool.and_eq_true, decide_eq_true_eq] at h8; omega
    refine T_seq ?_
    refine T_region ?_
    refine S_ 9 rfl rfl rfl _ (y_move rfl rfl) ?_
    refine S_ 10 rfl rfl rfl _ (y_bin rfl rfl rfl (fun hg => b_addw)) ?_
    refine S_ 11 rfl rfl rfl _ (y_bin rfl rfl rfl (fun hg => b_subw)) ?_
    refine S_ 2 rfl rfl rfl _ (y_assign rfl rfl) ?_
    refine S_go (fun _ _ h => h) ?_
    refine T_ret (fun a w hF hM => hRb a w (post1 rfl rfl (fun w hM => ?_) a w hF hM))
    exact ⟨by rw [lowN, if_pos h8]; congr 2; simp [IntKind.wrap, IntKind.signed, IntKind.bits]; omega, hM.below⟩
  · skip
    have h8 : ¬ (65 ≤ n ∧ n ≤ 90) := by intro h; simp at h8; omega
    refine T_skip_go (fun _ _ h => h) ?_
    refine T_seq ?_
    refine T_region ?_
    refine S_ 12 rfl rfl rfl _ (y_move rfl rfl) ?_
    refine S_ 2 rfl rfl rfl _ (y_assign rfl rfl) ?_
    refine S_go (fun _ _ h => h) ?_
    refine T_ret (fun a w hF hM => hRb a w (post1 rfl rfl (fun w hM => ?_) a w hF hM))
    exact ⟨by rw [lowN, if_neg h8], hM.below⟩
def stI (st : Option Nat) : Int := st.elim (-1) fun j => (j : Int)
theorem Tried.mk_le {e : UInt8 → UInt8 → Bool} {p s : List UInt8} {i k mk : Nat} {st : Option Nat} (h : Tried e p s i k st mk) : mk ≤ k := by
  cases st with
  | none => rw [h.no rfl]; exact Nat.zero_le _
  | some j => have := (h.hst j rfl).2.1; omega
theorem lit_star {p : List UInt8} {i : Nat} (h : (decide (((i : Nat) : Int) < ((p.length : Nat) : Int)) && decide ((((p.getD i 0).toNat : Nat) : Int) = 42)) = true) : i < p.length ∧ p.getD i 0 = 42 := by
  simp only [Bool.and_eq_true, decide_eq_true_eq] at h
  exact ⟨by omega, UInt8.toNat_inj.1 (by show (p.getD i 0).toNat = 42; omega)⟩
theorem lit_no {p : List UInt8} {i : Nat} (h : (decide (((i : Nat) : Int) < ((p.length : Nat) : Int)) && decide ((((p.getD i 0).toNat : Nat) : Int) = 42)) = false) : i < p.length → p.getD i 0 ≠ 42 := by
  intro hi e
  rw [decide_eq_true (by omega), Bool.true_and, decide_eq_false_iff_not] at h
  exact h (by rw [e]; rfl)
theorem mu_star {a b c d e C : Nat} (h : a ≤ b) (h2 : d + 1 ≤ e) : (c - b) * C + (e - (d + 1)) < (c - a) * C + (e - d) := by
  have : (c - b) * C ≤ (c - a) * C := Nat.mul_le_mul_right C (by omega)
  omega
theorem mu_back {m c C x y : Nat} (h : m + 1 ≤ c) (hx : x < C) : (c - (m + 1)) * C + x < (c - m) * C + y := by
  have : (c - m) * C = (c - (m + 1)) * C + C := by rw [show c - m = (c - (m + 1)) + 1 by omega, Nat.succ_mul]
  omega
theorem dropWhile_nilF {p : UInt8 → Bool} : ∀ {l : List UInt8}, l.dropWhile p = [] → ∀ c ∈ l, p c = true
  | [], _ => fun c h => by cases h
  | a :: r, h => fun c hc => by
    rw [List.dropWhile_cons] at h
    split at h
    · rcases List.mem_cons.1 hc with rfl | hc
      · assumption
      · exact dropWhile_nilF h c hc
    · cases h
theorem dropWhile_headF {p : UInt8 → Bool} : ∀ {l : List UInt8} {y : UInt8} {t : List UInt8}, l.dropWhile p = y :: t → p y = false
  | [], y, t, h => by simp at h
  | a :: r, y, t, h => by
    rw [List.dropWhile_cons] at h
    split at h
    · exact dropWhile_headF h
    · rename_i hp
      obtain ⟨rfl, _⟩ := List.cons.inj h
      simpa using hp
theorem trimS_nilF {s cs : List UInt8} (h : Lib.trimS s cs = []) : ∀ c ∈ s, cs.contains c = true := by
  have h1 := dropWhile_nilF (l := Lib.trimRightS s cs) h
  have h2 : s.reverse.dropWhile (cs.contains ·) = [] := by
    cases hq : s.reverse.dropWhile (cs.contains ·) with
    | nil => rfl
    | cons y t =>
      have h3 := dropWhile_headF hq
      have h4 := h1 y (by unfold Lib.trimRightS; rw [hq]; simp)
      rw [h3] at h4; cases h4
  intro c hc
  exact dropWhile_nilF h2 c (List.mem_reverse.2 hc)
theorem dropWhile_allF {p : UInt8 → Bool} : ∀ {l : List UInt8}, (∀ c ∈ l, p c = true) → l.dropWhile p = []
  | [], _ => rfl
  | a :: r, h => by rw [List.dropWhile_cons, if_pos (h a (List.mem_cons_self ..)), dropWhile_allF fun c hc => h c (List.mem_cons_of_mem _ hc)]
theorem trimS_allF {s cs : List UInt8} (h : ∀ c ∈ s, cs.contains c = true) : Lib.trimS s cs = [] := by
  have h2 : s.reverse.dropWhile (cs.contains ·) = [] := dropWhile_allF fun c hc => h c (List.mem_reverse.1 hc)
  have h3 : Lib.trimRightS s cs = [] := by unfold Lib.trimRightS; rw [h2]; rfl
  unfold Lib.trimS; rw [h3]; rfl
theorem all_trim (s : List UInt8) : decide (Lib.trimS s [42] = []) = s.all fun c => decide (c = 42) := by
  rw [Bool.eq_iff_iff, decide_eq_true_eq, List.all_eq_true]
  constructor
  · intro h c hc
    have := trimS_nilF h c hc
    simpa using this
  · intro h
    exact trimS_allF fun c hc => by have := h c hc; simpa using this
theorem Fits_any (p s : List UInt8) (w : World) (hp : p.length ≤ 1000000000) (hs : s.length ≤ 4611686018427387904) :
    Calls Tryz.prog 12 #[str p, str s] w fun e w' => e = .returned (.bool (gm eqL p s)) ∧ Below w.heap.size w w' := by
  refine enter_args (args := [str p, str s]) (F := _) Tryz.func12 rfl Tryz.ntmps12 rfl rfl ?_
  intro Rb hRb hRn
  refine T_seq ?_
  refine T_region ?_
  refine S_ 4 rfl rfl rfl _ (y_assign rfl rfl) ?_
  refine S_go (fun _ _ h => h) ?_
  refine T_seq ?_
  refine T_region ?_
  refine S_ 5 rfl rfl rfl _ (y_assign rfl rfl) ?_
  refine S_ 6 rfl rfl rfl _ (y_assign rfl rfl) ?_
  refine S_ 7 rfl rfl rfl _ (y_assign rfl rfl) ?_
  refine S_go (fun _ _ h => h) ?_
  refine T_seq ?_
  refine T_seq ?_
  refine T_region ?_
  refine S_ 8 rfl rfl rfl _ (y_assign rfl rfl) ?_
  refine S_go (fun _ _ h => h) ?_
  refine T_block ?_
  refine T_loopK4 (kf := [(4, 55)]) (kl := [(4, 55)]) (fun (i : Nat) (k : Nat) (st : Option Nat) (mk : Nat) => [(5, true, .int .i64 (i : Int)), (6, true, .int .i64 (stI st)), (7, true, .int .i64 (mk : Int)), (8, true, .int .i64 (k : Int))]) (fun (i : Nat) (k : Nat) (st : Option Nat) (mk : Nat) => []) (fun (i : Nat) (k : Nat) (st : Option Nat) (mk : Nat) => Tried eqL p s i k st mk) (fun (i : Nat) (k : Nat) (st : Option Nat) (mk : Nat) => (s.length - mk) * (p.length + s.length + 2) + ((p.length + s.length + 1) - (i + k))) 0 0 none 0 (by repeat (first | exact kf_nil | (apply kf_in; focus rfl) | (apply kf_out; focus rfl))) (by repeat (first | exact kl_nil | exact kl_rest (by assumption) rfl | (apply kl_in; focus rfl) | (apply kl_out; focus rfl))) ?_ ?_ ?_ ?_
  · exact Tried.start p s
  · exact ⟨rfl, rfl, rfl, rfl, trivial⟩
  · exact trivial
  rintro i k st mk ht
  refine T_seq ?_
  refine T_seq ?_
  refine T_region ?_
  refine S_ 9 rfl rfl rfl _ (y_move rfl rfl) ?_
  refine S_ 10 rfl rfl rfl _ (y_move rfl rfl) ?_
  refine S_ 11 rfl rfl rfl _ (y_len_str rfl rfl Tryz.underlying9) ?_
  refine S_ 12 rfl rfl rfl _ (y_bin rfl rfl rfl (fun _ => b_lss)) ?_
  refine S_go (fun _ _ h => h) ?_
  refine T_cond rfl (fun h12 => ?_) (fun h12 => ?_)
  · try simp only [decide_eq_true_eq, decide_eq_false_iff_not, Bool.or_eq_true, Bool.or_eq_false_iff, Bool.and_eq_true, Bool.and_eq_false_iff, Bool.not_eq_true', Bool.not_eq_false', Bool.not_eq_true, Bool.not_eq_false, Bool.not_true, Bool.not_false, Int.not_lt, Int.not_le, not_or, not_and, Classical.not_not] at h12
    have hk : k < s.length := by omega
    have hmk := ht.mk_le
    have hil := ht.hi
    refine T_skip_go (fun _ _ h => h) ?_
    refine T_block ?_
    refine T_block ?_
    refine T_seq ?_
    refine T_region ?_
    refine S_ 14 rfl rfl rfl _ (y_move rfl rfl) ?_
    refine S_ 15 rfl rfl rfl _ (y_move rfl rfl) ?_
    refine S_ 16 rfl rfl rfl _ (y_len_str rfl rfl Tryz.underlying9) ?_
    refine S_ 17 rfl rfl rfl _ (y_bin rfl rfl rfl (fun _ => b_lss)) ?_
    refine S_ 18 rfl rfl rfl _ (y_move rfl rfl) ?_
    refine Sg_ 19 rfl rfl rfl rfl rfl rfl _ (y_move rfl rfl) ?_
    refine Sg_ 20 rfl rfl rfl rfl rfl rfl _ (y_move rfl rfl) ?_
    refine Sg_ 21 rfl rfl rfl rfl rfl rfl _ (y_index_str rfl rfl rfl Tryz.underlying9 (fun hg => by simp only [Bool.true_and, Bool.and_eq_true, beq_iff_eq, decide_eq_true_eq, decide_eq_false_iff_not, Int.not_lt, Int.not_le] at hg; omega)) ?_
    refine Sg_ 22 rfl rfl rfl rfl rfl rfl _ (y_bin rfl rfl rfl (fun _ => b_eql)) ?_
    refine S_ 23 rfl rfl rfl _ (y_and rfl rfl rfl) ?_
    refine S_ 13 rfl rfl rfl _ (y_assign rfl rfl) ?_
    refine S_go (fun _ _ h => h) ?_
    refine T_cond rfl (fun h13 => ?_) (fun h13 => ?_)
    · skip
      have hi : i < p.length ∧ p.getD i 0 = 42 := lit_star h13
      refine T_seq ?_
      refine T_region ?_
      refine S_ 24 rfl rfl rfl _ (y_move rfl rfl) ?_
      refine S_ 25 rfl rfl rfl _ (y_move rfl rfl) ?_
      refine S_ 6 rfl rfl rfl _ (y_assign rfl rfl) ?_
      refine S_ 7 rfl rfl rfl _ (y_assign rfl rfl) ?_
      refine S_go (fun _ _ h => h) ?_
      refine T_region ?_
      refine S_ 26 rfl rfl rfl _ (y_move rfl rfl) ?_
      refine S_ 27 rfl rfl rfl _ (y_bin rfl rfl rfl (fun hg => b_add (by omega))) ?_
      refine S_ 5 rfl rfl rfl _ (y_assign rfl rfl) ?_
      refine S_nil (nextK4 (kf := [(4, 55)]) (kl := [(4, 55)]) (i + 1) k (some i) k (by repeat (first | exact kf_nil | (apply kf_in; focus rfl) | (apply kf_out; focus rfl))) (by repeat (first | exact kl_nil | exact kl_rest (by assumption) rfl | (apply kl_in; focus rfl) | (apply kl_out; focus rfl))) ?_ ?_ ?_ ?_)
      · simpa only [show i + 1 + k = i + k + 1 by omega] using mu_star (C := p.length + s.length + 2) (c := s.length) (d := i + k) (e := p.length + s.length + 1) hmk (by omega)
      · exact ht.star hi.1 hi.2
      · exact ⟨rfl, rfl, rfl, rfl, trivial⟩
      · exact trivial
    · skip
      have hns : i < p.length → p.getD i 0 ≠ 42 := lit_no h13
      refine T_seq ?_
      refine T_draws (by kernel_rfl) (by kernel_rfl) ?_
      refine D_ 29 rfl rfl rfl _ (y_move rfl rfl) ?_
      refine D_ 30 rfl rfl rfl _ (y_move rfl rfl) ?_
      refine D_ 31 rfl rfl rfl _ (y_len_str rfl rfl Tryz.underlying9) ?_
      refine D_ 32 rfl rfl rfl _ (y_bin rfl rfl rfl (fun _ => b_lss)) ?_
      refine D_ 33 rfl rfl rfl _ (y_move rfl rfl) ?_
      refine Dg_ 34 rfl rfl rfl rfl rfl rfl _ (y_move rfl rfl) ?_
      refine Dg_ 35 rfl rfl rfl rfl rfl rfl _ (y_move rfl rfl) ?_
      refine Dg_ 36 rfl rfl rfl rfl rfl rfl _ (y_index_str rfl rfl rfl Tryz.underlying9 (fun hg => by simp only [Bool.true_and, Bool.and_eq_true, beq_iff_eq, decide_eq_true_eq, decide_eq_false_iff_not, Int.not_lt, Int.not_le] at hg; omega)) ?_
      refine Dg_ 37 rfl rfl rfl rfl rfl rfl _ (y_call rfl rfl rfl cf71 (fun _ w _ => lower_any _ (UInt8.toNat_lt _) w)) ?_
      refine Dg_ 38 rfl rfl rfl rfl rfl rfl _ (y_move rfl rfl) ?_
      refine Dg_ 39 rfl rfl rfl rfl rfl rfl _ (y_move rfl rfl) ?_
      refine Dg_ 40 rfl rfl rfl rfl rfl rfl _ (y_index_str rfl rfl rfl Tryz.underlying9 (fun hg => by simp only [Bool.true_and, Bool.and_eq_true, beq_iff_eq, decide_eq_true_eq, decide_eq_false_iff_not, Int.not_lt, Int.not_le] at hg; omega)) ?_
      refine Dg_ 41 rfl rfl rfl rfl rfl rfl _ (y_call rfl rfl rfl cf71 (fun _ w _ => lower_any _ (UInt8.toNat_lt _) w)) ?_
      refine Dg_ 42 rfl rfl rfl rfl rfl rfl _ (y_bin rfl rfl rfl (fun _ => b_eql)) ?_
      refine D_ 43 rfl rfl rfl _ (y_and rfl rfl rfl) ?_
      refine D_ 28 rfl rfl rfl _ (y_assign rfl rfl) ?_
      refine D_go (fun _ _ h => h) ?_
      refine T_cond rfl (fun h28 => ?_) (fun h28 => ?_)
      · skip
        have hi : i < p.length ∧ eqL (p.getD i 0) (s.getD k 0) = true := by simp only [Bool.and_eq_true, decide_eq_true_eq] at h28; exact ⟨by omega, decide_eq_true h28.2⟩
        refine T_seq ?_
        refine T_region ?_
        refine S_ 44 rfl rfl rfl _ (y_move rfl rfl) ?_
        refine S_ 45 rfl rfl rfl _ (y_bin rfl rfl rfl (fun hg => b_add (by omega))) ?_
        refine S_ 5 rfl rfl rfl _ (y_assign rfl rfl) ?_
        refine S_go (fun _ _ h => h) ?_
        refine T_region ?_
        refine S_ 46 rfl rfl rfl _ (y_move rfl rfl) ?_
        refine S_ 47 rfl rfl rfl _ (y_bin rfl rfl rfl (fun hg => b_add (by omega))) ?_
        refine S_ 8 rfl rfl rfl _ (y_assign rfl rfl) ?_
        refine S_nil (nextK4 (kf := [(4, 55)]) (kl := [(4, 55)]) (i + 1) (k + 1) st mk (by repeat (first | exact kf_nil | (apply kf_in; focus rfl) | (apply kf_out; focus rfl))) (by repeat (first | exact kl_nil | exact kl_rest (by assumption) rfl | (apply kl_in; focus rfl) | (apply kl_out; focus rfl))) ?_ ?_ ?_ ?_)
        · omega
        · exact ht.lit hi.1 hk (hns hi.1) hi.2
        · exact ⟨rfl, rfl, rfl, rfl, trivial⟩
        · exact trivial
      · skip
        have hno : i < p.length → p.getD i 0 ≠ 42 ∧ eqL (p.getD i 0) (s.getD k 0) = false := fun h => ⟨hns h, by rw [decide_eq_true (show ((i : Nat) : Int) < p.length by omega), Bool.true_and] at h28; exact h28⟩
        refine T_seq ?_
        refine T_region ?_
        refine S_ 49 rfl rfl rfl _ (y_move rfl rfl) ?_
        refine S_ 50 rfl rfl rfl _ (y_bin rfl rfl rfl (fun _ => b_geq)) ?_
        refine S_ 48 rfl rfl rfl _ (y_assign rfl rfl) ?_
        refine S_go (fun _ _ h => h) ?_
        refine T_cond rfl (fun h48 => ?_) (fun h48 => ?_)
        · skip
          obtain ⟨j, rfl⟩ : ∃ j, st = some j := by cases st with
            | none => simp [stI] at h48 <;> omega
            | some j => exact ⟨j, rfl⟩
          have hji := (ht.hst j rfl).1
          refine T_seq ?_
          refine T_region ?_
          refine S_ 51 rfl rfl rfl _ (y_move rfl rfl) ?_
          refine S_ 52 rfl rfl rfl _ (y_bin rfl rfl rfl (fun hg => b_add (by omega))) ?_
          refine S_ 7 rfl rfl rfl _ (y_assign rfl rfl) ?_
          refine S_go (fun _ _ h => h) ?_
          refine T_region ?_
          refine S_ 53 rfl rfl rfl _ (y_as (v' := .int .i64 ((j : Nat) : Int)) (by exact rfl) (y_move rfl rfl)) ?_
          refine S_ 54 rfl rfl rfl _ (y_bin rfl rfl rfl (fun hg => b_add (by omega))) ?_
          refine S_ 55 rfl rfl rfl _ (y_move rfl rfl) ?_
          refine S_ 5 rfl rfl rfl _ (y_assign rfl rfl) ?_
          refine S_ 8 rfl rfl rfl _ (y_assign rfl rfl) ?_
          refine S_nil (nextK4 (kf := [(4, 55)]) (kl := [(4, 55)]) (j + 1) (mk + 1) (some j) (mk + 1) (by repeat (first | exact kf_nil | (apply kf_in; focus rfl) | (apply kf_out; focus rfl))) (by repeat (first | exact kl_nil | exact kl_rest (by assumption) rfl | (apply kl_in; focus rfl) | (apply kl_out; focus rfl))) ?_ ?_ ?_ ?_)
          · exact mu_back (by omega) (by omega)
          · exact ht.back hk hno
          · exact ⟨rfl, rfl, rfl, rfl, trivial⟩
          · exact trivial
        · skip
          have hst : st = none := by cases st with
            | none => rfl
            | some j => simp [stI] at h48 <;> omega
          subst hst
          refine T_seq ?_
          refine T_region ?_
          refine S_ 4 rfl rfl rfl _ (y_assign rfl rfl) ?_
          refine S_go (fun _ _ h => h) ?_
          refine T_ret (fun a w hF hM => hRb a w (post1 rfl rfl (fun w hM => ?_) a w hF hM))
          exact ⟨by rw [ht.fail hk hno], hM.below⟩
  · try simp only [decide_eq_true_eq, decide_eq_false_iff_not, Bool.or_eq_true, Bool.or_eq_false_iff, Bool.and_eq_true, Bool.and_eq_false_iff, Bool.not_eq_true', Bool.not_eq_false', Bool.not_eq_true, Bool.not_eq_false, Bool.not_true, Bool.not_false, Int.not_lt, Int.not_le, not_or, not_and, Classical.not_not] at h12
    have hk : s.length ≤ k := by omega
    have hil := ht.hi
    refine T_exit_go (fun _ _ h => h) ?_
    refine T_seq ?_
    refine T_region ?_
    refine S_ 56 rfl rfl rfl _ (y_move rfl rfl) ?_
    refine S_ 57 rfl rfl rfl _ (y_move rfl rfl) ?_
    refine S_ 58 rfl rfl rfl _ (y_strFrom rfl rfl rfl Tryz.underlying9 (fun _ => by omega)) ?_
    refine S_ 59 rfl rfl rfl _ (y_call rfl rfl rfl cf72 (fun _ w _ => Any.strings_Trim_laid Tryz.lays160 (by kernel_rfl) ⟨(p.drop i).toArray⟩ ⟨([42] : List UInt8).toArray⟩ w (by rw [Lib.size_eq]; simp; omega) (by decide) (ascii_of_all (by decide)))) ?_
    refine S_ 60 rfl rfl rfl _ (y_bin rfl rfl rfl (fun _ => b_eqls)) ?_
    refine S_ 4 rfl rfl rfl _ (y_assign rfl rfl) ?_
    refine S_go (fun _ _ h => h) ?_
    refine T_ret (fun a w hF hM => hRb a w (post1 rfl rfl (fun w hM => ?_) a w hF hM))
    exact ⟨by rw [ht.done hk, ← all_trim], hM.below⟩
end Go.Proofs.YtfmbgaaonfgenaaGreatDoor
end
section
namespace Go.Proofs.YtfmbgaaonfgenaaGreatDoor
set_option linter.unusedSimpArgs false
set_option linter.unusedVariables false
set_option maxRecDepth 20000
open Go.RowKit Go.Eng
def eqS (a b : UInt8) : Bool := decide (a = b)
def e0L (n : Nat) : List Bool := true :: List.replicate n false
def boolE (b : Bool) : List Value := [.bool b]
theorem bools_flat (l : List Bool) : l.flatMap boolE = l.map Value.bool := by
  induction l with
  | nil => rfl
  | cons a r ih => rw [List.flatMap_cons, ih]; rfl
theorem bools_len (l : List Bool) : (l.flatMap boolE).length = l.length := by rw [bools_flat, List.length_map]
theorem made_bool (z : Value) (hz : z = .bool false) (n : Nat) : (madeCells z.cells (n * 1)).toList = (List.replicate n false).flatMap boolE := by
  subst hz
  rw [bools_flat, Nat.mul_one]
  apply List.ext_getElem?
  intro j
  by_cases h : j < n
  · simp [madeCells, h, List.getElem?_replicate, Value.cells, Nat.mod_one]
  · simp [madeCells, h, List.getElem?_replicate]
/-- the first i places are f's, the others false -/
def bfill (f : Nat → Bool) (q i : Nat) : List Bool := (List.range i).map f ++ List.replicate (q - i) false
theorem bfill_len {f : Nat → Bool} {q i : Nat} (h : i ≤ q) : (bfill f q i).length = q := by simp [bfill]; omega
theorem bfill_0 {f : Nat → Bool} {q : Nat} : bfill f q 0 = List.replicate q false := by simp [bfill]
theorem bfill_at {f : Nat → Bool} {q i j : Nat} (h : j < i) : (bfill f q i)[j]? = some (f j) := by
  rw [bfill, List.getElem?_append_left (by simp; exact h)]
  simp [h]
theorem bfill_set {f : Nat → Bool} {q i : Nat} (h : i < q) : ((bfill f q i).flatMap boolE).set i (.bool (f i)) = (bfill f q (i + 1)).flatMap boolE := by
  obtain ⟨m, hm⟩ : ∃ m, q - i = m + 1 := ⟨q - i - 1, by omega⟩
  rw [bools_flat, bools_flat, bfill, bfill, hm, show q - (i + 1) = m by omega, List.replicate_succ, List.range_succ]
  simp only [List.map_append, List.map_cons, List.map_nil, List.map_map]
  rw [List.set_append_right _ _ (by simp)]
  simp
theorem bfill_end {f : Nat → Bool} {q i : Nat} (h : q ≤ i) (h2 : i ≤ q) : bfill f q i = (List.range q).map f := by
  obtain rfl : i = q := by omega
  simp [bfill]
/-! ### step -/
theorem getD_at {l : List Bool} {i : Nat} (h : i < l.length) : l[i]? = some (l.getD i false) := by
  rw [List.getD_eq_getElem?_getD, List.getElem?_eq_getElem h]; rfl
theorem T_isome {P : Program} {w0 : World} {n : Nat} {k : Code} {F : FL} {L : HL} {Q : Exit → Act → World → Prop} (i : Nat) {e : TypeId} {size q c : Nat} {A : Option Addr} {xs : List Value} (hL : L.get i = some (.own e size (.slice A q c) q xs)) (h : (0 < q → A.isSome = true) → T P w0 n k F L Q) : T P w0 n k F L Q :=
  fun a w hF hM => h (fun h0 => SlR.isSome (own_reads hM hL) h0) a w hF hM
theorem e0_set {z : Value} (hz : z = .bool false) (n : Nat) : ((madeCells z.cells ((n + 1) * 1)).toList).set 0 (.bool true) = (e0L n).flatMap boolE := by
  rw [made_bool z hz, bools_flat, bools_flat, e0L, List.replicate_succ]; rfl
theorem row0 (s : List UInt8) : rowG eqS [] s = e0L s.length := rowG_0 s
theorem rowG_len (p s : List UInt8) : (rowG eqS p s).length = s.length + 1 := by simp [rowG]
theorem rowG_next (p s : List UInt8) (a : UInt8) : (List.range (s.length + 1)).map (nxF (e := eqS) a s (rowG eqS p s)) = rowG eqS (p ++ [a]) s := by
  rw [rowG]
  apply List.map_congr_left
  intro k hk
  exact nxF_row k (by have := List.mem_range.1 hk; omega)
theorem nx_star {a : UInt8} {s : List UInt8} {fits : List Bool} {k : Nat} (ha : a = 42) : (fits.getD k false || (decide ((0 : Int) < ((k : Nat) : Int)) && nxF (e := eqS) a s fits (k - 1))) = nxF (e := eqS) a s fits k := by
  cases k with
  | zero => rw [nxF, if_pos ha, decide_eq_false (by omega), Bool.false_and, Bool.or_false]
  | succ k => rw [nxF, if_pos ha, decide_eq_true (by omega), Bool.true_and, Nat.add_sub_cancel]
theorem nx_lit {a : UInt8} {s : List UInt8} {fits : List Bool} {k : Nat} (ha : a ≠ 42) : (decide ((0 : Int) < ((k : Nat) : Int)) && fits.getD (k - 1) false && decide ((((s.getD (k - 1) 0).toNat : Nat) : Int) = ((a.toNat : Nat) : Int))) = nxF (e := eqS) a s fits k := by
  cases k with
  | zero => rw [nxF, if_neg ha, decide_eq_false (by omega), Bool.false_and, Bool.false_and]
  | succ k =>
    rw [nxF, if_neg ha, decide_eq_true (by omega), Bool.true_and, Nat.add_sub_cancel, eqS]
    congr 1
    exact decide_eq_decide.2 ⟨fun h => (UInt8.toNat_inj.1 (by omega)).symm, fun h => by rw [h]⟩
set_option maxHeartbeats 1600000 in
theorem Star_any (p s : List UInt8) (hp : p.length ≤ 140737488351234) (hqm : s.length ≤ 140737488351232) (w : World) :
    Calls Tryz.prog 73 #[str p, str s] w fun e w' => e = .returned (.bool (gm eqS p s)) ∧ Below w.heap.size w w' := by
  refine enter_args (args := [str p, str s]) (F := _) Tryz.func73 rfl Tryz.ntmps73 rfl rfl ?_
  intro Rb hRb hRn
  refine T_seq ?_
  refine T_region ?_
  refine S_ 4 rfl rfl rfl _ (y_assign rfl rfl) ?_
  refine S_go (fun _ _ h => h) ?_
  refine T_seq ?_
  refine T_region ?_
  refine S_ 9 rfl rfl rfl _ (y_move rfl rfl) ?_
  refine S_ 10 rfl rfl rfl _ (y_len_str rfl rfl Tryz.underlying9) ?_
  refine S_ 11 rfl rfl rfl _ (y_bin rfl rfl rfl (fun hg => b_addv (((s.length + 1 : Nat) : Int)) (by omega) (by omega))) ?_
  obtain ⟨i12, hi12, hz12, hs12, hy12⟩ := info_parts inf4
  refine S_makeSlice 12 12 rfl rfl rfl rfl rfl rfl Tryz.underlying191 hi12 hz12 hs12 (by rw [hy12]; omega) ((by simp only [maxLen]; omega)) rfl ?_
  intro b12
  refine S_ 5 rfl rfl rfl _ (y_assign rfl rfl) ?_
  refine S_go (fun _ _ h => h) ?_
  refine T_seq ?_
  refine T_region ?_
  refine S_ 13 rfl rfl rfl _ (y_move rfl rfl) ?_
  refine S_ 14 rfl rfl rfl _ (y_indexOwnI (j := 0) 12 rfl rfl rfl (fun _ => rfl) rfl Tryz.underlying191 sz4 (fun _ => by omega)) ?_
  refine S_storeOwn 12 rfl rfl rfl rfl rfl rfl sz4 rfl rfl ?_ (xs' := (e0L s.length).flatMap boolE) ?_ ?_
  · (rw [made_bool _ rfl, bools_len, List.length_replicate]; omega)
  · exact e0_set rfl s.length
  refine S_go (fun _ _ h => h) ?_
  refine T_seq ?_
  refine T_seq ?_
  refine T_region ?_
  refine S_ 15 rfl rfl rfl _ (y_move rfl rfl) ?_
  refine S_ 16 rfl rfl rfl _ (y_len_str rfl rfl Tryz.underlying9) ?_
  refine S_ 17 rfl rfl rfl _ (y_move rfl rfl) ?_
  refine S_go (fun _ _ h => h) ?_
  refine T_block ?_
  refine T_loopK3 (kf := [(5, 8), (17, 75)]) (kl := [(5, 8), (12, 12), (17, 75)]) (fun (i : Nat) (A : Option Addr) (c : Nat) => [(17, true, .int .i64 (i : Int)), (5, true, .slice A (s.length + 1) c)]) (fun (i : Nat) (A : Option Addr) (c : Nat) => [(12, .own 4 1 (.slice A (s.length + 1) c) (s.length + 1) ((rowG eqS (p.take i) s).flatMap boolE))]) (fun (i : Nat) (A : Option Addr) (c : Nat) => i ≤ p.length) (fun (i : Nat) (A : Option Addr) (c : Nat) => p.length - i) 0 (some ⟨b12, 0, none⟩) (s.length + 1) (by repeat (first | exact kf_nil | (apply kf_in; focus rfl) | (apply kf_out; focus rfl))) (by repeat (first | exact kl_nil | exact kl_rest (by assumption) rfl | (apply kl_in; focus rfl) | (apply kl_out; focus rfl))) ?_ ?_ ?_ ?_
  · omega
  · exact ⟨rfl, rfl, trivial⟩
  · exact ⟨by rw [List.take_zero, row0]; rfl, trivial⟩
  rintro i A c hr1
  refine T_seq ?_
  refine T_region ?_
  refine S_ 18 rfl rfl rfl _ (y_bin rfl rfl rfl (fun _ => b_lss)) ?_
  refine S_go (fun _ _ h => h) ?_
  refine T_seq ?_
  refine T_cond rfl (fun h18 => ?_) (fun h18 => ?_)
  · try simp only [decide_eq_true_eq, decide_eq_false_iff_not, Bool.or_eq_true, Bool.or_eq_false_iff, Bool.and_eq_true, Bool.and_eq_false_iff, Bool.not_eq_true', Bool.not_eq_false', Bool.not_eq_true, Bool.not_eq_false, Bool.not_true, Bool.not_false, Int.not_lt, Int.not_le, not_or, not_and, Classical.not_not] at h18
    have hi : i < p.length := by omega
    obtain ⟨fits, hft⟩ : ∃ f, f = rowG eqS (p.take i) s := ⟨_, rfl⟩
    have hfl : fits.length = s.length + 1 := by rw [hft, rowG_len]
    rw [← hft]
    have hpt : p.take (i + 1) = p.take i ++ [p.getD i 0] := by rw [List.getD_eq_getElem?_getD, List.getElem?_eq_getElem hi, List.take_succ_eq_append_getElem hi]; rfl
    refine T_skip_go (fun _ _ h => h) ?_
    refine T_seq ?_
    refine T_block ?_
    refine T_seq ?_
    refine T_region ?_
    refine S_ 19 rfl rfl rfl _ (y_move rfl rfl) ?_
    refine S_ 6 rfl rfl rfl _ (y_assign rfl rfl) ?_
    refine S_go (fun _ _ h => h) ?_
    refine T_seq ?_
    refine T_region ?_
    refine S_ 20 rfl rfl rfl _ (y_move rfl rfl) ?_
    refine S_ 21 rfl rfl rfl _ (y_len_str rfl rfl Tryz.underlying9) ?_
    refine S_ 22 rfl rfl rfl _ (y_bin rfl rfl rfl (fun hg => b_addv (((s.length + 1 : Nat) : Int)) (by omega) (by omega))) ?_
    obtain ⟨i23, hi23, hz23, hs23, hy23⟩ := info_parts inf4
    refine S_makeSlice 23 23 rfl rfl rfl rfl rfl rfl Tryz.underlying191 hi23 hz23 hs23 (by rw [hy23]; omega) ((by simp only [maxLen]; omega)) rfl ?_
    intro b23
    refine S_ 7 rfl rfl rfl _ (y_assign rfl rfl) ?_
    refine S_go (fun _ _ h => h) ?_
    refine T_seq ?_
    refine T_seq ?_
    refine T_region ?_
    refine S_ 24 rfl rfl rfl _ (y_move rfl rfl) ?_
    refine S_ 25 rfl rfl rfl _ (y_len_slice rfl rfl Tryz.underlying191) ?_
    refine S_ 26 rfl rfl rfl _ (y_move rfl rfl) ?_
    refine S_go (fun _ _ h => h) ?_
    refine T_block ?_
    refine T_loopK1 (kf := [(8, 8), (26, 73)]) (kl := [(8, 8), (23, 23), (26, 73)]) (fun (k : Nat) => [(26, true, .int .i64 (k : Int))]) (fun (k : Nat) => [(23, .own 4 1 (.slice (some ⟨b23, 0, none⟩) (s.length + 1) (s.length + 1)) (s.length + 1) ((bfill (nxF (e := eqS) (p.getD i 0) s fits) (s.length + 1) k).flatMap boolE))]) (fun (k : Nat) => k ≤ s.length + 1) (fun (k : Nat) => s.length + 1 - k) 0 (by repeat (first | exact kf_nil | (apply kf_in; focus rfl) | (apply kf_out; focus rfl))) (by repeat (first | exact kl_nil | exact kl_rest (by assumption) rfl | (apply kl_in; focus rfl) | (apply kl_out; focus rfl))) ?_ ?_ ?_ ?_
    · omega
    · exact ⟨rfl, trivial⟩
    · exact ⟨by rw [bfill_0, ← made_bool _ rfl]; rfl, trivial⟩
    rintro k hq1
    refine T_seq ?_
    refine T_region ?_
    refine S_ 27 rfl rfl rfl _ (y_bin rfl rfl rfl (fun _ => b_lss)) ?_
    refine S_go (fun _ _ h => h) ?_
    refine T_seq ?_
    refine T_cond rfl (fun h27 => ?_) (fun h27 => ?_)
    · try simp only [decide_eq_true_eq, decide_eq_false_iff_not, Bool.or_eq_true, Bool.or_eq_false_iff, Bool.and_eq_true, Bool.and_eq_false_iff, Bool.not_eq_true', Bool.not_eq_false', Bool.not_eq_true, Bool.not_eq_false, Bool.not_true, Bool.not_false, Int.not_lt, Int.not_le, not_or, not_and, Classical.not_not] at h27
      refine T_isome 23 rfl fun hA23 => ?_
      refine T_isome 12 rfl fun hA12 => ?_
      refine T_skip_go (fun _ _ h => h) ?_
      refine T_seq ?_
      refine T_block ?_
      refine T_seq ?_
      refine T_region ?_
      refine S_ 28 rfl rfl rfl _ (y_move rfl rfl) ?_
      refine S_ 8 rfl rfl rfl _ (y_assign rfl rfl) ?_
      refine S_go (fun _ _ h => h) ?_
      refine T_seq ?_
      refine T_region ?_
      refine S_ 29 rfl rfl rfl _ (y_move rfl rfl) ?_
      refine S_ 30 rfl rfl rfl _ (y_move rfl rfl) ?_
      refine S_ 31 rfl rfl rfl _ (y_index_str rfl rfl rfl Tryz.underlying9 (fun _ => by omega)) ?_
      refine S_ 32 rfl rfl rfl _ (y_bin rfl rfl rfl (fun _ => b_eql)) ?_
      refine S_go (fun _ _ h => h) ?_
      refine T_cond rfl (fun h32 => ?_) (fun h32 => ?_)
      · skip
        have ha : p.getD i 0 = 42 := UInt8.toNat_inj.1 (show (p.getD i 0).toNat = 42 by simp only [decide_eq_true_eq] at h32; omega)
        refine T_region ?_
        refine S_ 33 rfl rfl rfl _ (y_move rfl rfl) ?_
        refine S_ 34 rfl rfl rfl _ (y_move rfl rfl) ?_
        refine S_ 35 rfl rfl rfl _ (y_move rfl rfl) ?_
        refine S_ 36 rfl rfl rfl _ (y_move rfl rfl) ?_
        refine S_ 37 rfl rfl rfl _ (y_indexAddr rfl rfl rfl Tryz.underlying191 sz4 (fun hg => hA12 (by omega)) (fun _ => by omega)) ?_
        refine S_ 38 rfl rfl rfl _ (y_loadO1 12 (val := (fun b : Bool => Value.bool b)) rfl rfl rfl (by first | omega | (rw [rowG_len])) (fun _ => getD_at (by omega)) Tryz.underlying4 rfl) ?_
        refine S_ 39 rfl rfl rfl _ (y_move rfl rfl) ?_
        refine Sg_ 40 rfl rfl rfl rfl rfl rfl _ (y_move rfl rfl) ?_
        refine Sg_ 41 rfl rfl rfl rfl rfl rfl _ (y_bin rfl rfl rfl (fun _ => b_gtr)) ?_
        refine Sg_ 42 rfl rfl rfl rfl rfl rfl _ (y_move rfl rfl) ?_
        refine Sg_ 43 rfl rfl rfl rfl rfl rfl _ (y_move rfl rfl) ?_
        refine Sg_ 44 rfl rfl rfl rfl rfl rfl _ (y_move rfl rfl) ?_
        refine Sg_ 45 rfl rfl rfl rfl rfl rfl _ (y_bin rfl rfl rfl (fun hg => b_subv (((k - 1 : Nat) : Int)) (by simp only [Bool.true_and, Bool.and_eq_true, beq_iff_eq, decide_eq_true_eq, decide_eq_false_iff_not, Int.not_lt, Int.not_le] at hg; omega) (by simp only [Bool.true_and, Bool.and_eq_true, beq_iff_eq, decide_eq_true_eq, decide_eq_false_iff_not, Int.not_lt, Int.not_le] at hg; omega))) ?_
        refine Sg_ 46 rfl rfl rfl rfl rfl rfl _ (y_indexAddr rfl rfl rfl Tryz.underlying191 sz4 (fun hg => hA23 (by simp only [Bool.true_and, Bool.and_eq_true, beq_iff_eq, decide_eq_true_eq, decide_eq_false_iff_not, Int.not_lt, Int.not_le] at hg; omega)) (fun hg => by simp only [Bool.true_and, Bool.and_eq_true, beq_iff_eq, decide_eq_true_eq, decide_eq_false_iff_not, Int.not_lt, Int.not_le] at hg; omega)) ?_
        refine Sg_ 47 rfl rfl rfl rfl rfl rfl _ (y_loadO1 23 (val := (fun b : Bool => Value.bool b)) rfl rfl rfl (bfill_len (by omega)) (fun hg => bfill_at (j := k - 1) (by simp only [Bool.true_and, Bool.and_eq_true, beq_iff_eq, decide_eq_true_eq, decide_eq_false_iff_not, Int.not_lt, Int.not_le] at hg; omega)) Tryz.underlying4 rfl) ?_
        refine Sg_ 48 rfl rfl rfl rfl rfl rfl _ (y_and rfl rfl rfl) ?_
        refine S_ 49 rfl rfl rfl _ (y_as (v' := .bool (nxF (e := eqS) (p.getD i 0) s fits k)) (by exact congrArg Value.bool (nx_star ha)) (y_or rfl rfl rfl)) ?_
        refine S_ 50 rfl rfl rfl _ (y_indexAddr rfl rfl rfl Tryz.underlying191 sz4 (fun hg => hA23 (by omega)) (fun _ => by omega)) ?_
        refine S_storeOwn 23 rfl rfl rfl rfl rfl rfl sz4 rfl rfl ?_ (xs' := (bfill (nxF (e := eqS) (p.getD i 0) s fits) (s.length + 1) (k + 1)).flatMap boolE) ?_ ?_
        · (rw [bools_len, bfill_len (by omega)]; omega)
        · exact bfill_set (by omega)
        refine S_go (fun _ _ h => h) ?_
        refine T_region ?_
        refine S_ 73 rfl rfl rfl _ (y_bin rfl rfl rfl (fun hg => b_add (by omega))) ?_
        refine S_ 26 rfl rfl rfl _ (y_move rfl rfl) ?_
        refine S_nil (nextK1 (kf := [(8, 8), (26, 73)]) (kl := [(8, 8), (23, 23), (26, 73)]) (k + 1) (by repeat (first | exact kf_nil | (apply kf_in; focus rfl) | (apply kf_out; focus rfl))) (by repeat (first | exact kl_nil | exact kl_rest (by assumption) rfl | (apply kl_in; focus rfl) | (apply kl_out; focus rfl))) ?_ ?_ ?_ ?_)
        · omega
        · omega
        · exact ⟨rfl, trivial⟩
        · exact ⟨rfl, trivial⟩
      · skip
        have ha : p.getD i 0 ≠ 42 := fun e => by rw [e] at h32; simp at h32
        refine T_drawsTail 22 (by kernel_rfl) (by kernel_rfl) ?_
        refine D_ 51 rfl rfl rfl _ (y_move rfl rfl) ?_
        refine D_ 52 rfl rfl rfl _ (y_move rfl rfl) ?_
        refine D_ 53 rfl rfl rfl _ (y_move rfl rfl) ?_
        refine D_ 54 rfl rfl rfl _ (y_bin rfl rfl rfl (fun _ => b_gtr)) ?_
        refine D_ 55 rfl rfl rfl _ (y_move rfl rfl) ?_
        refine Dg_ 56 rfl rfl rfl rfl rfl rfl _ (y_move rfl rfl) ?_
        refine Dg_ 57 rfl rfl rfl rfl rfl rfl _ (y_move rfl rfl) ?_
        refine Dg_ 58 rfl rfl rfl rfl rfl rfl _ (y_bin rfl rfl rfl (fun hg => b_subv (((k - 1 : Nat) : Int)) (by simp only [Bool.true_and, Bool.and_eq_true, beq_iff_eq, decide_eq_true_eq, decide_eq_false_iff_not, Int.not_lt, Int.not_le] at hg; omega) (by simp only [Bool.true_and, Bool.and_eq_true, beq_iff_eq, decide_eq_true_eq, decide_eq_false_iff_not, Int.not_lt, Int.not_le] at hg; omega))) ?_
        refine Dg_ 59 rfl rfl rfl rfl rfl rfl _ (y_indexAddr rfl rfl rfl Tryz.underlying191 sz4 (fun hg => hA12 (by simp only [Bool.true_and, Bool.and_eq_true, beq_iff_eq, decide_eq_true_eq, decide_eq_false_iff_not, Int.not_lt, Int.not_le] at hg; omega)) (fun hg => by simp only [Bool.true_and, Bool.and_eq_true, beq_iff_eq, decide_eq_true_eq, decide_eq_false_iff_not, Int.not_lt, Int.not_le] at hg; omega)) ?_
        refine Dg_ 60 rfl rfl rfl rfl rfl rfl _ (y_loadO1 12 (val := (fun b : Bool => Value.bool b)) rfl rfl rfl (by first | omega | (rw [rowG_len])) (fun hg => getD_at (by simp only [Bool.true_and, Bool.and_eq_true, beq_iff_eq, decide_eq_true_eq, decide_eq_false_iff_not, Int.not_lt, Int.not_le] at hg; omega)) Tryz.underlying4 rfl) ?_
        refine D_ 61 rfl rfl rfl _ (y_and rfl rfl rfl) ?_
        refine D_ 62 rfl rfl rfl _ (y_move rfl rfl) ?_
        refine Dg_ 63 rfl rfl rfl rfl rfl rfl _ (y_move rfl rfl) ?_
        refine Dg_ 64 rfl rfl rfl rfl rfl rfl _ (y_move rfl rfl) ?_
        refine Dg_ 65 rfl rfl rfl rfl rfl rfl _ (y_bin rfl rfl rfl (fun hg => b_subv (((k - 1 : Nat) : Int)) (by simp only [Bool.true_and, Bool.and_eq_true, beq_iff_eq, decide_eq_true_eq, decide_eq_false_iff_not, Int.not_lt, Int.not_le] at hg; omega) (by simp only [Bool.true_and, Bool.and_eq_true, beq_iff_eq, decide_eq_true_eq, decide_eq_false_iff_not, Int.not_lt, Int.not_le] at hg; omega))) ?_
        refine Dg_ 66 rfl rfl rfl rfl rfl rfl _ (y_index_str rfl rfl rfl Tryz.underlying9 (fun hg => by simp only [Bool.true_and, Bool.and_eq_true, beq_iff_eq, decide_eq_true_eq, decide_eq_false_iff_not, Int.not_lt, Int.not_le] at hg; omega)) ?_
        refine Dg_ 67 rfl rfl rfl rfl rfl rfl _ (y_move rfl rfl) ?_
        refine Dg_ 68 rfl rfl rfl rfl rfl rfl _ (y_move rfl rfl) ?_
        refine Dg_ 69 rfl rfl rfl rfl rfl rfl _ (y_index_str rfl rfl rfl Tryz.underlying9 (fun hg => by simp only [Bool.true_and, Bool.and_eq_true, beq_iff_eq, decide_eq_true_eq, decide_eq_false_iff_not, Int.not_lt, Int.not_le] at hg; omega)) ?_
        refine Dg_ 70 rfl rfl rfl rfl rfl rfl _ (y_bin rfl rfl rfl (fun _ => b_eql)) ?_
        refine D_ 71 rfl rfl rfl _ (y_as (v' := .bool (nxF (e := eqS) (p.getD i 0) s fits k)) (by exact congrArg Value.bool (nx_lit ha)) (y_and rfl rfl rfl)) ?_
        refine D_ 72 rfl rfl rfl _ (y_indexAddr rfl rfl rfl Tryz.underlying191 sz4 (fun hg => hA23 (by omega)) (fun _ => by omega)) ?_
        refine D_tail ?_
        refine S_storeOwn 23 rfl rfl rfl rfl rfl rfl sz4 rfl rfl ?_ (xs' := (bfill (nxF (e := eqS) (p.getD i 0) s fits) (s.length + 1) (k + 1)).flatMap boolE) ?_ ?_
        · (rw [bools_len, bfill_len (by omega)]; omega)
        · exact bfill_set (by omega)
        refine S_go (fun _ _ h => h) ?_
        refine T_region ?_
        refine S_ 73 rfl rfl rfl _ (y_bin rfl rfl rfl (fun hg => b_add (by omega))) ?_
        refine S_ 26 rfl rfl rfl _ (y_move rfl rfl) ?_
        refine S_nil (nextK1 (kf := [(8, 8), (26, 73)]) (kl := [(8, 8), (23, 23), (26, 73)]) (k + 1) (by repeat (first | exact kf_nil | (apply kf_in; focus rfl) | (apply kf_out; focus rfl))) (by repeat (first | exact kl_nil | exact kl_rest (by assumption) rfl | (apply kl_in; focus rfl) | (apply kl_out; focus rfl))) ?_ ?_ ?_ ?_)
        · omega
        · omega
        · exact ⟨rfl, trivial⟩
        · exact ⟨rfl, trivial⟩
    · try simp only [decide_eq_true_eq, decide_eq_false_iff_not, Bool.or_eq_true, Bool.or_eq_false_iff, Bool.and_eq_true, Bool.and_eq_false_iff, Bool.not_eq_true', Bool.not_eq_false', Bool.not_eq_true, Bool.not_eq_false, Bool.not_true, Bool.not_false, Int.not_lt, Int.not_le, not_or, not_and, Classical.not_not] at h27
      rw [bfill_end (by omega) hq1, hft, rowG_next, ← hpt]
      refine T_exit_go (fun _ _ h => h) ?_
      refine T_region ?_
      refine S_ 74 rfl rfl rfl _ (y_move rfl rfl) ?_
      refine S_ 5 rfl rfl rfl _ (y_assign rfl rfl) ?_
      refine S_go (fun _ _ h => h) ?_
      refine T_region ?_
      refine S_ 75 rfl rfl rfl _ (y_bin rfl rfl rfl (fun hg => b_add (by omega))) ?_
      refine S_ 17 rfl rfl rfl _ (y_move rfl rfl) ?_
      refine S_move [(12, 12), (23, 23)] 12 23 rfl rfl (by repeat (first | exact kl_nil | exact kl_rest (by assumption) rfl | (apply kl_in; focus rfl) | (apply kl_out; focus rfl))) ?_
      refine S_nil (nextK3 (kf := [(5, 8), (17, 75)]) (kl := [(5, 8), (12, 12), (17, 75)]) (i + 1) (some ⟨b23, 0, none⟩) (s.length + 1) (by repeat (first | exact kf_nil | (apply kf_in; focus rfl) | (apply kf_out; focus rfl))) (by repeat (first | exact kl_nil | exact kl_rest (by assumption) rfl | (apply kl_in; focus rfl) | (apply kl_out; focus rfl))) ?_ ?_ ?_ ?_)
      · omega
      · omega
      · exact ⟨rfl, rfl, trivial⟩
      · exact ⟨rfl, trivial⟩
  · try simp only [decide_eq_true_eq, decide_eq_false_iff_not, Bool.or_eq_true, Bool.or_eq_false_iff, Bool.and_eq_true, Bool.and_eq_false_iff, Bool.not_eq_true', Bool.not_eq_false', Bool.not_eq_true, Bool.not_eq_false, Bool.not_true, Bool.not_false, Int.not_lt, Int.not_le, not_or, not_and, Classical.not_not] at h18
    have hpe : p.take i = p := List.take_of_length_le (by omega)
    rw [hpe]
    refine T_isome 12 rfl fun hA12 => ?_
    refine T_exit_go (fun _ _ h => h) ?_
    refine T_seq ?_
    refine T_region ?_
    refine S_ 76 rfl rfl rfl _ (y_move rfl rfl) ?_
    refine S_ 77 rfl rfl rfl _ (y_move rfl rfl) ?_
    refine S_ 78 rfl rfl rfl _ (y_len_str rfl rfl Tryz.underlying9) ?_
    refine S_ 79 rfl rfl rfl _ (y_indexAddr rfl rfl rfl Tryz.underlying191 sz4 (fun hg => hA12 (by omega)) (fun _ => by omega)) ?_
    refine S_ 80 rfl rfl rfl _ (y_loadO1 12 (val := (fun b : Bool => Value.bool b)) rfl rfl rfl (by first | omega | (rw [rowG_len])) (fun _ => getD_at (by rw [rowG_len]; omega)) Tryz.underlying4 rfl) ?_
    refine S_ 4 rfl rfl rfl _ (y_assign rfl rfl) ?_
    refine S_go (fun _ _ h => h) ?_
    refine T_ret (fun a w hF hM => hRb a w (post1 rfl rfl (fun w hM => ?_) a w hF hM))
    exact ⟨by rw [rowG_at (Nat.le_refl _), List.take_length], hM.below⟩
end Go.Proofs.YtfmbgaaonfgenaaGreatDoor
end
section
namespace Go.Proofs.YtfmbgaaonfgenaaGreatDoor
set_option linter.unusedSimpArgs false
set_option linter.unusedVariables false
set_option maxRecDepth 20000
open Go.RowKit Go.Eng
def lowB (c : UInt8) : UInt8 := UInt8.ofNat (lowN c.toNat)
theorem lowN_lt (c : UInt8) : lowN c.toNat < 256 := by
  have := UInt8.toNat_lt c
  unfold lowN; split <;> omega
theorem lowB_nat (c : UInt8) : (lowB c).toNat = lowN c.toNat := by
  rw [lowB]; simp; exact lowN_lt c
theorem eqL_low (a b : UInt8) : eqL a b = eqS (lowB a) (lowB b) := by
  rw [eqL, eqS]
  refine decide_eq_decide.2 ⟨fun h => UInt8.toNat_inj.1 (by rw [lowB_nat, lowB_nat]; omega), fun h => ?_⟩
  have := congrArg UInt8.toNat h
  rw [lowB_nat, lowB_nat] at this; omega
theorem low_star (a : UInt8) : lowB a = 42 ↔ a = 42 := by
  constructor
  · intro h
    have h1 := congrArg UInt8.toNat h
    rw [lowB_nat] at h1
    have h2 : lowN a.toNat = 42 := h1
    refine UInt8.toNat_inj.1 (show a.toNat = 42 from ?_)
    unfold lowN at h2; split at h2 <;> omega
  · rintro rfl; rfl
theorem gm_low : ∀ (n : Nat) (p s : List UInt8), p.length + s.length ≤ n → gm eqL p s = gm eqS (p.map lowB) (s.map lowB)
  | n, [], [], _ => by rw [List.map_nil, gm, gm]
  | n, [], _ :: _, _ => by rw [List.map_nil, List.map_cons, gm, gm]
  | 0, a :: p, s, h => by simp at h
  | n + 1, a :: p, [], h => by
    rw [List.map_cons, List.map_nil, gm, gm, gm_low n p [] (by simp at h ⊢; omega), List.map_nil]
    congr 1
    exact decide_eq_decide.2 (low_star a).symm
  | n + 1, a :: p, c :: s, h => by
    have h1 := gm_low n p (c :: s) (by simp at h ⊢; omega)
    have h2 := gm_low n (a :: p) s (by simp at h ⊢; omega)
    have h3 := gm_low n p s (by simp at h ⊢; omega)
    rw [List.map_cons] at h1 h2
    rw [List.map_cons, List.map_cons, gm, gm, h3, eqL_low]
    by_cases ha : a = 42
    · have hb := (low_star a).2 ha
      rw [if_pos ha, if_pos hb, h1, h2]
    · have hb : ¬ lowB a = 42 := fun e => ha ((low_star a).1 e)
      rw [if_neg ha, if_neg hb]
end Go.Proofs.YtfmbgaaonfgenaaGreatDoor
end
section
namespace Go.Proofs.YtfmbgaaonfgenaaGreatDoor
set_option linter.unusedSimpArgs false
set_option linter.unusedVariables false
set_option maxRecDepth 20000
open Go.RowKit Go.Eng
theorem bytesV_len (l : List UInt8) : (bytesV l).length = l.length := by simp [bytesV]
theorem low_set {s : List UInt8} {i : Nat} (h : i < s.length) : (bytesV ((s.take i).map lowB ++ s.drop i)).set i (.int .u8 ((lowN (s.getD i 0).toNat : Nat) : Int)) = bytesV ((s.take (i + 1)).map lowB ++ s.drop (i + 1)) := by
  have h1 : s.drop i = s.getD i 0 :: s.drop (i + 1) := by
    rw [List.drop_eq_getElem_cons h, List.getD_eq_getElem?_getD, List.getElem?_eq_getElem h]; rfl
  have h2 : s.take (i + 1) = s.take i ++ [s.getD i 0] := by
    rw [List.getD_eq_getElem?_getD, List.getElem?_eq_getElem h, List.take_succ_eq_append_getElem h]; rfl
  rw [h1, h2, bytesV, bytesV, List.map_append, List.map_cons, List.map_append, List.map_append, List.map_append]
  rw [List.set_append_right _ _ (by simp; omega)]
  simp [Nat.min_eq_left (Nat.le_of_lt h), lowB_nat]
theorem low_no {s : List UInt8} {i : Nat} (h : i < s.length) (hn : ¬ (65 ≤ (s.getD i 0).toNat ∧ (s.getD i 0).toNat ≤ 90)) : (s.take i).map lowB ++ s.drop i = (s.take (i + 1)).map lowB ++ s.drop (i + 1) := by
  have h1 : s.drop i = s.getD i 0 :: s.drop (i + 1) := by
    rw [List.drop_eq_getElem_cons h, List.getD_eq_getElem?_getD, List.getElem?_eq_getElem h]; rfl
  have h2 : s.take (i + 1) = s.take i ++ [s.getD i 0] := by
    rw [List.getD_eq_getElem?_getD, List.getElem?_eq_getElem h, List.take_succ_eq_append_getElem h]; rfl
  have h3 : lowB (s.getD i 0) = s.getD i 0 := UInt8.toNat_inj.1 (by rw [lowB_nat, lowN, if_neg hn])
  rw [h1, h2, List.map_append, List.map_cons, h3]; simp
theorem low_at {s : List UInt8} {i : Nat} (h : i < s.length) : (bytesV ((s.take i).map lowB ++ s.drop i))[i]? = some (.int .u8 (((s.getD i 0).toNat : Nat) : Int)) := by
  have h1 : s.drop i = s.getD i 0 :: s.drop (i + 1) := by
    rw [List.drop_eq_getElem_cons h, List.getD_eq_getElem?_getD, List.getElem?_eq_getElem h]; rfl
  rw [h1, bytesV, List.getElem?_map, List.getElem?_append_right (by simp; omega)]
  simp [Nat.min_eq_left (Nat.le_of_lt h)]
theorem low_len (s : List UInt8) (i : Nat) : ((s.take i).map lowB ++ s.drop i).length = s.length := by simp; omega
theorem low_end {s : List UInt8} {i : Nat} (h : s.length ≤ i) : (s.take i).map lowB ++ s.drop i = s.map lowB := by
  rw [List.take_of_length_le h, List.drop_eq_nil_of_le h, List.append_nil]
theorem rlower_any (s : List UInt8) (hs : s.length ≤ 1000000000000) (w : World) :
    Calls Tryz.prog 68 #[str s] w fun e w' => e = .returned (str (s.map lowB)) ∧ Below w.heap.size w w' := by
  refine enter_args (args := [str s]) (F := _) Tryz.func68 rfl Tryz.ntmps68 rfl rfl ?_
  intro Rb hRb hRn
  refine T_seq ?_
  refine T_region ?_
  refine S_ 2 rfl rfl rfl _ (y_assign rfl rfl) ?_
  refine S_go (fun _ _ h => h) ?_
  refine T_seq ?_
  refine T_region ?_
  refine S_ 6 rfl rfl rfl _ (y_move rfl rfl) ?_
  refine S_strBytesW 7 7 rfl rfl rfl rfl rfl Tryz.underlying9 Tryz.underlying183 Tryz.underlying5 ?_
  intro b7 c7
  refine S_ 3 rfl rfl rfl _ (y_assign rfl rfl) ?_
  refine S_go (fun _ _ h => h) ?_
  refine T_seq ?_
  refine T_seq ?_
  refine T_region ?_
  refine S_ 8 rfl rfl rfl _ (y_move rfl rfl) ?_
  refine S_ 9 rfl rfl rfl _ (y_len_slice rfl rfl Tryz.underlying183) ?_
  refine S_ 10 rfl rfl rfl _ (y_move rfl rfl) ?_
  refine S_go (fun _ _ h => h) ?_
  refine T_block ?_
  refine T_loopK1 (kf := [(4, 5), (10, 27)]) (kl := [(4, 5), (7, 7), (10, 27)]) (fun (i : Nat) => [(10, true, .int .i64 (i : Int))]) (fun (i : Nat) => [(7, .blk b7 (IsRw 5 (bytesV ((s.take i).map lowB ++ s.drop i))))]) (fun (i : Nat) => i ≤ s.length) (fun (i : Nat) => s.length - i) 0 (by repeat (first | exact kf_nil | (apply kf_in; focus rfl) | (apply kf_out; focus rfl))) (by repeat (first | exact kl_nil | exact kl_rest (by assumption) rfl | (apply kl_in; focus rfl) | (apply kl_out; focus rfl))) ?_ ?_ ?_ ?_
  · omega
  · exact ⟨rfl, trivial⟩
  · exact ⟨by rw [List.take_zero, List.map_nil, List.nil_append, List.drop_zero]; rfl, trivial⟩
  rintro i hp1
  refine T_seq ?_
  refine T_region ?_
  refine S_ 11 rfl rfl rfl _ (y_bin rfl rfl rfl (fun _ => b_lss)) ?_
  refine S_go (fun _ _ h => h) ?_
  refine T_seq ?_
  refine T_cond rfl (fun h11 => ?_) (fun h11 => ?_)
  · try simp only [decide_eq_true_eq, decide_eq_false_iff_not, Bool.or_eq_true, Bool.or_eq_false_iff, Bool.and_eq_true, Bool.and_eq_false_iff, Bool.not_eq_true', Bool.not_eq_false', Bool.not_eq_true, Bool.not_eq_false, Bool.not_true, Bool.not_false, Int.not_lt, Int.not_le, not_or, not_and, Classical.not_not] at h11
    have hi : i < s.length := by omega
    refine T_skip_go (fun _ _ h => h) ?_
    refine T_seq ?_
    refine T_block ?_
    refine T_seq ?_
    refine T_region ?_
    refine S_ 12 rfl rfl rfl _ (y_move rfl rfl) ?_
    refine S_ 13 rfl rfl rfl _ (y_indexAddr rfl rfl rfl Tryz.underlying183 sz5 (fun _ => rfl) (fun _ => by omega)) ?_
    refine S_ 14 rfl rfl rfl _ (y_loadRw 7 rfl rfl rfl (fun _ => low_at (by omega)) Tryz.underlying5 rfl) ?_
    refine S_ 4 rfl rfl rfl _ (y_assign rfl rfl) ?_
    refine S_ 5 rfl rfl rfl _ (y_assign rfl rfl) ?_
    refine S_go (fun _ _ h => h) ?_
    refine T_seq ?_
    refine T_region ?_
    refine S_ 15 rfl rfl rfl _ (y_move rfl rfl) ?_
    refine S_ 16 rfl rfl rfl _ (y_bin rfl rfl rfl (fun _ => b_geq)) ?_
    refine S_ 17 rfl rfl rfl _ (y_move rfl rfl) ?_
    refine Sg_ 18 rfl rfl rfl rfl rfl rfl _ (y_move rfl rfl) ?_
    refine Sg_ 19 rfl rfl rfl rfl rfl rfl _ (y_bin rfl rfl rfl (fun _ => b_leq)) ?_
    refine S_ 20 rfl rfl rfl _ (y_and rfl rfl rfl) ?_
    refine S_go (fun _ _ h => h) ?_
    refine T_cond rfl (fun h20 => ?_) (fun h20 => ?_)
    · skip
      have hup : 65 ≤ (s.getD i 0).toNat ∧ (s.getD i 0).toNat ≤ 90 := by simp only [Bool.and_eq_true, decide_eq_true_eq] at h20; omega
      refine T_region ?_
      refine S_ 21 rfl rfl rfl _ (y_move rfl rfl) ?_
      refine S_ 22 rfl rfl rfl _ (y_move rfl rfl) ?_
      refine S_ 23 rfl rfl rfl _ (y_move rfl rfl) ?_
      refine S_ 24 rfl rfl rfl _ (y_bin rfl rfl rfl (fun hg => b_addw)) ?_
      refine S_ 25 rfl rfl rfl _ (y_as (v' := .int .u8 ((lowN (s.getD i 0).toNat : Nat) : Int)) (by rw [lowN, if_pos hup]; generalize (s.getD i 0).toNat = m at hup ⊢; congr 1; simp [IntKind.wrap, IntKind.signed, IntKind.bits]; omega) (y_bin rfl rfl rfl (fun hg => b_subw))) ?_
      refine S_ 26 rfl rfl rfl _ (y_indexAddr rfl rfl rfl Tryz.underlying183 sz5 (fun _ => rfl) (fun _ => by omega)) ?_
      refine S_storeRw 7 rfl rfl rfl rfl rfl rfl sz5 rfl rfl (by rw [bytesV_len, low_len]; omega) ?_
      rw [low_set (by omega)]
      refine S_go (fun _ _ h => h) ?_
      refine T_region ?_
      refine S_ 27 rfl rfl rfl _ (y_bin rfl rfl rfl (fun hg => b_add (by omega))) ?_
      refine S_ 10 rfl rfl rfl _ (y_move rfl rfl) ?_
      refine S_nil (nextK1 (kf := [(4, 5), (10, 27)]) (kl := [(4, 5), (7, 7), (10, 27)]) (i + 1) (by repeat (first | exact kf_nil | (apply kf_in; focus rfl) | (apply kf_out; focus rfl))) (by repeat (first | exact kl_nil | exact kl_rest (by assumption) rfl | (apply kl_in; focus rfl) | (apply kl_out; focus rfl))) ?_ ?_ ?_ ?_)
      · omega
      · omega
      · exact ⟨rfl, trivial⟩
      · exact ⟨rfl, trivial⟩
    · skip
      have hup : ¬ (65 ≤ (s.getD i 0).toNat ∧ (s.getD i 0).toNat ≤ 90) := by intro h; generalize (s.getD i 0).toNat = m at h h20; simp at h20; omega
      rw [low_no hi hup]
      refine T_skip_go (fun _ _ h => h) ?_
      refine T_region ?_
      refine S_ 27 rfl rfl rfl _ (y_bin rfl rfl rfl (fun hg => b_add (by omega))) ?_
      refine S_ 10 rfl rfl rfl _ (y_move rfl rfl) ?_
      refine S_nil (nextK1 (kf := [(4, 5), (10, 27)]) (kl := [(4, 5), (7, 7), (10, 27)]) (i + 1) (by repeat (first | exact kf_nil | (apply kf_in; focus rfl) | (apply kf_out; focus rfl))) (by repeat (first | exact kl_nil | exact kl_rest (by assumption) rfl | (apply kl_in; focus rfl) | (apply kl_out; focus rfl))) ?_ ?_ ?_ ?_)
      · omega
      · omega
      · exact ⟨rfl, trivial⟩
      · exact ⟨rfl, trivial⟩
  · try simp only [decide_eq_true_eq, decide_eq_false_iff_not, Bool.or_eq_true, Bool.or_eq_false_iff, Bool.and_eq_true, Bool.and_eq_false_iff, Bool.not_eq_true', Bool.not_eq_false', Bool.not_eq_true, Bool.not_eq_false, Bool.not_true, Bool.not_false, Int.not_lt, Int.not_le, not_or, not_and, Classical.not_not] at h11
    rw [low_end (by omega)]
    refine T_exit_go (fun _ _ h => h) ?_
    refine T_seq ?_
    refine T_region ?_
    refine S_ 28 rfl rfl rfl _ (y_move rfl rfl) ?_
    refine S_ 29 rfl rfl rfl _ (y_str_rw 7 (s.map lowB) rfl rfl rfl (by rw [List.length_map]) Tryz.underlying183 Tryz.underlying5 Tryz.underlying9) ?_
    refine S_ 2 rfl rfl rfl _ (y_assign rfl rfl) ?_
    refine S_go (fun _ _ h => h) ?_
    refine T_ret (fun a w hF hM => hRb a w (post1 rfl rfl (fun w hM => ?_) a w hF hM))
    exact ⟨rfl, hM.below⟩
theorem FitsText_any (p s : List UInt8) (hp : p.length ≤ 1000000000) (hs : s.length ≤ 1000000000000) (w : World) :
    Calls Tryz.prog 13 #[str p, str s] w fun e w' => e = .returned (.bool (gm eqL p s)) ∧ Below w.heap.size w w' := by
  rw [gm_low _ p s (Nat.le_refl _)]
  refine enter_args (args := [str p, str s]) (F := _) Tryz.func13 rfl Tryz.ntmps13 rfl rfl ?_
  intro Rb hRb hRn
  refine T_seq ?_
  refine T_region ?_
  refine S_ 4 rfl rfl rfl _ (y_assign rfl rfl) ?_
  refine S_go (fun _ _ h => h) ?_
  refine T_seq ?_
  refine T_region ?_
  refine S_ 5 rfl rfl rfl _ (y_move rfl rfl) ?_
  refine S_ 6 rfl rfl rfl _ (y_call rfl rfl rfl cf68 (fun _ w _ => rlower_any p (by omega) w)) ?_
  refine S_ 7 rfl rfl rfl _ (y_move rfl rfl) ?_
  refine S_ 8 rfl rfl rfl _ (y_call rfl rfl rfl cf68 (fun _ w _ => rlower_any s hs w)) ?_
  refine S_ 9 rfl rfl rfl _ (y_call rfl rfl rfl cf73 (fun _ w _ => Star_any (p.map lowB) (s.map lowB) (by rw [List.length_map]; omega) (by rw [List.length_map]; omega) w)) ?_
  refine S_ 4 rfl rfl rfl _ (y_assign rfl rfl) ?_
  refine S_go (fun _ _ h => h) ?_
  refine T_ret (fun a w hF hM => hRb a w (post1 rfl rfl (fun w hM => ?_) a w hF hM))
  exact ⟨rfl, hM.below⟩
end Go.Proofs.YtfmbgaaonfgenaaGreatDoor
end
section
namespace Go.Proofs.YtfmbgaaonfgenaaGreatDoor
set_option linter.unusedSimpArgs false
set_option linter.unusedVariables false
set_option maxRecDepth 20000
open Go.RowKit Go.Eng
/-- the value of a tag -/
def tagV (n : List UInt8) : List STag → List UInt8 × Bool
  | [] => ([], false)
  | t :: r => if t.n = n then (t.v, true) else tagV n r
theorem Tag_any (e : Evt) (n : List UInt8) (w : World) (he : e.Ok w) :
    Calls Tryz.prog 135 #[e.val, str n] w fun en w' => en = .returned (.tuple #[str (tagV n e.ta.l).1, .bool (tagV n e.ta.l).2]) ∧ Below w.heap.size w w' := by
  have ht := he.ta.ok.t
  have hq := he.ta.q
  refine enter_args (args := [.agg #[str e.id, .int .i64 e.at_, .int .i64 e.lv, .slice e.fa.A e.fa.q e.fa.c, .slice e.ta.A e.ta.q e.ta.c, .slice e.cr.A e.cr.q e.cr.c, str e.rel, str e.us, .int .i64 e.wt], str n]) (F := _) Tryz.func135 rfl Tryz.ntmps135 rfl rfl ?_
  intro Rb hRb hRn
  refine T_seq ?_
  refine T_region ?_
  refine S_box 2 2 rfl rfl rfl rfl rfl ?_
  intro b2
  refine S_ 4 rfl rfl rfl _ (y_assign rfl rfl) ?_
  refine S_ 5 rfl rfl rfl _ (y_assign rfl rfl) ?_
  refine S_go (fun _ _ h => h) ?_
  refine T_seq ?_
  refine T_seq ?_
  refine T_region ?_
  refine S_ 8 rfl rfl rfl _ (y_fieldAddr rfl rfl fa29_4) ?_
  refine S_ 9 rfl rfl rfl _ (y_load 2 rfl rfl rfl rfl Tryz.underlying26 rfl) ?_
  refine S_ 10 rfl rfl rfl _ (y_len_slice rfl rfl Tryz.underlying26) ?_
  refine S_ 11 rfl rfl rfl _ (y_move rfl rfl) ?_
  refine S_go (fun _ _ h => h) ?_
  refine T_block ?_
  refine T_loopK1 (kf := [(4, 5), (7, 7), (11, 21)]) (kl := [(4, 5), (7, 7), (11, 21)]) (fun (i : Nat) => [(11, true, .int .i64 (i : Int))]) (fun (i : Nat) => []) (fun (i : Nat) => i ≤ e.ta.q ∧ tagV n e.ta.l = tagV n (e.ta.l.drop i)) (fun (i : Nat) => e.ta.q - i) 0 (by repeat (first | exact kf_nil | (apply kf_in; focus rfl) | (apply kf_out; focus rfl))) (by repeat (first | exact kl_nil | exact kl_rest (by assumption) rfl | (apply kl_in; focus rfl) | (apply kl_out; focus rfl))) ?_ ?_ ?_ ?_
  · exact ⟨by omega, rfl⟩
  · exact ⟨rfl, trivial⟩
  · exact trivial
  rintro i ⟨hp1, hp2⟩
  refine T_seq ?_
  refine T_region ?_
  refine S_ 12 rfl rfl rfl _ (y_bin rfl rfl rfl (fun _ => b_lss)) ?_
  refine S_go (fun _ _ h => h) ?_
  refine T_seq ?_
  refine T_cond rfl (fun h12 => ?_) (fun h12 => ?_)
  · try simp only [decide_eq_true_eq, decide_eq_false_iff_not, Bool.or_eq_true, Bool.or_eq_false_iff, Bool.and_eq_true, Bool.and_eq_false_iff, Bool.not_eq_true', Bool.not_eq_false', Bool.not_eq_true, Bool.not_eq_false, Bool.not_true, Bool.not_false, Int.not_lt, Int.not_le, not_or, not_and, Classical.not_not] at h12
    obtain ⟨x, hx1, hx2⟩ := ht.at (i := i) (by omega)
    refine T_skip_go (fun _ _ h => h) ?_
    refine T_seq ?_
    refine T_block ?_
    refine T_seq ?_
    refine T_region ?_
    refine S_ 13 rfl rfl rfl _ (y_indexAddr rfl rfl rfl Tryz.underlying26 sz104 (fun hg => ht.isSome (by omega)) (fun _ => by omega)) ?_
    refine S_ 14 rfl rfl rfl _ (y_loadT rfl rfl ht (fun _ => rfl) (fun _ => hx1) Tryz.underlying104 rfl sz104) ?_
    refine S_alloc 7 7 rfl rfl rfl rfl z104 ?_
    intro b7
    refine S_store 7 rfl rfl rfl rfl rfl rfl sz104 rfl rfl ?_
    refine S_go (fun _ _ h => h) ?_
    refine T_seq ?_
    refine T_region ?_
    refine S_ 15 rfl rfl rfl _ (y_fieldAddr rfl rfl fa104_0) ?_
    refine S_ 16 rfl rfl rfl _ (y_load 7 rfl rfl rfl rfl Tryz.underlying9 rfl) ?_
    refine S_ 17 rfl rfl rfl _ (y_move rfl rfl) ?_
    refine S_ 18 rfl rfl rfl _ (y_bin rfl rfl rfl (fun _ => b_eqls)) ?_
    refine S_go (fun _ _ h => h) ?_
    refine T_cond rfl (fun h18 => ?_) (fun h18 => ?_)
    · try simp only [decide_eq_true_eq, decide_eq_false_iff_not, Bool.or_eq_true, Bool.or_eq_false_iff, Bool.and_eq_true, Bool.and_eq_false_iff, Bool.not_eq_true', Bool.not_eq_false', Bool.not_eq_true, Bool.not_eq_false, Bool.not_true, Bool.not_false, Int.not_lt, Int.not_le, not_or, not_and, Classical.not_not] at h18
      refine T_seq ?_
      refine T_region ?_
      refine S_ 19 rfl rfl rfl _ (y_fieldAddr rfl rfl fa104_1) ?_
      refine S_ 20 rfl rfl rfl _ (y_load 7 rfl rfl rfl rfl Tryz.underlying9 rfl) ?_
      refine S_ 4 rfl rfl rfl _ (y_assign rfl rfl) ?_
      refine S_ 5 rfl rfl rfl _ (y_assign rfl rfl) ?_
      refine S_go (fun _ _ h => h) ?_
      refine T_ret (fun a w hF hM => hRb a w (post2 rfl rfl rfl (fun w hM => ?_) a w hF hM))
      exact ⟨by rw [hp2, hx2, tagV, if_pos h18], hM.below⟩
    · try simp only [decide_eq_true_eq, decide_eq_false_iff_not, Bool.or_eq_true, Bool.or_eq_false_iff, Bool.and_eq_true, Bool.and_eq_false_iff, Bool.not_eq_true', Bool.not_eq_false', Bool.not_eq_true, Bool.not_eq_false, Bool.not_true, Bool.not_false, Int.not_lt, Int.not_le, not_or, not_and, Classical.not_not] at h18
      refine T_skip_go (fun _ _ h => h) ?_
      refine T_region ?_
      refine S_ 21 rfl rfl rfl _ (y_bin rfl rfl rfl (fun hg => b_add (by omega))) ?_
      refine S_ 11 rfl rfl rfl _ (y_move rfl rfl) ?_
      refine S_nil (nextK1 (kf := [(4, 5), (7, 7), (11, 21)]) (kl := [(4, 5), (7, 7), (11, 21)]) (i + 1) (by repeat (first | exact kf_nil | (apply kf_in; focus rfl) | (apply kf_out; focus rfl))) (by repeat (first | exact kl_nil | exact kl_rest (by assumption) rfl | (apply kl_in; focus rfl) | (apply kl_out; focus rfl))) ?_ ?_ ?_ ?_)
      · omega
      · exact ⟨by omega, by rw [hp2, hx2, tagV, if_neg h18]⟩
      · exact ⟨rfl, trivial⟩
      · exact trivial
  · try simp only [decide_eq_true_eq, decide_eq_false_iff_not, Bool.or_eq_true, Bool.or_eq_false_iff, Bool.and_eq_true, Bool.and_eq_false_iff, Bool.not_eq_true', Bool.not_eq_false', Bool.not_eq_true, Bool.not_eq_false, Bool.not_true, Bool.not_false, Int.not_lt, Int.not_le, not_or, not_and, Classical.not_not] at h12
    refine T_exit_go (fun _ _ h => h) ?_
    refine T_seq ?_
    refine T_region ?_
    refine S_ 4 rfl rfl rfl _ (y_assign rfl rfl) ?_
    refine S_ 5 rfl rfl rfl _ (y_assign rfl rfl) ?_
    refine S_go (fun _ _ h => h) ?_
    refine T_ret (fun a w hF hM => hRb a w (post2 rfl rfl rfl (fun w hM => ?_) a w hF hM))
    exact ⟨by rw [hp2, ht.end (by omega)]; rfl, hM.below⟩
theorem Tagged_any (e : Evt) (n : List UInt8) (w : World) (he : e.Ok w) :
    Calls Tryz.prog 64 #[e.val, str n] w fun en w' => en = .returned (.tuple #[str (tagV n e.ta.l).1, .bool (tagV n e.ta.l).2]) ∧ Below w.heap.size w w' := by
  have ht := he.ta.ok.t
  have hq := he.ta.q
  refine enter_args (args := [.agg #[str e.id, .int .i64 e.at_, .int .i64 e.lv, .slice e.fa.A e.fa.q e.fa.c, .slice e.ta.A e.ta.q e.ta.c, .slice e.cr.A e.cr.q e.cr.c, str e.rel, str e.us, .int .i64 e.wt], str n]) (F := _) Tryz.func64 rfl Tryz.ntmps64 rfl rfl ?_
  intro Rb hRb hRn
  refine T_seq ?_
  refine T_region ?_
  refine S_box 2 2 rfl rfl rfl rfl rfl ?_
  intro b2
  refine S_ 4 rfl rfl rfl _ (y_assign rfl rfl) ?_
  refine S_ 5 rfl rfl rfl _ (y_assign rfl rfl) ?_
  refine S_go (fun _ _ h => h) ?_
  refine T_seq ?_
  refine T_seq ?_
  refine T_region ?_
  refine S_ 8 rfl rfl rfl _ (y_fieldAddr rfl rfl fa29_4) ?_
  refine S_ 9 rfl rfl rfl _ (y_load 2 rfl rfl rfl rfl Tryz.underlying26 rfl) ?_
  refine S_ 10 rfl rfl rfl _ (y_len_slice rfl rfl Tryz.underlying26) ?_
  refine S_ 11 rfl rfl rfl _ (y_move rfl rfl) ?_
  refine S_go (fun _ _ h => h) ?_
  refine T_block ?_
  refine T_loopK1 (kf := [(4, 5), (7, 7), (11, 21)]) (kl := [(4, 5), (7, 7), (11, 21)]) (fun (i : Nat) => [(11, true, .int .i64 (i : Int))]) (fun (i : Nat) => []) (fun (i : Nat) => i ≤ e.ta.q ∧ tagV n e.ta.l = tagV n (e.ta.l.drop i)) (fun (i : Nat) => e.ta.q - i) 0 (by repeat (first | exact kf_nil | (apply kf_in; focus rfl) | (apply kf_out; focus rfl))) (by repeat (first | exact kl_nil | exact kl_rest (by assumption) rfl | (apply kl_in; focus rfl) | (apply kl_out; focus rfl))) ?_ ?_ ?_ ?_
  · exact ⟨by omega, rfl⟩
  · exact ⟨rfl, trivial⟩
  · exact trivial
  rintro i ⟨hp1, hp2⟩
  refine T_seq ?_
  refine T_region ?_
  refine S_ 12 rfl rfl rfl _ (y_bin rfl rfl rfl (fun _ => b_lss)) ?_
  refine S_go (fun _ _ h => h) ?_
  refine T_seq ?_
  refine T_cond rfl (fun h12 => ?_) (fun h12 => ?_)
  · try simp only [decide_eq_true_eq, decide_eq_false_iff_not, Bool.or_eq_true, Bool.or_eq_false_iff, Bool.and_eq_true, Bool.and_eq_false_iff, Bool.not_eq_true', Bool.not_eq_false', Bool.not_eq_true, Bool.not_eq_false, Bool.not_true, Bool.not_false, Int.not_lt, Int.not_le, not_or, not_and, Classical.not_not] at h12
    obtain ⟨x, hx1, hx2⟩ := ht.at (i := i) (by omega)
    refine T_skip_go (fun _ _ h => h) ?_
    refine T_seq ?_
    refine T_block ?_
    refine T_seq ?_
    refine T_region ?_
    refine S_ 13 rfl rfl rfl _ (y_indexAddr rfl rfl rfl Tryz.underlying26 sz104 (fun hg => ht.isSome (by omega)) (fun _ => by omega)) ?_
    refine S_ 14 rfl rfl rfl _ (y_loadT rfl rfl ht (fun _ => rfl) (fun _ => hx1) Tryz.underlying104 rfl sz104) ?_
    refine S_alloc 7 7 rfl rfl rfl rfl z104 ?_
    intro b7
    refine S_store 7 rfl rfl rfl rfl rfl rfl sz104 rfl rfl ?_
    refine S_go (fun _ _ h => h) ?_
    refine T_seq ?_
    refine T_region ?_
    refine S_ 15 rfl rfl rfl _ (y_fieldAddr rfl rfl fa104_0) ?_
    refine S_ 16 rfl rfl rfl _ (y_load 7 rfl rfl rfl rfl Tryz.underlying9 rfl) ?_
    refine S_ 17 rfl rfl rfl _ (y_move rfl rfl) ?_
    refine S_ 18 rfl rfl rfl _ (y_bin rfl rfl rfl (fun _ => b_eqls)) ?_
    refine S_go (fun _ _ h => h) ?_
    refine T_cond rfl (fun h18 => ?_) (fun h18 => ?_)
    · try simp only [decide_eq_true_eq, decide_eq_false_iff_not, Bool.or_eq_true, Bool.or_eq_false_iff, Bool.and_eq_true, Bool.and_eq_false_iff, Bool.not_eq_true', Bool.not_eq_false', Bool.not_eq_true, Bool.not_eq_false, Bool.not_true, Bool.not_false, Int.not_lt, Int.not_le, not_or, not_and, Classical.not_not] at h18
      refine T_seq ?_
      refine T_region ?_
      refine S_ 19 rfl rfl rfl _ (y_fieldAddr rfl rfl fa104_1) ?_
      refine S_ 20 rfl rfl rfl _ (y_load 7 rfl rfl rfl rfl Tryz.underlying9 rfl) ?_
      refine S_ 4 rfl rfl rfl _ (y_assign rfl rfl) ?_
      refine S_ 5 rfl rfl rfl _ (y_assign rfl rfl) ?_
      refine S_go (fun _ _ h => h) ?_
      refine T_ret (fun a w hF hM => hRb a w (post2 rfl rfl rfl (fun w hM => ?_) a w hF hM))
      exact ⟨by rw [hp2, hx2, tagV, if_pos h18], hM.below⟩
    · try simp only [decide_eq_true_eq, decide_eq_false_iff_not, Bool.or_eq_true, Bool.or_eq_false_iff, Bool.and_eq_true, Bool.and_eq_false_iff, Bool.not_eq_true', Bool.not_eq_false', Bool.not_eq_true, Bool.not_eq_false, Bool.not_true, Bool.not_false, Int.not_lt, Int.not_le, not_or, not_and, Classical.not_not] at h18
      refine T_skip_go (fun _ _ h => h) ?_
      refine T_region ?_
      refine S_ 21 rfl rfl rfl _ (y_bin rfl rfl rfl (fun hg => b_add (by omega))) ?_
      refine S_ 11 rfl rfl rfl _ (y_move rfl rfl) ?_
      refine S_nil (nextK1 (kf := [(4, 5), (7, 7), (11, 21)]) (kl := [(4, 5), (7, 7), (11, 21)]) (i + 1) (by repeat (first | exact kf_nil | (apply kf_in; focus rfl) | (apply kf_out; focus rfl))) (by repeat (first | exact kl_nil | exact kl_rest (by assumption) rfl | (apply kl_in; focus rfl) | (apply kl_out; focus rfl))) ?_ ?_ ?_ ?_)
      · omega
      · exact ⟨by omega, by rw [hp2, hx2, tagV, if_neg h18]⟩
      · exact ⟨rfl, trivial⟩
      · exact trivial
  · try simp only [decide_eq_true_eq, decide_eq_false_iff_not, Bool.or_eq_true, Bool.or_eq_false_iff, Bool.and_eq_true, Bool.and_eq_false_iff, Bool.not_eq_true', Bool.not_eq_false', Bool.not_eq_true, Bool.not_eq_false, Bool.not_true, Bool.not_false, Int.not_lt, Int.not_le, not_or, not_and, Classical.not_not] at h12
    refine T_exit_go (fun _ _ h => h) ?_
    refine T_seq ?_
    refine T_region ?_
    refine S_ 4 rfl rfl rfl _ (y_assign rfl rfl) ?_
    refine S_ 5 rfl rfl rfl _ (y_assign rfl rfl) ?_
    refine S_go (fun _ _ h => h) ?_
    refine T_ret (fun a w hF hM => hRb a w (post2 rfl rfl rfl (fun w hM => ?_) a w hF hM))
    exact ⟨by rw [hp2, ht.end (by omega)]; rfl, hM.below⟩
end Go.Proofs.YtfmbgaaonfgenaaGreatDoor
end
section
namespace Go.Proofs.YtfmbgaaonfgenaaGreatDoor
set_option linter.unusedSimpArgs false
set_option linter.unusedVariables false
set_option maxRecDepth 20000
open Go.RowKit Go.Eng
/-! ### Right -/
theorem chkL_zero {hd : Int → Nat → Int → Int → List UInt8 → List UInt8 → Int} : ∀ {l : List PC}, chkL hd l = 0 ↔ ∀ k ∈ l, chkP hd k = 0
  | [] => by simp [chkL]
  | a :: r => by
    rw [chkL]
    by_cases h : chkP hd a = 0
    · rw [if_neg (by simp [h]), chkL_zero]
      exact ⟨fun h2 k hk => by
        rcases List.mem_cons.1 hk with rfl | hk
        · exact h
        · exact h2 k hk, fun h2 k hk => h2 k (List.mem_cons_of_mem _ hk)⟩
    · rw [if_pos h]
      exact ⟨fun h2 => absurd h2 h, fun h2 => h2 a List.mem_cons_self⟩
theorem chkP_zero {hd : Int → Nat → Int → Int → List UInt8 → List UInt8 → Int} {op lo hi : Int} {kids : List PC} {n t : List UInt8} : chkP hd (.mk op kids lo hi n t) = 0 ↔ hd op kids.length lo hi n t = 0 ∧ ∀ k ∈ kids, chkP hd k = 0 := by
  rw [chkP]
  by_cases h : hd op kids.length lo hi n t = 0
  · rw [if_neg (by simp [h]), chkL_zero]; simp [h]
  · rw [if_pos h]; simp [h]
section
variable {txt : List UInt8 → Int} {nm : List UInt8 → Bool} {op lo hi : Int} {nk nk' : Nat} {n t : List UInt8}
theorem head_ar (h : chdNo txt nm op nk lo hi n t = 0) : (1 ≤ op ∧ op ≤ 14) ∧ (0 < nk → op ≤ 3) ∧ (op = 1 ∨ op = 2 → 2 ≤ nk) ∧ (op = 3 → nk = 1) := by
  unfold chdNo at h
  split at h
  · cases h
  rename_i h1
  split at h
  · cases h
  rename_i h2
  split at h
  · cases h
  rename_i h3
  simp only [inB, Bool.not_eq_false', Bool.or_eq_true, Bool.and_eq_true, decide_eq_true_eq, not_or, Bool.not_eq_true', Bool.or_eq_false_iff, decide_eq_false_iff_not, grpB, not_and, Bool.not_eq_false, Bool.not_eq_true, Classical.not_not] at h1 h2 h3
  refine ⟨by omega, fun hk => ?_, fun ho => ?_, fun ho => ?_⟩
  · have := h2.1.1.1 hk; omega
  · have := h3.1 ho; omega
  · exact h3.2 ho
end
/-! ### Plain -/
inductive NF : PC → Prop where
  | mk {op lo hi : Int} {kids : List PC} {n t : List UInt8} (h1 : ∀ k ∈ kids, NF k) (h2 : ∀ k ∈ kids, joinB op k = false) (h3 : ¬ (op = 3 ∧ (kids.getD 0 pc0).op = 3)) : NF (.mk op kids lo hi n t)
theorem NF.not {c : PC} (h : NF c) : ¬ (c.op = 3 ∧ (c.kids.getD 0 pc0).op = 3) := by
  cases h with
  | mk _ _ h3 => exact h3
theorem chk_kid {hd : Int → Nat → Int → Int → List UInt8 → List UInt8 → Int} {c k : PC} (h : chkP hd c = 0) (hk : k ∈ c.kids) : chkP hd k = 0 := by
  cases c
  exact (chkP_zero.1 h).2 k hk
end Go.Proofs.YtfmbgaaonfgenaaGreatDoor
end
section
namespace Go.Proofs.YtfmbgaaonfgenaaGreatDoor
set_option linter.unusedSimpArgs false
set_option linter.unusedVariables false
set_option maxRecDepth 20000
open Go.RowKit Go.Eng
theorem fst_0F {a b : Int} (h : fst a b = 0) : a = 0 ∧ b = 0 := by
  unfold fst at h
  split at h
  · exact absurd h ‹_›
  · exact ⟨by omega, h⟩
theorem flts_smallF : ∀ l : List Flt, fltsNo l = 0 → ∀ f ∈ l, fltNo f = 0
  | [], _ => fun f h => by simp at h
  | a :: r, h => fun f hf => by
    rw [fltsNo] at h
    by_cases ha : fltNo a = 0
    · rw [if_neg (by simpa using ha)] at h
      rcases List.mem_cons.1 hf with rfl | h1
      · exact ha
      · exact flts_smallF r h f h1
    · rw [if_pos ha] at h; exact absurd h ha
theorem frms_smallF : ∀ l : List Frm, frmsNo l = 0 → ∀ f ∈ l, frmNo f = 0
  | [], _ => fun f h => by simp at h
  | a :: r, h => fun f hf => by
    rw [frmsNo] at h
    by_cases ha : frmNo a = 0
    · rw [if_neg (by simpa using ha)] at h
      rcases List.mem_cons.1 hf with rfl | h1
      · exact ha
      · exact frms_smallF r h f h1
    · rw [if_pos ha] at h; exact absurd h ha
structure FltS (f : Flt) : Prop where
  k : f.k.length ≤ 2000
  t : f.t.length ≤ 2000
  fr : ∀ x ∈ f.fr.l, x.f.length ≤ 2000 ∧ x.fi.length ≤ 2000
structure EvS (e : Evt) : Prop where
  rel : e.rel.length ≤ 2000
  us : e.us.length ≤ 2000
  ta : ∀ t ∈ e.ta.l, t.v.length ≤ 2000
  fa : ∀ f ∈ e.fa.l, FltS f
theorem frm_small {x : Frm} (h : frmNo x = 0) : x.f.length ≤ 2000 ∧ x.fi.length ≤ 2000 := by
  have hw : wordsNo x.m x.f x.fi = 0 := by
    unfold frmNo at h
    by_cases hw : wordsNo x.m x.f x.fi = 0
    · exact hw
    · rw [if_pos hw] at h; exact absurd h hw
  unfold wordsNo at hw
  split at hw
  · cases hw
  · rename_i hb
    simp only [Bool.or_eq_true, decide_eq_true_eq, not_or] at hb
    omega
theorem flt_small {f : Flt} (h : fltNo f = 0) : FltS f := by
  unfold fltNo at h
  split at h
  · cases h
  rename_i h1
  split at h
  · cases h
  split at h
  · cases h
  by_cases h2 : sayNo f.t = 0
  · rw [if_neg (by simpa using h2)] at h
    refine ⟨by omega, ?_, fun x hx => ?_⟩
    · unfold sayNo at h2
      split at h2
      · cases h2
      · omega
    · unfold framesNo at h
      split at h
      · cases h
      · exact frm_small (frms_smallF _ h x hx)
  · rw [if_pos h2] at h; exact absurd h h2
theorem tags_small : ∀ (l : List STag) (p : Option (List UInt8)), tagsNo p l = 0 → ∀ t ∈ l, t.v.length ≤ 2000
  | [], _, _ => fun t h => by simp at h
  | a :: r, p, h => fun t ht => by
    rw [tagsNo] at h
    split at h
    · cases h
    split at h
    · cases h
    by_cases hv : valNo a.v = 0
    · rw [if_neg (by simpa using hv)] at h
      rcases List.mem_cons.1 ht with rfl | h1
      · unfold valNo at hv
        split at hv
        · cases hv
        · omega
      · exact tags_small r _ h t h1
    · rw [if_pos hv] at h; exact absurd h hv
theorem ev_small {e : Evt} (h : evNo e = 0) : EvS e := by
  unfold evNo at h
  obtain ⟨_, h⟩ := fst_0F h
  obtain ⟨h1, h⟩ := fst_0F h
  obtain ⟨h2, h⟩ := fst_0F h
  obtain ⟨_, h⟩ := fst_0F h
  split at h
  · cases h
  rename_i hr
  obtain ⟨h3, _⟩ := fst_0F h
  refine ⟨?_, ?_, ?_, ?_⟩
  · simp only [Bool.and_eq_true, Bool.not_eq_true', decide_eq_false_iff_not, not_and, Bool.not_eq_false] at hr
    by_cases he : e.rel = []
    · rw [he]; simp
    · have := hr he
      unfold nameOk at this
      simp only [Bool.and_eq_true, decide_eq_true_eq] at this
      omega
  · unfold valNo at h3
    split at h3
    · cases h3
    · omega
  · split at h2
    · cases h2
    · exact tags_small _ _ h2
  · unfold faultsNo at h1
    split at h1
    · cases h1
    split at h1
    · cases h1
    · exact fun f hf => flt_small (flts_smallF _ h1 f hf)
theorem tagV_small {n : List UInt8} : ∀ {l : List STag}, (∀ t ∈ l, t.v.length ≤ 2000) → (tagV n l).1.length ≤ 2000
  | [], _ => by simp [tagV]
  | a :: r, h => by
    rw [tagV]
    split
    · exact h a List.mem_cons_self
    · exact tagV_small fun t ht => h t (List.mem_cons_of_mem _ ht)
/-- what a leaf asks of an event -/
def lfB (e : Evt) (c : PC) : Bool :=
  if c.op = 4 then inB e.lv c.lo c.hi
  else if c.op = 5 then inB e.at_ c.lo c.hi
  else if c.op = 6 then inB e.wt c.lo c.hi
  else if c.op = 7 ∨ c.op = 8 then (tagV c.name e.ta.l).2 && (decide (c.op = 8) || gm eqL c.text (tagV c.name e.ta.l).1)
  else if c.op = 9 then !decide (e.rel = []) && gm eqL c.text e.rel
  else if c.op = 10 then !decide (e.us = []) && gm eqL c.text e.us
  else if c.op = 11 then e.fa.l.any fun f => gm eqL c.text f.k
  else if c.op = 12 then e.fa.l.any fun f => Lib.contains (f.t.map lowB) (c.text.map lowB)
  else if c.op = 13 then e.fa.l.any fun f => f.fr.l.any fun x => gm eqL c.text x.f
  else e.fa.l.any fun f => f.fr.l.any fun x => gm eqL c.text x.fi
abbrev hoX (e : Evt) (x : SC) : Bool := holdsP (lfB e) x.says
theorem ho1 {e : Evt} {x : SC} (h : x.op = 1) : hoX e x = x.kids.all (hoX e) := by
  show holdsP _ x.says = _
  rw [SC.says_form, holdsP, if_pos h, holdsA_all, List.all_map]; rfl
theorem ho2 {e : Evt} {x : SC} (h : x.op = 2) : hoX e x = x.kids.any (hoX e) := by
  show holdsP _ x.says = _
  rw [SC.says_form, holdsP, if_neg (by omega), if_pos h, holdsO_any, List.any_map]; rfl
theorem ho3 {e : Evt} {x k : SC} (h : x.op = 3) (hk : x.kids = [k]) : hoX e x = !hoX e k := by
  show holdsP _ x.says = _
  rw [SC.says_form, holdsP, if_neg (by omega), if_neg (by omega), if_pos h, hk, List.map_cons, holdsF]
theorem hoL {e : Evt} {x : SC} (h : 4 ≤ x.op) : hoX e x = lfB e (.mk x.op [] x.lo x.hi x.nm x.tx) := by
  show holdsP _ x.says = _
  rw [SC.says_form, holdsP, if_neg (by omega), if_neg (by omega), if_neg (by omega)]
section
variable {e : Evt} {x : SC}
theorem ho4 (h : x.op = 4) : hoX e x = inB e.lv x.lo x.hi := by rw [hoL (by omega), h]; rfl
theorem ho5 (h : x.op = 5) : hoX e x = inB e.at_ x.lo x.hi := by rw [hoL (by omega), h]; rfl
theorem ho6 (h : x.op = 6) : hoX e x = inB e.wt x.lo x.hi := by rw [hoL (by omega), h]; rfl
theorem ho7 (h : x.op = 7 ∨ x.op = 8) : hoX e x = ((tagV x.nm e.ta.l).2 && (decide (x.op = 8) || gm eqL x.tx (tagV x.nm e.ta.l).1)) := by
  rw [hoL (by omega)]
  rcases h with h | h <;> rw [h] <;> rfl
theorem ho9 (h : x.op = 9) : hoX e x = (!decide (e.rel = []) && gm eqL x.tx e.rel) := by rw [hoL (by omega), h]; rfl
theorem ho10 (h : x.op = 10) : hoX e x = (!decide (e.us = []) && gm eqL x.tx e.us) := by rw [hoL (by omega), h]; rfl
theorem ho11 (h : x.op = 11) : hoX e x = e.fa.l.any fun f => gm eqL x.tx f.k := by rw [hoL (by omega), h]; rfl
theorem ho12 (h : x.op = 12) : hoX e x = e.fa.l.any fun f => Lib.contains (f.t.map lowB) (x.tx.map lowB) := by rw [hoL (by omega), h]; rfl
theorem ho13 (h : x.op = 13) : hoX e x = e.fa.l.any fun f => f.fr.l.any fun y => gm eqL x.tx y.f := by rw [hoL (by omega), h]; rfl
theorem ho14 (h : x.op = 14) : hoX e x = e.fa.l.any fun f => f.fr.l.any fun y => gm eqL x.tx y.fi := by rw [hoL (by omega), h]; rfl
end
/-- a right condition is small -/
theorem ch_kids {x k : SC} (h : chX x = 0) (hk : k ∈ x.kids) : chX k = 0 :=
  chk_kid (c := x.says) h (by rw [SC.says_kids]; exact List.mem_map_of_mem hk)
theorem ch_head {x : SC} (h : chX x = 0) : hdX x = 0 := by
  refine Classical.byContradiction fun hn => ?_
  rw [chX_def, if_pos hn] at h
  exact hn h
theorem ch_ar {x : SC} (h : chX x = 0) : (1 ≤ x.op ∧ x.op ≤ 14) ∧ (0 < x.kids.length → x.op ≤ 3) ∧ (x.op = 1 ∨ x.op = 2 → 2 ≤ x.kids.length) ∧ (x.op = 3 → x.kids.length = 1) := head_ar (ch_head h)
theorem ch_text {x : SC} (h : chX x = 0) : x.tx.length ≤ 200 := by
  have h := ch_head h
  rw [hd_def] at h
  split at h
  · cases h
  split at h
  · cases h
  rename_i h1
  split at h
  · cases h
  split at h
  · cases h
  split at h
  · cases h
  split at h
  · cases h
  split at h
  · unfold txtNo at h
    split at h
    · cases h
    split at h
    · cases h
    omega
  · rename_i hw
    simp only [f1B, Bool.or_eq_true, Bool.and_eq_true, not_or, not_and, Bool.not_eq_true', decide_eq_false_iff_not] at h1
    have := h1.2
    by_cases ht : x.tx = []
    · rw [ht]; simp
    · have h2 := this ht
      exact absurd (by simpa using h2) hw
end Go.Proofs.YtfmbgaaonfgenaaGreatDoor
end
section
namespace Go.Proofs.YtfmbgaaonfgenaaGreatDoor
set_option linter.unusedSimpArgs false
set_option linter.unusedVariables false
set_option maxRecDepth 20000
open Go.RowKit Go.Eng
/-- a block's cells, as they stand for good -/
abbrev CellsAt (w : World) (b : Nat) (cs : List Value) : Prop := (∀ j u, cs[j]? = some u → w.cell? ((⟨b, 0, none⟩ : Addr).add j) = some u) ∧ b < w.heap.size
theorem CellsAt.one {w : World} {b j : Nat} {cs : List Value} {u : Value} (h : CellsAt w b cs) (hj : cs[j]? = some u) : w.cell? ((⟨b, 0, none⟩ : Addr).add j) = some u ∧ ((⟨b, 0, none⟩ : Addr).add j).block < w.heap.size := ⟨h.1 j u hj, by rw [block_of_add]; exact h.2⟩
theorem add_plain (b j : Nat) : (⟨b, 0, none⟩ : Addr).add j = ⟨b, j, none⟩ := by unfold Addr.add; split <;> simp_all
theorem cells_of {w : World} {b : Nat} {cs : List Value} (h : CellsIn b cs w) : CellsAt w b cs := ⟨fun j u hu => by rw [add_plain]; exact h.1 j u hu, h.2⟩
theorem cells_to {w w' : World} {b : Nat} {cs : List Value} (h : CellsAt w b cs) (hb : Below w.heap.size w w') : CellsAt w' b cs := cells_below h hb
/-- a function value with what it has captured -/
structure Fn where
  g : FuncId
  cap : Array Value
abbrev Fn.v (f : Fn) : Value := .func (.func f.g) #[] f.cap
abbrev CfOf (g : FuncId) : Prop := ∀ args w, (callFunc g args).run Tryz.prog w = .ok (.enter g args) w
/-- a function value that asks -/
def AskF {α : Type} (val : α → Value) (ok : World → α → Prop) (f : Fn) (p : α → Bool) (w : World) : Prop :=
  CfOf f.g ∧ ∀ w', Below w.heap.size w w' → ∀ x, ok w' x → Calls Tryz.prog f.g (#[val x] ++ f.cap) w' fun e w'' => e = .returned (.bool (p x)) ∧ Below w'.heap.size w' w''
theorem AskF.below {α : Type} {val : α → Value} {ok : World → α → Prop} {f : Fn} {p : α → Bool} {w w' : World} (h : AskF val ok f p w) (hb : Below w.heap.size w w') : AskF val ok f p w' :=
  ⟨h.1, fun w'' hb2 => h.2 w'' (hb.trans (hb2.mono hb.size))⟩
theorem AskF.ext {α : Type} {val : α → Value} {ok : World → α → Prop} {f : Fn} {p q : α → Bool} {w : World} (h : AskF val ok f p w) (hpq : ∀ x, q x = p x) : AskF val ok f q w := by
  rw [show q = p from funext hpq]; exact h
def FltR (w : World) (f : Flt) : Prop := FltOk w f ∧ FltS f
def FrmR (_ : World) (x : Frm) : Prop := x.f.length ≤ 2000 ∧ x.fi.length ≤ 2000
def EvR (w : World) (e : Evt) : Prop := e.Ok w ∧ EvS e
theorem FltR.below {w w' : World} {f : Flt} (h : FltR w f) (hb : Below w.heap.size w w') : FltR w' f := ⟨h.1.below hb, h.2⟩
theorem EvR.below {w w' : World} {e : Evt} (h : EvR w e) (hb : Below w.heap.size w w') : EvR w' e := ⟨h.1.below hb, h.2⟩
abbrev fnE (z : Fn × SC) : List Value := [.func (.func z.1.g) #[] z.1.cap]
theorem IndexFF_any (A : Option Addr) (q c : Nat) (l : List Flt) (g : FuncId) (cap : Array Value) (p : Flt → Bool) (w : World) (hl : SlT Flt.enc 3 w A q l) (hq : q ≤ 4611686018427387904) (hcf : ∀ args w, (callFunc g args).run Tryz.prog w = .ok (.enter g args) w)
    (hA : ∀ x ∈ l, ∀ w', Below w.heap.size w w' → Calls Tryz.prog g (#[x.val] ++ cap) w' fun e w'' => e = .returned (.bool (p x)) ∧ Below w'.heap.size w' w'') :
    Calls Tryz.prog 147 #[.slice A q c, .func (.func g) #[] cap] w fun e w' => e = .returned (.int .i64 (fndP p l 0)) ∧ Below w.heap.size w w' := by
  refine enter_args (args := [.slice A q c, .func (.func g) #[] cap]) (F := _) Tryz.func147 rfl Tryz.ntmps147 rfl rfl ?_
  intro Rb hRb hRn
  refine T_seq ?_
  refine T_region ?_
  refine S_ 4 rfl rfl rfl _ (y_assign rfl rfl) ?_
  refine S_go (fun _ _ h => h) ?_
  refine T_seq ?_
  refine T_seq ?_
  refine T_region ?_
  refine S_ 6 rfl rfl rfl _ (y_move rfl rfl) ?_
  refine S_ 7 rfl rfl rfl _ (y_len_slice rfl rfl Tryz.underlying25) ?_
  refine S_ 8 rfl rfl rfl _ (y_move rfl rfl) ?_
  refine S_go (fun _ _ h => h) ?_
  refine T_block ?_
  refine T_loopK1 (kf := [(4, 5), (8, 18)]) (kl := [(4, 5), (8, 18)]) (fun (i : Nat) => [(8, true, .int .i64 (i : Int))]) (fun (i : Nat) => []) (fun (i : Nat) => i ≤ q ∧ fndP p l 0 = fndP p (l.drop i) i) (fun (i : Nat) => q - i) 0 (by repeat (first | exact kf_nil | (apply kf_in; focus rfl) | (apply kf_out; focus rfl))) (by repeat (first | exact kl_nil | exact kl_rest (by assumption) rfl | (apply kl_in; focus rfl) | (apply kl_out; focus rfl))) ?_ ?_ ?_ ?_
  · exact ⟨by omega, rfl⟩
  · exact ⟨rfl, trivial⟩
  · exact trivial
  rintro i ⟨hp1, hp2⟩
  refine T_seq ?_
  refine T_region ?_
  refine S_ 9 rfl rfl rfl _ (y_bin rfl rfl rfl (fun _ => b_lss)) ?_
  refine S_go (fun _ _ h => h) ?_
  refine T_seq ?_
  refine T_cond rfl (fun h9 => ?_) (fun h9 => ?_)
  · try simp only [decide_eq_true_eq, decide_eq_false_iff_not, Bool.or_eq_true, Bool.or_eq_false_iff, Bool.and_eq_true, Bool.and_eq_false_iff, Bool.not_eq_true', Bool.not_eq_false', Bool.not_eq_true, Bool.not_eq_false, Bool.not_true, Bool.not_false, Int.not_lt, Int.not_le, not_or, not_and, Classical.not_not] at h9
    obtain ⟨x, hx1, hx2⟩ := hl.at (i := i) (by omega)
    refine T_skip_go (fun _ _ h => h) ?_
    refine T_seq ?_
    refine T_block ?_
    refine T_seq ?_
    refine T_region ?_
    refine S_ 10 rfl rfl rfl _ (y_move rfl rfl) ?_
    refine S_ 5 rfl rfl rfl _ (y_assign rfl rfl) ?_
    refine S_go (fun _ _ h => h) ?_
    refine T_seq ?_
    refine T_region ?_
    refine S_ 11 rfl rfl rfl _ (y_move rfl rfl) ?_
    refine S_ 12 rfl rfl rfl _ (y_move rfl rfl) ?_
    refine S_ 13 rfl rfl rfl _ (y_move rfl rfl) ?_
    refine S_ 14 rfl rfl rfl _ (y_indexAddr rfl rfl rfl Tryz.underlying25 sz50 (fun hg => hl.isSome (by omega)) (fun _ => by omega)) ?_
    refine S_ 15 rfl rfl rfl _ (y_loadT rfl rfl hl (fun _ => rfl) (fun _ => hx1) Tryz.underlying50 rfl sz50) ?_
    refine S_ 16 rfl rfl rfl _ (y_call rfl rfl rfl hcf (fun _ w hM => hA x (mem_at hx1) w hM.below)) ?_
    refine S_go (fun _ _ h => h) ?_
    refine T_cond rfl (fun h16 => ?_) (fun h16 => ?_)
    · skip
      refine T_seq ?_
      refine T_region ?_
      refine S_ 17 rfl rfl rfl _ (y_move rfl rfl) ?_
      refine S_ 4 rfl rfl rfl _ (y_assign rfl rfl) ?_
      refine S_go (fun _ _ h => h) ?_
      refine T_ret (fun a w hF hM => hRb a w (post1 rfl rfl (fun w hM => ?_) a w hF hM))
      exact ⟨by rw [hp2, hx2, fndP, if_pos h16], hM.below⟩
    · skip
      refine T_skip_go (fun _ _ h => h) ?_
      refine T_region ?_
      refine S_ 18 rfl rfl rfl _ (y_bin rfl rfl rfl (fun hg => b_add (by omega))) ?_
      refine S_ 8 rfl rfl rfl _ (y_move rfl rfl) ?_
      refine S_nil (nextK1 (kf := [(4, 5), (8, 18)]) (kl := [(4, 5), (8, 18)]) (i + 1) (by repeat (first | exact kf_nil | (apply kf_in; focus rfl) | (apply kf_out; focus rfl))) (by repeat (first | exact kl_nil | exact kl_rest (by assumption) rfl | (apply kl_in; focus rfl) | (apply kl_out; focus rfl))) ?_ ?_ ?_ ?_)
      · omega
      · exact ⟨by omega, by rw [hp2, hx2, fndP, if_neg (by simp [h16])]⟩
      · exact ⟨rfl, trivial⟩
      · exact trivial
  · try simp only [decide_eq_true_eq, decide_eq_false_iff_not, Bool.or_eq_true, Bool.or_eq_false_iff, Bool.and_eq_true, Bool.and_eq_false_iff, Bool.not_eq_true', Bool.not_eq_false', Bool.not_eq_true, Bool.not_eq_false, Bool.not_true, Bool.not_false, Int.not_lt, Int.not_le, not_or, not_and, Classical.not_not] at h9
    refine T_exit_go (fun _ _ h => h) ?_
    refine T_seq ?_
    refine T_region ?_
    refine S_ 4 rfl rfl rfl _ (y_assign rfl rfl) ?_
    refine S_go (fun _ _ h => h) ?_
    refine T_ret (fun a w hF hM => hRb a w (post1 rfl rfl (fun w hM => ?_) a w hF hM))
    exact ⟨by rw [hp2, hl.end (by omega)]; rfl, hM.below⟩
theorem ContFF_any (A : Option Addr) (q c : Nat) (l : List Flt) (g : FuncId) (cap : Array Value) (p : Flt → Bool) (w : World) (hl : SlT Flt.enc 3 w A q l) (hq : q ≤ 4611686018427387904) (hcf : ∀ args w, (callFunc g args).run Tryz.prog w = .ok (.enter g args) w)
    (hA : ∀ x ∈ l, ∀ w', Below w.heap.size w w' → Calls Tryz.prog g (#[x.val] ++ cap) w' fun e w'' => e = .returned (.bool (p x)) ∧ Below w'.heap.size w' w'') :
    Calls Tryz.prog 57 #[.slice A q c, .func (.func g) #[] cap] w fun e w' => e = .returned (.bool (l.any p)) ∧ Below w.heap.size w w' := by
  rw [← fndP_any p l 0]
  refine enter_args (args := [.slice A q c, .func (.func g) #[] cap]) (F := _) Tryz.func57 rfl Tryz.ntmps57 rfl rfl ?_
  intro Rb hRb hRn
  refine T_seq ?_
  refine T_region ?_
  refine S_ 4 rfl rfl rfl _ (y_assign rfl rfl) ?_
  refine S_go (fun _ _ h => h) ?_
  refine T_seq ?_
  refine T_region ?_
  refine S_ 5 rfl rfl rfl _ (y_move rfl rfl) ?_
  refine S_ 6 rfl rfl rfl _ (y_move rfl rfl) ?_
  refine S_ 7 rfl rfl rfl _ (y_call rfl rfl rfl cf147 (fun _ w hM => IndexFF_any A q c l g cap p w (hl.below hM.below) hq hcf fun x hx w1 hb => hA x hx w1 (hM.below.trans (hb.mono hM.below.size)))) ?_
  refine S_ 8 rfl rfl rfl _ (y_bin rfl rfl rfl (fun _ => b_geq)) ?_
  refine S_ 4 rfl rfl rfl _ (y_assign rfl rfl) ?_
  refine S_go (fun _ _ h => h) ?_
  refine T_ret (fun a w hF hM => hRb a w (post1 rfl rfl (fun w hM => ?_) a w hF hM))
  exact ⟨rfl, hM.below⟩
theorem IndexFR_any (A : Option Addr) (q c : Nat) (l : List Frm) (g : FuncId) (cap : Array Value) (p : Frm → Bool) (w : World) (hl : SlT Frm.enc 6 w A q l) (hq : q ≤ 4611686018427387904) (hcf : ∀ args w, (callFunc g args).run Tryz.prog w = .ok (.enter g args) w)
    (hA : ∀ x ∈ l, ∀ w', Below w.heap.size w w' → Calls Tryz.prog g (#[x.val] ++ cap) w' fun e w'' => e = .returned (.bool (p x)) ∧ Below w'.heap.size w' w'') :
    Calls Tryz.prog 148 #[.slice A q c, .func (.func g) #[] cap] w fun e w' => e = .returned (.int .i64 (fndP p l 0)) ∧ Below w.heap.size w w' := by
  refine enter_args (args := [.slice A q c, .func (.func g) #[] cap]) (F := _) Tryz.func148 rfl Tryz.ntmps148 rfl rfl ?_
  intro Rb hRb hRn
  refine T_seq ?_
  refine T_region ?_
  refine S_ 4 rfl rfl rfl _ (y_assign rfl rfl) ?_
  refine S_go (fun _ _ h => h) ?_
  refine T_seq ?_
  refine T_seq ?_
  refine T_region ?_
  refine S_ 6 rfl rfl rfl _ (y_move rfl rfl) ?_
  refine S_ 7 rfl rfl rfl _ (y_len_slice rfl rfl Tryz.underlying48) ?_
  refine S_ 8 rfl rfl rfl _ (y_move rfl rfl) ?_
  refine S_go (fun _ _ h => h) ?_
  refine T_block ?_
  refine T_loopK1 (kf := [(4, 5), (8, 18)]) (kl := [(4, 5), (8, 18)]) (fun (i : Nat) => [(8, true, .int .i64 (i : Int))]) (fun (i : Nat) => []) (fun (i : Nat) => i ≤ q ∧ fndP p l 0 = fndP p (l.drop i) i) (fun (i : Nat) => q - i) 0 (by repeat (first | exact kf_nil | (apply kf_in; focus rfl) | (apply kf_out; focus rfl))) (by repeat (first | exact kl_nil | exact kl_rest (by assumption) rfl | (apply kl_in; focus rfl) | (apply kl_out; focus rfl))) ?_ ?_ ?_ ?_
  · exact ⟨by omega, rfl⟩
  · exact ⟨rfl, trivial⟩
  · exact trivial
  rintro i ⟨hp1, hp2⟩
  refine T_seq ?_
  refine T_region ?_
  refine S_ 9 rfl rfl rfl _ (y_bin rfl rfl rfl (fun _ => b_lss)) ?_
  refine S_go (fun _ _ h => h) ?_
  refine T_seq ?_
  refine T_cond rfl (fun h9 => ?_) (fun h9 => ?_)
  · try simp only [decide_eq_true_eq, decide_eq_false_iff_not, Bool.or_eq_true, Bool.or_eq_false_iff, Bool.and_eq_true, Bool.and_eq_false_iff, Bool.not_eq_true', Bool.not_eq_false', Bool.not_eq_true, Bool.not_eq_false, Bool.not_true, Bool.not_false, Int.not_lt, Int.not_le, not_or, not_and, Classical.not_not] at h9
    obtain ⟨x, hx1, hx2⟩ := hl.at (i := i) (by omega)
    refine T_skip_go (fun _ _ h => h) ?_
    refine T_seq ?_
    refine T_block ?_
    refine T_seq ?_
    refine T_region ?_
    refine S_ 10 rfl rfl rfl _ (y_move rfl rfl) ?_
    refine S_ 5 rfl rfl rfl _ (y_assign rfl rfl) ?_
    refine S_go (fun _ _ h => h) ?_
    refine T_seq ?_
    refine T_region ?_
    refine S_ 11 rfl rfl rfl _ (y_move rfl rfl) ?_
    refine S_ 12 rfl rfl rfl _ (y_move rfl rfl) ?_
    refine S_ 13 rfl rfl rfl _ (y_move rfl rfl) ?_
    refine S_ 14 rfl rfl rfl _ (y_indexAddr rfl rfl rfl Tryz.underlying48 sz116 (fun hg => hl.isSome (by omega)) (fun _ => by omega)) ?_
    refine S_ 15 rfl rfl rfl _ (y_loadT rfl rfl hl (fun _ => rfl) (fun _ => hx1) Tryz.underlying116 rfl sz116) ?_
    refine S_ 16 rfl rfl rfl _ (y_call rfl rfl rfl hcf (fun _ w hM => hA x (mem_at hx1) w hM.below)) ?_
    refine S_go (fun _ _ h => h) ?_
    refine T_cond rfl (fun h16 => ?_) (fun h16 => ?_)
    · skip
      refine T_seq ?_
      refine T_region ?_
      refine S_ 17 rfl rfl rfl _ (y_move rfl rfl) ?_
      refine S_ 4 rfl rfl rfl _ (y_assign rfl rfl) ?_
      refine S_go (fun _ _ h => h) ?_
      refine T_ret (fun a w hF hM => hRb a w (post1 rfl rfl (fun w hM => ?_) a w hF hM))
      exact ⟨by rw [hp2, hx2, fndP, if_pos h16], hM.below⟩
    · skip
      refine T_skip_go (fun _ _ h => h) ?_
      refine T_region ?_
      refine S_ 18 rfl rfl rfl _ (y_bin rfl rfl rfl (fun hg => b_add (by omega))) ?_
      refine S_ 8 rfl rfl rfl _ (y_move rfl rfl) ?_
      refine S_nil (nextK1 (kf := [(4, 5), (8, 18)]) (kl := [(4, 5), (8, 18)]) (i + 1) (by repeat (first | exact kf_nil | (apply kf_in; focus rfl) | (apply kf_out; focus rfl))) (by repeat (first | exact kl_nil | exact kl_rest (by assumption) rfl | (apply kl_in; focus rfl) | (apply kl_out; focus rfl))) ?_ ?_ ?_ ?_)
      · omega
      · exact ⟨by omega, by rw [hp2, hx2, fndP, if_neg (by simp [h16])]⟩
      · exact ⟨rfl, trivial⟩
      · exact trivial
  · try simp only [decide_eq_true_eq, decide_eq_false_iff_not, Bool.or_eq_true, Bool.or_eq_false_iff, Bool.and_eq_true, Bool.and_eq_false_iff, Bool.not_eq_true', Bool.not_eq_false', Bool.not_eq_true, Bool.not_eq_false, Bool.not_true, Bool.not_false, Int.not_lt, Int.not_le, not_or, not_and, Classical.not_not] at h9
    refine T_exit_go (fun _ _ h => h) ?_
    refine T_seq ?_
    refine T_region ?_
    refine S_ 4 rfl rfl rfl _ (y_assign rfl rfl) ?_
    refine S_go (fun _ _ h => h) ?_
    refine T_ret (fun a w hF hM => hRb a w (post1 rfl rfl (fun w hM => ?_) a w hF hM))
    exact ⟨by rw [hp2, hl.end (by omega)]; rfl, hM.below⟩
theorem ContFR_any (A : Option Addr) (q c : Nat) (l : List Frm) (g : FuncId) (cap : Array Value) (p : Frm → Bool) (w : World) (hl : SlT Frm.enc 6 w A q l) (hq : q ≤ 4611686018427387904) (hcf : ∀ args w, (callFunc g args).run Tryz.prog w = .ok (.enter g args) w)
    (hA : ∀ x ∈ l, ∀ w', Below w.heap.size w w' → Calls Tryz.prog g (#[x.val] ++ cap) w' fun e w'' => e = .returned (.bool (p x)) ∧ Below w'.heap.size w' w'') :
    Calls Tryz.prog 60 #[.slice A q c, .func (.func g) #[] cap] w fun e w' => e = .returned (.bool (l.any p)) ∧ Below w.heap.size w w' := by
  rw [← fndP_any p l 0]
  refine enter_args (args := [.slice A q c, .func (.func g) #[] cap]) (F := _) Tryz.func60 rfl Tryz.ntmps60 rfl rfl ?_
  intro Rb hRb hRn
  refine T_seq ?_
  refine T_region ?_
  refine S_ 4 rfl rfl rfl _ (y_assign rfl rfl) ?_
  refine S_go (fun _ _ h => h) ?_
  refine T_seq ?_
  refine T_region ?_
  refine S_ 5 rfl rfl rfl _ (y_move rfl rfl) ?_
  refine S_ 6 rfl rfl rfl _ (y_move rfl rfl) ?_
  refine S_ 7 rfl rfl rfl _ (y_call rfl rfl rfl cf148 (fun _ w hM => IndexFR_any A q c l g cap p w (hl.below hM.below) hq hcf fun x hx w1 hb => hA x hx w1 (hM.below.trans (hb.mono hM.below.size)))) ?_
  refine S_ 8 rfl rfl rfl _ (y_bin rfl rfl rfl (fun _ => b_geq)) ?_
  refine S_ 4 rfl rfl rfl _ (y_assign rfl rfl) ?_
  refine S_go (fun _ _ h => h) ?_
  refine T_ret (fun a w hF hM => hRb a w (post1 rfl rfl (fun w hM => ?_) a w hF hM))
  exact ⟨rfl, hM.below⟩
theorem IndexFK_any (A : Option Addr) (q c : Nat) (l : List (Fn × SC)) (g : FuncId) (cap : Array Value) (p : (Fn × SC) → Bool) (w : World) (hl : SlT fnE 1 w A q l) (hq : q ≤ 4611686018427387904) (hcf : ∀ args w, (callFunc g args).run Tryz.prog w = .ok (.enter g args) w)
    (hA : ∀ x ∈ l, ∀ w', Below w.heap.size w w' → Calls Tryz.prog g (#[.func (.func x.1.g) #[] x.1.cap] ++ cap) w' fun e w'' => e = .returned (.bool (p x)) ∧ Below w'.heap.size w' w'') :
    Calls Tryz.prog 197 #[.slice A q c, .func (.func g) #[] cap] w fun e w' => e = .returned (.int .i64 (fndP p l 0)) ∧ Below w.heap.size w w' := by
  refine enter_args (args := [.slice A q c, .func (.func g) #[] cap]) (F := _) Tryz.func197 rfl Tryz.ntmps197 rfl rfl ?_
  intro Rb hRb hRn
  refine T_seq ?_
  refine T_region ?_
  refine S_ 4 rfl rfl rfl _ (y_assign rfl rfl) ?_
  refine S_go (fun _ _ h => h) ?_
  refine T_seq ?_
  refine T_seq ?_
  refine T_region ?_
  refine S_ 6 rfl rfl rfl _ (y_move rfl rfl) ?_
  refine S_ 7 rfl rfl rfl _ (y_len_slice rfl rfl Tryz.underlying174) ?_
  refine S_ 8 rfl rfl rfl _ (y_move rfl rfl) ?_
  refine S_go (fun _ _ h => h) ?_
  refine T_block ?_
  refine T_loopK1 (kf := [(4, 5), (8, 18)]) (kl := [(4, 5), (8, 18)]) (fun (i : Nat) => [(8, true, .int .i64 (i : Int))]) (fun (i : Nat) => []) (fun (i : Nat) => i ≤ q ∧ fndP p l 0 = fndP p (l.drop i) i) (fun (i : Nat) => q - i) 0 (by repeat (first | exact kf_nil | (apply kf_in; focus rfl) | (apply kf_out; focus rfl))) (by repeat (first | exact kl_nil | exact kl_rest (by assumption) rfl | (apply kl_in; focus rfl) | (apply kl_out; focus rfl))) ?_ ?_ ?_ ?_
  · exact ⟨by omega, rfl⟩
  · exact ⟨rfl, trivial⟩
  · exact trivial
  rintro i ⟨hp1, hp2⟩
  refine T_seq ?_
  refine T_region ?_
  refine S_ 9 rfl rfl rfl _ (y_bin rfl rfl rfl (fun _ => b_lss)) ?_
  refine S_go (fun _ _ h => h) ?_
  refine T_seq ?_
  refine T_cond rfl (fun h9 => ?_) (fun h9 => ?_)
  · try simp only [decide_eq_true_eq, decide_eq_false_iff_not, Bool.or_eq_true, Bool.or_eq_false_iff, Bool.and_eq_true, Bool.and_eq_false_iff, Bool.not_eq_true', Bool.not_eq_false', Bool.not_eq_true, Bool.not_eq_false, Bool.not_true, Bool.not_false, Int.not_lt, Int.not_le, not_or, not_and, Classical.not_not] at h9
    obtain ⟨x, hx1, hx2⟩ := hl.at (i := i) (by omega)
    refine T_skip_go (fun _ _ h => h) ?_
    refine T_seq ?_
    refine T_block ?_
    refine T_seq ?_
    refine T_region ?_
    refine S_ 10 rfl rfl rfl _ (y_move rfl rfl) ?_
    refine S_ 5 rfl rfl rfl _ (y_assign rfl rfl) ?_
    refine S_go (fun _ _ h => h) ?_
    refine T_seq ?_
    refine T_region ?_
    refine S_ 11 rfl rfl rfl _ (y_move rfl rfl) ?_
    refine S_ 12 rfl rfl rfl _ (y_move rfl rfl) ?_
    refine S_ 13 rfl rfl rfl _ (y_move rfl rfl) ?_
    refine S_ 14 rfl rfl rfl _ (y_indexAddr rfl rfl rfl Tryz.underlying174 sz57 (fun hg => hl.isSome (by omega)) (fun _ => by omega)) ?_
    refine S_ 15 rfl rfl rfl _ (y_loadT1 (val := (fun z : Fn × SC => Value.func (.func z.1.g) #[] z.1.cap)) rfl rfl hl (fun _ => hx1) Tryz.underlying57 rfl) ?_
    refine S_ 16 rfl rfl rfl _ (y_call rfl rfl rfl hcf (fun _ w hM => hA x (mem_at hx1) w hM.below)) ?_
    refine S_go (fun _ _ h => h) ?_
    refine T_cond rfl (fun h16 => ?_) (fun h16 => ?_)
    · skip
      refine T_seq ?_
      refine T_region ?_
      refine S_ 17 rfl rfl rfl _ (y_move rfl rfl) ?_
      refine S_ 4 rfl rfl rfl _ (y_assign rfl rfl) ?_
      refine S_go (fun _ _ h => h) ?_
      refine T_ret (fun a w hF hM => hRb a w (post1 rfl rfl (fun w hM => ?_) a w hF hM))
      exact ⟨by rw [hp2, hx2, fndP, if_pos h16], hM.below⟩
    · skip
      refine T_skip_go (fun _ _ h => h) ?_
      refine T_region ?_
      refine S_ 18 rfl rfl rfl _ (y_bin rfl rfl rfl (fun hg => b_add (by omega))) ?_
      refine S_ 8 rfl rfl rfl _ (y_move rfl rfl) ?_
      refine S_nil (nextK1 (kf := [(4, 5), (8, 18)]) (kl := [(4, 5), (8, 18)]) (i + 1) (by repeat (first | exact kf_nil | (apply kf_in; focus rfl) | (apply kf_out; focus rfl))) (by repeat (first | exact kl_nil | exact kl_rest (by assumption) rfl | (apply kl_in; focus rfl) | (apply kl_out; focus rfl))) ?_ ?_ ?_ ?_)
      · omega
      · exact ⟨by omega, by rw [hp2, hx2, fndP, if_neg (by simp [h16])]⟩
      · exact ⟨rfl, trivial⟩
      · exact trivial
  · try simp only [decide_eq_true_eq, decide_eq_false_iff_not, Bool.or_eq_true, Bool.or_eq_false_iff, Bool.and_eq_true, Bool.and_eq_false_iff, Bool.not_eq_true', Bool.not_eq_false', Bool.not_eq_true, Bool.not_eq_false, Bool.not_true, Bool.not_false, Int.not_lt, Int.not_le, not_or, not_and, Classical.not_not] at h9
    refine T_exit_go (fun _ _ h => h) ?_
    refine T_seq ?_
    refine T_region ?_
    refine S_ 4 rfl rfl rfl _ (y_assign rfl rfl) ?_
    refine S_go (fun _ _ h => h) ?_
    refine T_ret (fun a w hF hM => hRb a w (post1 rfl rfl (fun w hM => ?_) a w hF hM))
    exact ⟨by rw [hp2, hl.end (by omega)]; rfl, hM.below⟩
theorem ContFK_any (A : Option Addr) (q c : Nat) (l : List (Fn × SC)) (g : FuncId) (cap : Array Value) (p : (Fn × SC) → Bool) (w : World) (hl : SlT fnE 1 w A q l) (hq : q ≤ 4611686018427387904) (hcf : ∀ args w, (callFunc g args).run Tryz.prog w = .ok (.enter g args) w)
    (hA : ∀ x ∈ l, ∀ w', Below w.heap.size w w' → Calls Tryz.prog g (#[.func (.func x.1.g) #[] x.1.cap] ++ cap) w' fun e w'' => e = .returned (.bool (p x)) ∧ Below w'.heap.size w' w'') :
    Calls Tryz.prog 126 #[.slice A q c, .func (.func g) #[] cap] w fun e w' => e = .returned (.bool (l.any p)) ∧ Below w.heap.size w w' := by
  rw [← fndP_any p l 0]
  refine enter_args (args := [.slice A q c, .func (.func g) #[] cap]) (F := _) Tryz.func126 rfl Tryz.ntmps126 rfl rfl ?_
  intro Rb hRb hRn
  refine T_seq ?_
  refine T_region ?_
  refine S_ 4 rfl rfl rfl _ (y_assign rfl rfl) ?_
  refine S_go (fun _ _ h => h) ?_
  refine T_seq ?_
  refine T_region ?_
  refine S_ 5 rfl rfl rfl _ (y_move rfl rfl) ?_
  refine S_ 6 rfl rfl rfl _ (y_move rfl rfl) ?_
  refine S_ 7 rfl rfl rfl _ (y_call rfl rfl rfl cf197 (fun _ w hM => IndexFK_any A q c l g cap p w (hl.below hM.below) hq hcf fun x hx w1 hb => hA x hx w1 (hM.below.trans (hb.mono hM.below.size)))) ?_
  refine S_ 8 rfl rfl rfl _ (y_bin rfl rfl rfl (fun _ => b_geq)) ?_
  refine S_ 4 rfl rfl rfl _ (y_assign rfl rfl) ?_
  refine S_go (fun _ _ h => h) ?_
  refine T_ret (fun a w hF hM => hRb a w (post1 rfl rfl (fun w hM => ?_) a w hF hM))
  exact ⟨rfl, hM.below⟩
theorem ContFF_ask {l : Sl Flt} {f : Fn} {p : Flt → Bool} {w : World} (hl : FltsOk w l) (hs : ∀ f ∈ l.l, FltS f) (hv : AskF Flt.val FltR f p w) :
    Calls Tryz.prog 57 #[.slice l.A l.q l.c, .func (.func f.g) #[] f.cap] w fun e w' => e = .returned (.bool (l.l.any p)) ∧ Below w.heap.size w w' :=
  ContFF_any l.A l.q l.c l.l f.g f.cap p w hl.ok.t hl.q hv.1 fun x hx w' hb => hv.2 w' hb x ⟨(hl.n x hx).below hb, hs x hx⟩
theorem ContFR_ask {l : Sl Frm} {f : Fn} {p : Frm → Bool} {w : World} (hl : FrmsOk w l) (hs : ∀ x ∈ l.l, x.f.length ≤ 2000 ∧ x.fi.length ≤ 2000) (hv : AskF Frm.val FrmR f p w) :
    Calls Tryz.prog 60 #[.slice l.A l.q l.c, .func (.func f.g) #[] f.cap] w fun e w' => e = .returned (.bool (l.l.any p)) ∧ Below w.heap.size w w' :=
  ContFR_any l.A l.q l.c l.l f.g f.cap p w hl.ok.t hl.q hv.1 fun x hx w' hb => hv.2 w' hb x (hs x hx)
end Go.Proofs.YtfmbgaaonfgenaaGreatDoor
end
