/- release.Fits: places of a path to which a pattern comes. Conditions: those of each theorem. -/
import Derived.Test.YtoeipmepmlikcaaDoorRStr
namespace Go.Proofs.YtoeipmepmlikcaaDoor
set_option linter.unusedSimpArgs false
set_option linter.unusedVariables false
set_option maxRecDepth 20000
open Go.RowKit Go.Eng
def boolE (b : Bool) : List Value := [.bool b]
theorem bools_flat (l : List Bool) : l.flatMap boolE = l.map Value.bool := by
  induction l with
  | nil => rfl
  | cons a r ih => rw [List.flatMap_cons, ih]; rfl
theorem bools_len (l : List Bool) : (l.flatMap boolE).length = l.length := by rw [bools_flat, List.length_map]
theorem made_bool (z : Value) (hz : z = .bool false) (n : Nat) : (madeCells z.cells (n * 1)).toList = (List.replicate n false).flatMap boolE := by
  subst hz
  rw [bools_flat, Nat.mul_one]
  apply List.ext_getElem?
  intro j
  by_cases h : j < n
  · simp [madeCells, h, List.getElem?_replicate, Value.cells, Nat.mod_one]
  · simp [madeCells, h, List.getElem?_replicate]
/-- the first i places are f's, the others false -/
def bfill (f : Nat → Bool) (q i : Nat) : List Bool := (List.range i).map f ++ List.replicate (q - i) false
theorem bfill_len {f : Nat → Bool} {q i : Nat} (h : i ≤ q) : (bfill f q i).length = q := by simp [bfill]; omega
theorem bfill_0 {f : Nat → Bool} {q : Nat} : bfill f q 0 = List.replicate q false := by simp [bfill]
theorem bfill_at {f : Nat → Bool} {q i j : Nat} (h : j < i) : (bfill f q i)[j]? = some (f j) := by
  rw [bfill, List.getElem?_append_left (by simp; exact h)]
  simp [h]
theorem bfill_set {f : Nat → Bool} {q i : Nat} (h : i < q) : ((bfill f q i).flatMap boolE).set i (.bool (f i)) = (bfill f q (i + 1)).flatMap boolE := by
  obtain ⟨m, hm⟩ : ∃ m, q - i = m + 1 := ⟨q - i - 1, by omega⟩
  rw [bools_flat, bools_flat, bfill, bfill, hm, show q - (i + 1) = m by omega, List.replicate_succ, List.range_succ]
  simp only [List.map_append, List.map_cons, List.map_nil, List.map_map]
  rw [List.set_append_right _ _ (by simp)]
  simp
theorem bfill_no {f : Nat → Bool} {q i : Nat} (h : i < q) (hf : f i = false) : bfill f q i = bfill f q (i + 1) := by
  obtain ⟨m, hm⟩ : ∃ m, q - i = m + 1 := ⟨q - i - 1, by omega⟩
  rw [bfill, bfill, hm, show q - (i + 1) = m by omega, List.replicate_succ, List.range_succ, List.map_append, List.map_cons, List.map_nil, hf, List.append_assoc]
  rfl
theorem bfill_end {f : Nat → Bool} {q i : Nat} (h : q ≤ i) (h2 : i ≤ q) : bfill f q i = (List.range q).map f := by
  obtain rfl : i = q := by omega
  simp [bfill]
/-! ### step -/
def stepF (path part : List UInt8) (at_ : List Bool) : Nat → Bool
  | 0 => if part.getD 0 0 = 42 then at_.getD 0 false else false
  | i + 1 => if part = [42] then at_.getD (i + 1) false || (stepF path part at_ i && !decide (path.getD i 0 = 47))
    else if part.getD 0 0 = 42 then at_.getD (i + 1) false || stepF path part at_ i
    else at_.getD i false && (decide (path.getD i 0 = part.getD 0 0) || (decide (part = [63]) && !decide (path.getD i 0 = 47)))
def stepL (path part : List UInt8) (at_ : List Bool) : List Bool := (List.range at_.length).map (stepF path part at_)
theorem getD_at {l : List Bool} {i : Nat} (h : i < l.length) : l[i]? = some (l.getD i false) := by
  rw [List.getD_eq_getElem?_getD, List.getElem?_eq_getElem h]; rfl
theorem u8_eq {a b : UInt8} : decide (((a.toNat : Nat) : Int) = ((b.toNat : Nat) : Int)) = decide (a = b) := by
  rw [Bool.eq_iff_iff]
  simp only [decide_eq_true_eq]
  constructor
  · intro h; exact UInt8.toNat_inj.1 (by omega)
  · rintro rfl; rfl
theorem step_star {path : List UInt8} {at_ : List Bool} {i : Nat} : (at_.getD i false || ((decide ((0 : Int) < (i : Int)) && stepF path [42] at_ (i - 1)) && !decide ((((path.getD (i - 1) 0).toNat : Nat) : Int) = 47))) = stepF path [42] at_ i := by
  have e : ∀ c : UInt8, decide (((c.toNat : Nat) : Int) = 47) = decide (c = 47) := fun c => u8_eq (b := 47)
  rw [e]
  cases i with
  | zero => simp [stepF]
  | succ k => rw [stepF, if_pos rfl, Nat.add_sub_cancel]; simp only [Int.natCast_add, Int.natCast_one]; rw [show decide ((0 : Int) < (k : Int) + 1) = true from decide_eq_true (by omega), Bool.true_and]
theorem step_stars {path part : List UInt8} {at_ : List Bool} {i : Nat} (h1 : part ≠ [42]) (h2 : part.getD 0 0 = 42) : (at_.getD i false || (decide ((0 : Int) < (i : Int)) && stepF path part at_ (i - 1))) = stepF path part at_ i := by
  cases i with
  | zero => rw [stepF, if_pos h2]; simp
  | succ k => rw [stepF, if_neg h1, if_pos h2, Nat.add_sub_cancel]; simp only [Int.natCast_add, Int.natCast_one]; rw [show decide ((0 : Int) < (k : Int) + 1) = true from decide_eq_true (by omega), Bool.true_and]
theorem step_other {path part : List UInt8} {at_ : List Bool} {i : Nat} (h1 : part ≠ [42]) (h2 : part.getD 0 0 ≠ 42) (hi : 0 < i) : (at_.getD (i - 1) false && (decide ((((path.getD (i - 1) 0).toNat : Nat) : Int) = (((part.getD 0 0).toNat : Nat) : Int)) || (decide (part = [63]) && !decide ((((path.getD (i - 1) 0).toNat : Nat) : Int) = 47)))) = stepF path part at_ i := by
  have e : ∀ c : UInt8, decide (((c.toNat : Nat) : Int) = 47) = decide (c = 47) := fun c => u8_eq (b := 47)
  obtain ⟨k, rfl⟩ : ∃ k, i = k + 1 := ⟨i - 1, by omega⟩
  rw [stepF, if_neg h1, if_neg h2, Nat.add_sub_cancel, u8_eq, e]
set_option maxHeartbeats 1000000 in
theorem step_any (A : Option Addr) (q c : Nat) (at_ : List Bool) (path part : List UInt8) (w : World) (ha : SlT boolE 1 w A q at_) (hq : q = path.length + 1) (hqm : path.length ≤ 140737488351232) (hpt : part ≠ []) :
    Calls Tryd.prog 75 #[.slice A q c, str path, str part] w fun e w' => ∃ A' c', e = .returned (.slice A' q c') ∧ w'.ownsRow w.heap.size 4 1 (.slice A' q c') q ((stepL path part at_).flatMap boolE) ∧ Below w.heap.size w w' := by
  have hlen := ha.len
  have hp0 : 0 < part.length := List.length_pos_iff.2 hpt
  refine enter_args (args := [.slice A q c, str path, str part]) (F := _) Tryd.func75 rfl Tryd.ntmps75 rfl rfl ?_
  intro Rb hRb hRn
  refine T_seq ?_
  refine T_region ?_
  refine S_nilSlice 6 (e := 4) (size := 1) ?_
  refine S_ 6 rfl rfl rfl _ (y_assign rfl rfl) ?_
  refine S_go (fun _ _ h => h) ?_
  refine T_seq ?_
  refine T_region ?_
  refine S_ 10 rfl rfl rfl _ (y_move rfl rfl) ?_
  refine S_ 11 rfl rfl rfl _ (y_len_slice rfl rfl Tryd.underlying115) ?_
  obtain ⟨i12, hi12, hz12, hs12, hy12⟩ := info_parts inf4
  refine S_makeSlice 12 12 rfl rfl rfl rfl rfl rfl Tryd.underlying115 hi12 hz12 hs12 (by rw [hy12]; omega) ((by simp only [maxLen]; omega)) rfl ?_
  intro b12
  refine S_ 7 rfl rfl rfl _ (y_assign rfl rfl) ?_
  refine S_go (fun _ _ h => h) ?_
  refine T_seq ?_
  refine T_seq ?_
  refine T_region ?_
  refine S_ 13 rfl rfl rfl _ (y_move rfl rfl) ?_
  refine S_ 14 rfl rfl rfl _ (y_len_slice rfl rfl Tryd.underlying115) ?_
  refine S_ 15 rfl rfl rfl _ (y_move rfl rfl) ?_
  refine S_go (fun _ _ h => h) ?_
  refine T_block ?_
  refine T_loopK1 (kf := [(8, 9), (15, 97)]) (kl := [(8, 9), (12, 12), (15, 97)]) (fun (i : Nat) => [(15, true, .int .i64 (i : Int))]) (fun (i : Nat) => [(12, .own 4 1 (.slice (some ⟨b12, 0, none⟩) q q) q ((bfill (stepF path part at_) q i).flatMap boolE))]) (fun (i : Nat) => i ≤ q) (fun (i : Nat) => q - i) 0 (by repeat (first | exact kf_nil | (apply kf_in; focus rfl) | (apply kf_out; focus rfl))) (by repeat (first | exact kl_nil | exact kl_rest (by assumption) rfl | (apply kl_in; focus rfl) | (apply kl_out; focus rfl))) ?_ ?_ ?_ ?_
  · omega
  · exact ⟨rfl, trivial⟩
  · exact ⟨by rw [bfill_0, ← made_bool _ rfl]; rfl, trivial⟩
  rintro i hp1
  refine T_seq ?_
  refine T_region ?_
  refine S_ 16 rfl rfl rfl _ (y_bin rfl rfl rfl (fun _ => b_lss)) ?_
  refine S_go (fun _ _ h => h) ?_
  refine T_seq ?_
  refine T_cond rfl (fun h16 => ?_) (fun h16 => ?_)
  · try simp only [decide_eq_true_eq, decide_eq_false_iff_not, Bool.or_eq_true, Bool.or_eq_false_iff, Bool.and_eq_true, Bool.and_eq_false_iff, Bool.not_eq_true', Bool.not_eq_false', Bool.not_eq_true, Bool.not_eq_false, Bool.not_true, Bool.not_false, Int.not_lt, Int.not_le, not_or, not_and, Classical.not_not] at h16
    refine T_skip_go (fun _ _ h => h) ?_
    refine T_seq ?_
    refine T_block ?_
    refine T_seq ?_
    refine T_region ?_
    refine S_ 17 rfl rfl rfl _ (y_move rfl rfl) ?_
    refine S_ 8 rfl rfl rfl _ (y_assign rfl rfl) ?_
    refine S_go (fun _ _ h => h) ?_
    refine T_block ?_
    refine T_seq ?_
    refine T_region ?_
    refine S_ 19 rfl rfl rfl _ (y_move rfl rfl) ?_
    refine S_ 20 rfl rfl rfl _ (y_bin rfl rfl rfl (fun _ => b_eqls)) ?_
    refine S_ 18 rfl rfl rfl _ (y_assign rfl rfl) ?_
    refine S_go (fun _ _ h => h) ?_
    refine T_cond rfl (fun h18 => ?_) (fun h18 => ?_)
    · try simp only [decide_eq_true_eq, decide_eq_false_iff_not, Bool.or_eq_true, Bool.or_eq_false_iff, Bool.and_eq_true, Bool.and_eq_false_iff, Bool.not_eq_true', Bool.not_eq_false', Bool.not_eq_true, Bool.not_eq_false, Bool.not_true, Bool.not_false, Int.not_lt, Int.not_le, not_or, not_and, Classical.not_not] at h18
      have h18 : part = [42] := h18
      subst h18
      refine T_region ?_
      refine S_ 21 rfl rfl rfl _ (y_move rfl rfl) ?_
      refine S_ 22 rfl rfl rfl _ (y_move rfl rfl) ?_
      refine S_ 23 rfl rfl rfl _ (y_move rfl rfl) ?_
      refine S_ 24 rfl rfl rfl _ (y_move rfl rfl) ?_
      refine S_ 25 rfl rfl rfl _ (y_indexAddr rfl rfl rfl Tryd.underlying115 sz4 (fun hg => ha.isSome (by omega)) (fun _ => by omega)) ?_
      refine S_ 26 rfl rfl rfl _ (y_loadT1 (val := (fun b : Bool => Value.bool b)) rfl rfl ha (fun _ => getD_at (by omega)) Tryd.underlying4 rfl) ?_
      refine S_ 27 rfl rfl rfl _ (y_move rfl rfl) ?_
      refine Sg_ 28 rfl rfl rfl rfl rfl rfl _ (y_move rfl rfl) ?_
      refine Sg_ 29 rfl rfl rfl rfl rfl rfl _ (y_bin rfl rfl rfl (fun _ => b_gtr)) ?_
      refine Sg_ 30 rfl rfl rfl rfl rfl rfl _ (y_move rfl rfl) ?_
      refine Sg_ 31 rfl rfl rfl rfl rfl rfl _ (y_move rfl rfl) ?_
      refine Sg_ 32 rfl rfl rfl rfl rfl rfl _ (y_move rfl rfl) ?_
      refine Sg_ 33 rfl rfl rfl rfl rfl rfl _ (y_bin rfl rfl rfl (fun hg => b_subv (((i - 1 : Nat) : Int)) (by simp only [Bool.true_and, Bool.and_eq_true, beq_iff_eq, decide_eq_true_eq, decide_eq_false_iff_not, Int.not_lt, Int.not_le] at hg; omega) (by simp only [Bool.true_and, Bool.and_eq_true, beq_iff_eq, decide_eq_true_eq, decide_eq_false_iff_not, Int.not_lt, Int.not_le] at hg; omega))) ?_
      refine Sg_ 34 rfl rfl rfl rfl rfl rfl _ (y_indexOwn 12 rfl rfl rfl rfl Tryd.underlying115 sz4 (fun hg => by simp only [Bool.true_and, Bool.and_eq_true, beq_iff_eq, decide_eq_true_eq, decide_eq_false_iff_not, Int.not_lt, Int.not_le] at hg; omega)) ?_
      refine Sg_ 35 rfl rfl rfl rfl rfl rfl _ (y_loadO1 12 (val := (fun b : Bool => Value.bool b)) rfl rfl rfl (bfill_len (by omega)) (fun hg => bfill_at (j := i - 1) (by simp only [Bool.true_and, Bool.and_eq_true, beq_iff_eq, decide_eq_true_eq, decide_eq_false_iff_not, Int.not_lt, Int.not_le] at hg; omega)) Tryd.underlying4 rfl) ?_
      refine Sg_ 36 rfl rfl rfl rfl rfl rfl _ (y_and rfl rfl rfl) ?_
      refine Sg_ 37 rfl rfl rfl rfl rfl rfl _ (y_move rfl rfl) ?_
      refine Sg_ 38 rfl rfl rfl rfl rfl rfl _ (y_move rfl rfl) ?_
      refine Sg_ 39 rfl rfl rfl rfl rfl rfl _ (y_move rfl rfl) ?_
      refine Sg_ 40 rfl rfl rfl rfl rfl rfl _ (y_bin rfl rfl rfl (fun hg => b_subv (((i - 1 : Nat) : Int)) (by simp only [Bool.true_and, Bool.and_eq_true, beq_iff_eq, decide_eq_true_eq, decide_eq_false_iff_not, Int.not_lt, Int.not_le] at hg; omega) (by simp only [Bool.true_and, Bool.and_eq_true, beq_iff_eq, decide_eq_true_eq, decide_eq_false_iff_not, Int.not_lt, Int.not_le] at hg; omega))) ?_
      refine Sg_ 41 rfl rfl rfl rfl rfl rfl _ (y_index_str rfl rfl rfl Tryd.underlying9 (fun hg => by simp only [Bool.true_and, Bool.and_eq_true, beq_iff_eq, decide_eq_true_eq, decide_eq_false_iff_not, Int.not_lt, Int.not_le] at hg; omega)) ?_
      refine Sg_ 42 rfl rfl rfl rfl rfl rfl _ (y_bin rfl rfl rfl (fun _ => b_neq)) ?_
      refine Sg_ 43 rfl rfl rfl rfl rfl rfl _ (y_and rfl rfl rfl) ?_
      refine S_ 44 rfl rfl rfl _ (y_as (v' := .bool (stepF path [42] at_ i)) (by exact congrArg Value.bool step_star) (y_or rfl rfl rfl)) ?_
      refine S_ 45 rfl rfl rfl _ (y_indexOwn 12 rfl rfl rfl rfl Tryd.underlying115 sz4 (fun _ => by omega)) ?_
      refine S_storeOwn 12 rfl rfl rfl rfl rfl rfl sz4 rfl rfl ?_ (xs' := (bfill (stepF path [42] at_) q (i + 1)).flatMap boolE) ?_ ?_
      · (rw [bools_len, bfill_len (by omega)]; omega)
      · exact bfill_set (by omega)
      refine S_go (fun _ _ h => h) ?_
      refine T_region ?_
      refine S_ 97 rfl rfl rfl _ (y_bin rfl rfl rfl (fun hg => b_add (by omega))) ?_
      refine S_ 15 rfl rfl rfl _ (y_move rfl rfl) ?_
      refine S_nil (nextK1 (kf := [(8, 9), (15, 97)]) (kl := [(8, 9), (12, 12), (15, 97)]) (i + 1) (by repeat (first | exact kf_nil | (apply kf_in; focus rfl) | (apply kf_out; focus rfl))) (by repeat (first | exact kl_nil | exact kl_rest (by assumption) rfl | (apply kl_in; focus rfl) | (apply kl_out; focus rfl))) ?_ ?_ ?_ ?_)
      · omega
      · omega
      · exact ⟨rfl, trivial⟩
      · exact ⟨rfl, trivial⟩
    · try simp only [decide_eq_true_eq, decide_eq_false_iff_not, Bool.or_eq_true, Bool.or_eq_false_iff, Bool.and_eq_true, Bool.and_eq_false_iff, Bool.not_eq_true', Bool.not_eq_false', Bool.not_eq_true, Bool.not_eq_false, Bool.not_true, Bool.not_false, Int.not_lt, Int.not_le, not_or, not_and, Classical.not_not] at h18
      have h18 : part ≠ [42] := h18
      refine T_seq ?_
      refine T_region ?_
      refine S_ 47 rfl rfl rfl _ (y_move rfl rfl) ?_
      refine S_ 48 rfl rfl rfl _ (y_index_str (j := 0) rfl rfl rfl Tryd.underlying9 (fun _ => hp0)) ?_
      refine S_ 49 rfl rfl rfl _ (y_bin rfl rfl rfl (fun _ => b_eql)) ?_
      refine S_ 46 rfl rfl rfl _ (y_assign rfl rfl) ?_
      refine S_go (fun _ _ h => h) ?_
      refine T_cond rfl (fun h46 => ?_) (fun h46 => ?_)
      · skip
        have h46 : part.getD 0 0 = 42 := by
          simp only [decide_eq_true_eq] at h46
          exact UInt8.toNat_inj.1 (show (part.getD 0 0).toNat = 42 by omega)
        refine T_region ?_
        refine S_ 50 rfl rfl rfl _ (y_move rfl rfl) ?_
        refine S_ 51 rfl rfl rfl _ (y_move rfl rfl) ?_
        refine S_ 52 rfl rfl rfl _ (y_move rfl rfl) ?_
        refine S_ 53 rfl rfl rfl _ (y_move rfl rfl) ?_
        refine S_ 54 rfl rfl rfl _ (y_indexAddr rfl rfl rfl Tryd.underlying115 sz4 (fun hg => ha.isSome (by omega)) (fun _ => by omega)) ?_
        refine S_ 55 rfl rfl rfl _ (y_loadT1 (val := (fun b : Bool => Value.bool b)) rfl rfl ha (fun _ => getD_at (by omega)) Tryd.underlying4 rfl) ?_
        refine S_ 56 rfl rfl rfl _ (y_move rfl rfl) ?_
        refine Sg_ 57 rfl rfl rfl rfl rfl rfl _ (y_move rfl rfl) ?_
        refine Sg_ 58 rfl rfl rfl rfl rfl rfl _ (y_bin rfl rfl rfl (fun _ => b_gtr)) ?_
        refine Sg_ 59 rfl rfl rfl rfl rfl rfl _ (y_move rfl rfl) ?_
        refine Sg_ 60 rfl rfl rfl rfl rfl rfl _ (y_move rfl rfl) ?_
        refine Sg_ 61 rfl rfl rfl rfl rfl rfl _ (y_move rfl rfl) ?_
        refine Sg_ 62 rfl rfl rfl rfl rfl rfl _ (y_bin rfl rfl rfl (fun hg => b_subv (((i - 1 : Nat) : Int)) (by simp only [Bool.true_and, Bool.and_eq_true, beq_iff_eq, decide_eq_true_eq, decide_eq_false_iff_not, Int.not_lt, Int.not_le] at hg; omega) (by simp only [Bool.true_and, Bool.and_eq_true, beq_iff_eq, decide_eq_true_eq, decide_eq_false_iff_not, Int.not_lt, Int.not_le] at hg; omega))) ?_
        refine Sg_ 63 rfl rfl rfl rfl rfl rfl _ (y_indexOwn 12 rfl rfl rfl rfl Tryd.underlying115 sz4 (fun hg => by simp only [Bool.true_and, Bool.and_eq_true, beq_iff_eq, decide_eq_true_eq, decide_eq_false_iff_not, Int.not_lt, Int.not_le] at hg; omega)) ?_
        refine Sg_ 64 rfl rfl rfl rfl rfl rfl _ (y_loadO1 12 (val := (fun b : Bool => Value.bool b)) rfl rfl rfl (bfill_len (by omega)) (fun hg => bfill_at (j := i - 1) (by simp only [Bool.true_and, Bool.and_eq_true, beq_iff_eq, decide_eq_true_eq, decide_eq_false_iff_not, Int.not_lt, Int.not_le] at hg; omega)) Tryd.underlying4 rfl) ?_
        refine Sg_ 65 rfl rfl rfl rfl rfl rfl _ (y_and rfl rfl rfl) ?_
        refine S_ 66 rfl rfl rfl _ (y_as (v' := .bool (stepF path part at_ i)) (by exact congrArg Value.bool (step_stars h18 h46)) (y_or rfl rfl rfl)) ?_
        refine S_ 67 rfl rfl rfl _ (y_indexOwn 12 rfl rfl rfl rfl Tryd.underlying115 sz4 (fun _ => by omega)) ?_
        refine S_storeOwn 12 rfl rfl rfl rfl rfl rfl sz4 rfl rfl ?_ (xs' := (bfill (stepF path part at_) q (i + 1)).flatMap boolE) ?_ ?_
        · (rw [bools_len, bfill_len (by omega)]; omega)
        · exact bfill_set (by omega)
        refine S_go (fun _ _ h => h) ?_
        refine T_region ?_
        refine S_ 97 rfl rfl rfl _ (y_bin rfl rfl rfl (fun hg => b_add (by omega))) ?_
        refine S_ 15 rfl rfl rfl _ (y_move rfl rfl) ?_
        refine S_nil (nextK1 (kf := [(8, 9), (15, 97)]) (kl := [(8, 9), (12, 12), (15, 97)]) (i + 1) (by repeat (first | exact kf_nil | (apply kf_in; focus rfl) | (apply kf_out; focus rfl))) (by repeat (first | exact kl_nil | exact kl_rest (by assumption) rfl | (apply kl_in; focus rfl) | (apply kl_out; focus rfl))) ?_ ?_ ?_ ?_)
        · omega
        · omega
        · exact ⟨rfl, trivial⟩
        · exact ⟨rfl, trivial⟩
      · skip
        have h46 : part.getD 0 0 ≠ 42 := fun e => by rw [e] at h46; simp at h46
        refine T_seq ?_
        refine T_region ?_
        refine S_ 69 rfl rfl rfl _ (y_move rfl rfl) ?_
        refine S_ 70 rfl rfl rfl _ (y_bin rfl rfl rfl (fun _ => b_gtr)) ?_
        refine S_ 68 rfl rfl rfl _ (y_assign rfl rfl) ?_
        refine S_go (fun _ _ h => h) ?_
        refine T_cond rfl (fun h68 => ?_) (fun h68 => ?_)
        · try simp only [decide_eq_true_eq, decide_eq_false_iff_not, Bool.or_eq_true, Bool.or_eq_false_iff, Bool.and_eq_true, Bool.and_eq_false_iff, Bool.not_eq_true', Bool.not_eq_false', Bool.not_eq_true, Bool.not_eq_false, Bool.not_true, Bool.not_false, Int.not_lt, Int.not_le, not_or, not_and, Classical.not_not] at h68
          refine T_seq ?_
          refine T_region ?_
          refine S_ 71 rfl rfl rfl _ (y_move rfl rfl) ?_
          refine S_ 72 rfl rfl rfl _ (y_move rfl rfl) ?_
          refine S_ 73 rfl rfl rfl _ (y_bin rfl rfl rfl (fun hg => b_subv (((i - 1 : Nat) : Int)) (by omega) (by omega))) ?_
          refine S_ 74 rfl rfl rfl _ (y_index_str rfl rfl rfl Tryd.underlying9 (fun _ => by omega)) ?_
          refine S_ 9 rfl rfl rfl _ (y_assign rfl rfl) ?_
          refine S_go (fun _ _ h => h) ?_
          refine T_region ?_
          refine S_ 75 rfl rfl rfl _ (y_move rfl rfl) ?_
          refine S_ 76 rfl rfl rfl _ (y_move rfl rfl) ?_
          refine S_ 77 rfl rfl rfl _ (y_move rfl rfl) ?_
          refine S_ 78 rfl rfl rfl _ (y_move rfl rfl) ?_
          refine S_ 79 rfl rfl rfl _ (y_bin rfl rfl rfl (fun hg => b_subv (((i - 1 : Nat) : Int)) (by omega) (by omega))) ?_
          refine S_ 80 rfl rfl rfl _ (y_indexAddr rfl rfl rfl Tryd.underlying115 sz4 (fun hg => ha.isSome (by omega)) (fun _ => by omega)) ?_
          refine S_ 81 rfl rfl rfl _ (y_loadT1 (val := (fun b : Bool => Value.bool b)) rfl rfl ha (fun _ => getD_at (by omega)) Tryd.underlying4 rfl) ?_
          refine S_ 82 rfl rfl rfl _ (y_move rfl rfl) ?_
          refine Sg_ 83 rfl rfl rfl rfl rfl rfl _ (y_move rfl rfl) ?_
          refine Sg_ 84 rfl rfl rfl rfl rfl rfl _ (y_move rfl rfl) ?_
          refine Sg_ 85 rfl rfl rfl rfl rfl rfl _ (y_index_str (j := 0) rfl rfl rfl Tryd.underlying9 (fun _ => hp0)) ?_
          refine Sg_ 86 rfl rfl rfl rfl rfl rfl _ (y_bin rfl rfl rfl (fun _ => b_eql)) ?_
          refine Sg_ 87 rfl rfl rfl rfl rfl rfl _ (y_move rfl rfl) ?_
          refine Sg_ 88 rfl rfl rfl rfl rfl rfl _ (y_move rfl rfl) ?_
          refine Sg_ 89 rfl rfl rfl rfl rfl rfl _ (y_bin rfl rfl rfl (fun _ => b_eqls)) ?_
          refine Sg_ 90 rfl rfl rfl rfl rfl rfl _ (y_move rfl rfl) ?_
          refine Sg_ 91 rfl rfl rfl rfl rfl rfl _ (y_move rfl rfl) ?_
          refine Sg_ 92 rfl rfl rfl rfl rfl rfl _ (y_bin rfl rfl rfl (fun _ => b_neq)) ?_
          refine Sg_ 93 rfl rfl rfl rfl rfl rfl _ (y_and rfl rfl rfl) ?_
          refine Sg_ 94 rfl rfl rfl rfl rfl rfl _ (y_or rfl rfl rfl) ?_
          refine S_ 95 rfl rfl rfl _ (y_as (v' := .bool (stepF path part at_ i)) (by exact congrArg Value.bool (step_other h18 h46 (by omega))) (y_and rfl rfl rfl)) ?_
          refine S_ 96 rfl rfl rfl _ (y_indexOwn 12 rfl rfl rfl rfl Tryd.underlying115 sz4 (fun _ => by omega)) ?_
          refine S_storeOwn 12 rfl rfl rfl rfl rfl rfl sz4 rfl rfl ?_ (xs' := (bfill (stepF path part at_) q (i + 1)).flatMap boolE) ?_ ?_
          · (rw [bools_len, bfill_len (by omega)]; omega)
          · exact bfill_set (by omega)
          refine S_go (fun _ _ h => h) ?_
          refine T_region ?_
          refine S_ 97 rfl rfl rfl _ (y_bin rfl rfl rfl (fun hg => b_add (by omega))) ?_
          refine S_ 15 rfl rfl rfl _ (y_move rfl rfl) ?_
          refine S_nil (nextK1 (kf := [(8, 9), (15, 97)]) (kl := [(8, 9), (12, 12), (15, 97)]) (i + 1) (by repeat (first | exact kf_nil | (apply kf_in; focus rfl) | (apply kf_out; focus rfl))) (by repeat (first | exact kl_nil | exact kl_rest (by assumption) rfl | (apply kl_in; focus rfl) | (apply kl_out; focus rfl))) ?_ ?_ ?_ ?_)
          · omega
          · omega
          · exact ⟨rfl, trivial⟩
          · exact ⟨rfl, trivial⟩
        · try simp only [decide_eq_true_eq, decide_eq_false_iff_not, Bool.or_eq_true, Bool.or_eq_false_iff, Bool.and_eq_true, Bool.and_eq_false_iff, Bool.not_eq_true', Bool.not_eq_false', Bool.not_eq_true, Bool.not_eq_false, Bool.not_true, Bool.not_false, Int.not_lt, Int.not_le, not_or, not_and, Classical.not_not] at h68
          have hi0 : i = 0 := by omega
          have hst : stepF path part at_ i = false := by rw [hi0, stepF, if_neg h46]
          rw [bfill_no (f := stepF path part at_) (by omega) hst]
          refine T_skip_go (fun _ _ h => h) ?_
          refine T_region ?_
          refine S_ 97 rfl rfl rfl _ (y_bin rfl rfl rfl (fun hg => b_add (by omega))) ?_
          refine S_ 15 rfl rfl rfl _ (y_move rfl rfl) ?_
          refine S_nil (nextK1 (kf := [(8, 9), (15, 97)]) (kl := [(8, 9), (12, 12), (15, 97)]) (i + 1) (by repeat (first | exact kf_nil | (apply kf_in; focus rfl) | (apply kf_out; focus rfl))) (by repeat (first | exact kl_nil | exact kl_rest (by assumption) rfl | (apply kl_in; focus rfl) | (apply kl_out; focus rfl))) ?_ ?_ ?_ ?_)
          · omega
          · omega
          · exact ⟨rfl, trivial⟩
          · exact ⟨rfl, trivial⟩
  · try simp only [decide_eq_true_eq, decide_eq_false_iff_not, Bool.or_eq_true, Bool.or_eq_false_iff, Bool.and_eq_true, Bool.and_eq_false_iff, Bool.not_eq_true', Bool.not_eq_false', Bool.not_eq_true, Bool.not_eq_false, Bool.not_true, Bool.not_false, Int.not_lt, Int.not_le, not_or, not_and, Classical.not_not] at h16
    refine T_exit_go (fun _ _ h => h) ?_
    refine T_seq ?_
    refine T_region ?_
    refine S_ 98 rfl rfl rfl _ (y_move rfl rfl) ?_
    refine S_ 6 rfl rfl rfl _ (y_assign rfl rfl) ?_
    refine S_go (fun _ _ h => h) ?_
    refine T_ret (fun a w hF hM => hRb a w (post1 rfl rfl (fun w hM => ?_) a w hF hM))
    refine ⟨some ⟨b12, 0, none⟩, q, rfl, ?_, hM.below⟩
    have h := hM.sat 12 _ rfl
    rw [bfill_end (by omega) hp1] at h
    rw [stepL, hlen]
    exact h
/-! ### Fits -/
def runG (pat : List UInt8) : Nat → Nat → Nat
  | 0, m => m
  | k + 1, m => if (decide (((pat.getD 0 0).toNat : Int) = 42) && decide ((m : Int) < (pat.length : Int)) && decide (((pat.getD m 0).toNat : Int) = 42)) = true then runG pat k (m + 1) else m
def runN (pat : List UInt8) : Nat := runG pat pat.length 1
def fitsGo (path : List UInt8) : Nat → List UInt8 → List Bool → List Bool
  | 0, _, at_ => at_
  | k + 1, pat, at_ => if pat = [] then at_ else fitsGo path k (pat.drop (runN pat)) (stepL path (pat.take (runN pat)) at_)
theorem fitsGo_nil {path : List UInt8} {at_ : List Bool} : ∀ k, fitsGo path k [] at_ = at_
  | 0 => rfl
  | k + 1 => by rw [fitsGo, if_pos rfl]
theorem stepL_len {path part : List UInt8} {at_ : List Bool} : (stepL path part at_).length = at_.length := by simp [stepL]
theorem runG_ge {pat : List UInt8} : ∀ k m, m ≤ runG pat k m
  | 0, m => Nat.le_refl m
  | k + 1, m => by
    rw [runG]
    split
    · exact Nat.le_trans (Nat.le_succ m) (runG_ge k (m + 1))
    · exact Nat.le_refl m
def shortP (p : List UInt8) : Bool := !decide (0 ≤ Lib.indexByte (Lib.trimSuffix p [47]) 47)
def pat1 (p : List UInt8) : List UInt8 := if Lib.hasSuffix p [47] = true then p ++ [42, 42] else p
def at0F (s : Bool) (path : List UInt8) (i : Nat) : Bool := decide ((i : Int) = 0) || (s && decide ((((path.getD (i - 1) 0).toNat : Nat) : Int) = 47))
def fitsB (p path : List UInt8) : Bool := (fitsGo path (pat1 p).length (pat1 p) ((List.range (path.length + 1)).map (at0F (shortP p) path))).getD path.length false
set_option maxHeartbeats 1600000 in
theorem Fits_any (p path : List UInt8) (hp : p.length ≤ 140737488351232) (hqm : path.length ≤ 140737488351232) (w : World) :
    Calls Tryd.prog 19 #[str p, str path] w fun e w' => e = .returned (.bool (fitsB p path)) ∧ Below w.heap.size w w' := by
  refine enter_args (args := [str p, str path]) (F := _) Tryd.func19 rfl Tryd.ntmps19 rfl rfl ?_
  intro Rb hRb hRn
  refine T_seq ?_
  refine T_region ?_
  refine S_ 4 rfl rfl rfl _ (y_assign rfl rfl) ?_
  refine S_go (fun _ _ h => h) ?_
  refine T_seq ?_
  refine T_region ?_
  refine S_ 9 rfl rfl rfl _ (y_move rfl rfl) ?_
  refine S_ 10 rfl rfl rfl _ (y_call rfl rfl rfl cf73 (fun _ w _ => TrimSuffix_any p [47] (by omega) w)) ?_
  refine S_ 11 rfl rfl rfl _ (y_call rfl rfl rfl cf72 (fun _ w _ => Contains1_any _ 47 w)) ?_
  refine S_ 12 rfl rfl rfl _ (y_as (v' := .bool (shortP p)) (by exact rfl) (y_not rfl rfl)) ?_
  refine S_ 5 rfl rfl rfl _ (y_assign rfl rfl) ?_
  refine S_go (fun _ _ h => h) ?_
  refine T_seq ?_
  refine T_seq ?_
  refine T_region ?_
  refine S_ 13 rfl rfl rfl _ (y_move rfl rfl) ?_
  refine S_ 14 rfl rfl rfl _ (y_call rfl rfl rfl cf74 (fun _ w _ => HasSuffix_any p [47] (by omega) w)) ?_
  refine S_go (fun _ _ h => h) ?_
  refine T_cond rfl (fun h14 => ?_) (fun h14 => ?_)
  · skip
    have hpl : (pat1 p).length ≤ 140737488351234 := by rw [pat1, if_pos h14, List.length_append]; simp; omega
    refine T_region ?_
    refine S_ 15 rfl rfl rfl _ (y_move rfl rfl) ?_
    refine S_ 16 rfl rfl rfl _ (y_as (v' := str (pat1 p)) (by rw [pat1, if_pos h14]) (y_bin rfl rfl rfl (fun hg => b_adds (by first | omega | (simp only [List.length_append, List.length_cons, List.length_nil]; omega))))) ?_
    refine S_ 0 rfl rfl rfl _ (y_assign rfl rfl) ?_
    refine S_go (fun _ _ h => h) ?_
    refine T_seq ?_
    refine T_region ?_
    refine S_ 17 rfl rfl rfl _ (y_move rfl rfl) ?_
    refine S_ 18 rfl rfl rfl _ (y_len_str rfl rfl Tryd.underlying9) ?_
    refine S_ 19 rfl rfl rfl _ (y_bin rfl rfl rfl (fun hg => b_addv (((path.length + 1 : Nat) : Int)) (by omega) (by omega))) ?_
    obtain ⟨i20, hi20, hz20, hs20, hy20⟩ := info_parts inf4
    refine S_makeSlice 20 20 rfl rfl rfl rfl rfl rfl Tryd.underlying115 hi20 hz20 hs20 (by rw [hy20]; omega) ((by simp only [maxLen]; omega)) rfl ?_
    intro b20
    refine S_ 6 rfl rfl rfl _ (y_assign rfl rfl) ?_
    refine S_go (fun _ _ h => h) ?_
    refine T_seq ?_
    refine T_seq ?_
    refine T_region ?_
    refine S_ 21 rfl rfl rfl _ (y_move rfl rfl) ?_
    refine S_ 22 rfl rfl rfl _ (y_len_slice rfl rfl Tryd.underlying115) ?_
    refine S_ 23 rfl rfl rfl _ (y_move rfl rfl) ?_
    refine S_go (fun _ _ h => h) ?_
    refine T_block ?_
    refine T_loopK1 (kf := [(7, 7), (23, 41)]) (kl := [(7, 7), (20, 20), (23, 41)]) (fun (i : Nat) => [(23, true, .int .i64 (i : Int))]) (fun (i : Nat) => [(20, .own 4 1 (.slice (some ⟨b20, 0, none⟩) (path.length + 1) (path.length + 1)) (path.length + 1) ((bfill (at0F (shortP p) path) (path.length + 1) i).flatMap boolE))]) (fun (i : Nat) => i ≤ path.length + 1) (fun (i : Nat) => path.length + 1 - i) 0 (by repeat (first | exact kf_nil | (apply kf_in; focus rfl) | (apply kf_out; focus rfl))) (by repeat (first | exact kl_nil | exact kl_rest (by assumption) rfl | (apply kl_in; focus rfl) | (apply kl_out; focus rfl))) ?_ ?_ ?_ ?_
    · omega
    · exact ⟨rfl, trivial⟩
    · exact ⟨by rw [bfill_0, ← made_bool _ rfl]; rfl, trivial⟩
    rintro i hp1
    refine T_seq ?_
    refine T_region ?_
    refine S_ 24 rfl rfl rfl _ (y_bin rfl rfl rfl (fun _ => b_lss)) ?_
    refine S_go (fun _ _ h => h) ?_
    refine T_seq ?_
    refine T_cond rfl (fun h24 => ?_) (fun h24 => ?_)
    · try simp only [decide_eq_true_eq, decide_eq_false_iff_not, Bool.or_eq_true, Bool.or_eq_false_iff, Bool.and_eq_true, Bool.and_eq_false_iff, Bool.not_eq_true', Bool.not_eq_false', Bool.not_eq_true, Bool.not_eq_false, Bool.not_true, Bool.not_false, Int.not_lt, Int.not_le, not_or, not_and, Classical.not_not] at h24
      refine T_skip_go (fun _ _ h => h) ?_
      refine T_seq ?_
      refine T_block ?_
      refine T_seq ?_
      refine T_region ?_
      refine S_ 25 rfl rfl rfl _ (y_move rfl rfl) ?_
      refine S_ 7 rfl rfl rfl _ (y_assign rfl rfl) ?_
      refine S_go (fun _ _ h => h) ?_
      refine T_region ?_
      refine S_ 26 rfl rfl rfl _ (y_move rfl rfl) ?_
      refine S_ 27 rfl rfl rfl _ (y_move rfl rfl) ?_
      refine S_ 28 rfl rfl rfl _ (y_move rfl rfl) ?_
      refine S_ 29 rfl rfl rfl _ (y_bin rfl rfl rfl (fun _ => b_eql)) ?_
      refine S_ 30 rfl rfl rfl _ (y_move rfl rfl) ?_
      refine Sg_ 31 rfl rfl rfl rfl rfl rfl _ (y_move rfl rfl) ?_
      refine Sg_ 32 rfl rfl rfl rfl rfl rfl _ (y_move rfl rfl) ?_
      refine Sg_ 33 rfl rfl rfl rfl rfl rfl _ (y_move rfl rfl) ?_
      refine Sg_ 34 rfl rfl rfl rfl rfl rfl _ (y_move rfl rfl) ?_
      refine Sg_ 35 rfl rfl rfl rfl rfl rfl _ (y_bin rfl rfl rfl (fun hg => b_subv (((i - 1 : Nat) : Int)) (by simp only [Bool.true_and, Bool.and_eq_true, beq_iff_eq, decide_eq_true_eq, decide_eq_false_iff_not, Int.not_lt, Int.not_le] at hg; omega) (by simp only [Bool.true_and, Bool.and_eq_true, beq_iff_eq, decide_eq_true_eq, decide_eq_false_iff_not, Int.not_lt, Int.not_le] at hg; omega))) ?_
      refine Sg_ 36 rfl rfl rfl rfl rfl rfl _ (y_index_str rfl rfl rfl Tryd.underlying9 (fun hg => by simp only [Bool.true_and, Bool.and_eq_true, beq_iff_eq, decide_eq_true_eq, decide_eq_false_iff_not, Int.not_lt, Int.not_le] at hg; omega)) ?_
      refine Sg_ 37 rfl rfl rfl rfl rfl rfl _ (y_bin rfl rfl rfl (fun _ => b_eql)) ?_
      refine Sg_ 38 rfl rfl rfl rfl rfl rfl _ (y_and rfl rfl rfl) ?_
      refine S_ 39 rfl rfl rfl _ (y_as (v' := .bool (at0F (shortP p) path i)) (by exact rfl) (y_or rfl rfl rfl)) ?_
      refine S_ 40 rfl rfl rfl _ (y_indexOwn 20 rfl rfl rfl rfl Tryd.underlying115 sz4 (fun _ => by omega)) ?_
      refine S_storeOwn 20 rfl rfl rfl rfl rfl rfl sz4 rfl rfl ?_ (xs' := (bfill (at0F (shortP p) path) (path.length + 1) (i + 1)).flatMap boolE) ?_ ?_
      · (rw [bools_len, bfill_len (by omega)]; omega)
      · exact bfill_set (by omega)
      refine S_go (fun _ _ h => h) ?_
      refine T_region ?_
      refine S_ 41 rfl rfl rfl _ (y_bin rfl rfl rfl (fun hg => b_add (by omega))) ?_
      refine S_ 23 rfl rfl rfl _ (y_move rfl rfl) ?_
      refine S_nil (nextK1 (kf := [(7, 7), (23, 41)]) (kl := [(7, 7), (20, 20), (23, 41)]) (i + 1) (by repeat (first | exact kf_nil | (apply kf_in; focus rfl) | (apply kf_out; focus rfl))) (by repeat (first | exact kl_nil | exact kl_rest (by assumption) rfl | (apply kl_in; focus rfl) | (apply kl_out; focus rfl))) ?_ ?_ ?_ ?_)
      · omega
      · omega
      · exact ⟨rfl, trivial⟩
      · exact ⟨rfl, trivial⟩
    · try simp only [decide_eq_true_eq, decide_eq_false_iff_not, Bool.or_eq_true, Bool.or_eq_false_iff, Bool.and_eq_true, Bool.and_eq_false_iff, Bool.not_eq_true', Bool.not_eq_false', Bool.not_eq_true, Bool.not_eq_false, Bool.not_true, Bool.not_false, Int.not_lt, Int.not_le, not_or, not_and, Classical.not_not] at h24
      refine T_exit_go (fun _ _ h => h) ?_
      refine T_seq ?_
      refine T_block ?_
      refine T_loopK5 (kf := [(0, 0), (6, 6), (8, 8), (42, 69)]) (kl := [(0, 0), (6, 6), (8, 8), (20, 20), (42, 69)]) (fun (pat : List UInt8) (at_ : List Bool) (A : Option Addr) (c : Nat) (k : Nat) => [(0, true, str pat), (6, true, .slice A (path.length + 1) c)]) (fun (pat : List UInt8) (at_ : List Bool) (A : Option Addr) (c : Nat) (k : Nat) => [(20, .own 4 1 (.slice A (path.length + 1) c) (path.length + 1) (at_.flatMap boolE))]) (fun (pat : List UInt8) (at_ : List Bool) (A : Option Addr) (c : Nat) (k : Nat) => at_.length = path.length + 1 ∧ pat.length ≤ k ∧ fitsGo path k pat at_ = fitsGo path (pat1 p).length (pat1 p) ((List.range (path.length + 1)).map (at0F (shortP p) path)) ∧ pat.length ≤ (pat1 p).length) (fun (pat : List UInt8) (at_ : List Bool) (A : Option Addr) (c : Nat) (k : Nat) => pat.length) (pat1 p) ((List.range (path.length + 1)).map (at0F (shortP p) path)) (some ⟨b20, 0, none⟩) (path.length + 1) (pat1 p).length (by repeat (first | exact kf_nil | (apply kf_in; focus rfl) | (apply kf_out; focus rfl))) (by repeat (first | exact kl_nil | exact kl_rest (by assumption) rfl | (apply kl_in; focus rfl) | (apply kl_out; focus rfl))) ?_ ?_ ?_ ?_
      · exact ⟨by simp, Nat.le_refl _, rfl, Nat.le_refl _⟩
      · exact ⟨rfl, rfl, trivial⟩
      · exact ⟨by rw [← bfill_end (q := path.length + 1) (i := i) (by omega) (by omega)]; rfl, trivial⟩
      rintro pat at_ A c k ⟨hr1, hr2, hr3, hr4⟩
      refine T_seq ?_
      refine T_seq ?_
      refine T_region ?_
      refine S_ 42 rfl rfl rfl _ (y_move rfl rfl) ?_
      refine S_ 43 rfl rfl rfl _ (y_bin rfl rfl rfl (fun _ => b_neqs)) ?_
      refine S_go (fun _ _ h => h) ?_
      refine T_cond rfl (fun h43 => ?_) (fun h43 => ?_)
      · try simp only [decide_eq_true_eq, decide_eq_false_iff_not, Bool.or_eq_true, Bool.or_eq_false_iff, Bool.and_eq_true, Bool.and_eq_false_iff, Bool.not_eq_true', Bool.not_eq_false', Bool.not_eq_true, Bool.not_eq_false, Bool.not_true, Bool.not_false, Int.not_lt, Int.not_le, not_or, not_and, Classical.not_not] at h43
        have hpat0 : pat ≠ [] := h43
        have hpatl : 0 < pat.length := List.length_pos_iff.2 hpat0
        refine T_skip_go (fun _ _ h => h) ?_
        refine T_block ?_
        refine T_seq ?_
        refine T_region ?_
        refine S_ 8 rfl rfl rfl _ (y_assign rfl rfl) ?_
        refine S_go (fun _ _ h => h) ?_
        refine T_seq ?_
        refine T_block ?_
        refine T_loopK1 (kf := [(8, 8), (44, 60)]) (kl := [(8, 8), (44, 60)]) (fun (m : Nat) => [(8, true, .int .i64 (m : Int))]) (fun (m : Nat) => []) (fun (m : Nat) => 1 ≤ m ∧ m ≤ pat.length ∧ runG pat pat.length 1 = runG pat (pat.length + 1 - m) m) (fun (m : Nat) => pat.length - m) 1 (by repeat (first | exact kf_nil | (apply kf_in; focus rfl) | (apply kf_out; focus rfl))) (by repeat (first | exact kl_nil | exact kl_rest (by assumption) rfl | (apply kl_in; focus rfl) | (apply kl_out; focus rfl))) ?_ ?_ ?_ ?_
        · exact ⟨by omega, by omega, rfl⟩
        · exact ⟨rfl, trivial⟩
        · exact trivial
        rintro m ⟨hs1, hs2, hs3⟩
        refine T_seq ?_
        refine T_seq ?_
        refine T_region ?_
        refine S_ 44 rfl rfl rfl _ (y_move rfl rfl) ?_
        refine S_ 45 rfl rfl rfl _ (y_index_str (j := 0) rfl rfl rfl Tryd.underlying9 (fun _ => hpatl)) ?_
        refine S_ 46 rfl rfl rfl _ (y_bin rfl rfl rfl (fun _ => b_eql)) ?_
        refine S_ 47 rfl rfl rfl _ (y_move rfl rfl) ?_
        refine Sg_ 48 rfl rfl rfl rfl rfl rfl _ (y_move rfl rfl) ?_
        refine Sg_ 49 rfl rfl rfl rfl rfl rfl _ (y_move rfl rfl) ?_
        refine Sg_ 50 rfl rfl rfl rfl rfl rfl _ (y_len_str rfl rfl Tryd.underlying9) ?_
        refine Sg_ 51 rfl rfl rfl rfl rfl rfl _ (y_bin rfl rfl rfl (fun _ => b_lss)) ?_
        refine S_ 52 rfl rfl rfl _ (y_and rfl rfl rfl) ?_
        refine S_ 53 rfl rfl rfl _ (y_move rfl rfl) ?_
        refine Sg_ 54 rfl rfl rfl rfl rfl rfl _ (y_move rfl rfl) ?_
        refine Sg_ 55 rfl rfl rfl rfl rfl rfl _ (y_move rfl rfl) ?_
        refine Sg_ 56 rfl rfl rfl rfl rfl rfl _ (y_index_str rfl rfl rfl Tryd.underlying9 (fun hg => by simp only [Bool.true_and, Bool.and_eq_true, beq_iff_eq, decide_eq_true_eq, decide_eq_false_iff_not, Int.not_lt, Int.not_le] at hg; omega)) ?_
        refine Sg_ 57 rfl rfl rfl rfl rfl rfl _ (y_bin rfl rfl rfl (fun _ => b_eql)) ?_
        refine S_ 58 rfl rfl rfl _ (y_and rfl rfl rfl) ?_
        refine S_go (fun _ _ h => h) ?_
        refine T_cond rfl (fun h58 => ?_) (fun h58 => ?_)
        · skip
          have hrt := hs3
          rw [show pat.length + 1 - m = (pat.length - m) + 1 by omega, runG, if_pos h58] at hrt
          simp only [Bool.and_eq_true, decide_eq_true_eq] at h58
          refine T_skip_go (fun _ _ h => h) ?_
          refine T_block ?_
          refine T_region ?_
          refine S_ 59 rfl rfl rfl _ (y_move rfl rfl) ?_
          refine S_ 60 rfl rfl rfl _ (y_bin rfl rfl rfl (fun hg => b_addv (((m + 1 : Nat) : Int)) (by omega) (by omega))) ?_
          refine S_ 8 rfl rfl rfl _ (y_assign rfl rfl) ?_
          refine S_nil (nextK1 (kf := [(8, 8), (44, 60)]) (kl := [(8, 8), (44, 60)]) (m + 1) (by repeat (first | exact kf_nil | (apply kf_in; focus rfl) | (apply kf_out; focus rfl))) (by repeat (first | exact kl_nil | exact kl_rest (by assumption) rfl | (apply kl_in; focus rfl) | (apply kl_out; focus rfl))) ?_ ?_ ?_ ?_)
          · omega
          · exact ⟨by omega, by omega, by rw [hrt, show pat.length + 1 - (m + 1) = pat.length - m by omega]⟩
          · exact ⟨rfl, trivial⟩
          · exact trivial
        · skip
          have hrn : runN pat = m := by
            rw [runN, hs3, show pat.length + 1 - m = (pat.length - m) + 1 by omega, runG, if_neg (by rw [h58]; exact Bool.false_ne_true)]
          refine T_exit_go (fun _ _ h => h) ?_
          refine T_seq ?_
          refine T_region ?_
          refine S_ 61 rfl rfl rfl _ (y_move rfl rfl) ?_
          refine S_ 62 rfl rfl rfl _ (y_move rfl rfl) ?_
          refine S_ 63 rfl rfl rfl _ (y_move rfl rfl) ?_
          refine S_ 64 rfl rfl rfl _ (y_move rfl rfl) ?_
          refine S_ 65 rfl rfl rfl _ (y_strTo rfl rfl rfl Tryd.underlying9 (fun _ => by omega)) ?_
          refine S_callOwn 66 20 rfl rfl rfl rfl rfl rfl rfl cf75 (fun A c => .slice A ((path.length + 1)) c) 4 1 ((path.length + 1)) ((stepL path (pat.take m) at_).flatMap boolE) (fun w hM => step_any A (path.length + 1) c at_ path (pat.take m) w (owned_T (enc := boolE) hM hr1 (i := 20) rfl) rfl hqm (fun e => by have := congrArg List.length e; rw [List.length_take, List.length_nil] at this; omega)) ?_
          intro A66 c66
          refine S_ 6 rfl rfl rfl _ (y_assign rfl rfl) ?_
          refine S_go (fun _ _ h => h) ?_
          refine T_region ?_
          refine S_ 67 rfl rfl rfl _ (y_move rfl rfl) ?_
          refine S_ 68 rfl rfl rfl _ (y_move rfl rfl) ?_
          refine S_ 69 rfl rfl rfl _ (y_strFrom rfl rfl rfl Tryd.underlying9 (fun _ => by omega)) ?_
          refine S_ 0 rfl rfl rfl _ (y_assign rfl rfl) ?_
          refine S_nil (nextK5 (kf := [(0, 0), (6, 6), (8, 8), (42, 69)]) (kl := [(0, 0), (6, 6), (8, 8), (20, 20), (42, 69)]) (pat.drop m) (stepL path (pat.take m) at_) A66 c66 (k - 1) (by repeat (first | exact kf_nil | (apply kf_in; focus rfl) | (apply kf_out; focus rfl))) (by repeat (first | exact kl_nil | exact kl_rest (by assumption) rfl | (apply kl_in; focus rfl) | (apply kl_out; focus rfl))) ?_ ?_ ?_ ?_)
          · rw [List.length_drop]; omega
          · exact ⟨by rw [stepL_len, hr1], by rw [List.length_drop]; omega, by rw [← hr3]; obtain ⟨k1, rfl⟩ : ∃ k1, k = k1 + 1 := ⟨k - 1, by omega⟩; rw [fitsGo, if_neg hpat0, hrn]; rfl, by rw [List.length_drop]; omega⟩
          · exact ⟨rfl, rfl, trivial⟩
          · exact ⟨rfl, trivial⟩
      · try simp only [decide_eq_true_eq, decide_eq_false_iff_not, Bool.or_eq_true, Bool.or_eq_false_iff, Bool.and_eq_true, Bool.and_eq_false_iff, Bool.not_eq_true', Bool.not_eq_false', Bool.not_eq_true, Bool.not_eq_false, Bool.not_true, Bool.not_false, Int.not_lt, Int.not_le, not_or, not_and, Classical.not_not] at h43
        have hpat0 : pat = [] := by simpa using h43
        have hfin := hr3
        rw [hpat0, fitsGo_nil] at hfin
        refine T_exit_go (fun _ _ h => h) ?_
        refine T_seq ?_
        refine T_region ?_
        refine S_ 70 rfl rfl rfl _ (y_move rfl rfl) ?_
        refine S_ 71 rfl rfl rfl _ (y_move rfl rfl) ?_
        refine S_ 72 rfl rfl rfl _ (y_len_str rfl rfl Tryd.underlying9) ?_
        refine S_ 73 rfl rfl rfl _ (y_indexOwn 20 rfl rfl rfl rfl Tryd.underlying115 sz4 (fun _ => by omega)) ?_
        refine S_ 74 rfl rfl rfl _ (y_loadO1 20 (val := (fun b : Bool => Value.bool b)) rfl rfl rfl (by omega) (fun _ => getD_at (by omega)) Tryd.underlying4 rfl) ?_
        refine S_ 4 rfl rfl rfl _ (y_assign rfl rfl) ?_
        refine S_go (fun _ _ h => h) ?_
        refine T_ret (fun a w hF hM => hRb a w (post1 rfl rfl (fun w hM => ?_) a w hF hM))
        exact ⟨by rw [fitsB, ← hfin], hM.below⟩
  · skip
    have hpl : (pat1 p).length ≤ 140737488351234 := by rw [pat1, if_neg (by simp [h14])]; omega
    rw [show str p = str (pat1 p) from by rw [pat1, if_neg (by simp [h14])]]
    refine T_skip_go (fun _ _ h => h) ?_
    refine T_seq ?_
    refine T_region ?_
    refine S_ 17 rfl rfl rfl _ (y_move rfl rfl) ?_
    refine S_ 18 rfl rfl rfl _ (y_len_str rfl rfl Tryd.underlying9) ?_
    refine S_ 19 rfl rfl rfl _ (y_bin rfl rfl rfl (fun hg => b_addv (((path.length + 1 : Nat) : Int)) (by omega) (by omega))) ?_
    obtain ⟨i20, hi20, hz20, hs20, hy20⟩ := info_parts inf4
    refine S_makeSlice 20 20 rfl rfl rfl rfl rfl rfl Tryd.underlying115 hi20 hz20 hs20 (by rw [hy20]; omega) ((by simp only [maxLen]; omega)) rfl ?_
    intro b20
    refine S_ 6 rfl rfl rfl _ (y_assign rfl rfl) ?_
    refine S_go (fun _ _ h => h) ?_
    refine T_seq ?_
    refine T_seq ?_
    refine T_region ?_
    refine S_ 21 rfl rfl rfl _ (y_move rfl rfl) ?_
    refine S_ 22 rfl rfl rfl _ (y_len_slice rfl rfl Tryd.underlying115) ?_
    refine S_ 23 rfl rfl rfl _ (y_move rfl rfl) ?_
    refine S_go (fun _ _ h => h) ?_
    refine T_block ?_
    refine T_loopK1 (kf := [(7, 7), (23, 41)]) (kl := [(7, 7), (20, 20), (23, 41)]) (fun (i : Nat) => [(23, true, .int .i64 (i : Int))]) (fun (i : Nat) => [(20, .own 4 1 (.slice (some ⟨b20, 0, none⟩) (path.length + 1) (path.length + 1)) (path.length + 1) ((bfill (at0F (shortP p) path) (path.length + 1) i).flatMap boolE))]) (fun (i : Nat) => i ≤ path.length + 1) (fun (i : Nat) => path.length + 1 - i) 0 (by repeat (first | exact kf_nil | (apply kf_in; focus rfl) | (apply kf_out; focus rfl))) (by repeat (first | exact kl_nil | exact kl_rest (by assumption) rfl | (apply kl_in; focus rfl) | (apply kl_out; focus rfl))) ?_ ?_ ?_ ?_
    · omega
    · exact ⟨rfl, trivial⟩
    · exact ⟨by rw [bfill_0, ← made_bool _ rfl]; rfl, trivial⟩
    rintro i hp1
    refine T_seq ?_
    refine T_region ?_
    refine S_ 24 rfl rfl rfl _ (y_bin rfl rfl rfl (fun _ => b_lss)) ?_
    refine S_go (fun _ _ h => h) ?_
    refine T_seq ?_
    refine T_cond rfl (fun h24 => ?_) (fun h24 => ?_)
    · try simp only [decide_eq_true_eq, decide_eq_false_iff_not, Bool.or_eq_true, Bool.or_eq_false_iff, Bool.and_eq_true, Bool.and_eq_false_iff, Bool.not_eq_true', Bool.not_eq_false', Bool.not_eq_true, Bool.not_eq_false, Bool.not_true, Bool.not_false, Int.not_lt, Int.not_le, not_or, not_and, Classical.not_not] at h24
      refine T_skip_go (fun _ _ h => h) ?_
      refine T_seq ?_
      refine T_block ?_
      refine T_seq ?_
      refine T_region ?_
      refine S_ 25 rfl rfl rfl _ (y_move rfl rfl) ?_
      refine S_ 7 rfl rfl rfl _ (y_assign rfl rfl) ?_
      refine S_go (fun _ _ h => h) ?_
      refine T_region ?_
      refine S_ 26 rfl rfl rfl _ (y_move rfl rfl) ?_
      refine S_ 27 rfl rfl rfl _ (y_move rfl rfl) ?_
      refine S_ 28 rfl rfl rfl _ (y_move rfl rfl) ?_
      refine S_ 29 rfl rfl rfl _ (y_bin rfl rfl rfl (fun _ => b_eql)) ?_
      refine S_ 30 rfl rfl rfl _ (y_move rfl rfl) ?_
      refine Sg_ 31 rfl rfl rfl rfl rfl rfl _ (y_move rfl rfl) ?_
      refine Sg_ 32 rfl rfl rfl rfl rfl rfl _ (y_move rfl rfl) ?_
      refine Sg_ 33 rfl rfl rfl rfl rfl rfl _ (y_move rfl rfl) ?_
      refine Sg_ 34 rfl rfl rfl rfl rfl rfl _ (y_move rfl rfl) ?_
      refine Sg_ 35 rfl rfl rfl rfl rfl rfl _ (y_bin rfl rfl rfl (fun hg => b_subv (((i - 1 : Nat) : Int)) (by simp only [Bool.true_and, Bool.and_eq_true, beq_iff_eq, decide_eq_true_eq, decide_eq_false_iff_not, Int.not_lt, Int.not_le] at hg; omega) (by simp only [Bool.true_and, Bool.and_eq_true, beq_iff_eq, decide_eq_true_eq, decide_eq_false_iff_not, Int.not_lt, Int.not_le] at hg; omega))) ?_
      refine Sg_ 36 rfl rfl rfl rfl rfl rfl _ (y_index_str rfl rfl rfl Tryd.underlying9 (fun hg => by simp only [Bool.true_and, Bool.and_eq_true, beq_iff_eq, decide_eq_true_eq, decide_eq_false_iff_not, Int.not_lt, Int.not_le] at hg; omega)) ?_
      refine Sg_ 37 rfl rfl rfl rfl rfl rfl _ (y_bin rfl rfl rfl (fun _ => b_eql)) ?_
      refine Sg_ 38 rfl rfl rfl rfl rfl rfl _ (y_and rfl rfl rfl) ?_
      refine S_ 39 rfl rfl rfl _ (y_as (v' := .bool (at0F (shortP p) path i)) (by exact rfl) (y_or rfl rfl rfl)) ?_
      refine S_ 40 rfl rfl rfl _ (y_indexOwn 20 rfl rfl rfl rfl Tryd.underlying115 sz4 (fun _ => by omega)) ?_
      refine S_storeOwn 20 rfl rfl rfl rfl rfl rfl sz4 rfl rfl ?_ (xs' := (bfill (at0F (shortP p) path) (path.length + 1) (i + 1)).flatMap boolE) ?_ ?_
      · (rw [bools_len, bfill_len (by omega)]; omega)
      · exact bfill_set (by omega)
      refine S_go (fun _ _ h => h) ?_
      refine T_region ?_
      refine S_ 41 rfl rfl rfl _ (y_bin rfl rfl rfl (fun hg => b_add (by omega))) ?_
      refine S_ 23 rfl rfl rfl _ (y_move rfl rfl) ?_
      refine S_nil (nextK1 (kf := [(7, 7), (23, 41)]) (kl := [(7, 7), (20, 20), (23, 41)]) (i + 1) (by repeat (first | exact kf_nil | (apply kf_in; focus rfl) | (apply kf_out; focus rfl))) (by repeat (first | exact kl_nil | exact kl_rest (by assumption) rfl | (apply kl_in; focus rfl) | (apply kl_out; focus rfl))) ?_ ?_ ?_ ?_)
      · omega
      · omega
      · exact ⟨rfl, trivial⟩
      · exact ⟨rfl, trivial⟩
    · try simp only [decide_eq_true_eq, decide_eq_false_iff_not, Bool.or_eq_true, Bool.or_eq_false_iff, Bool.and_eq_true, Bool.and_eq_false_iff, Bool.not_eq_true', Bool.not_eq_false', Bool.not_eq_true, Bool.not_eq_false, Bool.not_true, Bool.not_false, Int.not_lt, Int.not_le, not_or, not_and, Classical.not_not] at h24
      refine T_exit_go (fun _ _ h => h) ?_
      refine T_seq ?_
      refine T_block ?_
      refine T_loopK5 (kf := [(0, 0), (6, 6), (8, 8), (42, 69)]) (kl := [(0, 0), (6, 6), (8, 8), (20, 20), (42, 69)]) (fun (pat : List UInt8) (at_ : List Bool) (A : Option Addr) (c : Nat) (k : Nat) => [(0, true, str pat), (6, true, .slice A (path.length + 1) c)]) (fun (pat : List UInt8) (at_ : List Bool) (A : Option Addr) (c : Nat) (k : Nat) => [(20, .own 4 1 (.slice A (path.length + 1) c) (path.length + 1) (at_.flatMap boolE))]) (fun (pat : List UInt8) (at_ : List Bool) (A : Option Addr) (c : Nat) (k : Nat) => at_.length = path.length + 1 ∧ pat.length ≤ k ∧ fitsGo path k pat at_ = fitsGo path (pat1 p).length (pat1 p) ((List.range (path.length + 1)).map (at0F (shortP p) path)) ∧ pat.length ≤ (pat1 p).length) (fun (pat : List UInt8) (at_ : List Bool) (A : Option Addr) (c : Nat) (k : Nat) => pat.length) (pat1 p) ((List.range (path.length + 1)).map (at0F (shortP p) path)) (some ⟨b20, 0, none⟩) (path.length + 1) (pat1 p).length (by repeat (first | exact kf_nil | (apply kf_in; focus rfl) | (apply kf_out; focus rfl))) (by repeat (first | exact kl_nil | exact kl_rest (by assumption) rfl | (apply kl_in; focus rfl) | (apply kl_out; focus rfl))) ?_ ?_ ?_ ?_
      · exact ⟨by simp, Nat.le_refl _, rfl, Nat.le_refl _⟩
      · exact ⟨rfl, rfl, trivial⟩
      · exact ⟨by rw [← bfill_end (q := path.length + 1) (i := i) (by omega) (by omega)]; rfl, trivial⟩
      rintro pat at_ A c k ⟨hr1, hr2, hr3, hr4⟩
      refine T_seq ?_
      refine T_seq ?_
      refine T_region ?_
      refine S_ 42 rfl rfl rfl _ (y_move rfl rfl) ?_
      refine S_ 43 rfl rfl rfl _ (y_bin rfl rfl rfl (fun _ => b_neqs)) ?_
      refine S_go (fun _ _ h => h) ?_
      refine T_cond rfl (fun h43 => ?_) (fun h43 => ?_)
      · try simp only [decide_eq_true_eq, decide_eq_false_iff_not, Bool.or_eq_true, Bool.or_eq_false_iff, Bool.and_eq_true, Bool.and_eq_false_iff, Bool.not_eq_true', Bool.not_eq_false', Bool.not_eq_true, Bool.not_eq_false, Bool.not_true, Bool.not_false, Int.not_lt, Int.not_le, not_or, not_and, Classical.not_not] at h43
        have hpat0 : pat ≠ [] := h43
        have hpatl : 0 < pat.length := List.length_pos_iff.2 hpat0
        refine T_skip_go (fun _ _ h => h) ?_
        refine T_block ?_
        refine T_seq ?_
        refine T_region ?_
        refine S_ 8 rfl rfl rfl _ (y_assign rfl rfl) ?_
        refine S_go (fun _ _ h => h) ?_
        refine T_seq ?_
        refine T_block ?_
        refine T_loopK1 (kf := [(8, 8), (44, 60)]) (kl := [(8, 8), (44, 60)]) (fun (m : Nat) => [(8, true, .int .i64 (m : Int))]) (fun (m : Nat) => []) (fun (m : Nat) => 1 ≤ m ∧ m ≤ pat.length ∧ runG pat pat.length 1 = runG pat (pat.length + 1 - m) m) (fun (m : Nat) => pat.length - m) 1 (by repeat (first | exact kf_nil | (apply kf_in; focus rfl) | (apply kf_out; focus rfl))) (by repeat (first | exact kl_nil | exact kl_rest (by assumption) rfl | (apply kl_in; focus rfl) | (apply kl_out; focus rfl))) ?_ ?_ ?_ ?_
        · exact ⟨by omega, by omega, rfl⟩
        · exact ⟨rfl, trivial⟩
        · exact trivial
        rintro m ⟨hs1, hs2, hs3⟩
        refine T_seq ?_
        refine T_seq ?_
        refine T_region ?_
        refine S_ 44 rfl rfl rfl _ (y_move rfl rfl) ?_
        refine S_ 45 rfl rfl rfl _ (y_index_str (j := 0) rfl rfl rfl Tryd.underlying9 (fun _ => hpatl)) ?_
        refine S_ 46 rfl rfl rfl _ (y_bin rfl rfl rfl (fun _ => b_eql)) ?_
        refine S_ 47 rfl rfl rfl _ (y_move rfl rfl) ?_
        refine Sg_ 48 rfl rfl rfl rfl rfl rfl _ (y_move rfl rfl) ?_
        refine Sg_ 49 rfl rfl rfl rfl rfl rfl _ (y_move rfl rfl) ?_
        refine Sg_ 50 rfl rfl rfl rfl rfl rfl _ (y_len_str rfl rfl Tryd.underlying9) ?_
        refine Sg_ 51 rfl rfl rfl rfl rfl rfl _ (y_bin rfl rfl rfl (fun _ => b_lss)) ?_
        refine S_ 52 rfl rfl rfl _ (y_and rfl rfl rfl) ?_
        refine S_ 53 rfl rfl rfl _ (y_move rfl rfl) ?_
        refine Sg_ 54 rfl rfl rfl rfl rfl rfl _ (y_move rfl rfl) ?_
        refine Sg_ 55 rfl rfl rfl rfl rfl rfl _ (y_move rfl rfl) ?_
        refine Sg_ 56 rfl rfl rfl rfl rfl rfl _ (y_index_str rfl rfl rfl Tryd.underlying9 (fun hg => by simp only [Bool.true_and, Bool.and_eq_true, beq_iff_eq, decide_eq_true_eq, decide_eq_false_iff_not, Int.not_lt, Int.not_le] at hg; omega)) ?_
        refine Sg_ 57 rfl rfl rfl rfl rfl rfl _ (y_bin rfl rfl rfl (fun _ => b_eql)) ?_
        refine S_ 58 rfl rfl rfl _ (y_and rfl rfl rfl) ?_
        refine S_go (fun _ _ h => h) ?_
        refine T_cond rfl (fun h58 => ?_) (fun h58 => ?_)
        · skip
          have hrt := hs3
          rw [show pat.length + 1 - m = (pat.length - m) + 1 by omega, runG, if_pos h58] at hrt
          simp only [Bool.and_eq_true, decide_eq_true_eq] at h58
          refine T_skip_go (fun _ _ h => h) ?_
          refine T_block ?_
          refine T_region ?_
          refine S_ 59 rfl rfl rfl _ (y_move rfl rfl) ?_
          refine S_ 60 rfl rfl rfl _ (y_bin rfl rfl rfl (fun hg => b_addv (((m + 1 : Nat) : Int)) (by omega) (by omega))) ?_
          refine S_ 8 rfl rfl rfl _ (y_assign rfl rfl) ?_
          refine S_nil (nextK1 (kf := [(8, 8), (44, 60)]) (kl := [(8, 8), (44, 60)]) (m + 1) (by repeat (first | exact kf_nil | (apply kf_in; focus rfl) | (apply kf_out; focus rfl))) (by repeat (first | exact kl_nil | exact kl_rest (by assumption) rfl | (apply kl_in; focus rfl) | (apply kl_out; focus rfl))) ?_ ?_ ?_ ?_)
          · omega
          · exact ⟨by omega, by omega, by rw [hrt, show pat.length + 1 - (m + 1) = pat.length - m by omega]⟩
          · exact ⟨rfl, trivial⟩
          · exact trivial
        · skip
          have hrn : runN pat = m := by
            rw [runN, hs3, show pat.length + 1 - m = (pat.length - m) + 1 by omega, runG, if_neg (by rw [h58]; exact Bool.false_ne_true)]
          refine T_exit_go (fun _ _ h => h) ?_
          refine T_seq ?_
          refine T_region ?_
          refine S_ 61 rfl rfl rfl _ (y_move rfl rfl) ?_
          refine S_ 62 rfl rfl rfl _ (y_move rfl rfl) ?_
          refine S_ 63 rfl rfl rfl _ (y_move rfl rfl) ?_
          refine S_ 64 rfl rfl rfl _ (y_move rfl rfl) ?_
          refine S_ 65 rfl rfl rfl _ (y_strTo rfl rfl rfl Tryd.underlying9 (fun _ => by omega)) ?_
          refine S_callOwn 66 20 rfl rfl rfl rfl rfl rfl rfl cf75 (fun A c => .slice A ((path.length + 1)) c) 4 1 ((path.length + 1)) ((stepL path (pat.take m) at_).flatMap boolE) (fun w hM => step_any A (path.length + 1) c at_ path (pat.take m) w (owned_T (enc := boolE) hM hr1 (i := 20) rfl) rfl hqm (fun e => by have := congrArg List.length e; rw [List.length_take, List.length_nil] at this; omega)) ?_
          intro A66 c66
          refine S_ 6 rfl rfl rfl _ (y_assign rfl rfl) ?_
          refine S_go (fun _ _ h => h) ?_
          refine T_region ?_
          refine S_ 67 rfl rfl rfl _ (y_move rfl rfl) ?_
          refine S_ 68 rfl rfl rfl _ (y_move rfl rfl) ?_
          refine S_ 69 rfl rfl rfl _ (y_strFrom rfl rfl rfl Tryd.underlying9 (fun _ => by omega)) ?_
          refine S_ 0 rfl rfl rfl _ (y_assign rfl rfl) ?_
          refine S_nil (nextK5 (kf := [(0, 0), (6, 6), (8, 8), (42, 69)]) (kl := [(0, 0), (6, 6), (8, 8), (20, 20), (42, 69)]) (pat.drop m) (stepL path (pat.take m) at_) A66 c66 (k - 1) (by repeat (first | exact kf_nil | (apply kf_in; focus rfl) | (apply kf_out; focus rfl))) (by repeat (first | exact kl_nil | exact kl_rest (by assumption) rfl | (apply kl_in; focus rfl) | (apply kl_out; focus rfl))) ?_ ?_ ?_ ?_)
          · rw [List.length_drop]; omega
          · exact ⟨by rw [stepL_len, hr1], by rw [List.length_drop]; omega, by rw [← hr3]; obtain ⟨k1, rfl⟩ : ∃ k1, k = k1 + 1 := ⟨k - 1, by omega⟩; rw [fitsGo, if_neg hpat0, hrn]; rfl, by rw [List.length_drop]; omega⟩
          · exact ⟨rfl, rfl, trivial⟩
          · exact ⟨rfl, trivial⟩
      · try simp only [decide_eq_true_eq, decide_eq_false_iff_not, Bool.or_eq_true, Bool.or_eq_false_iff, Bool.and_eq_true, Bool.and_eq_false_iff, Bool.not_eq_true', Bool.not_eq_false', Bool.not_eq_true, Bool.not_eq_false, Bool.not_true, Bool.not_false, Int.not_lt, Int.not_le, not_or, not_and, Classical.not_not] at h43
        have hpat0 : pat = [] := by simpa using h43
        have hfin := hr3
        rw [hpat0, fitsGo_nil] at hfin
        refine T_exit_go (fun _ _ h => h) ?_
        refine T_seq ?_
        refine T_region ?_
        refine S_ 70 rfl rfl rfl _ (y_move rfl rfl) ?_
        refine S_ 71 rfl rfl rfl _ (y_move rfl rfl) ?_
        refine S_ 72 rfl rfl rfl _ (y_len_str rfl rfl Tryd.underlying9) ?_
        refine S_ 73 rfl rfl rfl _ (y_indexOwn 20 rfl rfl rfl rfl Tryd.underlying115 sz4 (fun _ => by omega)) ?_
        refine S_ 74 rfl rfl rfl _ (y_loadO1 20 (val := (fun b : Bool => Value.bool b)) rfl rfl rfl (by omega) (fun _ => getD_at (by omega)) Tryd.underlying4 rfl) ?_
        refine S_ 4 rfl rfl rfl _ (y_assign rfl rfl) ?_
        refine S_go (fun _ _ h => h) ?_
        refine T_ret (fun a w hF hM => hRb a w (post1 rfl rfl (fun w hM => ?_) a w hF hM))
        exact ⟨by rw [fitsB, ← hfin], hM.below⟩
end Go.Proofs.YtoeipmepmlikcaaDoor
