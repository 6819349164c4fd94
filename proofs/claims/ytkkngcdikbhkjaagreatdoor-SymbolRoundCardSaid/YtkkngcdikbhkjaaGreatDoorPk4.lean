/- Part 4, merged by a program. Numbers as texts at a seat of tables: Itoa, Atoi, plainNumber, whole. Conditions: those of each theorem. Texts joined and split at one byte, numbers as digits: plain lists at a seat of tables. No program in sight. symbol.Write and the reference's TableBytes make the same bytes of a right table. Conditions: those of each theorem. The bytes of a table and the reader of them are inverse, in plain lists. No program in sight. -/
import Derived.Test.YtkkngcdikbhkjaaGreatDoorIfc
import Derived.Test.YtkkngcdikbhkjaaGreatDoorSit
import Derived.Lib.ItoaLen
import Derived.Lib.Join
import Derived.Test.YtkkngcdikbhkjaaGreatDoorTail
import Derived.Test.YtkkngcdikbhkjaaGreatDoorPk3
section
namespace Go.Proofs.YtkkngcdikbhkjaaGreatDoor
set_option linter.unusedSimpArgs false
set_option linter.unusedVariables false
set_option maxRecDepth 20000
open Go.RowKit Go.Eng
theorem dropWhile_nil {p : UInt8 → Bool} : ∀ {l : List UInt8}, l.dropWhile p = [] → ∀ c ∈ l, p c = true
  | [], _ => fun c h => by cases h
  | a :: r, h => fun c hc => by
    rw [List.dropWhile_cons] at h
    split at h
    · rcases List.mem_cons.1 hc with rfl | hc
      · assumption
      · exact dropWhile_nil h c hc
    · cases h
theorem dropWhile_head {p : UInt8 → Bool} : ∀ {l : List UInt8} {y : UInt8} {t : List UInt8}, l.dropWhile p = y :: t → p y = false
  | [], y, t, h => by simp at h
  | a :: r, y, t, h => by
    rw [List.dropWhile_cons] at h
    split at h
    · exact dropWhile_head h
    · rename_i hp
      obtain ⟨rfl, _⟩ := List.cons.inj h
      simpa using hp
theorem trimS_nil {s cs : List UInt8} (h : Lib.trimS s cs = []) : ∀ c ∈ s, cs.contains c = true := by
  have h1 := dropWhile_nil (l := Lib.trimRightS s cs) h
  have h2 : s.reverse.dropWhile (cs.contains ·) = [] := by
    cases hq : s.reverse.dropWhile (cs.contains ·) with
    | nil => rfl
    | cons y t =>
      have h3 := dropWhile_head hq
      have h4 := h1 y (by unfold Lib.trimRightS; rw [hq]; simp)
      rw [h3] at h4; cases h4
  intro c hc
  exact dropWhile_nil h2 c (List.mem_reverse.2 hc)
abbrev digB : List UInt8 := [48, 49, 50, 51, 52, 53, 54, 55, 56, 57]
theorem digB_iff {c : UInt8} (h : digB.contains c = true) : 48 ≤ c.toNat ∧ c.toNat ≤ 57 := by
  have h : c ∈ digB := by simpa using h
  simp only [digB, List.mem_cons, List.not_mem_nil, or_false] at h
  rcases h with rfl | rfl | rfl | rfl | rfl | rfl | rfl | rfl | rfl | rfl <;> decide
def valD (s : List UInt8) : Nat := s.foldl (fun n c => n * 10 + (c.toNat - 48)) 0
theorem valD_snoc (l : List UInt8) (c : UInt8) : valD (l ++ [c]) = valD l * 10 + (c.toNat - 48) := by rw [valD, List.foldl_append]; rfl
theorem wrap8_in {V : Int} (h : 0 ≤ V ∧ V ≤ 255) : IntKind.u8.wrap V = V := IntWalk.u8_in _ (by omega)
theorem bytesV_at {s : List UInt8} {i : Nat} (h : i < s.length) : (bytesV s)[i]? = some (.int .u8 (((s.getD i 0).toNat : Nat) : Int)) := by
  simp [bytesV, List.getElem?_map, List.getElem?_eq_getElem h, List.getD_eq_getElem?_getD]
theorem getD_mem {s : List UInt8} {i : Nat} (h : i < s.length) : s.getD i 0 ∈ s := by
  rw [List.getD_eq_getElem?_getD, List.getElem?_eq_getElem h]; exact List.getElem_mem h
theorem take_getD {s : List UInt8} {i : Nat} (h : i < s.length) : s.take (i + 1) = s.take i ++ [s.getD i 0] := by
  rw [List.getD_eq_getElem?_getD, List.getElem?_eq_getElem h, List.take_succ_eq_append_getElem h]; rfl
theorem iAtoi_any (s : List UInt8) (h0 : s ≠ []) (h6 : s.length ≤ 18) (hd : ∀ c ∈ s, 48 ≤ c.toNat ∧ c.toNat ≤ 57) (w : World) :
    Calls Tryz.prog 406 #[str s] w fun e w' => e = .returned (.tuple #[.int .i64 (valD s : Nat), .nilIface]) ∧ Below w.heap.size w w' := by
  have hl : 0 < s.length := List.length_pos_iff.2 h0
  have hd0 := hd _ (getD_mem (i := 0) hl)
  refine enter_args (args := [str s]) (F := _) Tryz.func406 rfl Tryz.ntmps406 rfl rfl ?_
  intro Rb hRb hRn
  refine T_seq ?_
  refine T_region ?_
  refine S_ 2 rfl rfl rfl _ (y_assign rfl rfl) ?_
  refine S_ 3 rfl rfl rfl _ (y_assign rfl rfl) ?_
  refine S_go (fun _ _ h => h) ?_
  refine T_seq ?_
  refine T_region ?_
  refine S_ 11 rfl rfl rfl _ (y_move rfl rfl) ?_
  refine S_ 12 rfl rfl rfl _ (y_len_str rfl rfl Tryz.underlying9) ?_
  refine S_ 4 rfl rfl rfl _ (y_assign rfl rfl) ?_
  refine S_go (fun _ _ h => h) ?_
  refine T_seq ?_
  refine T_seq ?_
  refine T_region ?_
  refine S_ 13 rfl rfl rfl _ (y_move rfl rfl) ?_
  refine Sg_ 14 rfl rfl rfl rfl rfl rfl _ (y_move rfl rfl) ?_
  refine Sg_ 15 rfl rfl rfl rfl rfl rfl _ (y_bin rfl rfl rfl (fun _ => b_lss)) ?_
  refine Sg_ 16 rfl rfl rfl rfl rfl rfl _ (y_move rfl rfl) ?_
  refine Sg_ 17 rfl rfl rfl rfl rfl rfl _ (y_move rfl rfl) ?_
  refine Sg_ 18 rfl rfl rfl rfl rfl rfl _ (y_bin rfl rfl rfl (fun _ => b_lss)) ?_
  refine Sg_ 19 rfl rfl rfl rfl rfl rfl _ (y_and rfl rfl rfl) ?_
  refine S_ 20 rfl rfl rfl _ (y_and rfl rfl rfl) ?_
  refine S_ 21 rfl rfl rfl _ (y_move rfl rfl) ?_
  refine Sg_ 22 rfl rfl rfl rfl rfl rfl _ (y_move rfl rfl) ?_
  refine Sg_ 23 rfl rfl rfl rfl rfl rfl _ (y_move rfl rfl) ?_
  refine Sg_ 24 rfl rfl rfl rfl rfl rfl _ (y_bin rfl rfl rfl (fun _ => b_lss)) ?_
  refine Sg_ 25 rfl rfl rfl rfl rfl rfl _ (y_move rfl rfl) ?_
  refine Sg_ 26 rfl rfl rfl rfl rfl rfl _ (y_move rfl rfl) ?_
  refine Sg_ 27 rfl rfl rfl rfl rfl rfl _ (y_bin rfl rfl rfl (fun _ => b_lss)) ?_
  refine Sg_ 28 rfl rfl rfl rfl rfl rfl _ (y_and rfl rfl rfl) ?_
  refine Sg_ 29 rfl rfl rfl rfl rfl rfl _ (y_and rfl rfl rfl) ?_
  refine S_ 30 rfl rfl rfl _ (y_or rfl rfl rfl) ?_
  refine S_go (fun _ _ h => h) ?_
  refine T_cond rfl (fun h30 => ?_) (fun h30 => ?_)
  · skip
    refine T_seq ?_
    refine T_region ?_
    refine S_ 31 rfl rfl rfl _ (y_move rfl rfl) ?_
    refine S_ 5 rfl rfl rfl _ (y_assign rfl rfl) ?_
    refine S_go (fun _ _ h => h) ?_
    refine T_seq ?_
    refine T_seq ?_
    refine T_region ?_
    refine S_ 32 rfl rfl rfl _ (y_move rfl rfl) ?_
    refine S_ 33 rfl rfl rfl _ (y_index_str (j := 0) rfl rfl rfl Tryz.underlying9 (fun _ => hl)) ?_
    refine S_ 34 rfl rfl rfl _ (y_bin rfl rfl rfl (fun _ => b_eql)) ?_
    refine S_ 35 rfl rfl rfl _ (y_move rfl rfl) ?_
    refine Sg_ 36 rfl rfl rfl rfl rfl rfl _ (y_move rfl rfl) ?_
    refine Sg_ 37 rfl rfl rfl rfl rfl rfl _ (y_index_str (j := 0) rfl rfl rfl Tryz.underlying9 (fun _ => hl)) ?_
    refine Sg_ 38 rfl rfl rfl rfl rfl rfl _ (y_bin rfl rfl rfl (fun _ => b_eql)) ?_
    refine S_ 39 rfl rfl rfl _ (y_or rfl rfl rfl) ?_
    refine S_go (fun _ _ h => h) ?_
    refine T_cond rfl (fun h39 => ?_) (fun h39 => ?_)
    · skip
      simp only [Bool.or_eq_true, decide_eq_true_eq] at h39
      omega
    · skip
      refine T_skip_go (fun _ _ h => h) ?_
      refine T_seq ?_
      refine T_region ?_
      refine S_ 6 rfl rfl rfl _ (y_assign rfl rfl) ?_
      refine S_go (fun _ _ h => h) ?_
      refine T_seq ?_
      refine T_seq ?_
      refine T_region ?_
      refine S_ 46 rfl rfl rfl _ (y_move rfl rfl) ?_
      refine S_strBytes 47 47 rfl rfl rfl rfl rfl Tryz.underlying9 Tryz.underlying187 Tryz.underlying5 ?_
      intro b47 c47
      refine S_ 48 rfl rfl rfl _ (y_len_slice rfl rfl Tryz.underlying187) ?_
      refine S_ 49 rfl rfl rfl _ (y_move rfl rfl) ?_
      refine S_go (fun _ _ h => h) ?_
      refine T_block ?_
      refine T_loopK2 (kf := [(2, 3), (6, 6), (8, 8), (49, 63)]) (kl := [(2, 3), (6, 6), (8, 8), (49, 63)]) (fun (i m : Nat) => [(49, true, .int .i64 (i : Int)), (6, true, .int .i64 (m : Int))]) (fun (i m : Nat) => []) (fun (i m : Nat) => i ≤ s.length ∧ m < 10 ^ i ∧ valD (s.take i) = m) (fun (i m : Nat) => s.length - i) 0 0 (by repeat (first | exact kf_nil | (apply kf_in; focus rfl) | (apply kf_out; focus rfl))) (by repeat (first | exact kl_nil | exact kl_rest (by assumption) rfl | (apply kl_in; focus rfl) | (apply kl_out; focus rfl))) ?_ ?_ ?_ ?_
      · exact ⟨by omega, by decide, rfl⟩
      · exact ⟨rfl, rfl, trivial⟩
      · exact trivial
      rintro i m ⟨hp1, hp2, hp3⟩
      refine T_seq ?_
      refine T_region ?_
      refine S_ 50 rfl rfl rfl _ (y_bin rfl rfl rfl (fun _ => b_lss)) ?_
      refine S_go (fun _ _ h => h) ?_
      refine T_seq ?_
      refine T_cond rfl (fun h50 => ?_) (fun h50 => ?_)
      · try simp only [decide_eq_true_eq, decide_eq_false_iff_not, Bool.or_eq_true, Bool.or_eq_false_iff, Bool.and_eq_true, Bool.and_eq_false_iff, Bool.not_eq_true', Bool.not_eq_false', Bool.not_eq_true, Bool.not_eq_false, Bool.not_true, Bool.not_false, Int.not_lt, Int.not_le, not_or, not_and, Classical.not_not] at h50
        have hdi := hd _ (getD_mem (i := i) (by omega))
        have hp10 : 10 ^ i ≤ 100000000000000000 := Nat.le_trans (Nat.pow_le_pow_right (by decide) (by omega : i ≤ 17)) (by decide)
        refine T_skip_go (fun _ _ h => h) ?_
        refine T_seq ?_
        refine T_block ?_
        refine T_seq ?_
        refine T_region ?_
        refine S_ 51 rfl rfl rfl _ (y_indexAddr rfl rfl rfl Tryz.underlying187 sz5 (fun _ => rfl) (fun _ => by omega)) ?_
        refine S_ 52 rfl rfl rfl _ (y_loadRd 47 rfl rfl rfl (fun _ => bytesV_at (by omega)) Tryz.underlying5 rfl) ?_
        refine S_ 8 rfl rfl rfl _ (y_assign rfl rfl) ?_
        refine S_go (fun _ _ h => h) ?_
        refine T_seq ?_
        refine T_region ?_
        refine S_ 53 rfl rfl rfl _ (y_move rfl rfl) ?_
        refine S_ 54 rfl rfl rfl _ (y_as (v' := .int .u8 (((s.getD i 0).toNat - 48 : Nat) : Int)) (by congr 1; rw [wrap8_in (by omega)]; omega) (y_bin rfl rfl rfl (fun hg => b_subw))) ?_
        refine S_ 8 rfl rfl rfl _ (y_assign rfl rfl) ?_
        refine S_go (fun _ _ h => h) ?_
        refine T_seq ?_
        refine T_seq ?_
        refine T_region ?_
        refine S_ 55 rfl rfl rfl _ (y_move rfl rfl) ?_
        refine S_ 56 rfl rfl rfl _ (y_bin rfl rfl rfl (fun _ => b_gtr)) ?_
        refine S_go (fun _ _ h => h) ?_
        refine T_cond rfl (fun h56 => ?_) (fun h56 => ?_)
        · try simp only [decide_eq_true_eq, decide_eq_false_iff_not, Bool.or_eq_true, Bool.or_eq_false_iff, Bool.and_eq_true, Bool.and_eq_false_iff, Bool.not_eq_true', Bool.not_eq_false', Bool.not_eq_true, Bool.not_eq_false, Bool.not_true, Bool.not_false, Int.not_lt, Int.not_le, not_or, not_and, Classical.not_not] at h56
          omega
        · try simp only [decide_eq_true_eq, decide_eq_false_iff_not, Bool.or_eq_true, Bool.or_eq_false_iff, Bool.and_eq_true, Bool.and_eq_false_iff, Bool.not_eq_true', Bool.not_eq_false', Bool.not_eq_true, Bool.not_eq_false, Bool.not_true, Bool.not_false, Int.not_lt, Int.not_le, not_or, not_and, Classical.not_not] at h56
          refine T_skip_go (fun _ _ h => h) ?_
          refine T_region ?_
          refine S_ 58 rfl rfl rfl _ (y_move rfl rfl) ?_
          refine S_ 59 rfl rfl rfl _ (y_bin rfl rfl rfl (fun hg => b_mulv (((m * 10 : Nat) : Int)) (by omega) (by omega))) ?_
          refine S_ 60 rfl rfl rfl _ (y_move rfl rfl) ?_
          refine S_ 61 rfl rfl rfl _ (y_conv64 rfl rfl Tryz.underlying5 Tryz.underlying3 (fun _ => by omega)) ?_
          refine S_ 62 rfl rfl rfl _ (y_bin rfl rfl rfl (fun hg => b_addv (((m * 10 + ((s.getD i 0).toNat - 48) : Nat) : Int)) (by omega) (by omega))) ?_
          refine S_ 6 rfl rfl rfl _ (y_assign rfl rfl) ?_
          refine S_go (fun _ _ h => h) ?_
          refine T_region ?_
          refine S_ 63 rfl rfl rfl _ (y_bin rfl rfl rfl (fun hg => b_add (by omega))) ?_
          refine S_ 49 rfl rfl rfl _ (y_move rfl rfl) ?_
          refine S_nil (nextK2 (kf := [(2, 3), (6, 6), (8, 8), (49, 63)]) (kl := [(2, 3), (6, 6), (8, 8), (49, 63)]) (i + 1) (m * 10 + ((s.getD i 0).toNat - 48)) (by repeat (first | exact kf_nil | (apply kf_in; focus rfl) | (apply kf_out; focus rfl))) (by repeat (first | exact kl_nil | exact kl_rest (by assumption) rfl | (apply kl_in; focus rfl) | (apply kl_out; focus rfl))) ?_ ?_ ?_ ?_)
          · omega
          · exact ⟨by omega, by rw [Nat.pow_succ]; omega, by rw [take_getD (by omega), valD_snoc, hp3]⟩
          · exact ⟨rfl, rfl, trivial⟩
          · exact trivial
      · try simp only [decide_eq_true_eq, decide_eq_false_iff_not, Bool.or_eq_true, Bool.or_eq_false_iff, Bool.and_eq_true, Bool.and_eq_false_iff, Bool.not_eq_true', Bool.not_eq_false', Bool.not_eq_true, Bool.not_eq_false, Bool.not_true, Bool.not_false, Int.not_lt, Int.not_le, not_or, not_and, Classical.not_not] at h50
        refine T_exit_go (fun _ _ h => h) ?_
        refine T_seq ?_
        refine T_seq ?_
        refine T_region ?_
        refine S_ 64 rfl rfl rfl _ (y_move rfl rfl) ?_
        refine S_ 65 rfl rfl rfl _ (y_index_str (j := 0) rfl rfl rfl Tryz.underlying9 (fun _ => hl)) ?_
        refine S_ 66 rfl rfl rfl _ (y_bin rfl rfl rfl (fun _ => b_eql)) ?_
        refine S_go (fun _ _ h => h) ?_
        refine T_cond rfl (fun h66 => ?_) (fun h66 => ?_)
        · skip
          simp only [decide_eq_true_eq] at h66
          omega
        · skip
          refine T_skip_go (fun _ _ h => h) ?_
          refine T_seq ?_
          refine T_region ?_
          refine S_ 69 rfl rfl rfl _ (y_move rfl rfl) ?_
          refine S_ 2 rfl rfl rfl _ (y_assign rfl rfl) ?_
          refine S_ 3 rfl rfl rfl _ (y_assign rfl rfl) ?_
          refine S_go (fun _ _ h => h) ?_
          refine T_ret (fun a w hF hM => hRb a w (post2 rfl rfl rfl (fun w hM => ?_) a w hF hM))
          have hv : valD s = m := by rw [← hp3, List.take_of_length_le (by omega)]
          exact ⟨by rw [hv], hM.below⟩
  · skip
    simp at h30
    omega
theorem Atoi_any (s : List UInt8) (h0 : s ≠ []) (h6 : s.length ≤ 18) (hd : ∀ c ∈ s, 48 ≤ c.toNat ∧ c.toNat ≤ 57) (w : World) :
    Calls Tryz.prog 335 #[str s] w fun e w' => e = .returned (.tuple #[.int .i64 (valD s : Nat), .nilIface]) ∧ Below w.heap.size w w' := by
  refine enter_args (args := [str s]) (F := _) Tryz.func335 rfl Tryz.ntmps335 rfl rfl ?_
  intro Rb hRb hRn
  refine T_seq ?_
  refine T_region ?_
  refine S_ 2 rfl rfl rfl _ (y_assign rfl rfl) ?_
  refine S_ 3 rfl rfl rfl _ (y_assign rfl rfl) ?_
  refine S_go (fun _ _ h => h) ?_
  refine T_seq ?_
  refine T_region ?_
  refine S_ 7 rfl rfl rfl _ (y_move rfl rfl) ?_
  refine S_ 8 rfl rfl rfl _ (y_call rfl rfl rfl cf406 (fun _ w _ => iAtoi_any s h0 h6 hd w)) ?_
  refine S_ 6 rfl rfl rfl _ (y_move rfl rfl) ?_
  refine S_ 9 rfl rfl rfl _ (y_extract rfl rfl rfl) ?_
  refine S_ 10 rfl rfl rfl _ (y_extract rfl rfl rfl) ?_
  refine S_ 4 rfl rfl rfl _ (y_assign rfl rfl) ?_
  refine S_ 5 rfl rfl rfl _ (y_assign rfl rfl) ?_
  refine S_go (fun _ _ h => h) ?_
  refine T_seq ?_
  refine T_seq ?_
  refine T_region ?_
  refine S_ 11 rfl rfl rfl _ (y_move rfl rfl) ?_
  refine S_ 12 rfl rfl rfl _ (y_bin rfl rfl rfl (fun _ => b_neqII Tryz.underlying191)) ?_
  refine S_go (fun _ _ h => h) ?_
  refine T_cond rfl (fun h12 => ?_) (fun h12 => ?_)
  · skip
    cases h12
  · skip
    refine T_skip_go (fun _ _ h => h) ?_
    refine T_seq ?_
    refine T_region ?_
    refine S_ 17 rfl rfl rfl _ (y_move rfl rfl) ?_
    refine S_ 2 rfl rfl rfl _ (y_assign rfl rfl) ?_
    refine S_ 3 rfl rfl rfl _ (y_assign rfl rfl) ?_
    refine S_go (fun _ _ h => h) ?_
    refine T_ret (fun a w hF hM => hRb a w (post2 rfl rfl rfl (fun w hM => ?_) a w hF hM))
    exact ⟨rfl, hM.below⟩
/-- the table of powers of ten lies there -/
def P10 (w : World) : Prop := Lib.TabIs Tryz.prog w "internal/strconv.uint64pow10" .u64 Lib.pow10Tab ∧ 3 < w.heap.size
theorem P10.below {w w' : World} (h : P10 w) (hb : Below w.heap.size w w') : P10 w' := by
  refine ⟨?_, Nat.lt_of_lt_of_le h.2 hb.size⟩
  have e : Tryz.prog.globalNamed "internal/strconv.uint64pow10" = some 3 := by kernel_rfl
  have h1 := h.1
  unfold Lib.TabIs World.var? at h1 ⊢
  rw [e] at h1 ⊢
  simp only [Option.bind_some] at h1 ⊢
  rw [hb.block _ h.2]; exact h1
theorem below_grow0 (w : World) (k : Nat) (os : Array Obj) : Below w.heap.size w (Sort.grow (w.drewN k) os) :=
  ⟨rfl, rfl, rfl, by show w.heap.size ≤ (w.heap ++ os).size; simp, fun j hj => by show (w.heap ++ os)[j]? = w.heap[j]?; rw [Array.getElem?_append, if_pos hj]⟩
theorem Itoa_any (n : Int) (h0 : -9223372036854775808 ≤ n) (h1 : n ≤ 9223372036854775807) (w : World) (hP : P10 w) :
    Calls Tryz.prog 124 #[.int .i64 n] w fun e w' => e = .returned (str (Lib.itoa n)) ∧ Below w.heap.size w w' :=
  (Any.strconv_Itoa Tryz.laysM171 n h0 h1 w hP.1).mono fun e w' ⟨h, k, os, hw⟩ => ⟨h, hw ▸ below_grow0 w k os⟩
theorem TrimDig_any (s : List UInt8) (hs : s.length ≤ 1000000000) (w : World) : Calls Tryz.prog 102 #[str s, str digB] w fun e w' => e = .returned (str (Lib.trimS s digB)) ∧ Below w.heap.size w w' :=
  Any.strings_Trim_laid Tryz.lays160 (by kernel_rfl) ⟨s.toArray⟩ ⟨digB.toArray⟩ w (by rw [Lib.size_eq]; simp; omega) (by decide) (ascii_of_all (by decide))
def plainOk (s : List UInt8) (k : Nat) : Bool := !(decide (s = []) || decide ((k : Int) < s.length) || (decide ((1 : Int) < s.length) && decide (((s.getD 0 0).toNat : Int) = 48)) || !decide (Lib.trimS s digB = []))
def plainJ (s : List UInt8) (k : Nat) : Nat := if plainOk s k = true then valD s else 0
theorem plain_parts {s : List UInt8} {k : Nat} (h : plainOk s k = true) : s ≠ [] ∧ s.length ≤ k ∧ ∀ c ∈ s, 48 ≤ c.toNat ∧ c.toNat ≤ 57 := by
  simp only [plainOk, Bool.not_eq_true', Bool.or_eq_false_iff, decide_eq_false_iff_not, Bool.not_eq_false', decide_eq_true_eq] at h
  obtain ⟨⟨⟨h1, h2⟩, _⟩, h3⟩ := h
  exact ⟨h1, by omega, fun c hc => digB_iff (trimS_nil h3 c hc)⟩
end Go.Proofs.YtkkngcdikbhkjaaGreatDoor
end
section
namespace Go.Proofs.YtkkngcdikbhkjaaGreatDoor
set_option linter.unusedSimpArgs false
set_option linter.unusedVariables false
set_option maxRecDepth 20000
open Go.RowKit Go.Eng
theorem dropWhile_all {p : UInt8 → Bool} : ∀ {l : List UInt8}, (∀ c ∈ l, p c = true) → l.dropWhile p = []
  | [], _ => rfl
  | a :: r, h => by rw [List.dropWhile_cons, if_pos (h a (List.mem_cons_self ..)), dropWhile_all fun c hc => h c (List.mem_cons_of_mem _ hc)]
theorem trimS_all {s cs : List UInt8} (h : ∀ c ∈ s, cs.contains c = true) : Lib.trimS s cs = [] := by
  have h2 : s.reverse.dropWhile (cs.contains ·) = [] := dropWhile_all fun c hc => h c (List.mem_reverse.1 hc)
  have h3 : Lib.trimRightS s cs = [] := by unfold Lib.trimRightS; rw [h2]; rfl
  unfold Lib.trimS; rw [h3]; rfl
def jn (c : UInt8) : List (List UInt8) → List UInt8
  | [] => []
  | [a] => a
  | a :: b :: r => a ++ c :: jn c (b :: r)
theorem jn_join (c : UInt8) : ∀ l : List (List UInt8), Lib.join l [c] = jn c l
  | [] => rfl
  | [a] => Lib.join_one a [c]
  | a :: b :: r => by
    have h := jn_join c (b :: r)
    rw [Lib.join_cons] at h
    rw [Lib.join_cons, jn, ← h]
    simp [Lib.joinTail]
theorem split_ne (c : UInt8) (s : List UInt8) : splitC c s ≠ [] := by
  intro h
  have := splitC_len c s
  rw [h] at this; simp at this
theorem mem_jn {c x : UInt8} : ∀ {l : List (List UInt8)}, x ∈ jn c l → x = c ∨ ∃ w ∈ l, x ∈ w
  | [], h => by cases h
  | [a], h => .inr ⟨a, List.mem_cons_self .., h⟩
  | a :: b :: r, h => by
    rw [jn] at h
    rcases List.mem_append.1 h with h | h
    · exact .inr ⟨a, List.mem_cons_self .., h⟩
    · rcases List.mem_cons.1 h with h | h
      · exact .inl h
      · rcases mem_jn h with h | ⟨w, hw, h⟩
        · exact .inl h
        · exact .inr ⟨w, List.mem_cons_of_mem _ hw, h⟩
theorem split_app (c : UInt8) (X : List UInt8) : ∀ a : List UInt8, c ∉ a → splitC c (a ++ c :: X) = a :: splitC c X
  | [], _ => by rw [List.nil_append, splitC, if_pos rfl]
  | y :: r, h => by
    rw [List.cons_append, splitC, if_neg (fun e : y = c => h (by rw [e]; exact List.mem_cons_self ..)), split_app c X r fun hc => h (List.mem_cons_of_mem _ hc)]
theorem split_one (c : UInt8) (a : List UInt8) (h : c ∉ a) : splitC c a = [a] := splitC_none c a fun _ hk => h (List.mem_of_getElem? hk)
theorem split_jn (c : UInt8) : ∀ {l : List (List UInt8)}, l ≠ [] → (∀ w ∈ l, c ∉ w) → splitC c (jn c l) = l
  | [], h, _ => absurd rfl h
  | [a], _, h => split_one c a (h a (List.mem_cons_self ..))
  | a :: b :: r, _, h => by
    rw [jn, split_app c _ a (h a (List.mem_cons_self ..)), split_jn c (by simp) fun w hw => h w (List.mem_cons_of_mem _ hw)]
theorem spl_le (c : UInt8) : ∀ (s x : List UInt8), x ∈ splitC c s → x.length ≤ s.length
  | [], x, h => by rw [splitC] at h; simp at h; subst h; exact Nat.le_refl _
  | y :: r, x, h => by
    rw [splitC] at h
    split at h
    · rcases List.mem_cons.1 h with rfl | h
      · exact Nat.zero_le _
      · exact Nat.le_succ_of_le (spl_le c r x h)
    · cases hs : splitC c r with
      | nil => rw [hs] at h; simp at h; subst h; simp
      | cons a t =>
        rw [hs] at h
        rcases List.mem_cons.1 h with rfl | h
        · have := spl_le c r a (by rw [hs]; exact List.mem_cons_self ..)
          simpa using this
        · exact Nat.le_succ_of_le (spl_le c r x (by rw [hs]; exact List.mem_cons_of_mem _ h))
theorem cut_le (c : UInt8) (s : List UInt8) : (cutC c s).1.length ≤ s.length ∧ (cutC c s).2.1.length ≤ s.length := by
  unfold cutC
  split
  · exact ⟨Nat.le_refl _, Nat.zero_le _⟩
  · simp only [List.length_take, List.length_drop]; omega
theorem cut_t {c : UInt8} {s : List UInt8} (h : (cutC c s).2.2 = true) : s = (cutC c s).1 ++ c :: (cutC c s).2.1 := by
  unfold cutC at h ⊢
  split at h
  · cases h
  · rename_i hn
    rw [if_neg hn]
    obtain ⟨o, ho⟩ : ∃ o : Nat, Lib.indexByte s c = o := ⟨(Lib.indexByte s c).toNat, by omega⟩
    obtain ⟨h1, _⟩ := Lib.indexByte_some ho
    obtain ⟨h2, h3⟩ := List.getElem?_eq_some_iff.1 h1
    rw [ho, Int.toNat_natCast]
    rw [← h3, ← List.drop_eq_getElem_cons h2, List.take_append_drop]
theorem index_app {c : UInt8} {a X : List UInt8} (h : c ∉ a) : Lib.indexByte (a ++ c :: X) c = a.length := by
  have h1 : Lib.indexByte (a ++ c :: X) c ≠ -1 := fun e => Lib.indexByte_none e a.length (by simp)
  have h0 := Lib.indexByte_ge (a ++ c :: X) c
  obtain ⟨o, ho⟩ : ∃ o : Nat, Lib.indexByte (a ++ c :: X) c = o := ⟨(Lib.indexByte (a ++ c :: X) c).toNat, by omega⟩
  obtain ⟨h2, h3⟩ := Lib.indexByte_some ho
  rw [ho]
  rcases Nat.lt_trichotomy o a.length with hl | hl | hl
  · exfalso
    rw [List.getElem?_append_left hl] at h2
    exact h (List.mem_of_getElem? h2)
  · rw [hl]
  · exact absurd (by simp) (h3 a.length hl)
theorem cut_app {c : UInt8} {a X : List UInt8} (h : c ∉ a) : cutC c (a ++ c :: X) = (a, X, true) := by
  unfold cutC
  rw [index_app h, if_neg (by omega), Int.toNat_natCast]
  simp
theorem ofNat_dig {n : Nat} (h : n < 10) : (UInt8.ofNat (48 + n)).toNat = 48 + n := by simp; omega
theorem val_dec (u : Nat) : valD (Lib.decDigits u) = u ∧ Lib.decDigits u ≠ [] ∧ (∀ c ∈ Lib.decDigits u, digB.contains c = true) ∧ (1 ≤ u → ((Lib.decDigits u).getD 0 0).toNat ≠ 48) := by
  induction u using Nat.strongRecOn with
  | _ u ih =>
    have hd : ∀ n : Nat, n < 10 → digB.contains (UInt8.ofNat (48 + n)) = true := by decide
    by_cases h : u < 10
    · rw [Lib.decDigits_one h]
      refine ⟨?_, by simp, fun c hc => ?_, fun h1 => ?_⟩
      · show 0 * 10 + ((UInt8.ofNat (48 + u)).toNat - 48) = u
        rw [ofNat_dig h]; omega
      · rw [List.mem_singleton.1 hc]; exact hd u h
      · show (UInt8.ofNat (48 + u)).toNat ≠ 48
        rw [ofNat_dig h]; omega
    · obtain ⟨i1, i2, i3, i4⟩ := ih (u / 10) (by omega)
      rw [Lib.decDigits, dif_neg h]
      refine ⟨?_, by simp, fun c hc => ?_, fun _ => ?_⟩
      · rw [valD_snoc, i1, ofNat_dig (by omega)]; omega
      · rcases List.mem_append.1 hc with hc | hc
        · exact i3 c hc
        · rw [List.mem_singleton.1 hc]; exact hd _ (by omega)
      · have := i4 (by omega)
        cases hq : Lib.decDigits (u / 10) with
        | nil => exact absurd hq i2
        | cons x r => rw [hq] at this; exact this
theorem dec_len : ∀ (k u : Nat), u < 10 ^ (k + 1) → (Lib.decDigits u).length ≤ k + 1
  | 0, u, h => by rw [Lib.decDigits_one (by omega)]; exact Nat.le_refl _
  | k + 1, u, h => by
    by_cases hu : u < 10
    · rw [Lib.decDigits_one hu]; simp
    · rw [Lib.decDigits, dif_neg hu, List.length_append]
      have := dec_len k (u / 10) (by rw [Nat.div_lt_iff_lt_mul (by decide)]; rw [Nat.pow_succ] at h; exact h)
      simp only [List.length_cons, List.length_nil]; omega
theorem itoa_nat {n : Int} (h : 0 ≤ n) : Lib.itoa n = Lib.decDigits n.toNat := by
  obtain ⟨u, rfl⟩ : ∃ u : Nat, n = u := ⟨n.toNat, by omega⟩
  rw [Lib.itoa_nonneg, Int.toNat_natCast]
end Go.Proofs.YtkkngcdikbhkjaaGreatDoor
end
section
namespace Go.Proofs.YtkkngcdikbhkjaaGreatDoor
set_option linter.unusedSimpArgs false
set_option linter.unusedVariables false
set_option maxRecDepth 20000
open Go.RowKit Go.Eng
theorem word_any (s : List UInt8) (hs : s.length ≤ 1000000) (w : World) :
    Calls Tryz.prog 136 #[str s] w fun e w' => e = .returned (str (wordB s)) ∧ Below w.heap.size w w' := by
  have hd := digI_le (n := s.length) (by omega)
  refine enter_args (args := [str s]) (F := _) Tryz.func136 rfl Tryz.ntmps136 rfl rfl ?_
  intro Rb hRb hRn
  refine T_seq ?_
  refine T_region ?_
  refine S_ 2 rfl rfl rfl _ (y_assign rfl rfl) ?_
  refine S_go (fun _ _ h => h) ?_
  refine T_seq ?_
  refine T_region ?_
  refine S_ 3 rfl rfl rfl _ (y_move rfl rfl) ?_
  refine S_ 4 rfl rfl rfl _ (y_len_str rfl rfl Tryz.underlying9) ?_
  refine S_ 5 rfl rfl rfl _ (y_call rfl rfl rfl cf135 (fun _ w _ => digits_any _ (by omega) (by omega) w)) ?_
  refine S_ 6 rfl rfl rfl _ (y_move rfl rfl) ?_
  refine S_ 7 rfl rfl rfl _ (y_bin rfl rfl rfl (fun hg => b_adds (by first | omega | (simp only [List.length_append, List.length_cons, List.length_nil]; omega)))) ?_
  refine S_ 2 rfl rfl rfl _ (y_assign rfl rfl) ?_
  refine S_go (fun _ _ h => h) ?_
  refine T_ret (fun a w hF hM => hRb a w (post1 rfl rfl (fun w hM => ?_) a w hF hM))
  exact ⟨rfl, hM.below⟩
theorem signed_any (d : Int) (hd : -2305843009213693952 < d ∧ d < 2305843009213693952) (w : World) :
    Calls Tryz.prog 137 #[.int .i64 d] w fun e w' => e = .returned (str (signB d)) ∧ Below w.heap.size w w' := by
  refine enter_args (args := [.int .i64 d]) (F := _) Tryz.func137 rfl Tryz.ntmps137 rfl rfl ?_
  intro Rb hRb hRn
  refine T_seq ?_
  refine T_region ?_
  refine S_ 2 rfl rfl rfl _ (y_assign rfl rfl) ?_
  refine S_go (fun _ _ h => h) ?_
  refine T_seq ?_
  refine T_seq ?_
  refine T_region ?_
  refine S_ 3 rfl rfl rfl _ (y_move rfl rfl) ?_
  refine S_ 4 rfl rfl rfl _ (y_bin rfl rfl rfl (fun _ => b_lss)) ?_
  refine S_go (fun _ _ h => h) ?_
  refine T_cond rfl (fun h4 => ?_) (fun h4 => ?_)
  · try simp only [decide_eq_true_eq, decide_eq_false_iff_not, Bool.or_eq_true, Bool.or_eq_false_iff, Bool.and_eq_true, Bool.and_eq_false_iff, Bool.not_eq_true', Bool.not_eq_false', Bool.not_eq_true, Bool.not_eq_false, Bool.not_true, Bool.not_false, Int.not_lt, Int.not_le, not_or, not_and, Classical.not_not] at h4
    refine T_seq ?_
    refine T_region ?_
    refine S_ 5 rfl rfl rfl _ (y_move rfl rfl) ?_
    refine S_ 6 rfl rfl rfl _ (y_bin rfl rfl rfl (fun hg => b_mul (by omega))) ?_
    refine S_ 7 rfl rfl rfl _ (y_bin rfl rfl rfl (fun hg => b_sub (by omega))) ?_
    refine S_ 8 rfl rfl rfl _ (y_call rfl rfl rfl cf135 (fun _ w _ => digits_any _ (by omega) (by omega) w)) ?_
    refine S_ 2 rfl rfl rfl _ (y_assign rfl rfl) ?_
    refine S_go (fun _ _ h => h) ?_
    refine T_ret (fun a w hF hM => hRb a w (post1 rfl rfl (fun w hM => ?_) a w hF hM))
    exact ⟨by rw [signB, if_pos (by omega)], hM.below⟩
  · try simp only [decide_eq_true_eq, decide_eq_false_iff_not, Bool.or_eq_true, Bool.or_eq_false_iff, Bool.and_eq_true, Bool.and_eq_false_iff, Bool.not_eq_true', Bool.not_eq_false', Bool.not_eq_true, Bool.not_eq_false, Bool.not_true, Bool.not_false, Int.not_lt, Int.not_le, not_or, not_and, Classical.not_not] at h4
    refine T_skip_go (fun _ _ h => h) ?_
    refine T_seq ?_
    refine T_region ?_
    refine S_ 9 rfl rfl rfl _ (y_move rfl rfl) ?_
    refine S_ 10 rfl rfl rfl _ (y_bin rfl rfl rfl (fun hg => b_mul (by omega))) ?_
    refine S_ 11 rfl rfl rfl _ (y_call rfl rfl rfl cf135 (fun _ w _ => digits_any _ (by omega) (by omega) w)) ?_
    refine S_ 2 rfl rfl rfl _ (y_assign rfl rfl) ?_
    refine S_go (fun _ _ h => h) ?_
    refine T_ret (fun a w hF hM => hRb a w (post1 rfl rfl (fun w hM => ?_) a w hF hM))
    exact ⟨by rw [signB, if_neg (by omega)], hM.below⟩
theorem funcB_le {last : Int} {f : SFunc} (h : f.name.length ≤ 200) (h0 : 0 ≤ last) (h1 : f.tu ≤ 4294967296) (h2 : 0 ≤ f.fr) (h3 : f.fr ≤ 4294967296) : (funcB last f).length ≤ 300 := by
  have e1 := digI_le (n := f.fr - last) (by omega)
  have e2 := digI_le (n := f.tu - f.fr) (by omega)
  have e3 := wordB_le h (by omega)
  simp only [funcB, List.length_append]; omega
theorem rowB_le {b r : SRow} (h : 0 ≤ b.pos ∧ b.pos ≤ 4294967296 ∧ -1 ≤ b.fi ∧ b.fi ≤ 200 ∧ 0 ≤ b.ln ∧ b.ln ≤ 9999999) (h' : 0 ≤ r.pos ∧ r.pos ≤ 4294967296 ∧ -1 ≤ r.fi ∧ r.fi ≤ 200 ∧ 0 ≤ r.ln ∧ r.ln ≤ 9999999) : (rowB b r).length ≤ 300 := by
  have e1 := digI_le (n := r.pos - b.pos) (by omega)
  have e2 := signB_le (d := r.fi - b.fi) (by omega)
  have e3 := signB_le (d := r.ln - b.ln) (by omega)
  simp only [rowB, List.length_append]; omega
theorem callB_le {last : Int} {c : SCall} (h : c.name.length ≤ 200) (h0 : 0 ≤ last) (h1 : 0 ≤ c.fr ∧ c.fr < c.tu ∧ c.tu ≤ 4294967296 ∧ 0 ≤ c.fi ∧ c.fi ≤ 200 ∧ 1 ≤ c.ln ∧ c.ln ≤ 9999999) : (callB last c).length ≤ 300 := by
  have e1 := digI_le (n := c.fr - last) (by omega)
  have e2 := digI_le (n := c.tu - c.fr) (by omega)
  have e4 := digI_le (n := c.fi) (by omega)
  have e5 := digI_le (n := c.ln) (by omega)
  have e3 := wordB_le h (by omega)
  simp only [callB, List.length_append]; omega
theorem headB_le {t : Tab} (h : idOk t.id = true) (h1 : t.size ≤ 4294967296) (h2 : t.fi.q ≤ 200) : (headB t).length ≤ 38 ∧ 4 ≤ (headB t).length := by
  have hid : (t.id.length : Int) = 16 := by simp only [idOk, Bool.and_eq_true, decide_eq_true_eq] at h; exact h.1
  have e1 := digI_le (n := t.size) (by omega)
  have e2 := digI_le (n := t.fi.q) (by omega)
  simp only [headB, magic, List.length_append, List.length_cons, List.length_nil]; omega
/-- the parts of the bytes, one behind the other -/
def pB1 (t : Tab) : List UInt8 := headB t ++ filesB t.fi.l
def pB2 (t : Tab) : List UInt8 := pB1 t ++ dig128 (t.fu.q : Int).toNat
def pB3 (t : Tab) : List UInt8 := pB2 t ++ funcsB t.fu.l 0
def pB4 (t : Tab) : List UInt8 := pB3 t ++ dig128 (t.ro.q : Int).toNat
def pB5 (t : Tab) : List UInt8 := pB4 t ++ rowsB t.ro.l rowZ
/-- what all walks on a right table use -/
structure RightT (t : Tab) : Prop where
  size : 1 ≤ t.size ∧ t.size ≤ 4294967296
  qs : t.fi.q ≤ 200 ∧ t.fu.q ≤ 1000 ∧ t.ro.q ≤ 5000 ∧ t.ca.q ≤ 1000
  head : (headB t).length ≤ 38 ∧ 4 ≤ (headB t).length
  files : ∀ s ∈ t.fi.l, s.length ≤ 200
  funcs : ∀ (i : Nat) (f : SFunc), t.fu.l[i]? = some f → f.name.length ≤ 200 ∧ 0 ≤ f.fr ∧ f.fr < f.tu ∧ f.tu ≤ t.size
  rise : ∀ (i : Nat) (f g : SFunc), t.fu.l[i]? = some f → t.fu.l[i + 1]? = some g → f.tu ≤ g.fr
  rows : ∀ (i : Nat) (r : SRow), t.ro.l[i]? = some r → 0 ≤ r.pos ∧ r.pos < t.size ∧ -1 ≤ r.fi ∧ r.fi ≤ 199 ∧ 0 ≤ r.ln ∧ r.ln ≤ 9999999
  rrise : Rising t.ro.l
  calls : ∀ (i : Nat) (c : SCall), t.ca.l[i]? = some c → c.name.length ≤ 200 ∧ 0 ≤ c.fr ∧ c.fr < c.tu ∧ c.tu ≤ t.size ∧ 0 ≤ c.fi ∧ c.fi ≤ 199 ∧ 1 ≤ c.ln ∧ c.ln ≤ 9999999
  crise : ∀ (i : Nat) (c g : SCall), t.ca.l[i]? = some c → t.ca.l[i + 1]? = some g → c.fr ≤ g.fr
theorem rightT {t : Tab} (h : tabNo t = 0) : RightT t := by
  have hr := rows_of h
  have hs := size_of_out hr.1.2
  have hp := tab_parts h
  have hf := funcs_right _ _ hp.2
  have hro := rows_right _ _ (tab_rows h)
  have hca := calls_right _ _ _ (tab_calls h)
  have hcr := calls_rise _ _ _ (tab_calls h)
  refine ⟨hs, hr.2, headB_le hr.1.1 hs.2 hr.2.1, files_len _ _ hp.1, fun i f hi => ?_, fun i f g hi hg => (hf i f hi).2.2.2 g hg, fun i r hi => ?_, hro.2, fun i c hi => ?_, fun i c g hi hg => (hcr i c hi).2 g hg⟩
  · obtain ⟨x1, x2, _⟩ := hf i f hi
    have := span_in x2
    exact ⟨name_len x1, by omega, by omega, by omega⟩
  · have := row_in (hro.1 i r hi).1
    have := hr.2.1
    omega
  · obtain ⟨x1, x2, _⟩ := hca i c hi
    have := call_in x2
    have := hr.2.1
    exact ⟨name_len x1, by omega, by omega, by omega, by omega, by omega, by omega, by omega⟩
def writeNo (t : Tab) : Int := fst (tabNo t) (if (1000000 : Int) < (tabB t).length then 4 else 0)
def writeS (t : Tab) : List UInt8 := if writeNo t = 0 then tabB t else []
theorem Write_any (t : Tab) (w : World) (hok : t.Ok w) :
    Calls Tryz.prog 35 #[.agg #[str t.id, .int .i64 t.size, .slice t.fi.A t.fi.q t.fi.c, .slice t.fu.A t.fu.q t.fu.c, .slice t.ro.A t.ro.q t.ro.c, .slice t.ca.A t.ca.q t.ca.c]] w fun e w' => e = .returned (.tuple #[str (writeS t), .int .i64 (writeNo t)]) ∧ Below w.heap.size w w' := by
  have hq := hok.small
  refine enter_args (args := [.agg #[str t.id, .int .i64 t.size, .slice t.fi.A t.fi.q t.fi.c, .slice t.fu.A t.fu.q t.fu.c, .slice t.ro.A t.ro.q t.ro.c, .slice t.ca.A t.ca.q t.ca.c]]) (F := _) Tryz.func35 rfl Tryz.ntmps35 rfl rfl ?_
  intro Rb hRb hRn
  refine T_seq ?_
  refine T_region ?_
  refine S_box 1 1 rfl rfl rfl rfl rfl ?_
  intro b1
  refine S_ 2 rfl rfl rfl _ (y_assign rfl rfl) ?_
  refine S_ 3 rfl rfl rfl _ (y_assign rfl rfl) ?_
  refine S_go (fun _ _ h => h) ?_
  refine T_seq ?_
  refine T_seq ?_
  refine T_region ?_
  refine S_ 16 rfl rfl rfl _ (y_loadA 1 rfl rfl rfl Tryz.underlying62 rfl sz62) ?_
  refine S_ 17 rfl rfl rfl _ (y_call rfl rfl rfl cf123 (fun _ w hM => CheckTable_any t w (hok.below hM.below))) ?_
  refine S_ 4 rfl rfl rfl _ (y_assign rfl rfl) ?_
  refine S_go (fun _ _ h => h) ?_
  refine T_seq ?_
  refine T_region ?_
  refine S_ 18 rfl rfl rfl _ (y_move rfl rfl) ?_
  refine S_ 19 rfl rfl rfl _ (y_bin rfl rfl rfl (fun _ => b_neq)) ?_
  refine S_go (fun _ _ h => h) ?_
  refine T_cond rfl (fun h19 => ?_) (fun h19 => ?_)
  · try simp only [decide_eq_true_eq, decide_eq_false_iff_not, Bool.or_eq_true, Bool.or_eq_false_iff, Bool.and_eq_true, Bool.and_eq_false_iff, Bool.not_eq_true', Bool.not_eq_false', Bool.not_eq_true, Bool.not_eq_false, Bool.not_true, Bool.not_false, Int.not_lt, Int.not_le, not_or, not_and, Classical.not_not] at h19
    refine T_seq ?_
    refine T_region ?_
    refine S_ 20 rfl rfl rfl _ (y_move rfl rfl) ?_
    refine S_ 2 rfl rfl rfl _ (y_assign rfl rfl) ?_
    refine S_ 3 rfl rfl rfl _ (y_assign rfl rfl) ?_
    refine S_go (fun _ _ h => h) ?_
    refine T_ret (fun a w hF hM => hRb a w (post2 rfl rfl rfl (fun w hM => ?_) a w hF hM))
    have e : writeNo t = tabNo t := fst_a rfl h19
    have e2 : writeS t = [] := if_neg (by rw [e]; exact h19)
    exact ⟨by rw [e, e2], hM.below⟩
  · try simp only [decide_eq_true_eq, decide_eq_false_iff_not, Bool.or_eq_true, Bool.or_eq_false_iff, Bool.and_eq_true, Bool.and_eq_false_iff, Bool.not_eq_true', Bool.not_eq_false', Bool.not_eq_true, Bool.not_eq_false, Bool.not_true, Bool.not_false, Int.not_lt, Int.not_le, not_or, not_and, Classical.not_not] at h19
    have hR := rightT h19
    have hs := hR.size
    have hqs := hR.qs
    have hhead := hR.head
    have hdz := digI_le (n := t.size) (by omega)
    have hdf := digI_le (n := t.fi.q) (by omega)
    have hid : t.id.length ≤ 38 := by have := hhead.1; simp only [headB, List.length_append] at this; omega
    have hmag : magic.length = 4 := rfl
    refine T_skip_go (fun _ _ h => h) ?_
    refine T_seq ?_
    refine T_region ?_
    refine S_alloc 5 5 rfl rfl rfl rfl z189 ?_
    intro b5
    refine S_nilSlice 900 (e := 5) (size := 1) ?_
    refine S_go (fun _ _ h => h) ?_
    refine T_seq ?_
    refine T_drawsTail 12 (by kernel_rfl) (by kernel_rfl) ?_
    refine D_ 21 rfl rfl rfl _ (y_fieldAddr rfl rfl fa62_0) ?_
    refine D_ 22 rfl rfl rfl _ (y_load 1 rfl rfl rfl rfl Tryz.underlying9 rfl) ?_
    refine D_ 23 rfl rfl rfl _ (y_bin rfl rfl rfl (fun hg => b_adds (by first | omega | (simp only [List.length_append, List.length_cons, List.length_nil]; omega)))) ?_
    refine D_ 24 rfl rfl rfl _ (y_fieldAddr rfl rfl fa62_1) ?_
    refine D_ 25 rfl rfl rfl _ (y_load 1 rfl rfl rfl rfl Tryz.underlying3 rfl) ?_
    refine D_ 26 rfl rfl rfl _ (y_call rfl rfl rfl cf135 (fun _ w _ => digits_any _ (by omega) (by omega) w)) ?_
    refine D_ 27 rfl rfl rfl _ (y_bin rfl rfl rfl (fun hg => b_adds (by first | omega | (simp only [List.length_append, List.length_cons, List.length_nil]; omega)))) ?_
    refine D_ 28 rfl rfl rfl _ (y_fieldAddr rfl rfl fa62_2) ?_
    refine D_ 29 rfl rfl rfl _ (y_load 1 rfl rfl rfl rfl Tryz.underlying57 rfl) ?_
    refine D_ 30 rfl rfl rfl _ (y_len_slice rfl rfl Tryz.underlying57) ?_
    refine D_ 31 rfl rfl rfl _ (y_call rfl rfl rfl cf135 (fun _ w _ => digits_any _ (by omega) (by omega) w)) ?_
    refine D_ 32 rfl rfl rfl _ (y_bin rfl rfl rfl (fun hg => b_adds (by first | omega | (simp only [List.length_append, List.length_cons, List.length_nil]; omega)))) ?_
    refine D_tail ?_
    refine S_callM 33 [(0, 5), (1, 900)] (X := Option Addr × Nat) rfl rfl rfl rfl rfl rfl rfl cf120 rfl (fun _ => .tuple #[.int .i64 (headB t).length, .nilIface]) (fun _ => True) (fun z0 => [(0, bB b5 (selfP b5) z0.1 z0.2 ([] ++ headB t)), (1, bR z0.1 z0.2 ([] ++ headB t))]) (fun _ => rfl) (fun _ => rfl) (fun K1 hK1 w hM => (WStr_any hK1 b5 _ _ _ ([]) (headB t) (.inl rfl) (by simp only [List.length_nil]; omega) w hM).mono fun e w1 h => h.elim fun x h => ⟨x, h.1, trivial, h.2.2⟩) ?_
    intro x33 hx33
    refine S_go (fun _ _ h => h) ?_
    refine T_seq ?_
    refine T_seq ?_
    refine T_region ?_
    refine S_ 34 rfl rfl rfl _ (y_fieldAddr rfl rfl fa62_2) ?_
    refine S_ 35 rfl rfl rfl _ (y_load 1 rfl rfl rfl rfl Tryz.underlying57 rfl) ?_
    refine S_ 36 rfl rfl rfl _ (y_len_slice rfl rfl Tryz.underlying57) ?_
    refine S_ 37 rfl rfl rfl _ (y_move rfl rfl) ?_
    refine S_go (fun _ _ h => h) ?_
    refine T_block ?_
    refine T_loopK4 (kf := [(7, 7), (37, 44)]) (kl := [(5, 5), (7, 7), (37, 44), (900, 900)]) (fun (i : Nat) (l : List UInt8) (A : Option Addr) (c : Nat) => [(37, true, .int .i64 (i : Int))]) (fun (i : Nat) (l : List UInt8) (A : Option Addr) (c : Nat) => [(5, bB b5 (selfP b5) A c l), (900, bR A c l)]) (fun (i : Nat) (l : List UInt8) (A : Option Addr) (c : Nat) => i ≤ t.fi.q ∧ l ++ filesB (t.fi.l.drop i) = pB1 t ∧ l.length ≤ 100 + i * 300 ∧ 4 ≤ l.length) (fun (i : Nat) (l : List UInt8) (A : Option Addr) (c : Nat) => t.fi.q - i) 0 (headB t) x33.1 x33.2 (by repeat (first | exact kf_nil | (apply kf_in; focus rfl) | (apply kf_out; focus rfl))) (by repeat (first | exact kl_nil | exact kl_rest (by assumption) rfl | (apply kl_in; focus rfl) | (apply kl_out; focus rfl))) ?_ ?_ ?_ ?_
    · exact ⟨by omega, rfl, by omega, by omega⟩
    · exact ⟨rfl, trivial⟩
    · exact ⟨rfl, rfl, trivial⟩
    rintro i l A c ⟨hp1, hp2, hp3, hp4⟩
    refine T_seq ?_
    refine T_region ?_
    refine S_ 38 rfl rfl rfl _ (y_bin rfl rfl rfl (fun _ => b_lss)) ?_
    refine S_go (fun _ _ h => h) ?_
    refine T_seq ?_
    refine T_cond rfl (fun h38 => ?_) (fun h38 => ?_)
    · try simp only [decide_eq_true_eq, decide_eq_false_iff_not, Bool.or_eq_true, Bool.or_eq_false_iff, Bool.and_eq_true, Bool.and_eq_false_iff, Bool.not_eq_true', Bool.not_eq_false', Bool.not_eq_true, Bool.not_eq_false, Bool.not_true, Bool.not_false, Int.not_lt, Int.not_le, not_or, not_and, Classical.not_not] at h38
      obtain ⟨x, hx1, hx2⟩ := hok.fi.t.at (i := i) (by omega)
      have hn1 := hR.files x (mem_at hx1)
      have hw1 := wordB_le hn1 (by omega)
      refine T_skip_go (fun _ _ h => h) ?_
      refine T_seq ?_
      refine T_block ?_
      refine T_seq ?_
      refine T_region ?_
      refine S_ 39 rfl rfl rfl _ (y_indexAddr rfl rfl rfl Tryz.underlying57 sz9 (fun hg => hok.fi.t.isSome (by omega)) (fun _ => by omega)) ?_
      refine S_ 40 rfl rfl rfl _ (y_loadT1 (val := (fun l : List UInt8 => str l)) rfl rfl hok.fi.t (fun _ => hx1) Tryz.underlying9 rfl) ?_
      refine S_ 7 rfl rfl rfl _ (y_assign rfl rfl) ?_
      refine S_go (fun _ _ h => h) ?_
      refine T_region ?_
      refine S_ 41 rfl rfl rfl _ (y_move rfl rfl) ?_
      refine S_ 42 rfl rfl rfl _ (y_call rfl rfl rfl cf136 (fun _ w _ => word_any _ (by omega) w)) ?_
      refine S_callM 43 [(0, 5), (1, 900)] (X := Option Addr × Nat) rfl rfl rfl rfl rfl rfl rfl cf120 rfl (fun _ => .tuple #[.int .i64 (wordB x).length, .nilIface]) (fun _ => True) (fun z0 => [(0, bB b5 (selfP b5) z0.1 z0.2 (l ++ wordB x)), (1, bR z0.1 z0.2 (l ++ wordB x))]) (fun _ => rfl) (fun _ => rfl) (fun K1 hK1 w hM => (WStr_any hK1 b5 _ _ _ (l) (wordB x) (.inr rfl) (by omega) w hM).mono fun e w1 h => h.elim fun x h => ⟨x, h.1, trivial, h.2.2⟩) ?_
      intro x43 hx43
      refine S_go (fun _ _ h => h) ?_
      refine T_region ?_
      refine S_ 44 rfl rfl rfl _ (y_bin rfl rfl rfl (fun hg => b_add (by omega))) ?_
      refine S_ 37 rfl rfl rfl _ (y_move rfl rfl) ?_
      refine S_nil (nextK4 (kf := [(7, 7), (37, 44)]) (kl := [(5, 5), (7, 7), (37, 44), (900, 900)]) (i + 1) (l ++ wordB x) x43.1 x43.2 (by repeat (first | exact kf_nil | (apply kf_in; focus rfl) | (apply kf_out; focus rfl))) (by repeat (first | exact kl_nil | exact kl_rest (by assumption) rfl | (apply kl_in; focus rfl) | (apply kl_out; focus rfl))) ?_ ?_ ?_ ?_)
      · omega
      · exact ⟨by omega, by rw [← hp2, hx2, filesB, List.append_assoc], by rw [List.length_append]; omega, by rw [List.length_append]; omega⟩
      · exact ⟨rfl, trivial⟩
      · exact ⟨rfl, rfl, trivial⟩
    · try simp only [decide_eq_true_eq, decide_eq_false_iff_not, Bool.or_eq_true, Bool.or_eq_false_iff, Bool.and_eq_true, Bool.and_eq_false_iff, Bool.not_eq_true', Bool.not_eq_false', Bool.not_eq_true, Bool.not_eq_false, Bool.not_true, Bool.not_false, Int.not_lt, Int.not_le, not_or, not_and, Classical.not_not] at h38
      have e1 : l = pB1 t := by rw [hok.fi.t.end (by omega)] at hp2; simpa [filesB] using hp2
      subst e1
      have hd1 := digI_le (n := t.fu.q) (by omega)
      refine T_exit_go (fun _ _ h => h) ?_
      refine T_seq ?_
      refine T_region ?_
      refine S_ 45 rfl rfl rfl _ (y_fieldAddr rfl rfl fa62_3) ?_
      refine S_ 46 rfl rfl rfl _ (y_load 1 rfl rfl rfl rfl Tryz.underlying58 rfl) ?_
      refine S_ 47 rfl rfl rfl _ (y_len_slice rfl rfl Tryz.underlying58) ?_
      refine S_ 48 rfl rfl rfl _ (y_call rfl rfl rfl cf135 (fun _ w _ => digits_any _ (by omega) (by omega) w)) ?_
      refine S_callM 49 [(0, 5), (1, 900)] (X := Option Addr × Nat) rfl rfl rfl rfl rfl rfl rfl cf120 rfl (fun _ => .tuple #[.int .i64 (dig128 (t.fu.q : Int).toNat).length, .nilIface]) (fun _ => True) (fun z0 => [(0, bB b5 (selfP b5) z0.1 z0.2 (pB1 t ++ dig128 (t.fu.q : Int).toNat)), (1, bR z0.1 z0.2 (pB1 t ++ dig128 (t.fu.q : Int).toNat))]) (fun _ => rfl) (fun _ => rfl) (fun K1 hK1 w hM => (WStr_any hK1 b5 _ _ _ (pB1 t) (dig128 (t.fu.q : Int).toNat) (.inr rfl) (by omega) w hM).mono fun e w1 h => h.elim fun x h => ⟨x, h.1, trivial, h.2.2⟩) ?_
      intro x49 hx49
      refine S_go (fun _ _ h => h) ?_
      refine T_seq ?_
      refine T_region ?_
      refine S_ 8 rfl rfl rfl _ (y_assign rfl rfl) ?_
      refine S_go (fun _ _ h => h) ?_
      refine T_seq ?_
      refine T_seq ?_
      refine T_region ?_
      refine S_ 50 rfl rfl rfl _ (y_fieldAddr rfl rfl fa62_3) ?_
      refine S_ 51 rfl rfl rfl _ (y_load 1 rfl rfl rfl rfl Tryz.underlying58 rfl) ?_
      refine S_ 52 rfl rfl rfl _ (y_len_slice rfl rfl Tryz.underlying58) ?_
      refine S_ 53 rfl rfl rfl _ (y_move rfl rfl) ?_
      refine S_go (fun _ _ h => h) ?_
      refine T_block ?_
      refine T_loopK5 (kf := [(8, 8), (10, 10), (53, 76)]) (kl := [(5, 5), (8, 8), (10, 10), (53, 76), (900, 900)]) (fun (i : Nat) (l : List UInt8) (A : Option Addr) (c : Nat) (last : Int) => [(53, true, .int .i64 (i : Int)), (8, true, .int .i64 last)]) (fun (i : Nat) (l : List UInt8) (A : Option Addr) (c : Nat) (last : Int) => [(5, bB b5 (selfP b5) A c l), (900, bR A c l)]) (fun (i : Nat) (l : List UInt8) (A : Option Addr) (c : Nat) (last : Int) => i ≤ t.fu.q ∧ l ++ funcsB (t.fu.l.drop i) last = pB3 t ∧ l.length ≤ 70000 + i * 300 ∧ 4 ≤ l.length ∧ 0 ≤ last ∧ (∀ f, t.fu.l[i]? = some f → last ≤ f.fr)) (fun (i : Nat) (l : List UInt8) (A : Option Addr) (c : Nat) (last : Int) => t.fu.q - i) 0 (pB1 t ++ dig128 (t.fu.q : Int).toNat) x49.1 x49.2 0 (by repeat (first | exact kf_nil | (apply kf_in; focus rfl) | (apply kf_out; focus rfl))) (by repeat (first | exact kl_nil | exact kl_rest (by assumption) rfl | (apply kl_in; focus rfl) | (apply kl_out; focus rfl))) ?_ ?_ ?_ ?_
      · exact ⟨by omega, rfl, by rw [List.length_append]; omega, by rw [List.length_append]; omega, by omega, fun f hf => (hR.funcs 0 f hf).2.1⟩
      · exact ⟨rfl, rfl, trivial⟩
      · exact ⟨rfl, rfl, trivial⟩
      rintro i l A c last ⟨hp1, hp2, hp3, hp4, hp5, hp6⟩
      refine T_seq ?_
      refine T_region ?_
      refine S_ 54 rfl rfl rfl _ (y_bin rfl rfl rfl (fun _ => b_lss)) ?_
      refine S_go (fun _ _ h => h) ?_
      refine T_seq ?_
      refine T_cond rfl (fun h54 => ?_) (fun h54 => ?_)
      · try simp only [decide_eq_true_eq, decide_eq_false_iff_not, Bool.or_eq_true, Bool.or_eq_false_iff, Bool.and_eq_true, Bool.and_eq_false_iff, Bool.not_eq_true', Bool.not_eq_false', Bool.not_eq_true, Bool.not_eq_false, Bool.not_true, Bool.not_false, Int.not_lt, Int.not_le, not_or, not_and, Classical.not_not] at h54
        obtain ⟨f, hx1, hx2⟩ := hok.fu.t.at (i := i) (by omega)
        obtain ⟨hf1, hf2, hf3, hf4⟩ := hR.funcs i f hx1
        have hf5 := hp6 f hx1
        have hw1 := funcB_le (last := last) hf1 (by omega) (by omega) (by omega) (by omega)
        have e1 := digI_le (n := f.fr - last) (by omega)
        have e2 := digI_le (n := f.tu - f.fr) (by omega)
        have e3 := wordB_le hf1 (by omega)
        refine T_skip_go (fun _ _ h => h) ?_
        refine T_seq ?_
        refine T_block ?_
        refine T_seq ?_
        refine T_region ?_
        refine S_ 55 rfl rfl rfl _ (y_indexAddr rfl rfl rfl Tryz.underlying58 sz196 (fun hg => hok.fu.t.isSome (by omega)) (fun _ => by omega)) ?_
        refine S_ 56 rfl rfl rfl _ (y_loadT rfl rfl hok.fu.t (fun _ => rfl) (fun _ => hx1) Tryz.underlying196 rfl sz196) ?_
        refine S_alloc 10 10 rfl rfl rfl rfl z196 ?_
        intro b10
        refine S_store 10 rfl rfl rfl rfl rfl rfl sz196 rfl rfl ?_
        refine S_go (fun _ _ h => h) ?_
        refine T_seq ?_
        refine T_drawsTail 16 (by kernel_rfl) (by kernel_rfl) ?_
        refine D_ 57 rfl rfl rfl _ (y_fieldAddr rfl rfl fa196_1) ?_
        refine D_ 58 rfl rfl rfl _ (y_load 10 rfl rfl rfl rfl Tryz.underlying3 rfl) ?_
        refine D_ 59 rfl rfl rfl _ (y_move rfl rfl) ?_
        refine D_ 60 rfl rfl rfl _ (y_bin rfl rfl rfl (fun hg => b_sub (by omega))) ?_
        refine D_ 61 rfl rfl rfl _ (y_call rfl rfl rfl cf135 (fun _ w _ => digits_any _ (by omega) (by omega) w)) ?_
        refine D_ 62 rfl rfl rfl _ (y_fieldAddr rfl rfl fa196_2) ?_
        refine D_ 63 rfl rfl rfl _ (y_load 10 rfl rfl rfl rfl Tryz.underlying3 rfl) ?_
        refine D_ 64 rfl rfl rfl _ (y_fieldAddr rfl rfl fa196_1) ?_
        refine D_ 65 rfl rfl rfl _ (y_load 10 rfl rfl rfl rfl Tryz.underlying3 rfl) ?_
        refine D_ 66 rfl rfl rfl _ (y_bin rfl rfl rfl (fun hg => b_sub (by omega))) ?_
        refine D_ 67 rfl rfl rfl _ (y_call rfl rfl rfl cf135 (fun _ w _ => digits_any _ (by omega) (by omega) w)) ?_
        refine D_ 68 rfl rfl rfl _ (y_bin rfl rfl rfl (fun hg => b_adds (by first | omega | (simp only [List.length_append, List.length_cons, List.length_nil]; omega)))) ?_
        refine D_ 69 rfl rfl rfl _ (y_fieldAddr rfl rfl fa196_0) ?_
        refine D_ 70 rfl rfl rfl _ (y_load 10 rfl rfl rfl rfl Tryz.underlying9 rfl) ?_
        refine D_ 71 rfl rfl rfl _ (y_call rfl rfl rfl cf136 (fun _ w _ => word_any _ (by omega) w)) ?_
        refine D_ 72 rfl rfl rfl _ (y_bin rfl rfl rfl (fun hg => b_adds (by first | omega | (simp only [List.length_append, List.length_cons, List.length_nil]; omega)))) ?_
        refine D_tail ?_
        refine S_callM 73 [(0, 5), (1, 900)] (X := Option Addr × Nat) rfl rfl rfl rfl rfl rfl rfl cf120 rfl (fun _ => .tuple #[.int .i64 (funcB last f).length, .nilIface]) (fun _ => True) (fun z0 => [(0, bB b5 (selfP b5) z0.1 z0.2 (l ++ funcB last f)), (1, bR z0.1 z0.2 (l ++ funcB last f))]) (fun _ => rfl) (fun _ => rfl) (fun K1 hK1 w hM => (WStr_any hK1 b5 _ _ _ (l) (funcB last f) (.inr rfl) (by omega) w hM).mono fun e w1 h => h.elim fun x h => ⟨x, h.1, trivial, h.2.2⟩) ?_
        intro x73 hx73
        refine S_go (fun _ _ h => h) ?_
        refine T_region ?_
        refine S_ 74 rfl rfl rfl _ (y_fieldAddr rfl rfl fa196_2) ?_
        refine S_ 75 rfl rfl rfl _ (y_load 10 rfl rfl rfl rfl Tryz.underlying3 rfl) ?_
        refine S_ 8 rfl rfl rfl _ (y_assign rfl rfl) ?_
        refine S_go (fun _ _ h => h) ?_
        refine T_region ?_
        refine S_ 76 rfl rfl rfl _ (y_bin rfl rfl rfl (fun hg => b_add (by omega))) ?_
        refine S_ 53 rfl rfl rfl _ (y_move rfl rfl) ?_
        refine S_nil (nextK5 (kf := [(8, 8), (10, 10), (53, 76)]) (kl := [(5, 5), (8, 8), (10, 10), (53, 76), (900, 900)]) (i + 1) (l ++ funcB last f) x73.1 x73.2 f.tu (by repeat (first | exact kf_nil | (apply kf_in; focus rfl) | (apply kf_out; focus rfl))) (by repeat (first | exact kl_nil | exact kl_rest (by assumption) rfl | (apply kl_in; focus rfl) | (apply kl_out; focus rfl))) ?_ ?_ ?_ ?_)
        · omega
        · exact ⟨by omega, by rw [← hp2, hx2, funcsB, List.append_assoc], by rw [List.length_append]; omega, by rw [List.length_append]; omega, by omega, fun g hg => hR.rise i f g hx1 hg⟩
        · exact ⟨rfl, rfl, trivial⟩
        · exact ⟨rfl, rfl, trivial⟩
      · try simp only [decide_eq_true_eq, decide_eq_false_iff_not, Bool.or_eq_true, Bool.or_eq_false_iff, Bool.and_eq_true, Bool.and_eq_false_iff, Bool.not_eq_true', Bool.not_eq_false', Bool.not_eq_true, Bool.not_eq_false, Bool.not_true, Bool.not_false, Int.not_lt, Int.not_le, not_or, not_and, Classical.not_not] at h54
        have e1 : l = pB3 t := by rw [hok.fu.t.end (by omega)] at hp2; simpa [funcsB] using hp2
        subst e1
        have hd2 := digI_le (n := t.ro.q) (by omega)
        refine T_exit_go (fun _ _ h => h) ?_
        refine T_seq ?_
        refine T_region ?_
        refine S_ 77 rfl rfl rfl _ (y_fieldAddr rfl rfl fa62_4) ?_
        refine S_ 78 rfl rfl rfl _ (y_load 1 rfl rfl rfl rfl Tryz.underlying59 rfl) ?_
        refine S_ 79 rfl rfl rfl _ (y_len_slice rfl rfl Tryz.underlying59) ?_
        refine S_ 80 rfl rfl rfl _ (y_call rfl rfl rfl cf135 (fun _ w _ => digits_any _ (by omega) (by omega) w)) ?_
        refine S_callM 81 [(0, 5), (1, 900)] (X := Option Addr × Nat) rfl rfl rfl rfl rfl rfl rfl cf120 rfl (fun _ => .tuple #[.int .i64 (dig128 (t.ro.q : Int).toNat).length, .nilIface]) (fun _ => True) (fun z0 => [(0, bB b5 (selfP b5) z0.1 z0.2 (pB3 t ++ dig128 (t.ro.q : Int).toNat)), (1, bR z0.1 z0.2 (pB3 t ++ dig128 (t.ro.q : Int).toNat))]) (fun _ => rfl) (fun _ => rfl) (fun K1 hK1 w hM => (WStr_any hK1 b5 _ _ _ (pB3 t) (dig128 (t.ro.q : Int).toNat) (.inr rfl) (by omega) w hM).mono fun e w1 h => h.elim fun x h => ⟨x, h.1, trivial, h.2.2⟩) ?_
        intro x81 hx81
        refine S_go (fun _ _ h => h) ?_
        refine T_seq ?_
        refine T_region ?_
        refine S_ 82 rfl rfl rfl _ (y_build (zv := .agg #[.int .i64 0, .int .i64 0, .int .i64 0]) (pl := [(0, 1), (1, 1), (2, 1)]) (out := [.int .i64 0, .int .i64 0, .int .i64 0]) rfl rfl Tryz.underlying198 z198 (by kernel_rfl) rfl) ?_
        refine S_alloc 11 11 rfl rfl rfl rfl z198 ?_
        intro b11
        refine S_store 11 rfl rfl rfl rfl rfl rfl sz198 rfl rfl ?_
        refine S_go (fun _ _ h => h) ?_
        refine T_seq ?_
        refine T_seq ?_
        refine T_region ?_
        refine S_ 83 rfl rfl rfl _ (y_fieldAddr rfl rfl fa62_4) ?_
        refine S_ 84 rfl rfl rfl _ (y_load 1 rfl rfl rfl rfl Tryz.underlying59 rfl) ?_
        refine S_ 85 rfl rfl rfl _ (y_len_slice rfl rfl Tryz.underlying59) ?_
        refine S_ 86 rfl rfl rfl _ (y_move rfl rfl) ?_
        refine S_go (fun _ _ h => h) ?_
        refine T_block ?_
        refine T_loopK5 (kf := [(13, 13), (86, 112)]) (kl := [(5, 5), (11, 11), (13, 13), (86, 112), (900, 900)]) (fun (i : Nat) (l : List UInt8) (A : Option Addr) (c : Nat) (b : SRow) => [(86, true, .int .i64 (i : Int))]) (fun (i : Nat) (l : List UInt8) (A : Option Addr) (c : Nat) (b : SRow) => [(5, bB b5 (selfP b5) A c l), (900, bR A c l), (11, .blk b11 (IsBox (SRow.enc b) 198))]) (fun (i : Nat) (l : List UInt8) (A : Option Addr) (c : Nat) (b : SRow) => i ≤ t.ro.q ∧ l ++ rowsB (t.ro.l.drop i) b = pB5 t ∧ l.length ≤ 400000 + i * 300 ∧ 4 ≤ l.length ∧ (0 ≤ b.pos ∧ b.pos < t.size ∧ -1 ≤ b.fi ∧ b.fi ≤ 199 ∧ 0 ≤ b.ln ∧ b.ln ≤ 9999999) ∧ (∀ r, t.ro.l[i]? = some r → b.pos ≤ r.pos)) (fun (i : Nat) (l : List UInt8) (A : Option Addr) (c : Nat) (b : SRow) => t.ro.q - i) 0 (pB3 t ++ dig128 (t.ro.q : Int).toNat) x81.1 x81.2 rowZ (by repeat (first | exact kf_nil | (apply kf_in; focus rfl) | (apply kf_out; focus rfl))) (by repeat (first | exact kl_nil | exact kl_rest (by assumption) rfl | (apply kl_in; focus rfl) | (apply kl_out; focus rfl))) ?_ ?_ ?_ ?_
        · exact ⟨by omega, rfl, by rw [List.length_append]; omega, by rw [List.length_append]; omega, by simp only [rowZ]; omega, fun r hr => (hR.rows 0 r hr).1⟩
        · exact ⟨rfl, trivial⟩
        · exact ⟨rfl, rfl, rfl, trivial⟩
        rintro i l A c b ⟨hp1, hp2, hp3, hp4, hp5, hp6⟩
        refine T_seq ?_
        refine T_region ?_
        refine S_ 87 rfl rfl rfl _ (y_bin rfl rfl rfl (fun _ => b_lss)) ?_
        refine S_go (fun _ _ h => h) ?_
        refine T_seq ?_
        refine T_cond rfl (fun h87 => ?_) (fun h87 => ?_)
        · try simp only [decide_eq_true_eq, decide_eq_false_iff_not, Bool.or_eq_true, Bool.or_eq_false_iff, Bool.and_eq_true, Bool.and_eq_false_iff, Bool.not_eq_true', Bool.not_eq_false', Bool.not_eq_true, Bool.not_eq_false, Bool.not_true, Bool.not_false, Int.not_lt, Int.not_le, not_or, not_and, Classical.not_not] at h87
          obtain ⟨r, hx1, hx2⟩ := hok.ro.t.at (i := i) (by omega)
          have hr1 := hR.rows i r hx1
          have hw1 := rowB_le (b := b) (r := r) (by omega) (by omega)
          have e1 := digI_le (n := r.pos - b.pos) (by omega)
          have e2 := signB_le (d := r.fi - b.fi) (by omega)
          have e3 := signB_le (d := r.ln - b.ln) (by omega)
          have hr3 := hp6 r hx1
          refine T_skip_go (fun _ _ h => h) ?_
          refine T_seq ?_
          refine T_block ?_
          refine T_seq ?_
          refine T_region ?_
          refine S_ 88 rfl rfl rfl _ (y_indexAddr rfl rfl rfl Tryz.underlying59 sz198 (fun hg => hok.ro.t.isSome (by omega)) (fun _ => by omega)) ?_
          refine S_ 89 rfl rfl rfl _ (y_loadT rfl rfl hok.ro.t (fun _ => rfl) (fun _ => hx1) Tryz.underlying198 rfl sz198) ?_
          refine S_alloc 13 13 rfl rfl rfl rfl z198 ?_
          intro b13
          refine S_store 13 rfl rfl rfl rfl rfl rfl sz198 rfl rfl ?_
          refine S_go (fun _ _ h => h) ?_
          refine T_seq ?_
          refine T_drawsTail 20 (by kernel_rfl) (by kernel_rfl) ?_
          refine D_ 90 rfl rfl rfl _ (y_fieldAddr rfl rfl fa198_0) ?_
          refine D_ 91 rfl rfl rfl _ (y_load 13 rfl rfl rfl rfl Tryz.underlying3 rfl) ?_
          refine D_ 92 rfl rfl rfl _ (y_fieldAddr rfl rfl fa198_0) ?_
          refine D_ 93 rfl rfl rfl _ (y_load 11 rfl rfl rfl rfl Tryz.underlying3 rfl) ?_
          refine D_ 94 rfl rfl rfl _ (y_bin rfl rfl rfl (fun hg => b_sub (by omega))) ?_
          refine D_ 95 rfl rfl rfl _ (y_call rfl rfl rfl cf135 (fun _ w _ => digits_any _ (by omega) (by omega) w)) ?_
          refine D_ 96 rfl rfl rfl _ (y_fieldAddr rfl rfl fa198_1) ?_
          refine D_ 97 rfl rfl rfl _ (y_load 13 rfl rfl rfl rfl Tryz.underlying3 rfl) ?_
          refine D_ 98 rfl rfl rfl _ (y_fieldAddr rfl rfl fa198_1) ?_
          refine D_ 99 rfl rfl rfl _ (y_load 11 rfl rfl rfl rfl Tryz.underlying3 rfl) ?_
          refine D_ 100 rfl rfl rfl _ (y_bin rfl rfl rfl (fun hg => b_sub (by omega))) ?_
          refine D_ 101 rfl rfl rfl _ (y_call rfl rfl rfl cf137 (fun _ w _ => signed_any _ (by omega) w)) ?_
          refine D_ 102 rfl rfl rfl _ (y_bin rfl rfl rfl (fun hg => b_adds (by first | omega | (simp only [List.length_append, List.length_cons, List.length_nil]; omega)))) ?_
          refine D_ 103 rfl rfl rfl _ (y_fieldAddr rfl rfl fa198_2) ?_
          refine D_ 104 rfl rfl rfl _ (y_load 13 rfl rfl rfl rfl Tryz.underlying3 rfl) ?_
          refine D_ 105 rfl rfl rfl _ (y_fieldAddr rfl rfl fa198_2) ?_
          refine D_ 106 rfl rfl rfl _ (y_load 11 rfl rfl rfl rfl Tryz.underlying3 rfl) ?_
          refine D_ 107 rfl rfl rfl _ (y_bin rfl rfl rfl (fun hg => b_sub (by omega))) ?_
          refine D_ 108 rfl rfl rfl _ (y_call rfl rfl rfl cf137 (fun _ w _ => signed_any _ (by omega) w)) ?_
          refine D_ 109 rfl rfl rfl _ (y_bin rfl rfl rfl (fun hg => b_adds (by first | omega | (simp only [List.length_append, List.length_cons, List.length_nil]; omega)))) ?_
          refine D_tail ?_
          refine S_callM 110 [(0, 5), (1, 900)] (X := Option Addr × Nat) rfl rfl rfl rfl rfl rfl rfl cf120 rfl (fun _ => .tuple #[.int .i64 (rowB b r).length, .nilIface]) (fun _ => True) (fun z0 => [(0, bB b5 (selfP b5) z0.1 z0.2 (l ++ rowB b r)), (1, bR z0.1 z0.2 (l ++ rowB b r))]) (fun _ => rfl) (fun _ => rfl) (fun K1 hK1 w hM => (WStr_any hK1 b5 _ _ _ (l) (rowB b r) (.inr rfl) (by omega) w hM).mono fun e w1 h => h.elim fun x h => ⟨x, h.1, trivial, h.2.2⟩) ?_
          intro x110 hx110
          refine S_go (fun _ _ h => h) ?_
          refine T_region ?_
          refine S_ 111 rfl rfl rfl _ (y_loadA 13 rfl rfl rfl Tryz.underlying198 rfl sz198) ?_
          refine S_store 11 rfl rfl rfl rfl rfl rfl sz198 rfl rfl ?_
          refine S_go (fun _ _ h => h) ?_
          refine T_region ?_
          refine S_ 112 rfl rfl rfl _ (y_bin rfl rfl rfl (fun hg => b_add (by omega))) ?_
          refine S_ 86 rfl rfl rfl _ (y_move rfl rfl) ?_
          refine S_nil (nextK5 (kf := [(13, 13), (86, 112)]) (kl := [(5, 5), (11, 11), (13, 13), (86, 112), (900, 900)]) (i + 1) (l ++ rowB b r) x110.1 x110.2 r (by repeat (first | exact kf_nil | (apply kf_in; focus rfl) | (apply kf_out; focus rfl))) (by repeat (first | exact kl_nil | exact kl_rest (by assumption) rfl | (apply kl_in; focus rfl) | (apply kl_out; focus rfl))) ?_ ?_ ?_ ?_)
          · omega
          · exact ⟨by omega, by rw [← hp2, hx2, rowsB, List.append_assoc], by rw [List.length_append]; omega, by rw [List.length_append]; omega, hr1, fun g hg => by have := hR.rrise i (i + 1) r g hx1 hg (by omega); omega⟩
          · exact ⟨rfl, trivial⟩
          · exact ⟨rfl, rfl, rfl, trivial⟩
        · try simp only [decide_eq_true_eq, decide_eq_false_iff_not, Bool.or_eq_true, Bool.or_eq_false_iff, Bool.and_eq_true, Bool.and_eq_false_iff, Bool.not_eq_true', Bool.not_eq_false', Bool.not_eq_true, Bool.not_eq_false, Bool.not_true, Bool.not_false, Int.not_lt, Int.not_le, not_or, not_and, Classical.not_not] at h87
          have e1 : l = pB5 t := by rw [hok.ro.t.end (by omega)] at hp2; simpa [rowsB] using hp2
          subst e1
          have hd3 := digI_le (n := t.ca.q) (by omega)
          refine T_exit_go (fun _ _ h => h) ?_
          refine T_seq ?_
          refine T_region ?_
          refine S_ 113 rfl rfl rfl _ (y_fieldAddr rfl rfl fa62_5) ?_
          refine S_ 114 rfl rfl rfl _ (y_load 1 rfl rfl rfl rfl Tryz.underlying60 rfl) ?_
          refine S_ 115 rfl rfl rfl _ (y_len_slice rfl rfl Tryz.underlying60) ?_
          refine S_ 116 rfl rfl rfl _ (y_call rfl rfl rfl cf135 (fun _ w _ => digits_any _ (by omega) (by omega) w)) ?_
          refine S_callM 117 [(0, 5), (1, 900)] (X := Option Addr × Nat) rfl rfl rfl rfl rfl rfl rfl cf120 rfl (fun _ => .tuple #[.int .i64 (dig128 (t.ca.q : Int).toNat).length, .nilIface]) (fun _ => True) (fun z0 => [(0, bB b5 (selfP b5) z0.1 z0.2 (pB5 t ++ dig128 (t.ca.q : Int).toNat)), (1, bR z0.1 z0.2 (pB5 t ++ dig128 (t.ca.q : Int).toNat))]) (fun _ => rfl) (fun _ => rfl) (fun K1 hK1 w hM => (WStr_any hK1 b5 _ _ _ (pB5 t) (dig128 (t.ca.q : Int).toNat) (.inr rfl) (by omega) w hM).mono fun e w1 h => h.elim fun x h => ⟨x, h.1, trivial, h.2.2⟩) ?_
          intro x117 hx117
          refine S_go (fun _ _ h => h) ?_
          refine T_seq ?_
          refine T_region ?_
          refine S_ 8 rfl rfl rfl _ (y_assign rfl rfl) ?_
          refine S_go (fun _ _ h => h) ?_
          refine T_seq ?_
          refine T_seq ?_
          refine T_region ?_
          refine S_ 118 rfl rfl rfl _ (y_fieldAddr rfl rfl fa62_5) ?_
          refine S_ 119 rfl rfl rfl _ (y_load 1 rfl rfl rfl rfl Tryz.underlying60 rfl) ?_
          refine S_ 120 rfl rfl rfl _ (y_len_slice rfl rfl Tryz.underlying60) ?_
          refine S_ 121 rfl rfl rfl _ (y_move rfl rfl) ?_
          refine S_go (fun _ _ h => h) ?_
          refine T_block ?_
          refine T_loopK5 (kf := [(8, 8), (15, 15), (121, 152)]) (kl := [(5, 5), (8, 8), (15, 15), (121, 152), (900, 900)]) (fun (i : Nat) (l : List UInt8) (A : Option Addr) (c : Nat) (last : Int) => [(121, true, .int .i64 (i : Int)), (8, true, .int .i64 last)]) (fun (i : Nat) (l : List UInt8) (A : Option Addr) (c : Nat) (last : Int) => [(5, bB b5 (selfP b5) A c l), (900, bR A c l)]) (fun (i : Nat) (l : List UInt8) (A : Option Addr) (c : Nat) (last : Int) => i ≤ t.ca.q ∧ l ++ callsB (t.ca.l.drop i) last = tabB t ∧ l.length ≤ 2000000 + i * 300 ∧ 4 ≤ l.length ∧ 0 ≤ last ∧ (∀ f, t.ca.l[i]? = some f → last ≤ f.fr)) (fun (i : Nat) (l : List UInt8) (A : Option Addr) (c : Nat) (last : Int) => t.ca.q - i) 0 (pB5 t ++ dig128 (t.ca.q : Int).toNat) x117.1 x117.2 0 (by repeat (first | exact kf_nil | (apply kf_in; focus rfl) | (apply kf_out; focus rfl))) (by repeat (first | exact kl_nil | exact kl_rest (by assumption) rfl | (apply kl_in; focus rfl) | (apply kl_out; focus rfl))) ?_ ?_ ?_ ?_
          · exact ⟨by omega, rfl, by rw [List.length_append]; omega, by rw [List.length_append]; omega, by omega, fun f hf => (hR.calls 0 f hf).2.1⟩
          · exact ⟨rfl, rfl, trivial⟩
          · exact ⟨rfl, rfl, trivial⟩
          rintro i l A c last ⟨hp1, hp2, hp3, hp4, hp5, hp6⟩
          refine T_seq ?_
          refine T_region ?_
          refine S_ 122 rfl rfl rfl _ (y_bin rfl rfl rfl (fun _ => b_lss)) ?_
          refine S_go (fun _ _ h => h) ?_
          refine T_seq ?_
          refine T_cond rfl (fun h122 => ?_) (fun h122 => ?_)
          · try simp only [decide_eq_true_eq, decide_eq_false_iff_not, Bool.or_eq_true, Bool.or_eq_false_iff, Bool.and_eq_true, Bool.and_eq_false_iff, Bool.not_eq_true', Bool.not_eq_false', Bool.not_eq_true, Bool.not_eq_false, Bool.not_true, Bool.not_false, Int.not_lt, Int.not_le, not_or, not_and, Classical.not_not] at h122
            obtain ⟨c0, hx1, hx2⟩ := hok.ca.t.at (i := i) (by omega)
            obtain ⟨hc1, hc2⟩ := hR.calls i c0 hx1
            have hc3 := hp6 c0 hx1
            have hw1 := callB_le (last := last) hc1 (by omega) (by omega)
            have e1 := digI_le (n := c0.fr - last) (by omega)
            have e2 := digI_le (n := c0.tu - c0.fr) (by omega)
            have e4 := digI_le (n := c0.fi) (by omega)
            have e5 := digI_le (n := c0.ln) (by omega)
            have e3 := wordB_le hc1 (by omega)
            refine T_skip_go (fun _ _ h => h) ?_
            refine T_seq ?_
            refine T_block ?_
            refine T_seq ?_
            refine T_region ?_
            refine S_ 123 rfl rfl rfl _ (y_indexAddr rfl rfl rfl Tryz.underlying60 sz200 (fun hg => hok.ca.t.isSome (by omega)) (fun _ => by omega)) ?_
            refine S_ 124 rfl rfl rfl _ (y_loadT rfl rfl hok.ca.t (fun _ => rfl) (fun _ => hx1) Tryz.underlying200 rfl sz200) ?_
            refine S_alloc 15 15 rfl rfl rfl rfl z200 ?_
            intro b15
            refine S_store 15 rfl rfl rfl rfl rfl rfl sz200 rfl rfl ?_
            refine S_go (fun _ _ h => h) ?_
            refine T_seq ?_
            refine T_drawsTail 24 (by kernel_rfl) (by kernel_rfl) ?_
            refine D_ 125 rfl rfl rfl _ (y_fieldAddr rfl rfl fa200_1) ?_
            refine D_ 126 rfl rfl rfl _ (y_load 15 rfl rfl rfl rfl Tryz.underlying3 rfl) ?_
            refine D_ 127 rfl rfl rfl _ (y_move rfl rfl) ?_
            refine D_ 128 rfl rfl rfl _ (y_bin rfl rfl rfl (fun hg => b_sub (by omega))) ?_
            refine D_ 129 rfl rfl rfl _ (y_call rfl rfl rfl cf135 (fun _ w _ => digits_any _ (by omega) (by omega) w)) ?_
            refine D_ 130 rfl rfl rfl _ (y_fieldAddr rfl rfl fa200_2) ?_
            refine D_ 131 rfl rfl rfl _ (y_load 15 rfl rfl rfl rfl Tryz.underlying3 rfl) ?_
            refine D_ 132 rfl rfl rfl _ (y_fieldAddr rfl rfl fa200_1) ?_
            refine D_ 133 rfl rfl rfl _ (y_load 15 rfl rfl rfl rfl Tryz.underlying3 rfl) ?_
            refine D_ 134 rfl rfl rfl _ (y_bin rfl rfl rfl (fun hg => b_sub (by omega))) ?_
            refine D_ 135 rfl rfl rfl _ (y_call rfl rfl rfl cf135 (fun _ w _ => digits_any _ (by omega) (by omega) w)) ?_
            refine D_ 136 rfl rfl rfl _ (y_bin rfl rfl rfl (fun hg => b_adds (by first | omega | (simp only [List.length_append, List.length_cons, List.length_nil]; omega)))) ?_
            refine D_ 137 rfl rfl rfl _ (y_fieldAddr rfl rfl fa200_3) ?_
            refine D_ 138 rfl rfl rfl _ (y_load 15 rfl rfl rfl rfl Tryz.underlying3 rfl) ?_
            refine D_ 139 rfl rfl rfl _ (y_call rfl rfl rfl cf135 (fun _ w _ => digits_any _ (by omega) (by omega) w)) ?_
            refine D_ 140 rfl rfl rfl _ (y_bin rfl rfl rfl (fun hg => b_adds (by first | omega | (simp only [List.length_append, List.length_cons, List.length_nil]; omega)))) ?_
            refine D_ 141 rfl rfl rfl _ (y_fieldAddr rfl rfl fa200_4) ?_
            refine D_ 142 rfl rfl rfl _ (y_load 15 rfl rfl rfl rfl Tryz.underlying3 rfl) ?_
            refine D_ 143 rfl rfl rfl _ (y_call rfl rfl rfl cf135 (fun _ w _ => digits_any _ (by omega) (by omega) w)) ?_
            refine D_ 144 rfl rfl rfl _ (y_bin rfl rfl rfl (fun hg => b_adds (by first | omega | (simp only [List.length_append, List.length_cons, List.length_nil]; omega)))) ?_
            refine D_ 145 rfl rfl rfl _ (y_fieldAddr rfl rfl fa200_0) ?_
            refine D_ 146 rfl rfl rfl _ (y_load 15 rfl rfl rfl rfl Tryz.underlying9 rfl) ?_
            refine D_ 147 rfl rfl rfl _ (y_call rfl rfl rfl cf136 (fun _ w _ => word_any _ (by omega) w)) ?_
            refine D_ 148 rfl rfl rfl _ (y_bin rfl rfl rfl (fun hg => b_adds (by first | omega | (simp only [List.length_append, List.length_cons, List.length_nil]; omega)))) ?_
            refine D_tail ?_
            refine S_callM 149 [(0, 5), (1, 900)] (X := Option Addr × Nat) rfl rfl rfl rfl rfl rfl rfl cf120 rfl (fun _ => .tuple #[.int .i64 (callB last c0).length, .nilIface]) (fun _ => True) (fun z0 => [(0, bB b5 (selfP b5) z0.1 z0.2 (l ++ callB last c0)), (1, bR z0.1 z0.2 (l ++ callB last c0))]) (fun _ => rfl) (fun _ => rfl) (fun K1 hK1 w hM => (WStr_any hK1 b5 _ _ _ (l) (callB last c0) (.inr rfl) (by omega) w hM).mono fun e w1 h => h.elim fun x h => ⟨x, h.1, trivial, h.2.2⟩) ?_
            intro x149 hx149
            refine S_go (fun _ _ h => h) ?_
            refine T_region ?_
            refine S_ 150 rfl rfl rfl _ (y_fieldAddr rfl rfl fa200_1) ?_
            refine S_ 151 rfl rfl rfl _ (y_load 15 rfl rfl rfl rfl Tryz.underlying3 rfl) ?_
            refine S_ 8 rfl rfl rfl _ (y_assign rfl rfl) ?_
            refine S_go (fun _ _ h => h) ?_
            refine T_region ?_
            refine S_ 152 rfl rfl rfl _ (y_bin rfl rfl rfl (fun hg => b_add (by omega))) ?_
            refine S_ 121 rfl rfl rfl _ (y_move rfl rfl) ?_
            refine S_nil (nextK5 (kf := [(8, 8), (15, 15), (121, 152)]) (kl := [(5, 5), (8, 8), (15, 15), (121, 152), (900, 900)]) (i + 1) (l ++ callB last c0) x149.1 x149.2 c0.fr (by repeat (first | exact kf_nil | (apply kf_in; focus rfl) | (apply kf_out; focus rfl))) (by repeat (first | exact kl_nil | exact kl_rest (by assumption) rfl | (apply kl_in; focus rfl) | (apply kl_out; focus rfl))) ?_ ?_ ?_ ?_)
            · omega
            · exact ⟨by omega, by rw [← hp2, hx2, callsB, List.append_assoc], by rw [List.length_append]; omega, by rw [List.length_append]; omega, by omega, fun g hg => hR.crise i c0 g hx1 hg⟩
            · exact ⟨rfl, rfl, trivial⟩
            · exact ⟨rfl, rfl, trivial⟩
          · try simp only [decide_eq_true_eq, decide_eq_false_iff_not, Bool.or_eq_true, Bool.or_eq_false_iff, Bool.and_eq_true, Bool.and_eq_false_iff, Bool.not_eq_true', Bool.not_eq_false', Bool.not_eq_true, Bool.not_eq_false, Bool.not_true, Bool.not_false, Int.not_lt, Int.not_le, not_or, not_and, Classical.not_not] at h122
            have e1 : l = tabB t := by rw [hok.ca.t.end (by omega)] at hp2; simpa [callsB] using hp2
            subst e1
            refine T_exit_go (fun _ _ h => h) ?_
            refine T_seq ?_
            refine T_seq ?_
            refine T_region ?_
            refine S_ 153 rfl rfl rfl _ (y_call rfl rfl rfl cf126 (fun _ w hM => BLen_any b5 A (tabB t).length c w (hM.box_cell (i := 5) rfl rfl))) ?_
            refine S_ 154 rfl rfl rfl _ (y_bin rfl rfl rfl (fun _ => b_gtr)) ?_
            refine S_go (fun _ _ h => h) ?_
            refine T_cond rfl (fun h154 => ?_) (fun h154 => ?_)
            · try simp only [decide_eq_true_eq, decide_eq_false_iff_not, Bool.or_eq_true, Bool.or_eq_false_iff, Bool.and_eq_true, Bool.and_eq_false_iff, Bool.not_eq_true', Bool.not_eq_false', Bool.not_eq_true, Bool.not_eq_false, Bool.not_true, Bool.not_false, Int.not_lt, Int.not_le, not_or, not_and, Classical.not_not] at h154
              refine T_seq ?_
              refine T_region ?_
              refine S_ 2 rfl rfl rfl _ (y_assign rfl rfl) ?_
              refine S_ 3 rfl rfl rfl _ (y_assign rfl rfl) ?_
              refine S_go (fun _ _ h => h) ?_
              refine T_ret (fun a w hF hM => hRb a w (post2 rfl rfl rfl (fun w hM => ?_) a w hF hM))
              have e : writeNo t = 4 := fst_b h19 (if_pos (by omega))
              have e2 : writeS t = [] := if_neg (by rw [e]; decide)
              exact ⟨by rw [e, e2], hM.below⟩
            · try simp only [decide_eq_true_eq, decide_eq_false_iff_not, Bool.or_eq_true, Bool.or_eq_false_iff, Bool.and_eq_true, Bool.and_eq_false_iff, Bool.not_eq_true', Bool.not_eq_false', Bool.not_eq_true, Bool.not_eq_false, Bool.not_true, Bool.not_false, Int.not_lt, Int.not_le, not_or, not_and, Classical.not_not] at h154
              refine T_skip_go (fun _ _ h => h) ?_
              refine T_seq ?_
              refine T_region ?_
              refine S_callM 155 [(0, 5), (1, 900)] (X := Unit) rfl rfl rfl rfl rfl rfl rfl cf122 rfl (fun _ => str (tabB t)) (fun _ => True) (fun _ => [(1, bR none 0 []), (0, bB b5 (selfP b5) A c (tabB t))]) (fun _ => rfl) (fun _ => rfl) (fun K1 hK1 w hM => (BStr_any hK1 b5 _ _ _ (tabB t) (by omega) (by omega) w hM).mono fun e w1 h => ⟨(), h.1, trivial, h.2⟩) ?_
              intro _ _
              refine S_ 2 rfl rfl rfl _ (y_assign rfl rfl) ?_
              refine S_ 3 rfl rfl rfl _ (y_assign rfl rfl) ?_
              refine S_go (fun _ _ h => h) ?_
              refine T_ret (fun a w hF hM => hRb a w (post2 rfl rfl rfl (fun w hM => ?_) a w hF hM))
              have e : writeNo t = 0 := fst_b h19 (if_neg (by omega))
              have e2 : writeS t = tabB t := if_pos e
              exact ⟨by rw [e, e2], hM.below⟩
end Go.Proofs.YtkkngcdikbhkjaaGreatDoor
end
section
namespace Go.Proofs.YtkkngcdikbhkjaaGreatDoor
set_option linter.unusedSimpArgs false
set_option linter.unusedVariables false
set_option maxRecDepth 20000
open Go.RowKit Go.Eng
theorem func_stepR {size : Int} {g : SFunc} {r : List SFunc} {last : Int} (h : funcsNo size (g :: r) last = 0) : (0 ≤ g.fr ∧ g.fr < g.tu ∧ g.tu ≤ size) ∧ last ≤ g.fr ∧ funcsNo size r g.tu = 0 := by
  unfold funcsNo at h
  split at h
  · rename_i h1; exact absurd h h1
  split at h
  · cases h
  rename_i h2
  split at h
  · cases h
  simp only [spanBad, outB, Bool.or_eq_true, decide_eq_true_eq, not_or] at h2
  exact ⟨by omega, by omega, h⟩
/-! ### Numbers -/
theorem u8_of (d : UInt8) : UInt8.ofNat d.toNat = d := by simp
theorem rd_dig {most : Nat} : ∀ (l : List UInt8) (i n m k : Nat), rd most l i n = some (m, k) → ∃ v, m = n + v * 2 ^ (7 * i) ∧ i < k ∧ l = dig128 v ++ l.drop (k - i) ∧ (0 < i → 0 < v)
  | [], i, n, m, k, h => by simp [rd] at h
  | d :: r, i, n, m, k, h => by
    have hd256 := d.toNat_lt
    unfold rd at h
    split at h
    · cases h
    split at h
    · rename_i h1 h2
      obtain ⟨v, e1, e2, e3, e4⟩ := rd_dig r (i + 1) _ m k h
      have hv := e4 (by omega)
      refine ⟨d.toNat % 128 + 128 * v, ?_, by omega, ?_, fun _ => by omega⟩
      · rw [e1, pow7s, Nat.add_mul, Nat.add_assoc]; congr 2
        rw [Nat.mul_comm 128 (2 ^ (7 * i)), ← Nat.mul_assoc, Nat.mul_comm v, Nat.mul_assoc, Nat.mul_comm v, ← Nat.mul_assoc, Nat.mul_comm (2 ^ (7 * i)) 128]
        rw [Nat.mul_assoc, Nat.mul_comm (2 ^ (7 * i)) v, ← Nat.mul_assoc]
      · have e5 : dig128 (d.toNat % 128 + 128 * v) = d :: dig128 v := by
          rw [dig128, dif_neg (by omega)]
          congr 1
          · rw [show (d.toNat % 128 + 128 * v) % 128 + 128 = d.toNat by omega]; exact u8_of d
          · rw [show (d.toNat % 128 + 128 * v) / 128 = v by omega]
        rw [e5, show k - i = (k - (i + 1)) + 1 by omega, List.drop_succ_cons, List.cons_append, ← e3]
    · rename_i h1 h2
      split at h
      · cases h
      rename_i h3
      simp only [Option.some.injEq, Prod.mk.injEq] at h
      refine ⟨d.toNat, ?_, by omega, ?_, fun hi => ?_⟩
      · rw [← h.1, Nat.mod_eq_of_lt (by omega)]
      · rw [dig_last (by omega), u8_of, ← h.2, show i + 1 - i = 1 by omega]; rfl
      · have : ¬ (d.toNat = 0 ∧ 0 < i) := fun hh => h3 (.inr hh)
        omega
theorem nm_print {s s1 : List UInt8} {n : Nat} (h : nm s = some (n, s1)) : s = dig128 n ++ s1 := by
  unfold nm at h
  cases hr : rd 8 s 0 0 with
  | none => rw [hr] at h; cases h
  | some p =>
    rw [hr] at h
    simp only [Option.map_some, Option.some.injEq, Prod.mk.injEq] at h
    obtain ⟨v, e1, _, e3, _⟩ := rd_dig s 0 0 p.1 p.2 hr
    rw [Nat.sub_zero, h.2] at e3
    have : n = v := by rw [← h.1, e1]; simp
    rw [this]; exact e3
theorem rd_parse : ∀ (k v : Nat), v < 128 ^ k → ∀ (i n : Nat) (r : List UInt8), n + v * 2 ^ (7 * i) ≤ 281474976710656 → (0 < i → 0 < v) → i ≤ 8 → rd 8 (dig128 v ++ r) i n = some (n + v * 2 ^ (7 * i), i + (dig128 v).length)
  | 0, v, hv, i, n, r, h, h0, hi => by
    have : v = 0 := by simpa using hv
    subst this
    have hi0 : i = 0 := by
      rcases Nat.eq_zero_or_pos i with h | h
      · exact h
      · have := h0 h; omega
    subst hi0
    rw [dig_last (by omega)]
    simp only [List.cons_append, List.nil_append, rd]
    rw [if_neg (by omega), if_neg (by decide), if_neg (by simp; omega)]
    simp
  | k + 1, v, hv, i, n, r, h, h0, hi => by
    have hi8 : i < 8 := by
      rcases Nat.lt_or_ge i 8 with h | h'
      · exact h
      · have hi8 : i = 8 := by omega
        subst hi8
        have hv := h0 (by omega)
        have : 1 * 2 ^ (7 * 8) ≤ v * 2 ^ (7 * 8) := Nat.mul_le_mul_right _ hv
        omega
    by_cases hv1 : v < 128
    · rw [dig_last hv1]
      have e : (UInt8.ofNat v).toNat = v := by simp [Nat.mod_eq_of_lt (show v < 256 by omega)]
      simp only [List.cons_append, List.nil_append, rd, e]
      rw [if_neg (by omega), if_neg (by omega), Nat.mod_eq_of_lt hv1, if_neg]
      · simp
      · rintro (hh | ⟨h1, h2⟩)
        · omega
        · have := h0 h2; omega
    · have e0 : dig128 v = UInt8.ofNat (v % 128 + 128) :: dig128 (v / 128) := by rw [dig128, dif_neg hv1]
      have e : (UInt8.ofNat (v % 128 + 128)).toNat = v % 128 + 128 := by simp [Nat.mod_eq_of_lt (show v % 128 + 128 < 256 by omega)]
      have hsum : n + v % 128 * 2 ^ (7 * i) + v / 128 * 2 ^ (7 * (i + 1)) = n + v * 2 ^ (7 * i) := by
        rw [pow7s, Nat.add_assoc]
        congr 1
        rw [← Nat.mul_assoc, ← Nat.add_mul]
        congr 1
        omega
      rw [e0]
      simp only [List.cons_append, rd, e]
      rw [if_neg (by omega), if_pos (by omega), show (v % 128 + 128) % 128 = v % 128 by omega,
        rd_parse k (v / 128) (by rw [Nat.div_lt_iff_lt_mul (by decide)]; rw [Nat.pow_succ] at hv; exact hv) (i + 1) _ r (by rw [hsum]; exact h) (fun _ => by omega) (by omega), hsum]
      simp only [List.length_cons]
      congr 2
      omega
theorem nm_parse {n : Nat} (h : n ≤ 281474976710656) (s : List UInt8) : nm (dig128 n ++ s) = some (n, s) := by
  have h1 := rd_parse 7 n (by have : (128 : Nat) ^ 7 = 562949953421312 := by decide
                              omega) 0 0 s (by simp; omega) (by omega) (by omega)
  unfold nm
  rw [h1]
  simp
theorem nm_parseI {n : Int} (h0 : 0 ≤ n) (h : n ≤ 281474976710656) (s : List UInt8) : nm (dig128 n.toNat ++ s) = some (n.toNat, s) := nm_parse (by omega) s
/-! ### Words and signed numbers -/
theorem tk_print {n : Nat} {s x s1 : List UInt8} (h : tk n s = some (x, s1)) : s = x ++ s1 ∧ x.length = n := by
  unfold tk at h
  split at h
  · rename_i hn
    simp only [Option.some.injEq, Prod.mk.injEq] at h
    rw [← h.1, ← h.2]
    exact ⟨(List.take_append_drop n s).symm, by rw [List.length_take]; omega⟩
  · cases h
theorem tk_parse {x : List UInt8} {n : Nat} (h : x.length = n) (s : List UInt8) : tk n (x ++ s) = some (x, s) := by
  unfold tk
  rw [if_pos (by rw [List.length_append]; omega), List.take_left' h, List.drop_left' h]
theorem wd_print {s x s1 : List UInt8} (h : wd s = some (x, s1)) : s = wordB x ++ s1 := by
  obtain ⟨n, s2, h1, h2⟩ := bnd_some h
  obtain ⟨e2, e3⟩ := tk_print h2
  rw [nm_print h1, e2, wordB, e3, Int.toNat_natCast, List.append_assoc]
theorem wd_parse {x : List UInt8} (h : x.length ≤ 1000000) (s : List UInt8) : wd (wordB x ++ s) = some (x, s) := by
  unfold wd bnd wordB
  rw [List.append_assoc, Int.toNat_natCast, nm_parse (by omega)]
  exact tk_parse rfl s
theorem sgn_val {n : Nat} (h : n ≤ 281474976710656) : sgn n = if n % 2 = 1 then -(((n : Int) + 1) / 2) else (n : Int) / 2 := by
  unfold sgn
  by_cases h1 : n % 2 = 1
  · rw [if_pos (by omega), if_pos h1]
    have e : (-((n : Int) + 1)).tdiv 2 = -(((n : Int) + 1) / 2) := by
      rw [Int.neg_tdiv, Int.tdiv_eq_ediv_of_nonneg (by omega)]
    rw [e, IntWalk.i64_in _ (by omega)]
  · rw [if_neg (by omega), if_neg h1]
theorem signB_sgn {n : Nat} (h : n ≤ 281474976710656) : signB (sgn n) = dig128 n := by
  rw [sgn_val h, signB]
  by_cases h1 : n % 2 = 1
  · rw [if_pos h1, if_pos (by omega)]; congr 1; omega
  · rw [if_neg h1, if_neg (by omega)]; congr 1; omega
theorem sgn_bound {n : Nat} (h : n ≤ 281474976710656) : -140737488355329 ≤ sgn n ∧ sgn n ≤ 140737488355328 := by
  rw [sgn_val h]; split <;> omega
theorem sg_print {s s1 : List UInt8} {d : Int} (h : sg s = some (d, s1)) : s = signB d ++ s1 ∧ -140737488355329 ≤ d ∧ d ≤ 140737488355328 := by
  obtain ⟨n, s2, h1, h2⟩ := bnd_some h
  obtain ⟨e1, e2⟩ := giv_some h2
  have hn := (nm_some h1).1
  subst e1; subst e2
  exact ⟨by rw [nm_print h1, signB_sgn hn], sgn_bound hn⟩
theorem sg_parse {d : Int} (h : -1000000000 ≤ d ∧ d ≤ 1000000000) (s : List UInt8) : sg (signB d ++ s) = some (d, s) := by
  unfold sg bnd signB
  by_cases h1 : d < 0
  · rw [if_pos h1, nm_parse (by omega)]
    show giv (sgn (-2 * d - 1).toNat) s = some (d, s)
    rw [sgn_val (by omega), if_pos (by omega)]
    show some (_, s) = some (d, s)
    congr 2; omega
  · rw [if_neg h1, nm_parse (by omega)]
    show giv (sgn (2 * d).toNat) s = some (d, s)
    rw [sgn_val (by omega), if_neg (by omega)]
    show some (_, s) = some (d, s)
    congr 2; omega
theorem wr_in {n : Int} (h : -4611686018427387904 ≤ n ∧ n ≤ 4611686018427387904) : wr n = n := IntWalk.i64_in _ (by omega)
theorem bnd_at {α β : Type} {p : Pa α} {q : α → Pa β} {s s1 : List UInt8} {x : α} (h : p s = some (x, s1)) : bnd p q s = q x s1 := by unfold bnd; rw [h]
/-! ### Lists -/
theorem iterF_print : ∀ (n : Nat) (a b : List (List UInt8)) (s s1 : List UInt8), iter oneF n a s = some (b, s1) → ∃ us, b = a ++ us ∧ us.length = n ∧ s = filesB us ++ s1
  | 0, a, b, s, s1, h => by
    obtain ⟨e1, e2⟩ := giv_some h
    exact ⟨[], by simp [e1], rfl, by simp [filesB, e2]⟩
  | n + 1, a, b, s, s1, h => by
    obtain ⟨a1, s2, h1, h2⟩ := bnd_some h
    obtain ⟨x, s3, h3, h4⟩ := bnd_some h1
    obtain ⟨e1, e2⟩ := giv_some h4
    subst e1; subst e2
    obtain ⟨us, e3, e4, e5⟩ := iterF_print n _ b _ s1 h2
    exact ⟨x :: us, by rw [e3]; simp, by rw [List.length_cons, e4], by rw [wd_print h3, e5, filesB, List.append_assoc]⟩
theorem iterF_parse : ∀ (us a : List (List UInt8)) (s : List UInt8), (∀ x ∈ us, x.length ≤ 1000000) → iter oneF us.length a (filesB us ++ s) = some (a ++ us, s)
  | [], a, s, _ => by simp [iter, giv, filesB]
  | x :: us, a, s, h => by
    rw [List.length_cons, iter, filesB, List.append_assoc]
    rw [bnd_at (x := a ++ [x]) (s1 := filesB us ++ s) (by unfold oneF; rw [bnd_at (wd_parse (h x List.mem_cons_self) _)]; rfl), iterF_parse us _ s fun y hy => h y (List.mem_cons_of_mem _ hy)]
    simp
theorem iterU_print : ∀ (n : Nat) (a b : List SFunc × Int) (s s1 : List UInt8), iter oneU n a s = some (b, s1) → 0 ≤ a.2 → a.2 ≤ 4294967296 → ∃ us, b.1 = a.1 ++ us ∧ us.length = n ∧ ((∀ f ∈ us, 0 ≤ f.tu ∧ f.tu ≤ 4294967296) → s = funcsB us a.2 ++ s1)
  | 0, a, b, s, s1, h, _, _ => by
    obtain ⟨e1, e2⟩ := giv_some h
    exact ⟨[], by simp [e1], rfl, fun _ => by simp [funcsB, e2]⟩
  | n + 1, a, b, s, s1, h, h0, hb => by
    obtain ⟨a1, s2, h1, h2⟩ := bnd_some h
    obtain ⟨x, s3, h3, h4⟩ := bnd_some h1
    obtain ⟨y, s4, h5, h6⟩ := bnd_some h4
    obtain ⟨z, s5, h7, h8⟩ := bnd_some h6
    obtain ⟨e1, e2⟩ := giv_some h8
    have hx := (nm_some h3).1
    have hy := (nm_some h5).1
    have w1 : wr (a.2 + x) = a.2 + x := wr_in (by omega)
    have w2 : wr (a.2 + x + y) = a.2 + x + y := wr_in (by omega)
    rw [w1, w2] at e1
    subst e1; subst e2
    by_cases hr : a.2 + x + y ≤ 4294967296
    · obtain ⟨us, e3, e4, e5⟩ := iterU_print n _ b _ s1 h2 (by show 0 ≤ a.2 + x + y; omega) hr
      refine ⟨⟨z, a.2 + x, a.2 + x + y⟩ :: us, by rw [e3]; simp, by rw [List.length_cons, e4], fun hu => ?_⟩
      rw [nm_print h3, nm_print h5, wd_print h7, e5 fun f hf => hu f (List.mem_cons_of_mem _ hf), funcsB, funcB]
      simp only [List.append_assoc]
      rw [show (a.2 + (x : Int) - a.2).toNat = x by omega, show (a.2 + (x : Int) + y - (a.2 + x)).toNat = y by omega]
    · have key : ∀ (m : Nat) (a b : List SFunc × Int) (s s1 : List UInt8), iter oneU m a s = some (b, s1) → ∃ us, b.1 = a.1 ++ us ∧ us.length = m := by
        intro m
        induction m with
        | zero => intro a b s s1 h; obtain ⟨e1, e2⟩ := giv_some h; exact ⟨[], by simp [e1], rfl⟩
        | succ m ih =>
          intro a b s s1 h
          obtain ⟨a1, s2, h1, h2⟩ := bnd_some h
          obtain ⟨x, s3, h3, h4⟩ := bnd_some h1
          obtain ⟨y, s4, h5, h6⟩ := bnd_some h4
          obtain ⟨z, s5, h7, h8⟩ := bnd_some h6
          obtain ⟨e1, e2⟩ := giv_some h8
          obtain ⟨us, e3, e4⟩ := ih _ _ _ _ h2
          rw [← e1] at e3
          exact ⟨_ :: us, by rw [e3, List.append_assoc]; rfl, by rw [List.length_cons, e4]⟩
      obtain ⟨us, e3, e4⟩ := key _ _ _ _ _ h2
      refine ⟨⟨z, a.2 + x, a.2 + x + y⟩ :: us, by rw [e3]; simp, by rw [List.length_cons, e4], fun hu => ?_⟩
      exact absurd (hu _ List.mem_cons_self).2 hr
theorem iterU_parse : ∀ (us : List SFunc) (a : List SFunc) (last : Int) (s : List UInt8), (∀ f ∈ us, f.name.length ≤ 1000000) → funcsNo 4294967296 us last = 0 → 0 ≤ last → last ≤ 4294967296 → ∃ b, iter oneU us.length (a, last) (funcsB us last ++ s) = some ((a ++ us, b), s)
  | [], a, last, s, _, _, _, _ => ⟨last, by simp [iter, giv, funcsB]⟩
  | f :: us, a, last, s, h, hn, h0, h1 => by
    obtain ⟨⟨g1, g2, g3⟩, g4, g5⟩ := func_stepR hn
    obtain ⟨b, hb⟩ := iterU_parse us (a ++ [f]) f.tu s (fun y hy => h y (List.mem_cons_of_mem _ hy)) g5 (by omega) g3
    refine ⟨b, ?_⟩
    rw [List.length_cons, iter, funcsB, funcB]
    simp only [List.append_assoc]
    have w1 : wr (last + ((f.fr - last).toNat : Int)) = f.fr := by rw [wr_in (by omega)]; omega
    have w2 : wr (f.fr + ((f.tu - f.fr).toNat : Int)) = f.tu := by rw [wr_in (by omega)]; omega
    rw [bnd_at (x := (a ++ [f], f.tu)) (s1 := funcsB us f.tu ++ s)]
    · rw [hb]; simp
    · unfold oneU
      rw [bnd_at (nm_parse (by omega) _), bnd_at (nm_parse (by omega) _), bnd_at (wd_parse (h f List.mem_cons_self) _)]
      simp only [w1, w2]
      rfl
theorem iterR_print : ∀ (n : Nat) (a b : List SRow × SRow) (s s1 : List UInt8), iter oneR n a s = some (b, s1) → ∃ us, b.1 = a.1 ++ us ∧ us.length = n ∧ ((∀ f ∈ a.2 :: us, -1 ≤ f.pos ∧ f.pos ≤ 4294967296 ∧ -1 ≤ f.fi ∧ f.fi ≤ 1000000 ∧ 0 ≤ f.ln ∧ f.ln ≤ 9999999) → s = rowsB us a.2 ++ s1)
  | 0, a, b, s, s1, h => by
    obtain ⟨e1, e2⟩ := giv_some h
    exact ⟨[], by simp [e1], rfl, fun _ => by simp [rowsB, e2]⟩
  | n + 1, a, b, s, s1, h => by
    obtain ⟨a1, s2, h1, h2⟩ := bnd_some h
    obtain ⟨x, s3, h3, h4⟩ := bnd_some h1
    obtain ⟨y, s4, h5, h6⟩ := bnd_some h4
    obtain ⟨z, s5, h7, h8⟩ := bnd_some h6
    obtain ⟨e1, e2⟩ := giv_some h8
    have hx := (nm_some h3).1
    obtain ⟨p1, p2, p3⟩ := sg_print h5
    obtain ⟨q1, q2, q3⟩ := sg_print h7
    subst e2
    obtain ⟨us, e3, e4, e5⟩ := iterR_print n _ b _ s1 h2
    rw [← e1] at e3 e5
    refine ⟨⟨wr (a.2.pos + x), wr (a.2.fi + y), wr (a.2.ln + z)⟩ :: us, by rw [e3, List.append_assoc]; rfl, by rw [List.length_cons, e4], fun hu => ?_⟩
    obtain ⟨u1, u2, u3, u4, u5, u6⟩ := hu a.2 List.mem_cons_self
    have w1 : wr (a.2.pos + x) = a.2.pos + x := wr_in (by omega)
    have w2 : wr (a.2.fi + y) = a.2.fi + y := wr_in (by omega)
    have w3 : wr (a.2.ln + z) = a.2.ln + z := wr_in (by omega)
    rw [nm_print h3, p1, q1, e5 fun f hf => hu f (List.mem_cons_of_mem _ hf), rowsB, rowB]
    simp only [List.append_assoc, w1, w2, w3]
    rw [show (a.2.pos + (x : Int) - a.2.pos).toNat = x by omega, show a.2.fi + y - a.2.fi = y by omega, show a.2.ln + z - a.2.ln = z by omega]
theorem iterR_parse : ∀ (us : List SRow) (a : List SRow) (b : SRow) (s : List UInt8), (∀ f ∈ b :: us, 0 ≤ f.pos ∧ f.pos ≤ 4294967296 ∧ -1 ≤ f.fi ∧ f.fi ≤ 1000000 ∧ 0 ≤ f.ln ∧ f.ln ≤ 9999999) → (b :: us).Pairwise (fun x y => x.pos ≤ y.pos) → ∃ c, iter oneR us.length (a, b) (rowsB us b ++ s) = some ((a ++ us, c), s)
  | [], a, b, s, _, _ => ⟨b, by simp [iter, giv, rowsB]⟩
  | f :: us, a, b, s, h, hp => by
    have hp' := List.pairwise_cons.1 hp
    obtain ⟨c, hc⟩ := iterR_parse us (a ++ [f]) f s (fun y hy => h y (List.mem_cons_of_mem _ hy)) hp'.2
    refine ⟨c, ?_⟩
    have hb := h b List.mem_cons_self
    have hf := h f (List.mem_cons_of_mem _ List.mem_cons_self)
    have hle := hp'.1 f List.mem_cons_self
    rw [List.length_cons, iter, rowsB, rowB]
    simp only [List.append_assoc]
    have w1 : wr (b.pos + ((f.pos - b.pos).toNat : Int)) = f.pos := by rw [wr_in (by omega)]; omega
    have w2 : wr (b.fi + (f.fi - b.fi)) = f.fi := by rw [wr_in (by omega)]; omega
    have w3 : wr (b.ln + (f.ln - b.ln)) = f.ln := by rw [wr_in (by omega)]; omega
    rw [bnd_at (x := (a ++ [f], f)) (s1 := rowsB us f ++ s)]
    · rw [hc]; simp
    · unfold oneR
      rw [bnd_at (nm_parse (by omega) _), bnd_at (sg_parse (by omega) _), bnd_at (sg_parse (by omega) _)]
      simp only [w1, w2, w3]
      rfl
theorem iterC_print : ∀ (n : Nat) (a b : List SCall × Int) (s s1 : List UInt8), iter oneC n a s = some (b, s1) → ∃ us, b.1 = a.1 ++ us ∧ us.length = n ∧ ((∀ f ∈ us, 0 ≤ f.fr ∧ f.fr ≤ 4294967296) → 0 ≤ a.2 → a.2 ≤ 4294967296 → s = callsB us a.2 ++ s1)
  | 0, a, b, s, s1, h => by
    obtain ⟨e1, e2⟩ := giv_some h
    exact ⟨[], by simp [e1], rfl, fun _ _ _ => by simp [callsB, e2]⟩
  | n + 1, a, b, s, s1, h => by
    obtain ⟨a1, s2, h1, h2⟩ := bnd_some h
    obtain ⟨x, s3, h3, h4⟩ := bnd_some h1
    obtain ⟨y, s4, h5, h6⟩ := bnd_some h4
    obtain ⟨z, s5, h7, h8⟩ := bnd_some h6
    obtain ⟨u, s6, h9, h10⟩ := bnd_some h8
    obtain ⟨v, s7, h11, h12⟩ := bnd_some h10
    obtain ⟨e1, e2⟩ := giv_some h12
    have hx := (nm_some h3).1
    have hy := (nm_some h5).1
    subst e2
    obtain ⟨us, e3, e4, e5⟩ := iterC_print n _ b _ s1 h2
    rw [← e1] at e3 e5
    refine ⟨⟨v, wr (a.2 + x), wr (wr (a.2 + x) + y), z, u⟩ :: us, by rw [e3, List.append_assoc]; rfl, by rw [List.length_cons, e4], fun hu h0 hb => ?_⟩
    have hf := hu _ List.mem_cons_self
    have w1 : wr (a.2 + x) = a.2 + x := wr_in (by omega)
    simp only [w1] at hf e5
    have w2 : wr (a.2 + x + y) = a.2 + x + y := wr_in (by omega)
    rw [nm_print h3, nm_print h5, nm_print h7, nm_print h9, wd_print h11, e5 (fun f hf => hu f (List.mem_cons_of_mem _ hf)) hf.1 hf.2, callsB, callB]
    simp only [List.append_assoc, w1, w2]
    rw [show (a.2 + (x : Int) - a.2).toNat = x by omega, show (a.2 + (x : Int) + y - (a.2 + x)).toNat = y by omega, Int.toNat_natCast, Int.toNat_natCast]
theorem iterC_parse : ∀ (us : List SCall) (a : List SCall) (last : Int) (s : List UInt8), (∀ f ∈ us, f.name.length ≤ 1000000 ∧ 0 ≤ f.fr ∧ f.fr < f.tu ∧ f.tu ≤ 4294967296 ∧ 0 ≤ f.fi ∧ f.fi ≤ 1000000 ∧ 0 ≤ f.ln ∧ f.ln ≤ 9999999) → us.Pairwise (fun x y => x.fr ≤ y.fr) → (∀ f ∈ us, last ≤ f.fr) → 0 ≤ last → ∃ c, iter oneC us.length (a, last) (callsB us last ++ s) = some ((a ++ us, c), s)
  | [], a, last, s, _, _, _, _ => ⟨last, by simp [iter, giv, callsB]⟩
  | f :: us, a, last, s, h, hp, hl, h0 => by
    have hp' := List.pairwise_cons.1 hp
    have hf := h f List.mem_cons_self
    have hle := hl f List.mem_cons_self
    obtain ⟨c, hc⟩ := iterC_parse us (a ++ [f]) f.fr s (fun y hy => h y (List.mem_cons_of_mem _ hy)) hp'.2 hp'.1 hf.2.1
    refine ⟨c, ?_⟩
    rw [List.length_cons, iter, callsB, callB]
    simp only [List.append_assoc]
    have w1 : wr (last + ((f.fr - last).toNat : Int)) = f.fr := by rw [wr_in (by omega)]; omega
    have w2 : wr (f.fr + ((f.tu - f.fr).toNat : Int)) = f.tu := by rw [wr_in (by omega)]; omega
    have w3 : ((f.fi.toNat : Nat) : Int) = f.fi := by omega
    have w4 : ((f.ln.toNat : Nat) : Int) = f.ln := by omega
    rw [bnd_at (x := (a ++ [f], f.fr)) (s1 := callsB us f.fr ++ s)]
    · rw [hc]; simp
    · unfold oneC
      rw [bnd_at (nm_parse (by omega) _), bnd_at (nm_parse (by omega) _), bnd_at (nm_parse (by omega) _), bnd_at (nm_parse (by omega) _), bnd_at (wd_parse hf.1 _)]
      simp only [w1, w2, w3, w4]
      rfl
/-! ### Tables -/
def tabOf (p : PT) : Tab := ⟨p.id, p.size, ⟨none, p.fi.length, 0, p.fi⟩, ⟨none, p.fu.length, 0, p.fu⟩, ⟨none, p.ro.length, 0, p.ro⟩, ⟨none, p.ca.length, 0, p.ca⟩⟩
theorem tabB_pl {t : Tab} {w : World} (h : t.Ok w) : tabB t = tabB (tabOf t.pl) := by
  have h1 := h.fi.t.len
  have h2 := h.fu.t.len
  have h3 := h.ro.t.len
  have h4 := h.ca.t.len
  simp only [tabB, headB, tabOf, Tab.pl, h1, h2, h3, h4]
theorem parse_print {s : List UInt8} {p : PT} (h : parseT s = some p) (h0 : tabNo (tabOf p) = 0) : tabB (tabOf p) = s := by
  have hR := rightT h0
  unfold parseT at h
  cases h4 : tk 4 s with
  | none => rw [h4] at h; cases h
  | some u =>
    obtain ⟨x, s1⟩ := u
    rw [h4] at h
    simp only at h
    split at h
    · rename_i hx
      cases hp : pTab s1 with
      | none => rw [hp] at h; cases h
      | some v =>
        obtain ⟨t, s2⟩ := v
        rw [hp] at h
        cases s2 with
        | cons a r => cases h
        | nil =>
          simp only [Option.some.injEq] at h
          subst h
          obtain ⟨id, s2, a1, h⟩ := bnd_some hp
          obtain ⟨size, s3, a2, h⟩ := bnd_some h
          obtain ⟨fi, s4, a3, h⟩ := bnd_some h
          obtain ⟨fu, s5, a4, h⟩ := bnd_some h
          obtain ⟨ro, s6, a5, h⟩ := bnd_some h
          obtain ⟨ca, s7, a6, h⟩ := bnd_some h
          obtain ⟨e, e7⟩ := giv_some h
          subst e7
          obtain ⟨n3, r3, b3, c3⟩ := bnd_some a3
          obtain ⟨n4, r4, b4, c4⟩ := bnd_some a4
          obtain ⟨n5, r5, b5, c5⟩ := bnd_some a5
          obtain ⟨n6, r6, b6, c6⟩ := bnd_some a6
          obtain ⟨us3, d3, l3, p3⟩ := iterF_print _ _ _ _ _ c3
          obtain ⟨us4, d4, l4, p4⟩ := iterU_print _ _ _ _ _ c4 (Int.le_refl 0) (by decide)
          obtain ⟨us5, d5, l5, p5⟩ := iterR_print _ _ _ _ _ c5
          obtain ⟨us6, d6, l6, p6⟩ := iterC_print _ _ _ _ _ c6
          rw [List.nil_append] at d3 d4 d5 d6
          subst e
          have hsz := hR.size
          have hR2 : ∀ f ∈ us4, 0 ≤ f.tu ∧ f.tu ≤ 4294967296 := fun f hf => by
            rw [← d4] at hf
            obtain ⟨i, hi, he⟩ := List.mem_iff_getElem.1 hf
            have := hR.funcs i f (by show fu.1[i]? = some f; rw [← he]; exact List.getElem?_eq_getElem hi)
            omega
          have hR3 : ∀ f ∈ rowZ :: us5, -1 ≤ f.pos ∧ f.pos ≤ 4294967296 ∧ -1 ≤ f.fi ∧ f.fi ≤ 1000000 ∧ 0 ≤ f.ln ∧ f.ln ≤ 9999999 := fun f hf => by
            rcases List.mem_cons.1 hf with rfl | hf
            · exact ⟨by decide, by decide, by decide, by decide, by decide, by decide⟩
            · rw [← d5] at hf
              obtain ⟨i, hi, he⟩ := List.mem_iff_getElem.1 hf
              have := hR.rows i f (by show ro.1[i]? = some f; rw [← he]; exact List.getElem?_eq_getElem hi)
              omega
          have hR4 : ∀ f ∈ us6, 0 ≤ f.fr ∧ f.fr ≤ 4294967296 := fun f hf => by
            rw [← d6] at hf
            obtain ⟨i, hi, he⟩ := List.mem_iff_getElem.1 hf
            have := hR.calls i f (by show ca.1[i]? = some f; rw [← he]; exact List.getElem?_eq_getElem hi)
            omega
          obtain ⟨q4, _⟩ := tk_print h4
          obtain ⟨q1, _⟩ := tk_print a1
          rw [q4, hx, q1, nm_print a2, nm_print b3, p3, nm_print b4, p4 hR2, nm_print b5, p5 hR3, nm_print b6, p6 hR4 (Int.le_refl 0) (by decide)]
          simp only [tabB, headB, tabOf, d3, d4, d5, d6, l3, l4, l5, l6, Int.toNat_natCast, List.append_assoc, List.append_nil]
    · cases h
theorem funcs_big {a b : Int} (hab : a ≤ b) : ∀ (l : List SFunc) (last : Int), funcsNo a l last = 0 → funcsNo b l last = 0
  | [], _, _ => rfl
  | g :: r, last, h => by
    have hn : nameNo g.name = 0 := by
      unfold funcsNo at h
      split at h
      · rename_i h1; exact absurd h h1
      · rename_i h1; exact Classical.not_not.1 h1
    obtain ⟨⟨h1, h2, h3⟩, h4, h5⟩ := func_stepR h
    unfold funcsNo
    rw [if_neg (by simp [hn]), if_neg (by simp only [spanBad, outB, Bool.or_eq_true, decide_eq_true_eq]; omega), if_neg (by omega)]
    exact funcs_big hab r g.tu h5
theorem print_parse {p : PT} (h0 : tabNo (tabOf p) = 0) : parseT (tabB (tabOf p)) = some p := by
  have hR := rightT h0
  have hsz := hR.size
  have hid : p.id.length = 16 := by
    have := (rows_of h0).1.1
    simp only [idOk, Bool.and_eq_true, decide_eq_true_eq] at this
    have := this.1
    show (tabOf p).id.length = 16
    omega
  obtain ⟨q1, q2, q3, q4⟩ := hR.qs
  have q1 : p.fi.length ≤ 200 := q1
  have q2 : p.fu.length ≤ 1000 := q2
  have q3 : p.ro.length ≤ 5000 := q3
  have q4 : p.ca.length ≤ 1000 := q4
  have s1 : 1 ≤ p.size ∧ p.size ≤ 4294967296 := hsz
  have hfi : ∀ x ∈ p.fi, x.length ≤ 1000000 := fun x hx => by have := hR.files x hx; omega
  have hfu : ∀ f ∈ p.fu, f.name.length ≤ 1000000 := fun f hf => by
    obtain ⟨i, hi, he⟩ := List.mem_iff_getElem.1 hf
    have := (hR.funcs i f (by show p.fu[i]? = some f; rw [← he]; exact List.getElem?_eq_getElem hi)).1
    omega
  have hro : ∀ f ∈ rowZ :: p.ro, 0 ≤ f.pos ∧ f.pos ≤ 4294967296 ∧ -1 ≤ f.fi ∧ f.fi ≤ 1000000 ∧ 0 ≤ f.ln ∧ f.ln ≤ 9999999 := fun f hf => by
    rcases List.mem_cons.1 hf with rfl | hf
    · exact ⟨by decide, by decide, by decide, by decide, by decide, by decide⟩
    · obtain ⟨i, hi, he⟩ := List.mem_iff_getElem.1 hf
      have := hR.rows i f (by show p.ro[i]? = some f; rw [← he]; exact List.getElem?_eq_getElem hi)
      have : (tabOf p).size = p.size := rfl
      omega
  have hrr : (rowZ :: p.ro).Pairwise (fun x y => x.pos ≤ y.pos) := by
    rw [List.pairwise_cons]
    refine ⟨fun f hf => (hro f (List.mem_cons_of_mem _ hf)).1, ?_⟩
    rw [List.pairwise_iff_getElem]
    intro i j hi hj hij
    have := hR.rrise i j p.ro[i] p.ro[j] (List.getElem?_eq_getElem hi) (List.getElem?_eq_getElem hj) hij
    omega
  have hca : ∀ f ∈ p.ca, f.name.length ≤ 1000000 ∧ 0 ≤ f.fr ∧ f.fr < f.tu ∧ f.tu ≤ 4294967296 ∧ 0 ≤ f.fi ∧ f.fi ≤ 1000000 ∧ 0 ≤ f.ln ∧ f.ln ≤ 9999999 := fun f hf => by
    obtain ⟨i, hi, he⟩ := List.mem_iff_getElem.1 hf
    have := hR.calls i f (by show p.ca[i]? = some f; rw [← he]; exact List.getElem?_eq_getElem hi)
    have : (tabOf p).size = p.size := rfl
    omega
  have hcr : p.ca.Pairwise (fun x y => x.fr ≤ y.fr) := by
    rw [List.pairwise_iff_getElem]
    have key : ∀ (k i : Nat) (hi : i < p.ca.length) (hj : i + k < p.ca.length), p.ca[i].fr ≤ p.ca[i + k].fr := by
      intro k
      induction k with
      | zero => intro i hi hj; exact Int.le_refl _
      | succ k ih =>
        intro i hi hj
        have h1 := ih i hi (by omega)
        have h2 := hR.crise (i + k) p.ca[i + k] p.ca[i + (k + 1)] (List.getElem?_eq_getElem (show i + k < p.ca.length by omega)) (List.getElem?_eq_getElem hj)
        exact Int.le_trans h1 h2
    intro i j hi hj hij
    have := key (j - i) i hi (by omega)
    simpa [show i + (j - i) = j by omega] using this
  have hfn : funcsNo 4294967296 p.fu 0 = 0 := funcs_big (a := p.size) (by omega) _ _ (tab_parts h0).2
  obtain ⟨b, hb⟩ := iterU_parse p.fu [] 0 (dig128 p.ro.length ++ (rowsB p.ro rowZ ++ (dig128 p.ca.length ++ (callsB p.ca 0 ++ [])))) hfu hfn (Int.le_refl 0) (by decide)
  obtain ⟨c, hc⟩ := iterR_parse p.ro [] rowZ (dig128 p.ca.length ++ (callsB p.ca 0 ++ [])) hro hrr
  obtain ⟨d, hd⟩ := iterC_parse p.ca [] 0 [] hca hcr (fun f hf => (hca f hf).2.1) (Int.le_refl 0)
  have e : tabB (tabOf p) = magic ++ (p.id ++ (dig128 p.size.toNat ++ (dig128 p.fi.length ++ (filesB p.fi ++ (dig128 p.fu.length ++ (funcsB p.fu 0 ++ (dig128 p.ro.length ++ (rowsB p.ro rowZ ++ (dig128 p.ca.length ++ (callsB p.ca 0 ++ [])))))))))) := by
    simp only [tabB, headB, tabOf, Int.toNat_natCast, List.append_assoc, List.append_nil]
  have hps : ((p.size.toNat : Nat) : Int) = p.size := by omega
  rw [e]
  unfold parseT
  rw [tk_parse (x := magic) (n := 4) rfl]
  simp only [if_true]
  unfold pTab lst
  rw [bnd_at (tk_parse hid _), bnd_at (nm_parseI (by omega) (by omega) _), bnd_at (x := p.fi) (by rw [bnd_at (nm_parse (by omega) _)]; exact iterF_parse p.fi [] _ hfi),
    bnd_at (x := (p.fu, b)) (by rw [bnd_at (nm_parse (by omega) _)]; exact hb), bnd_at (x := (p.ro, c)) (by rw [bnd_at (nm_parse (by omega) _)]; exact hc),
    bnd_at (x := (p.ca, d)) (by rw [bnd_at (nm_parse (by omega) _)]; exact hd)]
  simp only [giv, hps]
end Go.Proofs.YtkkngcdikbhkjaaGreatDoor
end
