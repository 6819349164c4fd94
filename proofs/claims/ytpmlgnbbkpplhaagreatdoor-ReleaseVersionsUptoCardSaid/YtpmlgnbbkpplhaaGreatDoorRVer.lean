/- Numbers and names of releases, and what is parsed of one release that is given. Conditions: those of each theorem. -/
import Derived.Test.YtpmlgnbbkpplhaaGreatDoorRStr
import Derived.Test.YtpmlgnbbkpplhaaGreatDoorIfc
namespace Go.Proofs.YtpmlgnbbkpplhaaGreatDoor
set_option linter.unusedSimpArgs false
set_option linter.unusedVariables false
set_option maxRecDepth 20000
open Go.RowKit Go.Eng
theorem dropWhile_nil {p : UInt8 → Bool} : ∀ {l : List UInt8}, l.dropWhile p = [] → ∀ c ∈ l, p c = true
  | [], _ => fun c h => by cases h
  | a :: r, h => fun c hc => by
    rw [List.dropWhile_cons] at h
    split at h
    · rcases List.mem_cons.1 hc with rfl | hc
      · assumption
      · exact dropWhile_nil h c hc
    · cases h
theorem dropWhile_head {p : UInt8 → Bool} : ∀ {l : List UInt8} {y : UInt8} {t : List UInt8}, l.dropWhile p = y :: t → p y = false
  | [], y, t, h => by simp at h
  | a :: r, y, t, h => by
    rw [List.dropWhile_cons] at h
    split at h
    · exact dropWhile_head h
    · rename_i hp
      obtain ⟨rfl, _⟩ := List.cons.inj h
      simpa using hp
theorem trimS_nil {s cs : List UInt8} (h : Lib.trimS s cs = []) : ∀ c ∈ s, cs.contains c = true := by
  have h1 := dropWhile_nil (l := Lib.trimRightS s cs) h
  have h2 : s.reverse.dropWhile (cs.contains ·) = [] := by
    cases hq : s.reverse.dropWhile (cs.contains ·) with
    | nil => rfl
    | cons y t =>
      have h3 := dropWhile_head hq
      have h4 := h1 y (by unfold Lib.trimRightS; rw [hq]; simp)
      rw [h3] at h4; cases h4
  intro c hc
  exact dropWhile_nil h2 c (List.mem_reverse.2 hc)
abbrev digB : List UInt8 := [48, 49, 50, 51, 52, 53, 54, 55, 56, 57]
def allOf (s cs : List UInt8) : Bool := !decide (s = []) && decide (Lib.trimS s cs = [])
theorem digB_iff {c : UInt8} (h : digB.contains c = true) : 48 ≤ c.toNat ∧ c.toNat ≤ 57 := by
  have h : c ∈ digB := by simpa using h
  simp only [digB, List.mem_cons, List.not_mem_nil, or_false] at h
  rcases h with rfl | rfl | rfl | rfl | rfl | rfl | rfl | rfl | rfl | rfl <;> decide
theorem allOf_dig {s : List UInt8} (h : allOf s digB = true) : s ≠ [] ∧ ∀ c ∈ s, 48 ≤ c.toNat ∧ c.toNat ≤ 57 := by
  simp only [allOf, Bool.and_eq_true, Bool.not_eq_true', decide_eq_false_iff_not, decide_eq_true_eq] at h
  exact ⟨h.1, fun c hc => digB_iff (trimS_nil h.2 c hc)⟩
theorem allOfD_any (s : List UInt8) (hs : s.length ≤ 1000000000) (w : World) : Calls Tryz.prog 189 #[str s, str digB] w fun e w' => e = .returned (.bool (allOf s digB)) ∧ Below w.heap.size w w' := by
  refine enter_args (args := [str s, str digB]) (F := _) Tryz.func189 rfl Tryz.ntmps189 rfl rfl ?_
  intro Rb hRb hRn
  refine T_seq ?_
  refine T_region ?_
  refine S_ 4 rfl rfl rfl _ (y_assign rfl rfl) ?_
  refine S_go (fun _ _ h => h) ?_
  refine T_seq ?_
  refine T_region ?_
  refine S_ 5 rfl rfl rfl _ (y_move rfl rfl) ?_
  refine S_ 6 rfl rfl rfl _ (y_bin rfl rfl rfl (fun _ => b_neqs)) ?_
  refine S_ 7 rfl rfl rfl _ (y_move rfl rfl) ?_
  refine Sg_ 8 rfl rfl rfl rfl rfl rfl _ (y_move rfl rfl) ?_
  refine Sg_ 9 rfl rfl rfl rfl rfl rfl _ (y_move rfl rfl) ?_
  refine Sg_ 10 rfl rfl rfl rfl rfl rfl _ (y_call rfl rfl rfl cf84 (fun _ w _ => Any.strings_Trim_laid Tryz.lays160 (by kernel_rfl) ⟨s.toArray⟩ ⟨digB.toArray⟩ w (by rw [Lib.size_eq]; simp; omega) (by decide) (ascii_of_all (by decide)))) ?_
  refine Sg_ 11 rfl rfl rfl rfl rfl rfl _ (y_bin rfl rfl rfl (fun _ => b_eqls)) ?_
  refine S_ 12 rfl rfl rfl _ (y_and rfl rfl rfl) ?_
  refine S_ 4 rfl rfl rfl _ (y_assign rfl rfl) ?_
  refine S_go (fun _ _ h => h) ?_
  refine T_ret (fun a w hF hM => hRb a w (post1 rfl rfl (fun w hM => ?_) a w hF hM))
  exact ⟨rfl, hM.below⟩
def valD (s : List UInt8) : Nat := s.foldl (fun n c => n * 10 + (c.toNat - 48)) 0
theorem valD_snoc (l : List UInt8) (c : UInt8) : valD (l ++ [c]) = valD l * 10 + (c.toNat - 48) := by rw [valD, List.foldl_append]; rfl
theorem wrap8_in {V : Int} (h : 0 ≤ V ∧ V ≤ 255) : IntKind.u8.wrap V = V := IntWalk.u8_in _ (by omega)
theorem bytesV_at {s : List UInt8} {i : Nat} (h : i < s.length) : (bytesV s)[i]? = some (.int .u8 (((s.getD i 0).toNat : Nat) : Int)) := by
  simp [bytesV, List.getElem?_map, List.getElem?_eq_getElem h, List.getD_eq_getElem?_getD]
theorem getD_mem {s : List UInt8} {i : Nat} (h : i < s.length) : s.getD i 0 ∈ s := by
  rw [List.getD_eq_getElem?_getD, List.getElem?_eq_getElem h]; exact List.getElem_mem h
theorem take_getD {s : List UInt8} {i : Nat} (h : i < s.length) : s.take (i + 1) = s.take i ++ [s.getD i 0] := by
  rw [List.getD_eq_getElem?_getD, List.getElem?_eq_getElem h, List.take_succ_eq_append_getElem h]; rfl
theorem iAtoi_any (s : List UInt8) (h0 : s ≠ []) (h6 : s.length ≤ 18) (hd : ∀ c ∈ s, 48 ≤ c.toNat ∧ c.toNat ≤ 57) (w : World) :
    Calls Tryz.prog 238 #[str s] w fun e w' => e = .returned (.tuple #[.int .i64 (valD s : Nat), .nilIface]) ∧ Below w.heap.size w w' := by
  have hl : 0 < s.length := List.length_pos_iff.2 h0
  have hd0 := hd _ (getD_mem (i := 0) hl)
  refine enter_args (args := [str s]) (F := _) Tryz.func238 rfl Tryz.ntmps238 rfl rfl ?_
  intro Rb hRb hRn
  refine T_seq ?_
  refine T_region ?_
  refine S_ 2 rfl rfl rfl _ (y_assign rfl rfl) ?_
  refine S_ 3 rfl rfl rfl _ (y_assign rfl rfl) ?_
  refine S_go (fun _ _ h => h) ?_
  refine T_seq ?_
  refine T_region ?_
  refine S_ 11 rfl rfl rfl _ (y_move rfl rfl) ?_
  refine S_ 12 rfl rfl rfl _ (y_len_str rfl rfl Tryz.underlying9) ?_
  refine S_ 4 rfl rfl rfl _ (y_assign rfl rfl) ?_
  refine S_go (fun _ _ h => h) ?_
  refine T_seq ?_
  refine T_seq ?_
  refine T_region ?_
  refine S_ 13 rfl rfl rfl _ (y_move rfl rfl) ?_
  refine Sg_ 14 rfl rfl rfl rfl rfl rfl _ (y_move rfl rfl) ?_
  refine Sg_ 15 rfl rfl rfl rfl rfl rfl _ (y_bin rfl rfl rfl (fun _ => b_lss)) ?_
  refine Sg_ 16 rfl rfl rfl rfl rfl rfl _ (y_move rfl rfl) ?_
  refine Sg_ 17 rfl rfl rfl rfl rfl rfl _ (y_move rfl rfl) ?_
  refine Sg_ 18 rfl rfl rfl rfl rfl rfl _ (y_bin rfl rfl rfl (fun _ => b_lss)) ?_
  refine Sg_ 19 rfl rfl rfl rfl rfl rfl _ (y_and rfl rfl rfl) ?_
  refine S_ 20 rfl rfl rfl _ (y_and rfl rfl rfl) ?_
  refine S_ 21 rfl rfl rfl _ (y_move rfl rfl) ?_
  refine Sg_ 22 rfl rfl rfl rfl rfl rfl _ (y_move rfl rfl) ?_
  refine Sg_ 23 rfl rfl rfl rfl rfl rfl _ (y_move rfl rfl) ?_
  refine Sg_ 24 rfl rfl rfl rfl rfl rfl _ (y_bin rfl rfl rfl (fun _ => b_lss)) ?_
  refine Sg_ 25 rfl rfl rfl rfl rfl rfl _ (y_move rfl rfl) ?_
  refine Sg_ 26 rfl rfl rfl rfl rfl rfl _ (y_move rfl rfl) ?_
  refine Sg_ 27 rfl rfl rfl rfl rfl rfl _ (y_bin rfl rfl rfl (fun _ => b_lss)) ?_
  refine Sg_ 28 rfl rfl rfl rfl rfl rfl _ (y_and rfl rfl rfl) ?_
  refine Sg_ 29 rfl rfl rfl rfl rfl rfl _ (y_and rfl rfl rfl) ?_
  refine S_ 30 rfl rfl rfl _ (y_or rfl rfl rfl) ?_
  refine S_go (fun _ _ h => h) ?_
  refine T_cond rfl (fun h30 => ?_) (fun h30 => ?_)
  · skip
    refine T_seq ?_
    refine T_region ?_
    refine S_ 31 rfl rfl rfl _ (y_move rfl rfl) ?_
    refine S_ 5 rfl rfl rfl _ (y_assign rfl rfl) ?_
    refine S_go (fun _ _ h => h) ?_
    refine T_seq ?_
    refine T_seq ?_
    refine T_region ?_
    refine S_ 32 rfl rfl rfl _ (y_move rfl rfl) ?_
    refine S_ 33 rfl rfl rfl _ (y_index_str (j := 0) rfl rfl rfl Tryz.underlying9 (fun _ => hl)) ?_
    refine S_ 34 rfl rfl rfl _ (y_bin rfl rfl rfl (fun _ => b_eql)) ?_
    refine S_ 35 rfl rfl rfl _ (y_move rfl rfl) ?_
    refine Sg_ 36 rfl rfl rfl rfl rfl rfl _ (y_move rfl rfl) ?_
    refine Sg_ 37 rfl rfl rfl rfl rfl rfl _ (y_index_str (j := 0) rfl rfl rfl Tryz.underlying9 (fun _ => hl)) ?_
    refine Sg_ 38 rfl rfl rfl rfl rfl rfl _ (y_bin rfl rfl rfl (fun _ => b_eql)) ?_
    refine S_ 39 rfl rfl rfl _ (y_or rfl rfl rfl) ?_
    refine S_go (fun _ _ h => h) ?_
    refine T_cond rfl (fun h39 => ?_) (fun h39 => ?_)
    · skip
      simp only [Bool.or_eq_true, decide_eq_true_eq] at h39
      omega
    · skip
      refine T_skip_go (fun _ _ h => h) ?_
      refine T_seq ?_
      refine T_region ?_
      refine S_ 6 rfl rfl rfl _ (y_assign rfl rfl) ?_
      refine S_go (fun _ _ h => h) ?_
      refine T_seq ?_
      refine T_seq ?_
      refine T_region ?_
      refine S_ 46 rfl rfl rfl _ (y_move rfl rfl) ?_
      refine S_strBytes 47 47 rfl rfl rfl rfl rfl Tryz.underlying9 Tryz.underlying188 Tryz.underlying5 ?_
      intro b47 c47
      refine S_ 48 rfl rfl rfl _ (y_len_slice rfl rfl Tryz.underlying188) ?_
      refine S_ 49 rfl rfl rfl _ (y_move rfl rfl) ?_
      refine S_go (fun _ _ h => h) ?_
      refine T_block ?_
      refine T_loopK2 (kf := [(2, 3), (6, 6), (8, 8), (49, 63)]) (kl := [(2, 3), (6, 6), (8, 8), (49, 63)]) (fun (i m : Nat) => [(49, true, .int .i64 (i : Int)), (6, true, .int .i64 (m : Int))]) (fun (i m : Nat) => []) (fun (i m : Nat) => i ≤ s.length ∧ m < 10 ^ i ∧ valD (s.take i) = m) (fun (i m : Nat) => s.length - i) 0 0 (by repeat (first | exact kf_nil | (apply kf_in; focus rfl) | (apply kf_out; focus rfl))) (by repeat (first | exact kl_nil | exact kl_rest (by assumption) rfl | (apply kl_in; focus rfl) | (apply kl_out; focus rfl))) ?_ ?_ ?_ ?_
      · exact ⟨by omega, by decide, rfl⟩
      · exact ⟨rfl, rfl, trivial⟩
      · exact trivial
      rintro i m ⟨hp1, hp2, hp3⟩
      refine T_seq ?_
      refine T_region ?_
      refine S_ 50 rfl rfl rfl _ (y_bin rfl rfl rfl (fun _ => b_lss)) ?_
      refine S_go (fun _ _ h => h) ?_
      refine T_seq ?_
      refine T_cond rfl (fun h50 => ?_) (fun h50 => ?_)
      · try simp only [decide_eq_true_eq, decide_eq_false_iff_not, Bool.or_eq_true, Bool.or_eq_false_iff, Bool.and_eq_true, Bool.and_eq_false_iff, Bool.not_eq_true', Bool.not_eq_false', Bool.not_eq_true, Bool.not_eq_false, Bool.not_true, Bool.not_false, Int.not_lt, Int.not_le, not_or, not_and, Classical.not_not] at h50
        have hdi := hd _ (getD_mem (i := i) (by omega))
        have hp10 : 10 ^ i ≤ 100000000000000000 := Nat.le_trans (Nat.pow_le_pow_right (by decide) (by omega : i ≤ 17)) (by decide)
        refine T_skip_go (fun _ _ h => h) ?_
        refine T_seq ?_
        refine T_block ?_
        refine T_seq ?_
        refine T_region ?_
        refine S_ 51 rfl rfl rfl _ (y_indexAddr rfl rfl rfl Tryz.underlying188 sz5 (fun _ => rfl) (fun _ => by omega)) ?_
        refine S_ 52 rfl rfl rfl _ (y_loadRd 47 rfl rfl rfl (fun _ => bytesV_at (by omega)) Tryz.underlying5 rfl) ?_
        refine S_ 8 rfl rfl rfl _ (y_assign rfl rfl) ?_
        refine S_go (fun _ _ h => h) ?_
        refine T_seq ?_
        refine T_region ?_
        refine S_ 53 rfl rfl rfl _ (y_move rfl rfl) ?_
        refine S_ 54 rfl rfl rfl _ (y_as (v' := .int .u8 (((s.getD i 0).toNat - 48 : Nat) : Int)) (by congr 1; rw [wrap8_in (by omega)]; omega) (y_bin rfl rfl rfl (fun hg => b_subw))) ?_
        refine S_ 8 rfl rfl rfl _ (y_assign rfl rfl) ?_
        refine S_go (fun _ _ h => h) ?_
        refine T_seq ?_
        refine T_seq ?_
        refine T_region ?_
        refine S_ 55 rfl rfl rfl _ (y_move rfl rfl) ?_
        refine S_ 56 rfl rfl rfl _ (y_bin rfl rfl rfl (fun _ => b_gtr)) ?_
        refine S_go (fun _ _ h => h) ?_
        refine T_cond rfl (fun h56 => ?_) (fun h56 => ?_)
        · try simp only [decide_eq_true_eq, decide_eq_false_iff_not, Bool.or_eq_true, Bool.or_eq_false_iff, Bool.and_eq_true, Bool.and_eq_false_iff, Bool.not_eq_true', Bool.not_eq_false', Bool.not_eq_true, Bool.not_eq_false, Bool.not_true, Bool.not_false, Int.not_lt, Int.not_le, not_or, not_and, Classical.not_not] at h56
          omega
        · try simp only [decide_eq_true_eq, decide_eq_false_iff_not, Bool.or_eq_true, Bool.or_eq_false_iff, Bool.and_eq_true, Bool.and_eq_false_iff, Bool.not_eq_true', Bool.not_eq_false', Bool.not_eq_true, Bool.not_eq_false, Bool.not_true, Bool.not_false, Int.not_lt, Int.not_le, not_or, not_and, Classical.not_not] at h56
          refine T_skip_go (fun _ _ h => h) ?_
          refine T_region ?_
          refine S_ 58 rfl rfl rfl _ (y_move rfl rfl) ?_
          refine S_ 59 rfl rfl rfl _ (y_bin rfl rfl rfl (fun hg => b_mulv (((m * 10 : Nat) : Int)) (by omega) (by omega))) ?_
          refine S_ 60 rfl rfl rfl _ (y_move rfl rfl) ?_
          refine S_ 61 rfl rfl rfl _ (y_conv64 rfl rfl Tryz.underlying5 Tryz.underlying3 (fun _ => by omega)) ?_
          refine S_ 62 rfl rfl rfl _ (y_bin rfl rfl rfl (fun hg => b_addv (((m * 10 + ((s.getD i 0).toNat - 48) : Nat) : Int)) (by omega) (by omega))) ?_
          refine S_ 6 rfl rfl rfl _ (y_assign rfl rfl) ?_
          refine S_go (fun _ _ h => h) ?_
          refine T_region ?_
          refine S_ 63 rfl rfl rfl _ (y_bin rfl rfl rfl (fun hg => b_add (by omega))) ?_
          refine S_ 49 rfl rfl rfl _ (y_move rfl rfl) ?_
          refine S_nil (nextK2 (kf := [(2, 3), (6, 6), (8, 8), (49, 63)]) (kl := [(2, 3), (6, 6), (8, 8), (49, 63)]) (i + 1) (m * 10 + ((s.getD i 0).toNat - 48)) (by repeat (first | exact kf_nil | (apply kf_in; focus rfl) | (apply kf_out; focus rfl))) (by repeat (first | exact kl_nil | exact kl_rest (by assumption) rfl | (apply kl_in; focus rfl) | (apply kl_out; focus rfl))) ?_ ?_ ?_ ?_)
          · omega
          · exact ⟨by omega, by rw [Nat.pow_succ]; omega, by rw [take_getD (by omega), valD_snoc, hp3]⟩
          · exact ⟨rfl, rfl, trivial⟩
          · exact trivial
      · try simp only [decide_eq_true_eq, decide_eq_false_iff_not, Bool.or_eq_true, Bool.or_eq_false_iff, Bool.and_eq_true, Bool.and_eq_false_iff, Bool.not_eq_true', Bool.not_eq_false', Bool.not_eq_true, Bool.not_eq_false, Bool.not_true, Bool.not_false, Int.not_lt, Int.not_le, not_or, not_and, Classical.not_not] at h50
        refine T_exit_go (fun _ _ h => h) ?_
        refine T_seq ?_
        refine T_seq ?_
        refine T_region ?_
        refine S_ 64 rfl rfl rfl _ (y_move rfl rfl) ?_
        refine S_ 65 rfl rfl rfl _ (y_index_str (j := 0) rfl rfl rfl Tryz.underlying9 (fun _ => hl)) ?_
        refine S_ 66 rfl rfl rfl _ (y_bin rfl rfl rfl (fun _ => b_eql)) ?_
        refine S_go (fun _ _ h => h) ?_
        refine T_cond rfl (fun h66 => ?_) (fun h66 => ?_)
        · skip
          simp only [decide_eq_true_eq] at h66
          omega
        · skip
          refine T_skip_go (fun _ _ h => h) ?_
          refine T_seq ?_
          refine T_region ?_
          refine S_ 69 rfl rfl rfl _ (y_move rfl rfl) ?_
          refine S_ 2 rfl rfl rfl _ (y_assign rfl rfl) ?_
          refine S_ 3 rfl rfl rfl _ (y_assign rfl rfl) ?_
          refine S_go (fun _ _ h => h) ?_
          refine T_ret (fun a w hF hM => hRb a w (post2 rfl rfl rfl (fun w hM => ?_) a w hF hM))
          have hv : valD s = m := by rw [← hp3, List.take_of_length_le (by omega)]
          exact ⟨by rw [hv], hM.below⟩
  · skip
    simp at h30
    omega
theorem Atoi_any (s : List UInt8) (h0 : s ≠ []) (h6 : s.length ≤ 18) (hd : ∀ c ∈ s, 48 ≤ c.toNat ∧ c.toNat ≤ 57) (w : World) :
    Calls Tryz.prog 199 #[str s] w fun e w' => e = .returned (.tuple #[.int .i64 (valD s : Nat), .nilIface]) ∧ Below w.heap.size w w' := by
  refine enter_args (args := [str s]) (F := _) Tryz.func199 rfl Tryz.ntmps199 rfl rfl ?_
  intro Rb hRb hRn
  refine T_seq ?_
  refine T_region ?_
  refine S_ 2 rfl rfl rfl _ (y_assign rfl rfl) ?_
  refine S_ 3 rfl rfl rfl _ (y_assign rfl rfl) ?_
  refine S_go (fun _ _ h => h) ?_
  refine T_seq ?_
  refine T_region ?_
  refine S_ 7 rfl rfl rfl _ (y_move rfl rfl) ?_
  refine S_ 8 rfl rfl rfl _ (y_call rfl rfl rfl cf238 (fun _ w _ => iAtoi_any s h0 h6 hd w)) ?_
  refine S_ 6 rfl rfl rfl _ (y_move rfl rfl) ?_
  refine S_ 9 rfl rfl rfl _ (y_extract rfl rfl rfl) ?_
  refine S_ 10 rfl rfl rfl _ (y_extract rfl rfl rfl) ?_
  refine S_ 4 rfl rfl rfl _ (y_assign rfl rfl) ?_
  refine S_ 5 rfl rfl rfl _ (y_assign rfl rfl) ?_
  refine S_go (fun _ _ h => h) ?_
  refine T_seq ?_
  refine T_seq ?_
  refine T_region ?_
  refine S_ 11 rfl rfl rfl _ (y_move rfl rfl) ?_
  refine S_ 12 rfl rfl rfl _ (y_bin rfl rfl rfl (fun _ => b_neqII Tryz.underlying202)) ?_
  refine S_go (fun _ _ h => h) ?_
  refine T_cond rfl (fun h12 => ?_) (fun h12 => ?_)
  · skip
    cases h12
  · skip
    refine T_skip_go (fun _ _ h => h) ?_
    refine T_seq ?_
    refine T_region ?_
    refine S_ 17 rfl rfl rfl _ (y_move rfl rfl) ?_
    refine S_ 2 rfl rfl rfl _ (y_assign rfl rfl) ?_
    refine S_ 3 rfl rfl rfl _ (y_assign rfl rfl) ?_
    refine S_go (fun _ _ h => h) ?_
    refine T_ret (fun a w hF hM => hRb a w (post2 rfl rfl rfl (fun w hM => ?_) a w hF hM))
    exact ⟨rfl, hM.below⟩
def numOk (s : List UInt8) : Bool := allOf s digB && !decide ((6 : Int) < s.length) && !(decide ((1 : Int) < s.length) && decide (((s.getD 0 0).toNat : Int) = 48))
theorem number_any (s : List UInt8) (hs : s.length ≤ 1000000000) (w : World) :
    Calls Tryz.prog 190 #[str s] w fun e w' => e = .returned (.tuple #[.int .i64 (if numOk s = true then ((valD s : Nat) : Int) else 0), .bool (numOk s)]) ∧ Below w.heap.size w w' := by
  refine enter_args (args := [str s]) (F := _) Tryz.func190 rfl Tryz.ntmps190 rfl rfl ?_
  intro Rb hRb hRn
  refine T_seq ?_
  refine T_region ?_
  refine S_ 2 rfl rfl rfl _ (y_assign rfl rfl) ?_
  refine S_ 3 rfl rfl rfl _ (y_assign rfl rfl) ?_
  refine S_go (fun _ _ h => h) ?_
  refine T_seq ?_
  refine T_seq ?_
  refine T_region ?_
  refine S_ 6 rfl rfl rfl _ (y_move rfl rfl) ?_
  refine S_ 7 rfl rfl rfl _ (y_call rfl rfl rfl cf189 (fun _ w _ => allOfD_any s hs w)) ?_
  refine S_ 8 rfl rfl rfl _ (y_not rfl rfl) ?_
  refine S_ 9 rfl rfl rfl _ (y_move rfl rfl) ?_
  refine Sg_ 10 rfl rfl rfl rfl rfl rfl _ (y_move rfl rfl) ?_
  refine Sg_ 11 rfl rfl rfl rfl rfl rfl _ (y_len_str rfl rfl Tryz.underlying9) ?_
  refine Sg_ 12 rfl rfl rfl rfl rfl rfl _ (y_bin rfl rfl rfl (fun _ => b_gtr)) ?_
  refine S_ 13 rfl rfl rfl _ (y_or rfl rfl rfl) ?_
  refine S_ 14 rfl rfl rfl _ (y_move rfl rfl) ?_
  refine Sg_ 15 rfl rfl rfl rfl rfl rfl _ (y_move rfl rfl) ?_
  refine Sg_ 16 rfl rfl rfl rfl rfl rfl _ (y_len_str rfl rfl Tryz.underlying9) ?_
  refine Sg_ 17 rfl rfl rfl rfl rfl rfl _ (y_bin rfl rfl rfl (fun _ => b_gtr)) ?_
  refine Sg_ 18 rfl rfl rfl rfl rfl rfl _ (y_move rfl rfl) ?_
  refine Sg_ 19 rfl rfl rfl rfl rfl rfl _ (y_move rfl rfl) ?_
  refine Sg_ 20 rfl rfl rfl rfl rfl rfl _ (y_index_str (j := 0) rfl rfl rfl Tryz.underlying9 (fun hg => by simp at hg; omega)) ?_
  refine Sg_ 21 rfl rfl rfl rfl rfl rfl _ (y_bin rfl rfl rfl (fun _ => b_eql)) ?_
  refine Sg_ 22 rfl rfl rfl rfl rfl rfl _ (y_and rfl rfl rfl) ?_
  refine S_ 23 rfl rfl rfl _ (y_as (v' := .bool (!numOk s)) (by simp [numOk, Bool.not_and, Bool.not_not]) (y_or rfl rfl rfl)) ?_
  refine S_go (fun _ _ h => h) ?_
  refine T_cond rfl (fun h23 => ?_) (fun h23 => ?_)
  · skip
    have hn : numOk s = false := by simpa using h23
    refine T_seq ?_
    refine T_region ?_
    refine S_ 2 rfl rfl rfl _ (y_assign rfl rfl) ?_
    refine S_ 3 rfl rfl rfl _ (y_assign rfl rfl) ?_
    refine S_go (fun _ _ h => h) ?_
    refine T_ret (fun a w hF hM => hRb a w (post2 rfl rfl rfl (fun w hM => ?_) a w hF hM))
    exact ⟨by rw [hn]; rfl, hM.below⟩
  · skip
    have hn : numOk s = true := by simpa using h23
    have hd := allOf_dig (s := s) (by simp only [numOk, Bool.and_eq_true] at hn; exact hn.1.1)
    have hl6 : s.length ≤ 6 := by
      simp only [numOk, Bool.and_eq_true, Bool.not_eq_true', decide_eq_false_iff_not] at hn
      omega
    refine T_skip_go (fun _ _ h => h) ?_
    refine T_seq ?_
    refine T_region ?_
    refine S_ 25 rfl rfl rfl _ (y_move rfl rfl) ?_
    refine S_ 26 rfl rfl rfl _ (y_call rfl rfl rfl cf199 (fun _ w _ => Atoi_any s hd.1 (by omega) hd.2 w)) ?_
    refine S_ 24 rfl rfl rfl _ (y_move rfl rfl) ?_
    refine S_ 27 rfl rfl rfl _ (y_extract rfl rfl rfl) ?_
    refine S_ 28 rfl rfl rfl _ (y_extract rfl rfl rfl) ?_
    refine S_ 4 rfl rfl rfl _ (y_assign rfl rfl) ?_
    refine S_ 5 rfl rfl rfl _ (y_assign rfl rfl) ?_
    refine S_go (fun _ _ h => h) ?_
    refine T_seq ?_
    refine T_draws (by kernel_rfl) (by kernel_rfl) ?_
    refine D_ 29 rfl rfl rfl _ (y_move rfl rfl) ?_
    refine D_ 30 rfl rfl rfl _ (y_move rfl rfl) ?_
    refine D_ 31 rfl rfl rfl _ (y_bin rfl rfl rfl (fun _ => b_eqlII Tryz.underlying202)) ?_
    refine D_ 2 rfl rfl rfl _ (y_assign rfl rfl) ?_
    refine D_ 3 rfl rfl rfl _ (y_assign rfl rfl) ?_
    refine D_go (fun _ _ h => h) ?_
    refine T_ret (fun a w hF hM => hRb a w (post2 rfl rfl rfl (fun w hM => ?_) a w hF hM))
    exact ⟨by rw [hn]; rfl, hM.below⟩
/-- the last place of a byte ahead of place t -/
def lastB (s : List UInt8) (c : UInt8) : Nat → Int
  | 0 => -1
  | t + 1 => if s.getD t 0 = c then t else lastB s c t
theorem LastByte_any (s : List UInt8) (c : UInt8) (hs : s.length ≤ 4611686018427387904) (w : World) :
    Calls Tryz.prog 202 #[str s, .int .u8 (c.toNat : Int)] w fun e w' => e = .returned (.int .i64 (lastB s c s.length)) ∧ Below w.heap.size w w' := by
  refine enter_args (args := [str s, .int .u8 (c.toNat : Int)]) (F := _) Tryz.func202 rfl Tryz.ntmps202 rfl rfl ?_
  intro Rb hRb hRn
  refine T_seq ?_
  refine T_region ?_
  refine S_ 4 rfl rfl rfl _ (y_assign rfl rfl) ?_
  refine S_go (fun _ _ h => h) ?_
  refine T_seq ?_
  refine T_seq ?_
  refine T_region ?_
  refine S_ 6 rfl rfl rfl _ (y_move rfl rfl) ?_
  refine S_ 7 rfl rfl rfl _ (y_len_str rfl rfl Tryz.underlying9) ?_
  refine S_ 8 rfl rfl rfl _ (y_bin rfl rfl rfl (fun hg => b_sub (by omega))) ?_
  refine S_ 5 rfl rfl rfl _ (y_assign rfl rfl) ?_
  refine S_go (fun _ _ h => h) ?_
  refine T_block ?_
  refine T_loopK1 (kf := [(4, 5), (9, 18)]) (kl := [(4, 5), (9, 18)]) (fun (t : Nat) => [(5, true, .int .i64 (((t : Nat) : Int) - 1))]) (fun (t : Nat) => []) (fun (t : Nat) => t ≤ s.length ∧ lastB s c s.length = lastB s c t) (fun (t : Nat) => t) s.length (by repeat (first | exact kf_nil | (apply kf_in; focus rfl) | (apply kf_out; focus rfl))) (by repeat (first | exact kl_nil | exact kl_rest (by assumption) rfl | (apply kl_in; focus rfl) | (apply kl_out; focus rfl))) ?_ ?_ ?_ ?_
  · exact ⟨by omega, rfl⟩
  · exact ⟨rfl, trivial⟩
  · exact trivial
  rintro t ⟨hp1, hp2⟩
  refine T_seq ?_
  refine T_seq ?_
  refine T_region ?_
  refine S_ 9 rfl rfl rfl _ (y_move rfl rfl) ?_
  refine S_ 10 rfl rfl rfl _ (y_bin rfl rfl rfl (fun _ => b_geq)) ?_
  refine S_go (fun _ _ h => h) ?_
  refine T_cond rfl (fun h10 => ?_) (fun h10 => ?_)
  · try simp only [decide_eq_true_eq, decide_eq_false_iff_not, Bool.or_eq_true, Bool.or_eq_false_iff, Bool.and_eq_true, Bool.and_eq_false_iff, Bool.not_eq_true', Bool.not_eq_false', Bool.not_eq_true, Bool.not_eq_false, Bool.not_true, Bool.not_false, Int.not_lt, Int.not_le, not_or, not_and, Classical.not_not] at h10
    obtain ⟨k, rfl⟩ : ∃ k, t = k + 1 := ⟨t - 1, by omega⟩
    rw [lastB] at hp2
    rw [show Value.int IntKind.i64 (((k + 1 : Nat) : Int) - 1) = .int .i64 ((k : Nat) : Int) from by congr 1; omega]
    refine T_skip_go (fun _ _ h => h) ?_
    refine T_seq ?_
    refine T_block ?_
    refine T_seq ?_
    refine T_region ?_
    refine S_ 13 rfl rfl rfl _ (y_move rfl rfl) ?_
    refine S_ 14 rfl rfl rfl _ (y_move rfl rfl) ?_
    refine S_ 15 rfl rfl rfl _ (y_index_str rfl rfl rfl Tryz.underlying9 (fun _ => by omega)) ?_
    refine S_ 16 rfl rfl rfl _ (y_move rfl rfl) ?_
    refine S_ 17 rfl rfl rfl _ (y_bin rfl rfl rfl (fun _ => b_eql)) ?_
    refine S_go (fun _ _ h => h) ?_
    refine T_cond rfl (fun h17 => ?_) (fun h17 => ?_)
    · skip
      have h17 : s.getD k 0 = c := UInt8.toNat_inj.1 (by simp only [decide_eq_true_eq] at h17; omega)
      rw [if_pos h17] at hp2
      refine T_seq ?_
      refine T_region ?_
      refine S_ 18 rfl rfl rfl _ (y_move rfl rfl) ?_
      refine S_ 4 rfl rfl rfl _ (y_assign rfl rfl) ?_
      refine S_go (fun _ _ h => h) ?_
      refine T_ret (fun a w hF hM => hRb a w (post1 rfl rfl (fun w hM => ?_) a w hF hM))
      exact ⟨by rw [hp2], hM.below⟩
    · skip
      have h17 : ¬ s.getD k 0 = c := fun e => by rw [e] at h17; simp at h17
      rw [if_neg h17] at hp2
      refine T_skip_go (fun _ _ h => h) ?_
      refine T_region ?_
      refine S_ 11 rfl rfl rfl _ (y_move rfl rfl) ?_
      refine S_ 12 rfl rfl rfl _ (y_bin rfl rfl rfl (fun hg => b_sub (by omega))) ?_
      refine S_ 5 rfl rfl rfl _ (y_assign rfl rfl) ?_
      refine S_nil (nextK1 (kf := [(4, 5), (9, 18)]) (kl := [(4, 5), (9, 18)]) k (by repeat (first | exact kf_nil | (apply kf_in; focus rfl) | (apply kf_out; focus rfl))) (by repeat (first | exact kl_nil | exact kl_rest (by assumption) rfl | (apply kl_in; focus rfl) | (apply kl_out; focus rfl))) ?_ ?_ ?_ ?_)
      · omega
      · exact ⟨by omega, hp2⟩
      · exact ⟨rfl, trivial⟩
      · exact trivial
  · try simp only [decide_eq_true_eq, decide_eq_false_iff_not, Bool.or_eq_true, Bool.or_eq_false_iff, Bool.and_eq_true, Bool.and_eq_false_iff, Bool.not_eq_true', Bool.not_eq_false', Bool.not_eq_true, Bool.not_eq_false, Bool.not_true, Bool.not_false, Int.not_lt, Int.not_le, not_or, not_and, Classical.not_not] at h10
    have ht0 : t = 0 := by omega
    subst ht0
    refine T_exit_go (fun _ _ h => h) ?_
    refine T_seq ?_
    refine T_region ?_
    refine S_ 4 rfl rfl rfl _ (y_assign rfl rfl) ?_
    refine S_go (fun _ _ h => h) ?_
    refine T_ret (fun a w hF hM => hRb a w (post1 rfl rfl (fun w hM => ?_) a w hF hM))
    exact ⟨by rw [hp2]; rfl, hM.below⟩
theorem SLast_any (s : List UInt8) (c : UInt8) (hs : s.length ≤ 4611686018427387904) (w : World) :
    Calls Tryz.prog 103 #[str s, .int .u8 (c.toNat : Int)] w fun e w' => e = .returned (.int .i64 (lastB s c s.length)) ∧ Below w.heap.size w w' := by
  refine enter_args (args := [str s, .int .u8 (c.toNat : Int)]) (F := _) Tryz.func103 rfl Tryz.ntmps103 rfl rfl ?_
  intro Rb hRb hRn
  refine T_seq ?_
  refine T_region ?_
  refine S_ 4 rfl rfl rfl _ (y_assign rfl rfl) ?_
  refine S_go (fun _ _ h => h) ?_
  refine T_seq ?_
  refine T_region ?_
  refine S_ 5 rfl rfl rfl _ (y_move rfl rfl) ?_
  refine S_ 6 rfl rfl rfl _ (y_move rfl rfl) ?_
  refine S_ 7 rfl rfl rfl _ (y_call rfl rfl rfl cf202 (fun _ w _ => LastByte_any s c hs w)) ?_
  refine S_ 4 rfl rfl rfl _ (y_assign rfl rfl) ?_
  refine S_go (fun _ _ h => h) ?_
  refine T_ret (fun a w hF hM => hRb a w (post1 rfl rfl (fun w hM => ?_) a w hF hM))
  exact ⟨rfl, hM.below⟩
def projOk (s : List UInt8) : Bool := nameOk s && !decide (0 ≤ Lib.indexByte s 46)
theorem IsProject_any (s : List UInt8) (w : World) : Calls Tryz.prog 86 #[str s] w fun e w' => e = .returned (.bool (projOk s)) ∧ Below w.heap.size w w' := by
  refine enter_args (args := [str s]) (F := _) Tryz.func86 rfl Tryz.ntmps86 rfl rfl ?_
  intro Rb hRb hRn
  refine T_seq ?_
  refine T_region ?_
  refine S_ 2 rfl rfl rfl _ (y_assign rfl rfl) ?_
  refine S_go (fun _ _ h => h) ?_
  refine T_seq ?_
  refine T_region ?_
  refine S_ 3 rfl rfl rfl _ (y_move rfl rfl) ?_
  refine S_ 4 rfl rfl rfl _ (y_call rfl rfl rfl cf134 (fun _ w _ => IsName_any s w)) ?_
  refine S_ 5 rfl rfl rfl _ (y_move rfl rfl) ?_
  refine Sg_ 6 rfl rfl rfl rfl rfl rfl _ (y_move rfl rfl) ?_
  refine Sg_ 7 rfl rfl rfl rfl rfl rfl _ (y_call rfl rfl rfl cf79 (fun _ w _ => Contains1_any s 46 w)) ?_
  refine Sg_ 8 rfl rfl rfl rfl rfl rfl _ (y_not rfl rfl) ?_
  refine S_ 9 rfl rfl rfl _ (y_and rfl rfl rfl) ?_
  refine S_ 2 rfl rfl rfl _ (y_assign rfl rfl) ?_
  refine S_go (fun _ _ h => h) ?_
  refine T_ret (fun a w hF hM => hRb a w (post1 rfl rfl (fun w hM => ?_) a w hF hM))
  exact ⟨rfl, hM.below⟩
end Go.Proofs.YtpmlgnbbkpplhaaGreatDoor
